/-
  Walks: the checks of the printer. No condition.
-/
import Derived.Test.YtckhoadldibflaaGreatDoorK01
import Derived.Test.YtckhoadldibflaaGreatDoorK02
import Derived.Test.YtckhoadldibflaaGreatDoorK07
import Derived.Test.YtckhoadldibflaaGreatDoorF12
import Derived.KernelRfl
namespace Go.Proofs.YtckhoadldibflaaGreatDoor
open Go Go.Aw
set_option maxHeartbeats 3200000
set_option maxRecDepth 20000
set_option linter.unusedVariables false
set_option linter.unusedSimpArgs false

theorem Bu {α:Type}{c:Bool}{a b:α}(h:c=false):(if c=true then a else b)=b:=iN h
theorem aX {α:Type}{l:List α}{k:Nat}(h:k<l.length):∃x,l[k]? = some x:=⟨_,List.getElem?_eq_getElem h⟩
theorem Jr {α:Type}{l:List α}{k:Nat}{x:α}(h:l[k]? = some x):k<l.length:=(List.getElem?_eq_some_iff.1 h).1
theorem Xy {t:Syn}{k:Nat}(h:k<t.kids.length):t.kids[k]? = some (Bn t k):=by simp [Bn,List.getD_eq_getElem?_getD,List.getElem?_eq_getElem h]
theorem Ow {t:Syn}{i:Nat}{x:Bool}(hi:i<t.kids.length)(hG:Jo [(x,true),((((i:Int)==0)),false)]):0≤(i:Int)-1∧(t.kids.map Cl)[((i:Int)-1).toNat]? = some (cSyn (Bn t (i-1))):=by
 have h0:((i:Int)==0)=false:=hG (((i:Int)==0),false) (by simp)
 have h1:i≠0:=by intro e;subst e;cases h0
 have hw:(i:Int)-1=((i-1:Nat):Int):=by omega
 rw [hw,Int.toNat_natCast]
 exact ⟨by omega,B6 (Xy (by omega))⟩
def Yk:Pl→AV
 | .only k=>.fn (.func 153) [] [.ptr [.int .i64 k]]
 | .pats=>.fn (.func 206) [] []
 | .exps=>.fn (.func 266) [] []

theorem nB (k:Int):Ap Tryz.prog 206 [.int .i64 k] (.bool (isPat k)):=by
 refine Ap.body (n:=9) tok Tryz.func206 rfl rfl rfl fun H=>?_
 refine Ad (Qp A3 (By (Qp A4 (Qp F6 (Qp Bq (Qg [] Qw A4 (Qg [(6,_)] Qw Nj (Qp Et (Qp A3 ?_)))))))))
 refine Aa (AW.ret ?_)
 refine Qr (.bool _) ?_
 rfl
theorem w_exps (k:Int):Ap Tryz.prog 266 [.int .i64 k] (.bool (isExp k)):=by
 refine Ap.body (n:=9) tok Tryz.func266 rfl rfl rfl fun H=>?_
 refine Ad (Qp A3 (By (Qp A4 (Qp F6 (Qp Bq (Qg [] Qw A4 (Qg [(6,_)] Qw Nj (Qp Et (Qp A3 ?_)))))))))
 refine Aa (AW.ret ?_)
 refine Qr (.bool _) ?_
 rfl
theorem Mr (k:Int):Ap Tryz.prog 88 [.int .i64 k] (Yk (.only k)):=by
 refine Ap.body (n:=4) tok Tryz.func88 rfl rfl rfl fun H=>?_
 refine Ad ?_
 refine Qp (Pn (v:=Iq _) (cs:=[Iq _]) rfl rfl rfl) ?_
 refine Qp N8 (By ?_)
 refine Qp (Bv (l:=[]) (l':=[.ptr _]) rfl rfl) ?_
 refine Qp (A6 (v:=.fn _ _ _) rfl) ?_
 refine Aa (AW.ret ?_)
 refine Qr (.fn _ _ _) ?_
 rfl
theorem qT (k x:Int):Ap Tryz.prog 153 [.int .i64 x,.ptr [.int .i64 k]] (.bool (x==k)):=by
 refine Ap.body (n:=7) tok Tryz.func153 rfl rfl rfl fun H=>?_
 refine Ad (Qp A3 (By (Qp A4 (Qp Bt (Qp Av (Qp A3 (Aa (AW.ret ?_))))))))
 refine Qr (.bool _) ?_
 rfl
theorem Y7 (p k:Int):Ap Tryz.prog 205 [.int .i64 p,.int .i64 k] (.bool (El p k)):=by
 refine Ap.body (n:=18) tok Tryz.func205 rfl rfl rfl fun H=>?_
 refine Ad (Qp A3 (Aa (AW.seq (Ad (Qp A4 (Aa (AW.block (Ad (Qp Av ?_)))))))))
 refine Qp A3 (Aa (Au (fun hc1=>?_) fun hc1=>?_))
 ·
  refine Ad (Qp A4 (Qp Av (Qp Bq (Qg [] Qw A4 (Qg [(11,_)] Qw Av (Qp Cy (Qp A3 (Aa (AW.ret ?_)))))))))
  refine Ao (Ai ?_)
  refine Qr (.bool _) ?_
  simp only [Ae,El,hc1,↓reduceIte,Bool.false_eq_true]
 ·
  refine Ad (Qp Av (Qp A3 (Aa (Au (fun hc2=>?_) fun hc2=>?_))))
  ·
   refine Ad (Qp A4 (Qp Av (Qp A3 (Aa (AW.ret (Ao (Ai ?_)))))))
   refine Qr (.bool _) ?_
   simp only [Ae,El,hc1,hc2,↓reduceIte,Bool.false_eq_true]
  ·
   refine AW.skip (Bc (Af (Ad (Qp A3 (Aa (AW.ret ?_))))))
   refine Qr (.bool _) ?_
   simp only [Ae,El,hc1,hc2,↓reduceIte,Bool.false_eq_true]
theorem wW (p:Pl):∃f first cap,Yk p = .fn (.func f) first cap∧Oo Tryz.prog f=true∧∀k,Ap Tryz.prog f (first ++ [.int .i64 k]++cap) (.bool (p.at k)):=by
 cases p with
 | only k=>exact ⟨_,_,_,rfl,by kernel_rfl,fun x=>qT k x⟩
 | pats=>exact ⟨_,_,_,rfl,by kernel_rfl,fun x=>nB x⟩
 | exps=>exact ⟨_,_,_,rfl,by kernel_rfl,fun x=>w_exps x⟩
theorem jN (t:Syn):Ap Tryz.prog 201 [.agg (cSyn t)] (.bool (Dr t)):=by
 refine Ap.body (n:=49) tok Tryz.func201 rfl rfl rfl fun H=>?_
 refine Ad (Qp (Eu [Iq _,.str _,.str _,Iq _,_,Iq _]) (Qp A3 (By (Qp (Qf [_,Iq _]) (Qp Dg ?_)))))
 refine Qp (Ax (n:=t.kids.length) tok rfl rfl rfl (by simp)) ?_
 refine Qp A0 (Aa (AW.seq (Ad (Qp (Qf [Iq _,.str _,.str _,Iq _,_,Iq _]) (Qp Bt (Aa (AW.block ?_)))))))
 refine AW.Aaw (fun (_:Unit)=>(⟨[(1,.ptr (cSyn t)),(3,.int .i64 (t.kids.length:Int)),(8,.int .i64 t.kind),(9,.bool (((t.kind==0)||(t.kind==1))))],H,49⟩:St)) (fun (_:Unit)=>True) ?_ ?_
 ·
  refine Ad (Qp Av (Qp A3 (Aa (Au (fun hc1=>?_) fun hc1=>?_))))
  ·
   refine Bl ?_
   refine ⟨(),?_,GS.weaken ⟨rfl,rfl,rfl,congrArg AV.bool (by simp [*]),trivial⟩ (.refl _)⟩
   trivial
  ·
   refine AW.region (Qp Av (Qp A3 (Aa ?_)))
   refine ⟨(),?_,GS.weaken ⟨rfl,rfl,rfl,congrArg AV.bool (by simp [*]),trivial⟩ (.refl _)⟩
   trivial
 ·
  rintro _ _
  refine Au (fun hc2=>?_) fun hc2=>?_
  ·
   refine Ad (Qp A3 (Aa (AW.ret (Ao (Ai ?_)))))
   refine Qr (.bool _) ?_
   simp only [Ae,Dr,hc2,↓reduceIte,Bool.false_eq_true]
  ·
   refine Ad (Qp Av (Qp A3 (Aa (Au (fun hc3=>?_) fun hc3=>?_))))
   ·
    refine Ad (Qp A4 (Qp F6 (Qp A3 (Aa (AW.ret (Ao (Ai ?_)))))))
    refine Qr (.bool _) ?_
    simp only [Ae,Dr,hc2,hc3,↓reduceIte,Bool.false_eq_true]
   ·
    refine Ad (Qp Av (Qp A3 (Aa (Au (fun hc4=>?_) fun hc4=>?_))))
    ·
     refine Ad (Qp A4 (Qp Nj (Qp A3 (Aa (AW.ret (Ao (Ai ?_)))))))
     refine Qr (.bool _) ?_
     simp only [Ae,Dr,hc2,hc3,hc4,↓reduceIte,Bool.false_eq_true]
    ·
     refine AW.Aaw (fun (_:Unit)=>(⟨[(1,.ptr (cSyn t)),(3,.int .i64 (t.kids.length:Int)),(8,.int .i64 t.kind),(20,.bool ((((t.kind==6)||(t.kind==7))||(t.kind==8))))],H,49⟩:St)) (fun (_:Unit)=>True) ?_ ?_
     ·
      refine Ad (Qp Av (Qp A3 (Aa (Au (fun hc5=>?_) fun hc5=>?_))))
      ·
       refine Bl ?_
       refine ⟨(),?_,GS.weaken ⟨rfl,rfl,rfl,congrArg AV.bool (by simp [*]),trivial⟩ (.refl _)⟩
       trivial
      ·
       refine Ad (Qp Av (Qp A3 (Aa (Au (fun hc6=>?_) fun hc6=>?_))))
       ·
        refine Bl ?_
        refine ⟨(),?_,GS.weaken ⟨rfl,rfl,rfl,congrArg AV.bool (by simp [*]),trivial⟩ (.refl _)⟩
        trivial
       ·
        refine AW.region (Qp Av (Qp A3 (Aa ?_)))
        refine ⟨(),?_,GS.weaken ⟨rfl,rfl,rfl,congrArg AV.bool (by simp [*]),trivial⟩ (.refl _)⟩
        trivial
     ·
      rintro _ _
      refine Au (fun hc7=>?_) fun hc7=>?_
      ·
       refine Ad (Qp A4 (Qp F6 (Qp A3 (Aa (AW.ret (Ao (Ai ?_)))))))
       refine Qr (.bool _) ?_
       simp only [Ae,Dr,hc2,hc3,hc4,hc7,↓reduceIte,Bool.false_eq_true]
      ·
       refine AW.Aaw (fun (_:Unit)=>(⟨[(1,.ptr (cSyn t)),(3,.int .i64 (t.kids.length:Int)),(8,.int .i64 t.kind),(26,.bool ((((t.kind==9)||(t.kind==11))||(t.kind==18))))],H,49⟩:St)) (fun (_:Unit)=>True) ?_ ?_
       ·
        refine Ad (Qp Av (Qp A3 (Aa (Au (fun hc8=>?_) fun hc8=>?_))))
        ·
         refine Bl ?_
         refine ⟨(),?_,GS.weaken ⟨rfl,rfl,rfl,congrArg AV.bool (by simp [*]),trivial⟩ (.refl _)⟩
         trivial
        ·
         refine Ad (Qp Av (Qp A3 (Aa (Au (fun hc9=>?_) fun hc9=>?_))))
         ·
          refine Bl ?_
          refine ⟨(),?_,GS.weaken ⟨rfl,rfl,rfl,congrArg AV.bool (by simp [*]),trivial⟩ (.refl _)⟩
          trivial
         ·
          refine AW.region (Qp Av (Qp A3 (Aa ?_)))
          refine ⟨(),?_,GS.weaken ⟨rfl,rfl,rfl,congrArg AV.bool (by simp [*]),trivial⟩ (.refl _)⟩
          trivial
       ·
        rintro _ _
        refine Au (fun hc10=>?_) fun hc10=>?_
        ·
         refine Ad (Qp A4 (Qp Av (Qp A3 (Aa (AW.ret (Ao (Ai ?_)))))))
         refine Qr (.bool _) ?_
         simp only [Ae,Dr,hc2,hc3,hc4,hc7,hc10,↓reduceIte,Bool.false_eq_true]
        ·
         refine AW.Aaw (fun (_:Unit)=>(⟨[(1,.ptr (cSyn t)),(3,.int .i64 (t.kids.length:Int)),(8,.int .i64 t.kind),(32,.bool ((((t.kind==10)||(t.kind==12))||(t.kind==17))))],H,49⟩:St)) (fun (_:Unit)=>True) ?_ ?_
         ·
          refine Ad (Qp Av (Qp A3 (Aa (Au (fun hc11=>?_) fun hc11=>?_))))
          ·
           refine Bl ?_
           refine ⟨(),?_,GS.weaken ⟨rfl,rfl,rfl,congrArg AV.bool (by simp [*]),trivial⟩ (.refl _)⟩
           trivial
          ·
           refine Ad (Qp Av (Qp A3 (Aa (Au (fun hc12=>?_) fun hc12=>?_))))
           ·
            refine Bl ?_
            refine ⟨(),?_,GS.weaken ⟨rfl,rfl,rfl,congrArg AV.bool (by simp [*]),trivial⟩ (.refl _)⟩
            trivial
           ·
            refine AW.region (Qp Av (Qp A3 (Aa ?_)))
            refine ⟨(),?_,GS.weaken ⟨rfl,rfl,rfl,congrArg AV.bool (by simp [*]),trivial⟩ (.refl _)⟩
            trivial
         ·
          rintro _ _
          refine Au (fun hc13=>?_) fun hc13=>?_
          ·
           refine Ad (Qp A4 (Qp Av (Qp A3 (Aa (AW.ret (Ao (Ai ?_)))))))
           refine Qr (.bool _) ?_
           simp only [Ae,Dr,hc2,hc3,hc4,hc7,hc10,hc13,↓reduceIte,Bool.false_eq_true]
          ·
           refine Ad (Qp Av (Qp A3 (Aa (Au (fun hc14=>?_) fun hc14=>?_))))
           ·
            refine AW.seq (Ad (Qp (Qf [Iq _,_,Iq _]) (Qp Bt (Qp Av (Aa (Au (fun hc15=>?_) fun hc15=>?_))))))
            ·
             refine Ad (Qp A4 (Qp Av (Qp A3 (Aa (Cx (Ao (Ai ?_)))))))
             refine Qr (.bool _) ?_
             simp only [Ae,Dr,hc2,hc3,hc4,hc7,hc10,hc13,hc14,hc15,↓reduceIte,Bool.false_eq_true]
            ·
             refine Bl (Ad (Qp A4 (Qp Av (Qp A3 (Aa (AW.ret (Ao (Ai ?_))))))))
             refine Qr (.bool _) ?_
             simp only [Ae,Dr,hc2,hc3,hc4,hc7,hc10,hc13,hc14,hc15,↓reduceIte,Bool.false_eq_true]
           ·
            refine AW.skip (Bc (Af (Ad (Qp A4 (Qp Av (Qp A3 (Aa (AW.ret ?_))))))))
            refine Qr (.bool _) ?_
            simp only [Ae,Dr,hc2,hc3,hc4,hc7,hc10,hc13,hc14,↓reduceIte,Bool.false_eq_true]
theorem pM (k:Int):Ap Tryz.prog 263 [.int .i64 k] (.tuple [.bool (Lu k).1,.bool (Lu k).2]):=by
 refine Ap.body (n:=15) tok Tryz.func263 rfl rfl rfl fun H=>?_
 refine Ad (Qp A3 (Qp A3 (Aa (AW.seq (Ad (Qp A4 (Aa (AW.block ?_))))))))
 refine AW.Aaw (fun (_:Unit)=>(⟨[(4,.int .i64 k),(5,.bool ((((k==5)||(k==14))||(k==16))))],H,15⟩:St)) (fun (_:Unit)=>True) ?_ ?_
 ·
  refine Ad (Qp Av (Qp A3 (Aa (Au (fun hc1=>?_) fun hc1=>?_))))
  ·
   refine Bl ?_
   refine ⟨(),?_,GS.weaken ⟨rfl,congrArg AV.bool (by simp [*]),trivial⟩ (.refl _)⟩
   trivial
  ·
   refine Ad (Qp Av (Qp A3 (Aa (Au (fun hc2=>?_) fun hc2=>?_))))
   ·
    refine Bl ?_
    refine ⟨(),?_,GS.weaken ⟨rfl,congrArg AV.bool (by simp [*]),trivial⟩ (.refl _)⟩
    trivial
   ·
    refine AW.region (Qp Av (Qp A3 (Aa ?_)))
    refine ⟨(),?_,GS.weaken ⟨rfl,congrArg AV.bool (by simp [*]),trivial⟩ (.refl _)⟩
    trivial
 ·
  rintro _ _
  refine Au (fun hc3=>?_) fun hc3=>?_
  ·
   refine Ad (Qp A3 (Qp A3 (Aa (AW.ret (Ao (Ai ?_))))))
   refine L1 (.bool _) (.bool _) ?_
   simp only [Ae,Lu,hc3,↓reduceIte,Bool.false_eq_true]
  ·
   refine AW.Aaw (fun (_:Unit)=>(⟨[(4,.int .i64 k),(9,.bool ((((((k==1)||(k==2))||(k==3))||(k==4))||(k==15))))],H,15⟩:St)) (fun (_:Unit)=>True) ?_ ?_
   ·
    refine Ad (Qp Av (Qp A3 (Aa (Au (fun hc4=>?_) fun hc4=>?_))))
    ·
     refine Bl ?_
     refine ⟨(),?_,GS.weaken ⟨rfl,congrArg AV.bool (by simp [*]),trivial⟩ (.refl _)⟩
     trivial
    ·
     refine Ad (Qp Av (Qp A3 (Aa (Au (fun hc5=>?_) fun hc5=>?_))))
     ·
      refine Bl ?_
      refine ⟨(),?_,GS.weaken ⟨rfl,congrArg AV.bool (by simp [*]),trivial⟩ (.refl _)⟩
      trivial
     ·
      refine Ad (Qp Av (Qp A3 (Aa (Au (fun hc6=>?_) fun hc6=>?_))))
      ·
       refine Bl ?_
       refine ⟨(),?_,GS.weaken ⟨rfl,congrArg AV.bool (by simp [*]),trivial⟩ (.refl _)⟩
       trivial
      ·
       refine Ad (Qp Av (Qp A3 (Aa (Au (fun hc7=>?_) fun hc7=>?_))))
       ·
        refine Bl ?_
        refine ⟨(),?_,GS.weaken ⟨rfl,congrArg AV.bool (by simp [*]),trivial⟩ (.refl _)⟩
        trivial
       ·
        refine AW.region (Qp Av (Qp A3 (Aa ?_)))
        refine ⟨(),?_,GS.weaken ⟨rfl,congrArg AV.bool (by simp [*]),trivial⟩ (.refl _)⟩
        trivial
   ·
    rintro _ _
    refine Au (fun hc8=>?_) fun hc8=>?_
    ·
     refine Ad (Qp A3 (Qp A3 (Aa (AW.ret (Ao (Ai ?_))))))
     refine L1 (.bool _) (.bool _) ?_
     simp only [Ae,Lu,hc3,hc8,↓reduceIte,Bool.false_eq_true]
    ·
     refine AW.skip (Bc (Af (Ad (Qp A3 (Qp A3 (Aa (AW.ret ?_)))))))
     refine L1 (.bool _) (.bool _) ?_
     simp only [Ae,Lu,hc3,hc8,↓reduceIte,Bool.false_eq_true]
theorem w_is (s:Aq)(hl:s.length≤1048576):Ap Tryz.prog 262 [.str s] (.bool (dQ s)):=by
 refine Ap.body (n:=6) tok Tryz.func262 rfl rfl rfl fun H=>?_
 refine Ad (Qp A3 (By (Qp Dh ?_)))
 refine Qp (Qc rfl (c20 s hl)) ?_
 refine Qp Av (Qp A3 (Aa (AW.ret ?_)))
 refine Qr (.bool _) ?_
 rfl
theorem sZ (t:Syn)(ht:t.text.length≤1048576)(hn:t.name.length≤1048576):Ap Tryz.prog 202 [.agg (cSyn t)] (.bool (N6 t)):=by
 refine Ap.body (n:=48) tok Tryz.func202 rfl rfl rfl fun H=>?_
 refine Ad (Qp (Eu [Iq _,.str _,.str _,Iq _,_,Iq _]) (Qp A3 (By ?_)))
 refine Qp (A6 (v:=.fn _ _ _) rfl) ?_
 refine By (Qp (Qf [Iq _,.str _,.str _,Iq _,_,Iq _]) (Qp Bt ?_))
 refine Qp (Qc rfl (pM t.kind)) ?_
 refine Qp L0 (Qp cF (Qp cF (Qp A3 (Qp A3 (Aa (AW.seq (Ad (Qp Bq (Qp Bq ?_)))))))))
 refine AOL.Aap (y:=.fn _ _ _) _ [] rfl (iB.all trivial) (fun hG=>A1 (v:=.fn _ _ _) rfl) rfl ?_
 refine Qg [] Qw (Qf [.str _,.str _,Iq _,_,Iq _]) (Qg [(15,_)] Qw Df ?_)
 refine AOL.Aap (y:=.bool _) _ [(16,_),(14,_)] rfl (iB.all ⟨Ent.Aao _ _,Ent.Aao _ _,trivial⟩) (fun hG=>Lj (by kernel_rfl) rfl rfl rfl (w_is t.text ht)) rfl ?_
 refine Qg [(17,_)] Qw Fz (Qp Et (Qp Bq (Qg [] Qw (Qf [Iq _,.str _,.str _,Iq _,_,Iq _]) (Qg [(21,_)] Qw Bt (Qg [(22,_)] Qw B9 (Qg [(23,_)] Qw Bq (Qg [] Qw (Qf [.str _,.str _,Iq _,_,Iq _]) (Qg [(25,_)] Qw Df ?_))))))))
 refine AOL.Aap (y:=.bool _) _ [(26,_)] rfl (iB.all ⟨Ent.Aao _ _,trivial⟩) (fun hG=>Cr rfl rfl) rfl ?_
 refine Qg [(24,_),(27,_)] Qw Cy (Qp Et (Aa (Au (fun hc1=>?_) fun hc1=>?_)))
 ·
  refine Ad (Qp A3 (Aa (Cx ?_)))
  refine Qr (.bool _) ?_
  simp only [Ae,N6]
  rw [if_pos hc1]
 ·
  refine Bl (Ad (Qp Bq (Qp Fz (Qp Bq ?_))))
  refine AOL.Aap (y:=.fn _ _ _) _ [] rfl (iB.all trivial) (fun hG=>A1 (v:=.fn _ _ _) rfl) rfl ?_
  refine Qg [] Qw (Qf [.str _,Iq _,_,Iq _]) (Qg [(34,_)] Qw Df ?_)
  refine AOL.Aap (y:=.bool _) _ [(35,_),(33,_)] rfl (iB.all ⟨Ent.Aao _ _,Ent.Aao _ _,trivial⟩) (fun hG=>Lj (by kernel_rfl) rfl rfl rfl (w_is t.name hn)) rfl ?_
  refine Qp Cy (Qp Bq (Qg [] Qw (Qf [Iq _,.str _,.str _,Iq _,_,Iq _]) (Qg [(39,_)] Qw Bt (Qg [(40,_)] Qw Av (Qg [(41,_)] Qw Bq (Qg [] Qw (Qf [.str _,Iq _,_,Iq _]) (Qg [(43,_)] Qw Df ?_)))))))
  refine AOL.Aap (y:=.bool _) _ [(44,_)] rfl (iB.all ⟨Ent.Aao _ _,trivial⟩) (fun hG=>A5 rfl rfl) rfl ?_
  refine Qg [(42,_),(45,_)] Qw Et (Qp Cy (Qp A3 (Aa (AW.ret ?_))))
  refine Qr (.bool _) ?_
  simp only [Ae,N6]
  rw [Bu hc1]
theorem qM (t:Syn):Ap Tryz.prog 264 [.agg (cSyn t)] (.int .i64 (Er t)):=by
 refine Ap.body (n:=37) tok Tryz.func264 rfl rfl rfl fun H=>?_
 refine Ad (Qp (Eu [Iq _,.str _,.str _,Iq _,_,Iq _]) (Qp A0 (By (Qp A0 (Qp A0 (Aa (AW.seq (Ad (Qp (Qf [.str _,Iq _,_,Iq _]) ?_)))))))))
 refine Qp Df (Aa (AW.block (Ad ?_)))
 refine Qp (A5 rfl rfl) ?_
 refine Qp A3 (Aa (Au (fun hc1=>?_) fun hc1=>?_))
 ·
  refine AW.skip (Bc (Af (AW.seq (AW.block (Ad (Qp (Qf [Iq _,_,Iq _]) (Qp Bt (Qp A4 (Qp B7 ?_)))))))))
  refine Qp Bq (Qg [] Qw (Qf [Iq _,_,Iq _]) (Qg [(28,_)] Qw Bt (Qg [] Qw A4 ?_)))
  refine AOL.Aap (y:=.bool _) _ [(29,_),(30,_)] rfl (iB.all ⟨Ent.Aao _ _,Ent.Aao _ _,trivial⟩) (fun hG=>Ou rfl rfl) rfl ?_
  refine Qp Cy (Qp A3 (Aa (Au (fun hc2=>?_) fun hc2=>?_)))
  ·
   refine Ad (Qp A0 (Aa (AW.ret (Ao (Ai ?_)))))
   refine Qr (Iq _) ?_
   simp only [Ae,Er]
   rw [if_pos hc1,if_pos hc2]
  ·
   refine Ad (Qp (Qf [.str _,.str _,Iq _,_,Iq _]) (Qp Df ?_))
   refine Qp (Cr rfl rfl) ?_
   refine Qp A3 (Aa (Au (fun hc3=>?_) fun hc3=>?_))
   ·
    refine Ad (Qp A0 (Aa (AW.ret (Ao (Ai ?_)))))
    refine Qr (Iq _) ?_
    simp only [Ae,Er]
    rw [if_pos hc1,Bu hc2,if_pos hc3]
   ·
    refine AW.skip (Bc (Af (Ad (Qp A0 (Aa (AW.ret ?_))))))
    refine Qr (Iq _) ?_
    simp only [Ae,Er]
    rw [if_pos hc1,Bu hc2,Bu hc3]
 ·
  refine Ad ?_
  refine Qp (A5 rfl rfl) ?_
  refine Qp A3 (Aa (Au (fun hc4=>?_) fun hc4=>?_))
  ·
   refine AW.region (Qp A0 (Qp A0 (AOL.nil (Bc (Af (AW.seq (AW.block (Ad (Qp (Qf [Iq _,_,Iq _]) ?_)))))))))
   refine Qp Bt (Qp A4 (Qp B7 (Qp Bq (Qg [] Qw (Qf [Iq _,_,Iq _]) (Qg [(28,_)] Qw Bt (Qg [] Qw A4 ?_))))))
   refine AOL.Aap (y:=.bool _) _ [(29,_),(30,_)] rfl (iB.all ⟨Ent.Aao _ _,Ent.Aao _ _,trivial⟩) (fun hG=>Ou rfl rfl) rfl ?_
   refine Qp Cy (Qp A3 (Aa (Au (fun hc5=>?_) fun hc5=>?_)))
   ·
    refine Ad (Qp A0 (Aa (AW.ret (Ao (Ai ?_)))))
    refine Qr (Iq _) ?_
    simp only [Ae,Er]
    rw [Bu hc1,if_pos hc4,if_pos hc5]
   ·
    refine Ad (Qp (Qf [.str _,.str _,Iq _,_,Iq _]) (Qp Df ?_))
    refine Qp (Cr rfl rfl) ?_
    refine Qp A3 (Aa (Au (fun hc6=>?_) fun hc6=>?_))
    ·
     refine Ad (Qp A0 (Aa (AW.ret (Ao (Ai ?_)))))
     refine Qr (Iq _) ?_
     simp only [Ae,Er]
     rw [Bu hc1,if_pos hc4,Bu hc5,if_pos hc6]
    ·
     refine AW.skip (Bc (Af (Ad (Qp A0 (Aa (AW.ret ?_))))))
     refine Qr (Iq _) ?_
     simp only [Ae,Er]
     rw [Bu hc1,if_pos hc4,Bu hc5,Bu hc6]
  ·
   refine Ad ?_
   refine Qp (A5 rfl rfl) ?_
   refine Qp A3 (Aa (Au (fun hc7=>?_) fun hc7=>?_))
   ·
    refine AW.seq (AW.block (Ad (Qp (Qf [.str _,.str _,Iq _,_,Iq _]) (Qp Df ?_))))
    refine Qp (Bx tok rfl rfl rfl rfl) ?_
    refine Qp D2 (Qp A3 (Aa (Au (fun hc8=>?_) fun hc8=>?_)))
    ·
     refine Ad (Qp A0 (Aa (AW.ret (Ao (Ai (Ao (Ai ?_)))))))
     refine Qr (Iq _) ?_
     simp only [Ae,Er]
     rw [Bu hc1,Bu hc4,if_pos hc7,if_pos hc8]
    ·
     refine Ad (Qp (Qf [Iq _,_,Iq _]) (Qp Bt (Qp B9 (Qp A3 (Aa (Au (fun hc9=>?_) fun hc9=>?_))))))
     ·
      refine Ad (Qp A0 (Aa (AW.ret (Ao (Ai (Ao (Ai ?_)))))))
      refine Qr (Iq _) ?_
      simp only [Ae,Er]
      rw [Bu hc1,Bu hc4,if_pos hc7,Bu hc8,if_pos hc9]
     ·
      refine AW.skip (Bc (Af (Ad (Qp A0 (Aa (AW.ret (Ao (Ai ?_))))))))
      refine Qr (Iq _) ?_
      simp only [Ae,Er]
      rw [Bu hc1,Bu hc4,if_pos hc7,Bu hc8,Bu hc9]
   ·
    refine Ad (Qp A0 (Aa (AW.ret (Ao (Ai ?_)))))
    refine Qr (Iq _) ?_
    simp only [Ae,Er]
    rw [Bu hc1,Bu hc4,Bu hc7]
theorem jF (t:Syn):Ap Tryz.prog 265 [.agg (cSyn t)] (.int .i64 (Ko t)):=by
 refine Ap.body (n:=27) tok Tryz.func265 rfl rfl rfl fun H=>?_
 refine Ad (Qp (Eu [Iq _,.str _,.str _,Iq _,_,Iq _]) (Qp A0 (By (Qp A0 (Qp A0 (Qp A0 (Aa (AW.seq (Ad ?_)))))))))
 refine Qp (Qf [Iq _,.str _,.str _,Iq _,_,Iq _]) (Qp Bt (Aa (AW.block (Ad (Qp Av (Qp A3 (Aa (Au (fun hc1=>?_) fun hc1=>?_))))))))
 ·
  refine AW.region (Qp A0 (Qp A0 (Qp A0 (AOL.nil (Bc (Af (AW.seq (Ad (Qp (Qf [Iq _,_,Iq _]) ?_)))))))))
  refine Qp Bt (Qp A4 (Qp B7 (Qp Bq (Qg [] Qw (Qf [Iq _,_,Iq _]) (Qg [(21,_)] Qw Bt (Qg [] Qw A4 ?_))))))
  refine AOL.Aap (y:=.bool _) _ [(22,_),(23,_)] rfl (iB.all ⟨Ent.Aao _ _,Ent.Aao _ _,trivial⟩) (fun hG=>Ou rfl rfl) rfl ?_
  refine Qp Cy (Aa (Au (fun hc2=>?_) fun hc2=>?_))
  ·
   refine Ad (Qp A4 (Qp A0 (Aa (Cx ?_))))
   refine Qr (Iq _) ?_
   simp only [Ae,Ko,hc1,hc2,↓reduceIte,Bool.false_eq_true]
  ·
   refine Bl (Ad (Qp A0 (Aa (AW.ret ?_))))
   refine Qr (Iq _) ?_
   simp only [Ae,Ko,hc1,hc2,↓reduceIte,Bool.false_eq_true]
 ·
  refine Ad (Qp Av (Qp A3 (Aa (Au (fun hc3=>?_) fun hc3=>?_))))
  ·
   refine AW.region (Qp A0 (Qp A0 (Qp A0 (AOL.nil (Bc (Af (AW.seq (Ad (Qp (Qf [Iq _,_,Iq _]) ?_)))))))))
   refine Qp Bt (Qp A4 (Qp B7 (Qp Bq (Qg [] Qw (Qf [Iq _,_,Iq _]) (Qg [(21,_)] Qw Bt (Qg [] Qw A4 ?_))))))
   refine AOL.Aap (y:=.bool _) _ [(22,_),(23,_)] rfl (iB.all ⟨Ent.Aao _ _,Ent.Aao _ _,trivial⟩) (fun hG=>Ou rfl rfl) rfl ?_
   refine Qp Cy (Aa (Au (fun hc4=>?_) fun hc4=>?_))
   ·
    refine Ad (Qp A4 (Qp A0 (Aa (Cx ?_))))
    refine Qr (Iq _) ?_
    simp only [Ae,Ko,hc1,hc3,hc4,↓reduceIte,Bool.false_eq_true]
   ·
    refine Bl (Ad (Qp A0 (Aa (AW.ret ?_))))
    refine Qr (Iq _) ?_
    simp only [Ae,Ko,hc1,hc3,hc4,↓reduceIte,Bool.false_eq_true]
  ·
   refine Ad (Qp Av (Qp A3 (Aa (Au (fun hc5=>?_) fun hc5=>?_))))
   ·
    refine AW.region (Qp A0 (Qp A0 (Qp A0 (AOL.nil (Bc (Af (AW.seq (Ad (Qp (Qf [Iq _,_,Iq _]) ?_)))))))))
    refine Qp Bt (Qp A4 (Qp B7 (Qp Bq (Qg [] Qw (Qf [Iq _,_,Iq _]) (Qg [(21,_)] Qw Bt (Qg [] Qw A4 ?_))))))
    refine AOL.Aap (y:=.bool _) _ [(22,_),(23,_)] rfl (iB.all ⟨Ent.Aao _ _,Ent.Aao _ _,trivial⟩) (fun hG=>Ou rfl rfl) rfl ?_
    refine Qp Cy (Aa (Au (fun hc6=>?_) fun hc6=>?_))
    ·
     refine Ad (Qp A4 (Qp A0 (Aa (Cx ?_))))
     refine Qr (Iq _) ?_
     simp only [Ae,Ko,hc1,hc3,hc5,hc6,↓reduceIte,Bool.false_eq_true]
    ·
     refine Bl (Ad (Qp A0 (Aa (AW.ret ?_))))
     refine Qr (Iq _) ?_
     simp only [Ae,Ko,hc1,hc3,hc5,hc6,↓reduceIte,Bool.false_eq_true]
   ·
    refine Ad (Qp Av (Qp A3 (Aa (Au (fun hc7=>?_) fun hc7=>?_))))
    ·
     refine AW.region (Qp A0 (Qp A0 (AOL.nil (Bc (Af (AW.seq (Ad (Qp (Qf [Iq _,_,Iq _]) (Qp Bt ?_)))))))))
     refine Qp A4 (Qp B7 (Qp Bq (Qg [] Qw (Qf [Iq _,_,Iq _]) (Qg [(21,_)] Qw Bt (Qg [] Qw A4 ?_)))))
     refine AOL.Aap (y:=.bool _) _ [(22,_),(23,_)] rfl (iB.all ⟨Ent.Aao _ _,Ent.Aao _ _,trivial⟩) (fun hG=>Ou rfl rfl) rfl ?_
     refine Qp Cy (Aa (Au (fun hc8=>?_) fun hc8=>?_))
     ·
      refine Ad (Qp A4 (Qp A0 (Aa (Cx ?_))))
      refine Qr (Iq _) ?_
      simp only [Ae,Ko,hc1,hc3,hc5,hc7,hc8,↓reduceIte,Bool.false_eq_true]
     ·
      refine Bl (Ad (Qp A0 (Aa (AW.ret ?_))))
      refine Qr (Iq _) ?_
      simp only [Ae,Ko,hc1,hc3,hc5,hc7,hc8,↓reduceIte,Bool.false_eq_true]
    ·
     refine AW.skip (Bc (Af (AW.seq (Ad (Qp (Qf [Iq _,_,Iq _]) (Qp Bt (Qp A4 (Qp B7 (Qp Bq ?_)))))))))
     refine Qg [] Qw (Qf [Iq _,_,Iq _]) (Qg [(21,_)] Qw Bt (Qg [] Qw A4 ?_))
     refine AOL.Aap (y:=.bool _) _ [(22,_),(23,_)] rfl (iB.all ⟨Ent.Aao _ _,Ent.Aao _ _,trivial⟩) (fun hG=>Ou rfl rfl) rfl ?_
     refine Qp Cy (Aa (Au (fun hc9=>?_) fun hc9=>?_))
     ·
      refine Ad (Qp A4 (Qp A0 (Aa (Cx ?_))))
      refine Qr (Iq _) ?_
      simp only [Ae,Ko,hc1,hc3,hc5,hc7,hc9,↓reduceIte,Bool.false_eq_true]
     ·
      refine Bl (Ad (Qp A0 (Aa (AW.ret ?_))))
      refine Qr (Iq _) ?_
      simp only [Ae,Ko,hc1,hc3,hc5,hc7,hc9,↓reduceIte,Bool.false_eq_true]
theorem mJ (t:Syn):Ap Tryz.prog 203 [.agg (cSyn t)] (.int .i64 (Cu t)):=by
 refine Ap.body (n:=38) tok Tryz.func203 rfl rfl rfl fun H=>?_
 refine Ad (Qp (Eu [Iq _,.str _,.str _,Iq _,_,Iq _]) (Qp A0 (Aa (AW.seq (Ad (Qp (Qf [Iq _,.str _,.str _,Iq _,_,Iq _]) (Qp Bt (Qp Av (Aa (Au (fun hc1=>?_) fun hc1=>?_))))))))))
 ·
  refine Ad (Qp (B2 [Iq _,.str _,.str _,Iq _,_,Iq _]) ?_)
  refine Qp (Qc rfl (qM t)) ?_
  refine Qp A0 (Aa (Cx ?_))
  refine Qr (Iq _) ?_
  simp only [Ae,Cu]
  rw [if_pos hc1]
 ·
  refine Bl (AW.seq (Ad (Qp (B2 [Iq _,.str _,.str _,Iq _,_,Iq _]) ?_)))
  refine Qp (Qc rfl (jF t)) ?_
  refine Qp A0 (By (Qp A4 (Qp B9 (Aa (Au (fun hc2=>?_) fun hc2=>?_)))))
  ·
   refine Ad (Qp A4 (Qp A0 (Aa (Cx ?_))))
   refine Qr (Iq _) ?_
   simp only [Ae,Cu]
   rw [Bu hc1,if_pos hc2]
  ·
   refine Bl (AW.seq (Ad (Qp (Qf [Iq _,.str _,.str _,Iq _,_,Iq _]) (Qp Bt ?_))))
   refine Qp (Qc rfl (pM t.kind)) ?_
   refine Qp L0 (Qp cF (Qp cF (Qp A3 (Qp A3 (By (Qp Bq (Qp Fz (Qp Bq (Qg [] Qw (Qf [.str _,.str _,Iq _,_,Iq _]) ?_)))))))))
   refine Qg [(25,_)] Qw Df ?_
   refine AOL.Aap (y:=.bool _) _ [(26,_)] rfl (iB.all ⟨Ent.Aao _ _,trivial⟩) (fun hG=>Cr rfl rfl) rfl ?_
   refine Qp Et (Qp Bq (Qg [] Qw Bq (Qg [(30,_)] Qw Fz (Qg [(31,_)] Qw Bq (Qg [] Qw (Qf [.str _,Iq _,_,Iq _]) (Qg [(33,_)] Qw Df ?_))))))
   refine AOL.Aap (y:=.bool _) _ [(34,_)] rfl (iB.all ⟨Ent.Aao _ _,trivial⟩) (fun hG=>Cr rfl rfl) rfl ?_
   refine Qg [(32,_),(35,_)] Qw Et (Qp Cy (Aa (Au (fun hc3=>?_) fun hc3=>?_)))
   ·
    refine Ad (Qp A0 (Aa (Cx ?_)))
    refine Qr (Iq _) ?_
    simp only [Ae,Cu]
    rw [Bu hc1,Bu hc2,if_pos hc3]
   ·
    refine Bl (Ad (Qp A0 (Aa (AW.ret ?_))))
    refine Qr (Iq _) ?_
    simp only [Ae,Cu]
    rw [Bu hc1,Bu hc2,Bu hc3]
theorem w_kid (t:Syn)(i:Nat)(hi:i<t.kids.length)(hl:t.kids.length≤1048576):Ap Tryz.prog 204 [.agg (cSyn t),.int .i64 (i:Int)] (Yk (Ee t i)):=by
 refine Ap.body (n:=59) tok Tryz.func204 rfl rfl rfl fun H=>?_
 refine Ad (Qp (Eu [Iq _,.str _,.str _,Iq _,_,Iq _]) (Qp N8 (Aa (AW.seq (Ad (Qp (Qf [Iq _,.str _,.str _,Iq _,_,Iq _]) (Qp Bt (Aa (AW.block ?_)))))))))
 refine Ad (Qp Av (Qp A3 (Aa (Au (fun hc1=>?_) fun hc1=>?_))))
 ·
  refine AW.seq (Ad (Qp (Qf [_,Iq _]) (Qp Dg (Qp A4 ?_))))
  refine Qp (Ag (c:=cSyn (Bn t i)) tok rfl rfl rfl rfl rfl rfl (by omega) (B6 (Xy hi))) ?_
  refine Qp (Qf [Iq _,.str _,.str _,Iq _,_,Iq _]) (Qp Bt (Qp Av (Qp Bq (Qg [] Qw A4 (Qg [(17,_)] Qw Av (Qg [(18,_)] Qw Bq (Qg [] Qw (Qf [_,Iq _]) (Qg [(20,_)] Qw Dg (Qg [] Qw A4 ?_)))))))))
  refine AOL.Aap (y:=Iq _) _ [(22,_)] rfl (iB.all ⟨Ent.Aao _ _,trivial⟩) (fun hG=>oI rfl rfl rfl (by constructor <;> omega)) rfl ?_
  refine AOL.Aap (y:=.ptr _) _ [(21,_),(23,_)] rfl (iB.all ⟨Ent.Aao _ _,Ent.Aao _ _,trivial⟩) (fun hG=>Ag (c:=cSyn (Bn t (i-1))) tok rfl rfl rfl rfl rfl rfl ((Ow hi hG).1) ((Ow hi hG).2)) rfl ?_
  refine Qg [(24,_)] Qw (Qf [Iq _,.str _,.str _,Iq _,_,Iq _]) (Qg [(25,_)] Qw Bt (Qg [(26,_)] Qw Av (Qg [(19,_),(27,_)] Qw Cy (Qp Et (Aa (Au (fun hc2=>?_) fun hc2=>?_))))))
  ·
   refine Ad ?_
   refine Qp (Qc rfl (Mr _)) ?_
   refine Qp (A6 (v:=.fn _ _ _) rfl) ?_
   refine Aa (Cx (Ao (Ai ?_)))
   refine Qr (.fn _ _ _) ?_
   simp only [Ae,Ee,Yk,hc1,hc2,↓reduceIte,Bool.false_eq_true]
  ·
   refine Bl (Ad ?_)
   refine Qp (Qc rfl (Mr _)) ?_
   refine Qp (A6 (v:=.fn _ _ _) rfl) ?_
   refine Aa (AW.ret (Ao (Ai ?_)))
   refine Qr (.fn _ _ _) ?_
   simp only [Ae,Ee,Yk,hc1,hc2,↓reduceIte,Bool.false_eq_true]
 ·
  refine Ad (Qp Av (Qp A3 (Aa (Au (fun hc3=>?_) fun hc3=>?_))))
  ·
   refine Ad ?_
   refine Qp (Qc rfl (Mr _)) ?_
   refine Qp (A6 (v:=.fn _ _ _) rfl) ?_
   refine Aa (AW.ret (Ao (Ai ?_)))
   refine Qr (.fn _ _ _) ?_
   simp only [Ae,Ee,Yk,hc1,hc3,↓reduceIte,Bool.false_eq_true]
  ·
   refine Ad (Qp Av (Qp A3 (Aa (Au (fun hc4=>?_) fun hc4=>?_))))
   ·
    refine AW.seq (Ad (Qp A4 (Aa (AW.block (Ad (Qp Av (Qp A3 (Aa (Au (fun hc5=>?_) fun hc5=>?_)))))))))
    ·
     refine Ad ?_
     refine Qp (Qc rfl (Mr _)) ?_
     refine Qp (A6 (v:=.fn _ _ _) rfl) ?_
     refine Aa (AW.ret (Ao (Ai (Ao (Ai ?_)))))
     refine Qr (.fn _ _ _) ?_
     simp only [Ae,Ee,Yk,hc1,hc3,hc4,hc5,↓reduceIte,Bool.false_eq_true]
    ·
     refine Ad (Qp Av (Qp A3 (Aa (Au (fun hc6=>?_) fun hc6=>?_))))
     ·
      refine Ad ?_
      refine Qp (A6 (v:=.fn _ _ _) rfl) ?_
      refine Aa (AW.ret (Ao (Ai (Ao (Ai ?_)))))
      refine Qr (.fn _ _ _) ?_
      simp only [Ae,Ee,Yk,hc1,hc3,hc4,hc5,hc6,↓reduceIte,Bool.false_eq_true]
     ·
      refine AW.skip (Bc (Af (Ad ?_)))
      refine Qp (A6 (v:=.fn _ _ _) rfl) ?_
      refine Aa (AW.ret (Ao (Ai ?_)))
      refine Qr (.fn _ _ _) ?_
      simp only [Ae,Ee,Yk,hc1,hc3,hc4,hc5,hc6,↓reduceIte,Bool.false_eq_true]
   ·
    refine Ad (Qp Av (Qp A3 (Aa (Au (fun hc7=>?_) fun hc7=>?_))))
    ·
     refine Ad (Qp A4 (Qp Av (Aa (Au (fun hc8=>?_) fun hc8=>?_))))
     ·
      refine Ad ?_
      refine Qp (Qc rfl (Mr _)) ?_
      refine Qp (A6 (v:=.fn _ _ _) rfl) ?_
      refine Aa (AW.ret (Ao (Ai ?_)))
      refine Qr (.fn _ _ _) ?_
      simp only [Ae,Ee,Yk,hc1,hc3,hc4,hc7,hc8,↓reduceIte,Bool.false_eq_true]
     ·
      refine AW.skip (Bc (Af (Ad ?_)))
      refine Qp (A6 (v:=.fn _ _ _) rfl) ?_
      refine Aa (AW.ret ?_)
      refine Qr (.fn _ _ _) ?_
      simp only [Ae,Ee,Yk,hc1,hc3,hc4,hc7,hc8,↓reduceIte,Bool.false_eq_true]
    ·
     refine Ad (Qp Av (Qp A3 (Aa (Au (fun hc9=>?_) fun hc9=>?_))))
     ·
      refine Ad (Qp A4 (Qp Av (Aa (Au (fun hc10=>?_) fun hc10=>?_))))
      ·
       refine Ad ?_
       refine Qp (A6 (v:=.fn _ _ _) rfl) ?_
       refine Aa (AW.ret (Ao (Ai ?_)))
       refine Qr (.fn _ _ _) ?_
       simp only [Ae,Ee,Yk,hc1,hc3,hc4,hc7,hc9,hc10,↓reduceIte,Bool.false_eq_true]
      ·
       refine AW.skip (Bc (Af (Ad ?_)))
       refine Qp (A6 (v:=.fn _ _ _) rfl) ?_
       refine Aa (AW.ret ?_)
       refine Qr (.fn _ _ _) ?_
       simp only [Ae,Ee,Yk,hc1,hc3,hc4,hc7,hc9,hc10,↓reduceIte,Bool.false_eq_true]
     ·
      refine Ad (Qp Av (Qp A3 (Aa (Au (fun hc11=>?_) fun hc11=>?_))))
      ·
       refine Ad ?_
       refine Qp (Qc rfl (Mr _)) ?_
       refine Qp (A6 (v:=.fn _ _ _) rfl) ?_
       refine Aa (AW.ret (Ao (Ai ?_)))
       refine Qr (.fn _ _ _) ?_
       simp only [Ae,Ee,Yk,hc1,hc3,hc4,hc7,hc9,hc11,↓reduceIte,Bool.false_eq_true]
      ·
       refine AW.Aaw (fun (_:Unit)=>(⟨[(2,.ptr (cSyn t)),(55,.bool ((((t.kind==5)||(t.kind==17))||(t.kind==18))))],H,59⟩:St)) (fun (_:Unit)=>True) ?_ ?_
       ·
        refine Ad (Qp Av (Qp A3 (Aa (Au (fun hc12=>?_) fun hc12=>?_))))
        ·
         refine Bl ?_
         refine ⟨(),?_,GS.weaken ⟨rfl,congrArg AV.bool (by simp [*]),trivial⟩ (.refl _)⟩
         trivial
        ·
         refine Ad (Qp Av (Qp A3 (Aa (Au (fun hc13=>?_) fun hc13=>?_))))
         ·
          refine Bl ?_
          refine ⟨(),?_,GS.weaken ⟨rfl,congrArg AV.bool (by simp [*]),trivial⟩ (.refl _)⟩
          trivial
         ·
          refine AW.region (Qp Av (Qp A3 (Aa ?_)))
          refine ⟨(),?_,GS.weaken ⟨rfl,congrArg AV.bool (by simp [*]),trivial⟩ (.refl _)⟩
          trivial
       ·
        rintro _ _
        refine Au (fun hc14=>?_) fun hc14=>?_
        ·
         refine Ad ?_
         refine Qp (A6 (v:=.fn _ _ _) rfl) ?_
         refine Aa (AW.ret (Ao (Ai ?_)))
         refine Qr (.fn _ _ _) ?_
         simp only [Ae,Ee,Yk,hc1,hc3,hc4,hc7,hc9,hc11,hc14,↓reduceIte,Bool.false_eq_true]
        ·
         refine AW.skip (Bc (Af (Ad ?_)))
         refine Qp (A6 (v:=.fn _ _ _) rfl) ?_
         refine Aa (AW.ret ?_)
         refine Qr (.fn _ _ _) ?_
         simp only [Ae,Ee,Yk,hc1,hc3,hc4,hc7,hc9,hc11,hc14,↓reduceIte,Bool.false_eq_true]

end Go.Proofs.YtckhoadldibflaaGreatDoor
