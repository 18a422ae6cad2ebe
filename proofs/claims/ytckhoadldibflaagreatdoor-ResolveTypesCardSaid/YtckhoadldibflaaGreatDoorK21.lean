/-
  Several texts in one: EW24, EW13, EW18. No condition.
-/
import Derived.Test.YtckhoadldibflaaGreatDoorK01
import Derived.Test.YtckhoadldibflaaGreatDoorK20
import Derived.KernelRfl
import Derived.Test.YtckhoadldibflaaGreatDoorK03
set_option linter.unusedVariables false
set_option linter.unusedSimpArgs false
namespace Go.Proofs.YtckhoadldibflaaGreatDoor
open Go Go.Aw
set_option maxHeartbeats 800000
set_option maxRecDepth 20000

theorem Wh {ns:List (List UInt8)}{k:Nat}{n:List UInt8}(h:ns[k]? = some n)(hn:(ns.take k).contains n=false):E6 ns n=(k:Int):=by
 have h1:=jT h
 rw [hn] at h1
 have hm:n∈ns:=List.mem_of_getElem? h
 have hc:ns.contains n=true:=by simpa using hm
 have h3:ns.idxOf n≤k:=by
  refine Nat.le_of_not_lt fun hlt=>?_
  have hk:k<ns.length:=Cm h
  have h4:=List.not_of_lt_findIdx (p:=fun x=>x==n) (xs:=ns) (i:=k) hlt
  have h5:ns[k]=n:=by rw [List.getElem?_eq_getElem hk] at h;exact Option.some.inj h
  simp only [h5] at h4
  simp at h4
 unfold E6 at h1 ⊢
 rw [if_pos hc] at h1 ⊢
 simp at h1
 omega
theorem Up {ns:List (List UInt8)}{n:List UInt8}(h:ns.contains n=false):E6 ns n = -1:=by unfold E6;rw [if_neg (by simp only [h];decide)]
theorem Nr {ns:List (List UInt8)}{k:Nat}{m n:List UInt8}(h:ns[k]? = some m)(hn:(ns.take k).contains n=false)(hne:(m==n)=false):(ns.take (k+1)).contains n=false:=by
 rw [Fs h]
 have h1:m≠n:=by simpa using hne
 simp at hn ⊢
 exact ⟨hn,fun e=>h1 e.symm⟩
def rO (s:e8Sc):Prop:=s.name.length≤1048576∧s.fields.length≤1048576∧∀f∈s.fields,f.name.length≤1048576
theorem Zo {seen:List (List UInt8)}{a:Fi}{r:List Fi}(h:F5 seen a=0):I0 seen (a::r)=I0 (seen ++ [a.name]) r:=by rw [I0,if_neg (by rw [h];decide)]
theorem Mp {seen:List (List UInt8)}{a:Fi}{r:List Fi}(h:F5 seen a≠0):I0 seen (a::r)=F5 seen a:=by rw [I0,if_pos (by simpa using h)]
theorem dH {seen:List (List UInt8)}{a:e8Sc}{r:List e8Sc}(h:Iu seen a=0):Jq seen (a::r)=Jq (seen ++ [a.name]) r:=by rw [Jq,if_neg (by rw [h];decide)]
theorem Td {seen:List (List UInt8)}{a:e8Sc}{r:List e8Sc}(h:Iu seen a≠0):Jq seen (a::r)=Iu seen a:=by rw [Jq,if_pos (by simpa using h)]
theorem c85 (s:e8Sc)(hs:rO s):Ap Tryz.prog 92 [.agg (G7 s)] (.int .i64 (Kc s)):=by
 refine Ap.body (n:=45) tok Tryz.func92 rfl rfl rfl fun H=>?_
 refine Ad (Qp (Eu [.str _,_]) (Qp A0 (Aa (AW.seq (Ad (Qp (Qf [.str _,_]) (Qp Df ?_)))))))
 refine Qp (Qc rfl (c102 _ hs.1)) ?_
 refine Qp Fz (Aa (Au (fun hc1=>?_) fun hc1=>?_))
 ·
  refine Ad (Qp A0 (Aa (Cx ?_)))
  refine Qr (Iq _) ?_
  rw [show Kc s=8 by unfold Kc;rw [if_pos (by simpa using hc1)]];rfl
 ·
  refine Bl (AW.seq (Ad (Qp (Qf [_]) (Qp Dg ?_))))
  refine Qp (Ax (n:=s.fields.length) tok rfl rfl rfl (by simp)) ?_
  refine Qp D2 (Aa (Au (fun hc2=>?_) fun hc2=>?_))
  ·
   refine Ad (Qp A0 (Aa (Cx ?_)))
   refine Qr (Iq _) ?_
   rw [show Kc s=5 by unfold Kc;rw [if_neg (by simpa using hc1),if_pos (by simpa using hc2)]];rfl
  ·
   refine Bl (Ad ?_)
   refine Qe (H4) ?_
   rintro _ _ ⟨b14,rfl,rfl⟩
   refine Qp N8 (Aa (AW.seq (Ad (Qp (Qf [_]) (Qp Dg ?_)))))
   refine Qp (Ax (n:=s.fields.length) tok rfl rfl rfl (by simp)) ?_
   refine Qp A4 (Aa (AW.block ?_))
   have hfl:=hs.2.1
   refine AW.Aat (fun (p:Nat×List (List UInt8))=>(⟨[(3,.val (.map (some b14))),(16,.sl 2 (s.fields.map cT)),(17,.int .i64 s.fields.length),(18,.int .i64 (p.1:Int))],.smap b14 (N3 p.2)::H,45⟩:St)) (fun (p:Nat×List (List UInt8))=>p.1≤s.fields.length∧I0 [] s.fields=I0 p.2 (s.fields.drop p.1)) (fun (p:Nat×List (List UInt8))=>s.fields.length-p.1) ((0,[])) ?_ (GS.weaken ⟨rfl,rfl,rfl,rfl,trivial⟩ (.refl _)) ?_
   · exact ⟨Nat.zero_le _,rfl⟩
   ·
    rintro p hR
    refine Ad (Qp B7 (Aa (AW.seq (Au (fun hc3=>?_) fun hc3=>?_))))
    ·
     obtain ⟨a,ha⟩:=Dl hc3
     have hlt:=Cm ha
     have hm:=List.mem_of_getElem? ha
     refine Bl (AW.seq (AW.block (Ad ?_)))
     refine Qp (Ag (c:=[.str _,Iq _]) tok rfl rfl rfl rfl rfl rfl (by omega) (Ff ha)) ?_
     refine Qp (B2 [.str _,Iq _]) ?_
     refine Qe (An (l:=[.str [],.int .i64 0]) (by kernel_rfl)) ?_
     rintro _ _ ⟨b5,rfl,rfl⟩
     refine B0 0 [.str _,Iq _] (_::_::_) ?_
     refine AOL.ghost (GS.freeze (t:=5) 0 rfl rfl) ?_
     refine Aa (AW.seq (AW.block (Ad (Qp (Qf [.str _,Iq _]) (Qp Df ?_)))))
     refine Qp (Qc rfl (c103 _ (hs.2.2 a hm))) ?_
     refine Qp Fz (Qp A3 (Aa (Au (fun hc4=>?_) fun hc4=>?_)))
     ·
      have hb4:(!Yf a.name)=true:=hc4
      refine Ad (Qp A0 (Aa (AW.ret (Ao (Ai (Ao (Ai (Ai (Ao ?_)))))))))
      refine Ai ?_
      refine ⟨.inr rfl,[Iq _],.cons (.tmp _ _ rfl) <| .nil,.cons _ (.refl _),?_⟩
      have he:F5 p.2 a=8:=by
       unfold F5;rw [if_pos hb4]
      rw [show Kc s=F5 p.2 a by unfold Kc;rw [if_neg (by simpa using hc1),if_neg (by simpa using hc2),hR.2,Bj ha,Mp (by rw [he];decide)],he];rfl
     ·
      have hb4:¬(!Yf a.name)=true:=by simpa using hc4
      refine Ad (Qp Br (Qp (Qf [.str _,Iq _]) (Qp Df ?_)))
      refine AOL.Aaq (Nf (i:=0) (ks:=p.2) tok rfl rfl rfl rfl rfl (by kernel_rfl) rfl rfl rfl) rfl rfl ?_
      refine Qp A3 (Aa (Au (fun hc5=>?_) fun hc5=>?_))
      ·
       have hb5:p.2.contains a.name=true:=hc5
       refine Ad (Qp A0 (Aa (AW.ret (Ao (Ai (Ao (Ai (Ai (Ao ?_)))))))))
       refine Ai ?_
       refine ⟨.inr rfl,[Iq _],.cons (.tmp _ _ rfl) <| .nil,.cons _ (.refl _),?_⟩
       have he:F5 p.2 a=7:=by
        unfold F5;rw [if_neg hb4,if_pos hb5]
       rw [show Kc s=F5 p.2 a by unfold Kc;rw [if_neg (by simpa using hc1),if_neg (by simpa using hc2),hR.2,Bj ha,Mp (by rw [he];decide)],he];rfl
      ·
       have hb5:¬p.2.contains a.name=true:=by simpa using hc5
       refine Ad (Qp (Qf [Iq _]) (Qp Bt (Qp B7 (Qp Bq (Qg [] Qw (Qf [Iq _]) (Qg [(37,_)] Qw Bt (Qg [(38,_)] Qw F6 (Qp Cy (Qp A3 ?_)))))))))
       refine Aa (Au (fun hc6=>?_) fun hc6=>?_)
       ·
        have hb6:=hc6
        refine Ad (Qp A0 (Aa (AW.ret (Ao (Ai (Ao (Ai (Ai (Ao ?_)))))))))
        refine Ai ?_
        refine ⟨.inr rfl,[Iq _],.cons (.tmp _ _ rfl) <| .nil,.cons _ (.refl _),?_⟩
        have he:F5 p.2 a=1:=by
         unfold F5;rw [if_neg hb4,if_neg hb5,if_pos hb6]
        rw [show Kc s=F5 p.2 a by unfold Kc;rw [if_neg (by simpa using hc1),if_neg (by simpa using hc2),hR.2,Bj ha,Mp (by rw [he];decide)],he];rfl
       ·
        have hb6:=Bool.eq_false_iff.mp hc6
        have he0:F5 p.2 a=0:=by unfold F5;rw [if_neg hb4,if_neg hb5,if_neg hb6]
        refine AW.skip (Bc (Af (AW.region (Qp Br (Qp (Qf [.str _,Iq _]) (Qp Df ?_))))))
        refine Qe (O5 (i:=0) (H2:=_::_) tok rfl rfl rfl rfl rfl rfl rfl rfl (by simpa using hb5) rfl) ?_
        rintro _ _ ⟨rfl,rfl⟩
        refine AOL.nil (Bc (Af (AW.region (Qp Ei (Qp A4 (Aa ?_))))))
        refine ⟨(p.1+1,p.2 ++ [a.name]),?_,?_,GS.weaken ⟨rfl,rfl,rfl,rfl,trivial⟩ (.refl _)⟩
        · exact ⟨hlt,by rw [hR.2,Bj ha,Zo he0]⟩
        · first | omega | (simp only;omega)
    ·
     have hd:=Hd hc3
     refine AW.exit ?_
     refine A7 (A7 (Bp (Af (Ad (Qp A0 (Aa (AW.ret ?_)))))))
     refine ⟨.inr rfl,[Iq _],.cons (.tmp _ _ rfl) <| .nil,.cons _ (.refl _),?_⟩
     rw [show Kc s=0 by unfold Kc;rw [if_neg (by simpa using hc1),if_neg (by simpa using hc2),hR.2,hd];rfl];rfl
theorem e8c57 (l:List e8Sc)(hl:l.length≤1048576)(hs:∀s∈l,rO s):Ap Tryz.prog 44 [.sl 2 (l.map G7)] (.int .i64 (F2 l)):=by
 refine Ap.body (n:=30) tok Tryz.func44 rfl rfl rfl fun H=>?_
 refine Ad (Qp A0 (Aa (AW.seq (Ad (Qp K4 ?_)))))
 refine Qp (Ax (n:=l.length) tok rfl rfl rfl (by simp)) ?_
 refine Qp D2 (Aa (Au (fun hc1=>?_) fun hc1=>?_))
 ·
  refine Ad (Qp A0 (Aa (Cx ?_)))
  refine Qr (Iq _) ?_
  rw [show F2 l=5 by unfold F2;rw [if_pos (by simpa using hc1)]];rfl
 ·
  refine Bl (Ad ?_)
  refine Qe (H4) ?_
  rintro _ _ ⟨b10,rfl,rfl⟩
  refine Qp N8 (Aa (AW.seq (Ad (Qp K4 ?_))))
  refine Qp (Ax (n:=l.length) tok rfl rfl rfl (by simp)) ?_
  refine Qp A4 (Aa (AW.block ?_))
  refine AW.Aat (fun (p:Nat×List (List UInt8))=>(⟨[(3,.val (.map (some b10))),(11,.sl 2 (l.map G7)),(12,.int .i64 l.length),(13,.int .i64 (p.1:Int))],.smap b10 (N3 p.2)::H,30⟩:St)) (fun (p:Nat×List (List UInt8))=>p.1≤l.length∧Jq [] l=Jq p.2 (l.drop p.1)) (fun (p:Nat×List (List UInt8))=>l.length-p.1) ((0,[])) ?_ (GS.weaken ⟨rfl,rfl,rfl,rfl,trivial⟩ (.refl _)) ?_
  · exact ⟨Nat.zero_le _,rfl⟩
  ·
   rintro p hR
   refine Ad (Qp B7 (Aa (AW.seq (Au (fun hc2=>?_) fun hc2=>?_))))
   ·
    obtain ⟨a,ha⟩:=Dl hc2
    have hlt:=Cm ha
    have hm:=List.mem_of_getElem? ha
    refine Bl (AW.seq (AW.block (Ad ?_)))
    refine Qp (Ag (c:=[.str _,_]) tok rfl rfl rfl rfl rfl rfl (by omega) (Ff ha)) ?_
    refine Qp (B2 [.str _,_]) ?_
    refine Qe (An (l:=[.str [],.sl 2 []]) (by kernel_rfl)) ?_
    rintro _ _ ⟨b5,rfl,rfl⟩
    refine B0 0 [.str _,_] (_::_::_) ?_
    refine AOL.ghost (GS.freeze (t:=5) 0 rfl rfl) ?_
    refine Aa (AW.seq (Ad (Qp (B2 [.str _,_]) ?_)))
    refine Qp (Qc rfl (c85 a (hs a hm))) ?_
    refine Qp A0 (By (Qp A4 (Qp B9 (Aa (Au (fun hc3=>?_) fun hc3=>?_)))))
    ·
     refine Ad (Qp A4 (Qp A0 (Aa (Cx (Ao (Ai (Ai (Ao (Ai ?_)))))))))
     refine ⟨.inr rfl,[Iq _],.cons (.tmp _ _ rfl) <| .nil,.cons _ (.refl _),?_⟩
     have he:Iu p.2 a=Kc a:=by unfold Iu;rw [if_pos hc3]
     rw [show F2 l=Iu p.2 a by unfold F2;rw [if_neg (by simpa using hc1),hR.2,Bj ha,Td (by rw [he];simpa using hc3)],he];rfl
    ·
     have hb3:=Bool.eq_false_iff.mp hc3
     refine Bl (AW.seq (Ad (Qp Br (Qp (Qf [.str _,_]) (Qp Df ?_)))))
     refine AOL.Aaq (Nf (i:=0) (ks:=p.2) tok rfl rfl rfl rfl rfl (by kernel_rfl) rfl rfl rfl) rfl rfl ?_
     refine Aa (Au (fun hc4=>?_) fun hc4=>?_)
     ·
      have hb4:p.2.contains a.name=true:=hc4
      refine Ad (Qp A0 (Aa (Cx (Ao (Ai (Ai (Ao (Ai ?_))))))))
      refine ⟨.inr rfl,[Iq _],.cons (.tmp _ _ rfl) <| .nil,.cons _ (.refl _),?_⟩
      have he:Iu p.2 a=7:=by unfold Iu;rw [if_neg hb3,if_pos hb4]
      rw [show F2 l=Iu p.2 a by unfold F2;rw [if_neg (by simpa using hc1),hR.2,Bj ha,Td (by rw [he];decide)],he];rfl
     ·
      have hb4:¬p.2.contains a.name=true:=by simpa using hc4
      have he0:Iu p.2 a=0:=by unfold Iu;rw [if_neg hb3,if_neg hb4]
      refine Bl (AW.region (Qp Br (Qp (Qf [.str _,_]) (Qp Df ?_))))
      refine Qe (O5 (i:=0) (H2:=_::_) tok rfl rfl rfl rfl rfl rfl rfl rfl (by simpa using hb4) rfl) ?_
      rintro _ _ ⟨rfl,rfl⟩
      refine AOL.nil (Bc (Af (AW.region (Qp Ei (Qp A4 (Aa ?_))))))
      refine ⟨(p.1+1,p.2 ++ [a.name]),?_,?_,GS.weaken ⟨rfl,rfl,rfl,rfl,trivial⟩ (.refl _)⟩
      · exact ⟨hlt,by rw [hR.2,Bj ha,dH he0]⟩
      · first | omega | (simp only;omega)
   ·
    have hd:=Hd hc2
    refine AW.exit ?_
    refine A7 (A7 (Bp (Af (Ad (Qp A0 (Aa (AW.ret ?_)))))))
    refine ⟨.inr rfl,[Iq _],.cons (.tmp _ _ rfl) <| .nil,.cons _ (.refl _),?_⟩
    rw [show F2 l=0 by unfold F2;rw [if_neg (by simpa using hc1),hR.2,hd];rfl];rfl
set_option maxHeartbeats 1600000
set_option maxRecDepth 20000

theorem Sa {a b:Ex}(h:Jf a b=false):a.args.length=b.args.length:=by
 simp [Jf] at h;omega

def badS (l:List Ev):Bool:=decide (12<(l.length:Int))||l.any fun v=>decide (10<(v.values.length:Int))
def fewEnvS (vars:List (List Ev)):Bool:=!((vars.take 20).any badS)&&decide ((vars.length:Int)≤20)
def fewE (e:Ex):Bool:=decide (Cq e≤200∧E1 e≤100)
theorem vR (a b:Ex)(hs:Cq a≤1048576):Ap Tryz.prog 42 [.agg (cE a),.agg (cE b)] (.bool (E2 a b)):=by
 revert b hs
 induction a using Ex.ind
 rename_i a ih
 intro b hs
 have hal:=fO a hs
 refine Ap.body (n:=67) tok Tryz.func42 rfl rfl rfl fun H=>?_
 refine Ad (Qp tR (Qp tR (Qp A3 (Aa (AW.seq (Ad (Qp gC (Qp Bt (Qp gC ?_)))))))))
 refine Qp Bt (Qp B9 (Qp Bq (Qg [] Qw wH (Qg [(12,_)] Qw Bt (Qg [] Qw wH (Qg [(14,_)] Qw Bt ?_))))))
 refine AOL.Aap (y:=.bool _) _ [(13,_),(15,_)] rfl (iB.all ⟨Ent.Aao _ _,Ent.Aao _ _,trivial⟩) (fun hG=>L6 rfl rfl) rfl ?_
 refine Qp Cy (Qp Bq (Qg [] Qw wB (Qg [(19,_)] Qw Bt (Qg [] Qw wB (Qg [(21,_)] Qw Bt ?_)))))
 refine AOL.Aap (y:=.bool _) _ [(20,_),(22,_)] rfl (iB.all ⟨Ent.Aao _ _,Ent.Aao _ _,trivial⟩) (fun hG=>L6 rfl rfl) rfl ?_
 refine Qp Cy (Qp Bq (Qg [] Qw pO (Qg [(26,_)] Qw Bt (Qg [] Qw pO (Qg [(28,_)] Qw Bt ?_)))))
 refine AOL.Aap (y:=.bool _) _ [(27,_),(29,_)] rfl (iB.all ⟨Ent.Aao _ _,Ent.Aao _ _,trivial⟩) (fun hG=>L6 rfl rfl) rfl ?_
 refine Qp Cy (Qp Bq (Qg [] Qw gQ (Qg [(33,_)] Qw (B2 [Iq _,Iq _,.str _]) (Qg [] Qw gQ (Qg [(35,_)] Qw (B2 [Iq _,Iq _,.str _]) ?_)))))
 refine AOL.Aap (y:=.bool _) _ [(34,_),(36,_)] rfl (iB.all ⟨Ent.Aao _ _,Ent.Aao _ _,trivial⟩) (fun hG=>H5 tok rfl rfl rfl rfl rfl) rfl ?_
 refine Qp Cy (Qp Bq (Qg [] Qw iE (Qg [(40,_)] Qw Dg ?_)))
 refine AOL.Aap (y:=Iq _) _ [(41,_)] rfl (iB.all ⟨Ent.Aao _ _,trivial⟩) (fun hG=>Ax (n:=a.args.length) tok rfl rfl rfl (by simp)) rfl ?_
 refine Qg [] Qw iE (Qg [(43,_)] Qw Dg ?_)
 refine AOL.Aap (y:=Iq _) _ [(44,_)] rfl (iB.all ⟨Ent.Aao _ _,trivial⟩) (fun hG=>Ax (n:=b.args.length) tok rfl rfl rfl (by simp)) rfl ?_
 refine AOL.Aap (y:=.bool _) _ [(42,_),(45,_)] rfl (iB.all ⟨Ent.Aao _ _,Ent.Aao _ _,trivial⟩) (fun hG=>L6 rfl rfl) rfl ?_
 refine Qp Cy (Aa (Au (fun hc1=>?_) fun hc1=>?_))
 ·
  have hh:Jf a b=true:=by simpa [Jf] using hc1
  refine Ad (Qp A3 (Aa (Cx ?_)))
  refine Qr (.bool _) ?_
  rw [Jn,if_pos hh];rfl
 ·
  have hh:Jf a b=false:=by simpa [Jf] using hc1
  have hlen:=Sa hh
  refine Bl (AW.seq (Ad (Qp A0 (Aa (AW.block ?_)))))
  refine AW.Aat (fun (p:Nat)=>(⟨[(2,.ptr (cE a)),(3,.ptr (cE b)),(5,.int .i64 (p:Int))],H,67⟩:St)) (fun (p:Nat)=>p≤a.args.length∧Lq a.args b.args=Lq (a.args.drop p) (b.args.drop p)) (fun (p:Nat)=>a.args.length-p) (0) ?_ (GS.weaken ⟨rfl,rfl,rfl,trivial⟩ (.refl _)) ?_
  · exact ⟨Nat.zero_le _,rfl⟩
  ·
   rintro p hR
   refine AW.seq (Ad (Qp A4 (Qp iE (Qp Dg ?_))))
   refine Qp (Ax (n:=a.args.length) tok rfl rfl rfl (by simp)) ?_
   refine Qp B7 (Aa (Au (fun hc2=>?_) fun hc2=>?_))
   ·
    obtain ⟨x,hx⟩:=Dl hc2
    have hlt:=Cm hx
    have hm:=List.mem_of_getElem? hx
    obtain ⟨y,hy⟩:∃y,b.args[p]? = some y:=⟨_,List.getElem?_eq_getElem (by omega)⟩
    refine Bl (AW.seq (AW.block (AW.seq ?_)))
    refine AW.draw mixed (fun _=>True) trivial (by kernel_rfl) ?_
    refine Qn 0 rfl iE (Qn 1 rfl Dg (Qn 2 rfl A4 ?_))
    refine Qn 3 rfl (Ag (c:=[Iq _,_,Iq _,Iq _,Iq _,Iq _,Iq _,.str _]) tok rfl rfl rfl rfl rfl rfl (by omega) (Nh hx)) ?_
    refine Qn 4 rfl Wf (Qn 5 rfl iE (Qn 6 rfl Dg (Qn 7 rfl A4 ?_)))
    refine Qn 8 rfl (Ag (c:=[Iq _,_,Iq _,Iq _,Iq _,Iq _,Iq _,.str _]) tok rfl rfl rfl rfl rfl rfl (by omega) (Nh hy)) ?_
    refine Qn 9 rfl Wf ?_
    refine Qn 10 rfl (Qc rfl (ih x hm y (by have:=Oy hm;omega))) ?_
    refine Qn 11 rfl Fz ?_
    refine Hs.done _ _ (by kernel_rfl) ?_
    refine Af (Au (fun hc3=>?_) fun hc3=>?_)
    ·
     refine Ad (Qp A3 (Aa (AW.ret (Ao (Ai (Ai (Ao (Ai ?_))))))))
     refine Qr (.bool _) ?_
     rw [Jn,if_neg (by simp [hh]),hR.2,Bj hx,Bj hy];show _=AV.bool (if (!E2 x y)=true then false else _);rw [if_pos hc3];rfl
    ·
     refine AW.skip (Bc (Af (AW.region (Qp A4 (Qp Ei (Qp A0 (Aa ?_)))))))
     refine ⟨p+1,?_,?_,GS.weaken ⟨rfl,rfl,rfl,trivial⟩ (.refl _)⟩
     · exact ⟨hlt,by rw [hR.2,Bj hx,Bj hy,Lq];simp [hc3]⟩
     · omega
   ·
    have hd:=Hd hc2
    refine AW.exit ?_
    refine A7 (A7 (Bp (Af (Ad (Qp A3 (Aa (AW.ret ?_)))))))
    refine Qr (.bool _) ?_
    rw [Jn,if_neg (by simp [hh]),hR.2,hd];rfl

set_option maxHeartbeats 1600000
set_option maxRecDepth 20000

def cTo (to:List Int):List (List AV):=to.map fun k=>[AV.int .i64 k]
def QR (to:List Int)(e:Ex):Prop:=lI e=0∧Gp (Xi to) e=0
theorem wX (a b:Ex)(hs:Cq a≤1048576):Ap Tryz.prog 194 [.agg (cE a),.agg (cE b)] (.bool (E2 a b)):=by
 revert b hs
 induction a using Ex.ind
 rename_i a ih
 intro b hs
 have hal:=fO a hs
 refine Ap.body (n:=67) tok Tryz.func194 rfl rfl rfl fun H=>?_
 refine Ad (Qp tR (Qp tR (Qp A3 (Aa (AW.seq (Ad (Qp gC (Qp Bt (Qp gC ?_)))))))))
 refine Qp Bt (Qp B9 (Qp Bq (Qg [] Qw wH (Qg [(12,_)] Qw Bt (Qg [] Qw wH (Qg [(14,_)] Qw Bt ?_))))))
 refine AOL.Aap (y:=.bool _) _ [(13,_),(15,_)] rfl (iB.all ⟨Ent.Aao _ _,Ent.Aao _ _,trivial⟩) (fun hG=>L6 rfl rfl) rfl ?_
 refine Qp Cy (Qp Bq (Qg [] Qw wB (Qg [(19,_)] Qw Bt (Qg [] Qw wB (Qg [(21,_)] Qw Bt ?_)))))
 refine AOL.Aap (y:=.bool _) _ [(20,_),(22,_)] rfl (iB.all ⟨Ent.Aao _ _,Ent.Aao _ _,trivial⟩) (fun hG=>L6 rfl rfl) rfl ?_
 refine Qp Cy (Qp Bq (Qg [] Qw pO (Qg [(26,_)] Qw Bt (Qg [] Qw pO (Qg [(28,_)] Qw Bt ?_)))))
 refine AOL.Aap (y:=.bool _) _ [(27,_),(29,_)] rfl (iB.all ⟨Ent.Aao _ _,Ent.Aao _ _,trivial⟩) (fun hG=>L6 rfl rfl) rfl ?_
 refine Qp Cy (Qp Bq (Qg [] Qw gQ (Qg [(33,_)] Qw (B2 [Iq _,Iq _,.str _]) (Qg [] Qw gQ (Qg [(35,_)] Qw (B2 [Iq _,Iq _,.str _]) ?_)))))
 refine AOL.Aap (y:=.bool _) _ [(34,_),(36,_)] rfl (iB.all ⟨Ent.Aao _ _,Ent.Aao _ _,trivial⟩) (fun hG=>H5 tok rfl rfl rfl rfl rfl) rfl ?_
 refine Qp Cy (Qp Bq (Qg [] Qw iE (Qg [(40,_)] Qw Dg ?_)))
 refine AOL.Aap (y:=Iq _) _ [(41,_)] rfl (iB.all ⟨Ent.Aao _ _,trivial⟩) (fun hG=>Ax (n:=a.args.length) tok rfl rfl rfl (by simp)) rfl ?_
 refine Qg [] Qw iE (Qg [(43,_)] Qw Dg ?_)
 refine AOL.Aap (y:=Iq _) _ [(44,_)] rfl (iB.all ⟨Ent.Aao _ _,trivial⟩) (fun hG=>Ax (n:=b.args.length) tok rfl rfl rfl (by simp)) rfl ?_
 refine AOL.Aap (y:=.bool _) _ [(42,_),(45,_)] rfl (iB.all ⟨Ent.Aao _ _,Ent.Aao _ _,trivial⟩) (fun hG=>L6 rfl rfl) rfl ?_
 refine Qp Cy (Aa (Au (fun hc1=>?_) fun hc1=>?_))
 ·
  have hh:Jf a b=true:=by simpa [Jf] using hc1
  refine Ad (Qp A3 (Aa (Cx ?_)))
  refine Qr (.bool _) ?_
  rw [Jn,if_pos hh];rfl
 ·
  have hh:Jf a b=false:=by simpa [Jf] using hc1
  have hlen:=Sa hh
  refine Bl (AW.seq (Ad (Qp iE (Qp Dg ?_))))
  refine Qp (Ax (n:=a.args.length) tok rfl rfl rfl (by simp)) ?_
  refine Qp A4 (Aa (AW.block ?_))
  refine AW.Aat (fun (p:Nat)=>(⟨[(2,.ptr (cE a)),(3,.ptr (cE b)),(50,.int .i64 a.args.length),(51,.int .i64 (p:Int))],H,67⟩:St)) (fun (p:Nat)=>p≤a.args.length∧Lq a.args b.args=Lq (a.args.drop p) (b.args.drop p)) (fun (p:Nat)=>a.args.length-p) (0) ?_ (GS.weaken ⟨rfl,rfl,rfl,rfl,trivial⟩ (.refl _)) ?_
  · exact ⟨Nat.zero_le _,rfl⟩
  ·
   rintro p hR
   refine Ad (Qp B7 (Aa (AW.seq (Au (fun hc2=>?_) fun hc2=>?_))))
   ·
    obtain ⟨x,hx⟩:=Dl hc2
    have hlt:=Cm hx
    have hm:=List.mem_of_getElem? hx
    obtain ⟨y,hy⟩:∃y,b.args[p]? = some y:=⟨_,List.getElem?_eq_getElem (by omega)⟩
    refine Bl (AW.seq (AW.block (Ad (Qp A4 (Qp A0 (Aa (AW.seq ?_)))))))
    refine AW.draw mixed (fun _=>True) trivial (by kernel_rfl) ?_
    refine Qn 0 rfl iE (Qn 1 rfl Dg (Qn 2 rfl A4 ?_))
    refine Qn 3 rfl (Ag (c:=[Iq _,_,Iq _,Iq _,Iq _,Iq _,Iq _,.str _]) tok rfl rfl rfl rfl rfl rfl (by omega) (Nh hx)) ?_
    refine Qn 4 rfl Wf (Qn 5 rfl iE (Qn 6 rfl Dg (Qn 7 rfl A4 ?_)))
    refine Qn 8 rfl (Ag (c:=[Iq _,_,Iq _,Iq _,Iq _,Iq _,Iq _,.str _]) tok rfl rfl rfl rfl rfl rfl (by omega) (Nh hy)) ?_
    refine Qn 9 rfl Wf ?_
    refine Qn 10 rfl (Qc rfl (ih x hm y (by have:=Oy hm;omega))) ?_
    refine Qn 11 rfl Fz ?_
    refine Hs.done _ _ (by kernel_rfl) ?_
    refine Af (Au (fun hc3=>?_) fun hc3=>?_)
    ·
     refine Ad (Qp A3 (Aa (AW.ret (Ao (Ai (Ai (Ao (Ai ?_))))))))
     refine Qr (.bool _) ?_
     rw [Jn,if_neg (by simp [hh]),hR.2,Bj hx,Bj hy];show _=AV.bool (if (!E2 x y)=true then false else _);rw [if_pos hc3];rfl
    ·
     refine AW.skip (Bc (Af (AW.region (Qp Ei (Qp A4 (Aa ?_))))))
     refine ⟨p+1,?_,?_,GS.weaken ⟨rfl,rfl,rfl,rfl,trivial⟩ (.refl _)⟩
     · exact ⟨hlt,by rw [hR.2,Bj hx,Bj hy,Lq];simp [hc3]⟩
     · omega
   ·
    have hd:=Hd hc2
    refine AW.exit ?_
    refine A7 (A7 (Bp (Af (Ad (Qp A3 (Aa (AW.ret ?_)))))))
    refine Qr (.bool _) ?_
    rw [Jn,if_neg (by simp [hh]),hR.2,hd];rfl

end Go.Proofs.YtckhoadldibflaaGreatDoor
