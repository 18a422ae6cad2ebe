/-
  Several texts in one: Z3, Y18, Aub, Z4, Z5, Z6, At, Z7, Auc. No condition.
-/
import Derived.Test.YtjedflcpjlgokaaGreatDoorAz
import Derived.Test.YtjedflcpjlgokaaGreatDoorK39
import Derived.KernelRfl
import Derived.Test.YtjedflcpjlgokaaGreatDoorK26
import Derived.Test.YtjedflcpjlgokaaGreatDoorK27
import Derived.Test.YtjedflcpjlgokaaGreatDoorK37
import Derived.Test.YtjedflcpjlgokaaGreatDoorK14
set_option linter.unusedVariables false
set_option linter.unusedSimpArgs false
namespace Go.Proofs.YtjedflcpjlgokaaGreatDoor
open Go Go.Aw
set_option maxHeartbeats 3200000
set_option maxRecDepth 20000

theorem pl_at {k:Nat}(h:k<3):([[.int .i64 2],[.int .i64 2],[.int .i64 1]]:List (List AV))[((k:Nat):Int).toNat]? = some [.int .i64 (plW k)]:=by
 have:k=0∨k=1∨k=2:=by omega
 rcases this with rfl | rfl | rfl <;> rfl
theorem Aag (T:List Sc)(hl:T.length≤1048576)(hst:∀s∈T,Ig s)(V:List Va)(hvl:V.length≤1048576)(a b:Ex)(ha:Ar a≤1048576)(hb:Ar b≤1048576) :
  Ax Tryz.prog 10 [.sl 2 (T.map Ob),.sl 2 (V.map S4),.sl 8 [cE a,cE b]] (.tuple [.int .i64 (Eb T V [a,b]).1,.sl 5 ((Eb T V [a,b]).2.1.map Lo),.int .i64 (Eb T V [a,b]).2.2]):=by
 have h:=jQ T hl hst V hvl [a,b] (show 2≤60 by decide) (fun e he=>by
  rcases List.mem_cons.1 he with rfl | he
  · exact ha
  · rw [List.mem_singleton.1 he];exact hb)
 rw [show [a,b].map G8 = [cE a,cE b] by simp only [List.map_cons,List.map_nil,Lr]] at h
 exact h
theorem tQ  : Ax Tryz.prog 6 [] (.bool true):=by
 refine Ax.body (n:=41) Ah Tryz.func6 rfl rfl rfl fun H=>?_
 refine Ai (Qp Bl (Dm (Qp (Fz [.str _,Iq _]) ?_)))
 refine Qp (A1 (es:=[[.str _,Iq _]]) Ah rfl rfl rfl rfl rfl rfl rfl rfl rfl) ?_
 refine Qp (Fz [.str _,_]) ?_
 refine Qp (A1 (es:=[[.str _,_]]) Ah rfl rfl rfl rfl rfl rfl rfl rfl rfl) ?_
 refine Qp Sr (Dm (Qp (Fz [.str _,Iq _]) (Qp (Fz [.str _,Iq _]) ?_)))
 refine Qp (A1 (es:=[[.str _,Iq _],[.str _,Iq _]]) Ah rfl rfl rfl rfl rfl rfl rfl rfl rfl) ?_
 refine Qp Sr (Ag (AW.seq (Ai ?_)))
 refine Qp (A1 (es:=[[Iq _],[Iq _],[Iq _]]) Ah rfl rfl rfl rfl rfl rfl rfl rfl rfl) ?_
 refine Qp (Al (n:=3) Ah rfl rfl rfl (rfl)) ?_
 refine Qp Az (Ag (AW.block ?_))
 refine AW.Aao (fun (k:Nat)=>(⟨[(1,.sl 2 (plT.map Ob)),(2,.sl 2 (plV.map S4)),(15,.sl 1 [[.int .i64 2],[.int .i64 2],[.int .i64 1]]),(16,.int .i64 3),(17,.int .i64 (k:Int))],H,41⟩:St)) (fun (k:Nat)=>k≤3) (fun (k:Nat)=>3-k) (0) ?_ (GS.weaken ⟨rfl,rfl,rfl,rfl,rfl,trivial⟩ (.refl _)) ?_
 · exact Nat.zero_le _
 ·
  rintro k hR
  refine Ai (Qp Ch (Ag (AW.seq (A6 (fun hc1=>?_) fun hc1=>?_))))
  ·
   have hk3:k<3:=by have:=of_decide_eq_true hc1;omega
   have hpl:=pl_k hk3
   refine By (AW.seq (AW.block (Ai (Qp Az ?_))))
   refine Qp (Af (c:=[Iq _]) Ah rfl rfl rfl rfl rfl rfl (by omega) (pl_at hk3)) ?_
   refine Qp Bp (Qp Ap (Qp Ap (Dm (Qp Dx (Qp Dx ?_)))))
   refine Qp (Qc rfl (mX _ _ _ _)) ?_
   refine Qp Az ?_
   refine Qp (Qc rfl (mX _ _ _ _)) ?_
   refine Qp (A1 (es:=[[Iq _,_,Iq _,Iq _,Iq _,Iq _,Iq _,.str _],[Iq _,_,Iq _,Iq _,Iq _,Iq _,Iq _,.str _]]) Ah rfl rfl rfl rfl rfl rfl rfl rfl rfl) ?_
   refine Qp (Qc rfl (Aag plT (by decide) pl_sc plV (by decide) (R1 7 0 1 0) (R1 7 1 0 (k:Int)) (mS ..) (mS ..))) ?_
   refine Qp N6 (Qp Ke (Qp vY (Qp Ke (Qp Ap (Qp Sr (Qp Ap (Dm (Qp Az (Qp Cr ?_)))))))))
   refine Qp B0 (Qg [] Qw Az (Qg [] Qw Az ?_))
   refine AOL.Aar (y:=.bool _) _ [(36,_),(37,_)] rfl (nC.all ⟨Ent.Aam _ _,Ent.Aam _ _,trivial⟩) (fun hG=>P7 rfl rfl) rfl ?_
   refine Qp E1 (Ag (A6 (fun hc2=>?_) fun hc2=>?_))
   ·
    exact absurd hc2 (by rw [hpl.1,hpl.2];simp)
   ·
    refine AW.skip (Bu (Ad (AW.region (Qp Ey (Qp Az (Ag ?_))))))
    refine ⟨k+1,?_,?_,GS.weaken ⟨rfl,rfl,rfl,rfl,rfl,trivial⟩ (.refl _)⟩
    · exact hk3
    · omega
  ·
   refine AW.exit ?_
   refine A5 (A5 (Bq (Ad (Ai (Qp Bl (Ag (AW.ret ?_)))))))
   refine Qr (.bool _) ?_
   rfl
theorem X6 (T:List Sc)(hl:T.length≤1048576)(hst:∀s∈T,Ig s)(V:List Va)(hvl:V.length≤1048576)(c:List Lit)(hcl:c.length≤1048576)(hcs:∀y∈c,Ar y.cond≤1048576):Ax Tryz.prog 11 [.agg (Cf T V),.sl 9 (c.map F0)] (.bool (c.any (Qt T V))):=by
 refine Ax.body (n:=46) Ah Tryz.func11 rfl rfl rfl fun H=>?_
 refine Ai (Qp (Gd [_,_]) (Qp Bl (Ag (AW.seq (Ai (Qp Dx ?_))))))
 refine Qp (Al (n:=c.length) Ah rfl rfl rfl (by simp)) ?_
 refine Qp Az (Ag (AW.block ?_))
 refine AW.Aao (fun (k:Nat)=>(⟨[(1,.sl 9 (c.map F0)),(2,.ptr (Cf T V)),(9,.sl 9 (c.map F0)),(10,.int .i64 c.length),(11,.int .i64 (k:Int))],H,46⟩:St)) (fun (k:Nat)=>k≤c.length∧(c.take k).any (Qt T V)=false) (fun (k:Nat)=>c.length-k) (0) ?_ (GS.weaken ⟨rfl,rfl,rfl,rfl,rfl,trivial⟩ (.refl _)) ?_
 · exact ⟨Nat.zero_le _,by simp⟩
 ·
  rintro k hR
  refine Ai (Qp Ch (Ag (AW.seq (A6 (fun hc1=>?_) fun hc1=>?_))))
  ·
   obtain ⟨y,hy⟩:=B5 hc1
   have hlt:=A4 hy
   have hsy:=hcs y (List.mem_of_getElem? hy)
   refine By (AW.seq (AW.block (Ai ?_)))
   refine Qp (Af (c:=[Iq _,_,Iq _,Iq _,Iq _,Iq _,Iq _,.str _,.bool _]) Ah rfl rfl rfl rfl rfl rfl (by omega) (Bi hy)) ?_
   refine Qp (Cq [Iq _,_,Iq _,Iq _,Iq _,Iq _,Iq _,.str _,.bool _]) ?_
   refine Qe (Ak (l:=[.int .i64 0,.sl 8 [],.int .i64 0,.int .i64 0,.int .i64 0,.int .i64 0,.int .i64 0,.str [],.bool false]) (by kernel_rfl)) ?_
   rintro _ _ ⟨b6,rfl,rfl⟩
   refine Cv 0 [Iq _,_,Iq _,Iq _,Iq _,Iq _,Iq _,.str _,.bool _] (_::_) ?_
   refine AOL.ghost (GS.Aan (t:=6) 0 rfl rfl) ?_
   refine Ag (AW.seq (Ai (Qp (Qf [Iq _,_,Iq _,Iq _,Iq _,Iq _,Iq _,.str _,.bool _]) (Qp (Qf [Iq _,_,Iq _,Iq _,Iq _,Iq _,Iq _,.str _,.bool _]) (Qp Bp (Qp Cr (Qp B0 (Qg [] Qw (Qf [Iq _,_,Iq _,Iq _,Iq _,Iq _,Iq _,.str _,.bool _]) (Qg [(20,_)] Qw (Qf [_,Iq _,Iq _,Iq _,Iq _,Iq _,.str _,.bool _]) ?_)))))))))
   refine Qg [(21,_)] Qw Dy ?_
   refine AOL.Aar (y:=Iq _) _ [(22,_)] rfl (nC.all ⟨Ent.Aam _ _,trivial⟩) (fun hG=>Al (n:=y.cond.args.length) Ah rfl rfl rfl (by simp)) rfl ?_
   refine Qg [(23,_)] Qw A9 (Qp E1 (Ag (A6 (fun hc2=>?_) fun hc2=>?_)))
   ·
    refine AW.exit ?_
    refine A5 (Bq (Ad (AW.region (Qp Ey (Qp Az (Ag ?_))))))
    refine ⟨k+1,?_,?_,GS.weaken ⟨rfl,rfl,rfl,rfl,rfl,trivial⟩ (.refl _)⟩
    · exact ⟨hlt,Ou hR.2 hy (xF hc2)⟩
    · omega
   ·
    have h00:=Aaf hc2
    refine By (AW.seq ?_)
    refine AW.draw mixed (fun _=>True) trivial (by kernel_rfl) ?_
    refine Qn 0 rfl (Qf [_,_]) (Qn 1 rfl Dy (Qn 2 rfl (Qf [_]) (Qn 3 rfl Dy (Qn 4 rfl (Qf [Iq _,_,Iq _,Iq _,Iq _,Iq _,Iq _,.str _,.bool _]) (Qn 5 rfl (Qf [_,Iq _,Iq _,Iq _,Iq _,Iq _,.str _,.bool _]) (Qn 6 rfl Dy ?_))))))
    refine Qn 7 rfl (Af (c:=[Iq _,_,Iq _,Iq _,Iq _,Iq _,Iq _,.str _]) Ah rfl rfl rfl rfl rfl rfl (by decide) (E4 h00)) ?_
    refine Qn 8 rfl El ?_
    refine Qn 9 rfl (Qc rfl (c31 T hl hst V hvl (Av y.cond) (Nat.le_trans (Nat.le_of_lt (Fe (A0 h00))) hsy))) ?_
    refine Qn 10 rfl N6 (Qn 11 rfl Ke (Qn 12 rfl Ke (Qn 13 rfl Ap (Qn 14 rfl Ap ?_))))
    refine Jn.done _ _ (by kernel_rfl) ?_
    refine Ad (Ai (Qp Az (Qp Cr (Qp B0 (Qg [] Qw Az (Qg [(42,_)] Qw A9 (Qp E1 (Ag (A6 (fun hc3=>?_) fun hc3=>?_)))))))))
    ·
     refine Ai (Qp Bl (Ag (AW.ret (Bb (Aj (Aj (Bb (Aj ?_))))))))
     refine Qr (.bool _) ?_
     exact Eq.trans rfl (congrArg (fun q:Bool=>AV.bool q) (U6 hy (xJ hc2 hc3))).symm
    ·
     refine AW.skip (Bu (Ad (AW.region (Qp Ey (Qp Az (Ag ?_))))))
     refine ⟨k+1,?_,?_,GS.weaken ⟨rfl,rfl,rfl,rfl,rfl,trivial⟩ (.refl _)⟩
     · exact ⟨hlt,Ou hR.2 hy (zU hc2 hc3)⟩
     · omega
  ·
   have hte:=Cu hc1
   have hall:=hR.2
   rw [hte] at hall
   refine AW.exit ?_
   refine A5 (A5 (Bq (Ad (Ai (Qp Bl (Ag (AW.ret ?_)))))))
   refine Qr (.bool _) ?_
   exact Eq.trans rfl (congrArg (fun q:Bool=>AV.bool q) (hall)).symm

set_option maxHeartbeats 1600000
set_option maxRecDepth 20000

theorem r_Bind (l:List Ev)(hel:l.length≤1048576):Ax Tryz.prog 19 [.sl 5 (l.map Lo)] (.agg (cEnv (Gq l))):=by
 refine Ax.body (n:=22) Ah Tryz.func19 rfl rfl rfl fun H=>?_
 refine Ai ?_
 refine Qe (Ak (l:=[.sl 1 []]) (by kernel_rfl)) ?_
 rintro _ _ ⟨b2,rfl,rfl⟩
 refine Dm ?_
 refine Qe (Ak (l:=[.val (.slice none 0 0)]) (by kernel_rfl)) ?_
 rintro _ _ ⟨b3,rfl,rfl⟩
 refine AOL.ghost (GS.cellRow 0 0 39 1 rfl rfl rfl rfl) ?_
 refine Ag (AW.seq (Ai (Qp Ap (Ag (AW.block ?_)))))
 refine AW.Aao (fun (p:Nat×List (List AV)×Value)=>(⟨[(0,.sl 5 (l.map Lo)),(2,.val (.pointer (some ⟨b2,0,none⟩))),(3,.val (.pointer (some ⟨b3,0,none⟩))),(4,.int .i64 (p.1:Int))],.row p.2.2 p.2.1.length 39 1 :: .box b3 62 [.row p.2.2 1 p.2.1] :: .box b2 62 [.sl 1 []]::H,22⟩:St)) (fun (p:Nat×List (List AV)×Value)=>p.1≤l.length∧p.2.1=((l.take p.1).map fun e=>[e]).map rF) (fun (p:Nat×List (List AV)×Value)=>l.length-p.1) ((0,[],.slice none 0 0)) ?_ (GS.weaken ⟨rfl,rfl,rfl,rfl,trivial⟩ (.refl _)) ?_
 · exact ⟨Nat.zero_le _,rfl⟩
 ·
  rintro p hR
  refine AW.seq (Ai (Qp Az (Qp Dx ?_)))
  refine Qp (Al (n:=l.length) Ah rfl rfl rfl (by simp)) ?_
  refine Qp Ch (Ag (A6 (fun hc1=>?_) fun hc1=>?_))
  ·
   obtain ⟨a,ha⟩:=B5 hc1
   have hlt:=A4 ha
   have hm:=List.mem_of_getElem? ha
   have hsc:∀c∈p.2.1,Be c=true:=by rw [hR.2];exact Ed fun _=>rfl
   refine By (AW.seq (AW.block ?_))
   refine AW.draw mixed (fun H'=>_∈H') (List.mem_of_getElem? (i:=1) rfl) (by kernel_rfl) ?_
   refine Qn 0 rfl Gc ?_
   refine Qn 1 rfl (OpP.Aaq (fun k=>Am (k:=k) (c:=.row _ _ _) Ah rfl rfl rfl rfl) (fun _ h=>h)) ?_
   refine Qn 2 rfl Dx (Qn 3 rfl Az ?_)
   refine Qn 4 rfl (Af (c:=[Iq _,Iq _,Iq _,Iq _,_]) Ah rfl rfl rfl rfl rfl rfl (by omega) (Bi ha)) ?_
   refine Qn 5 rfl (Cq [Iq _,Iq _,Iq _,Iq _,_]) ?_
   refine Qn 6 rfl (A1 (es:=[[Iq _,Iq _,Iq _,Iq _,_]]) Ah rfl rfl rfl rfl rfl rfl rfl rfl rfl) ?_
   refine Qn 7 rfl (A1 (es:=[[_]]) Ah rfl rfl rfl rfl rfl rfl rfl rfl rfl) ?_
   refine Jn.eff _ _ 8 _ _ rfl (by kernel_rfl) rfl rfl (C3 (k:=0) Ah rfl rfl rfl rfl rfl rfl rfl rfl (Ff rfl) (hsc) (by simp [hR.2];omega) (by simp [hR.2,maxLen];omega)) (by rintro _ _ ⟨v19,rfl,rfl⟩;simp) ?_
   rintro _ _ ⟨v19,rfl,rfl⟩
   refine Qn 9 rfl Gc ?_
   refine Jn.last _ _ 10 _ _ rfl (by kernel_rfl) rfl rfl (B2 (k:=1) (v:=.row _ _ _) (cs':=[_]) (H2:=_::_::_::_) Ah rfl rfl rfl rfl (rfl) rfl rfl rfl rfl) (by kernel_rfl) ?_
   rintro _ _ ⟨rfl,rfl⟩
   refine Bu (Ad (AW.region (Qp Az (Qp Ey (Qp Ap (Ag ?_))))))
   refine ⟨(p.1+1,p.2.1 ++ [rF [a]],v19),?_,?_,GS.weaken ⟨rfl,rfl,rfl,rfl,trivial⟩ (.refl _)⟩
   · exact ⟨hlt,by simp only;rw [C4 ha,hR.2];simp⟩
   · simp only;omega
  ·
   have hte:=Cu hc1
   obtain ⟨k,es,rv⟩:=p
   simp only at hR hte
   obtain rfl:es=(Gq l).map rF:=by rw [hR.2,hte];rfl
   refine AW.exit ?_
   refine A5 (A5 (Bq (Ad (Ai ?_))))
   refine AOL.ghost (GS.cell 1 0 rfl rfl rfl rfl Ej) ?_
   refine AOL.Aas (A7 (k:=1) (l:=[_]) Ah rfl rfl rfl rfl rfl) rfl rfl ?_
   refine Cv 2 [_] (_::_::_::_) ?_
   refine Ag (AW.ret ?_)
   refine ⟨.inr rfl,[.agg [_]],.cons (.box _ _ _ 2 _ _ _ _ rfl rfl rfl rfl rfl rfl) <| .nil,.cons _ (.cons _ (.cons _ (.refl _))),?_⟩
   rfl

end Go.Proofs.YtjedflcpjlgokaaGreatDoor

namespace Go.Aw
open Go

section
variable {P:Program} {T:List (Nat×TD)} {d:Option Nat} {ty:TypeId} {pos:String} {aft:Array Edge} {gd:Option (Nat×Bool)} {ρ:Operand→AV} {K:List HO→Prop}
end
end Go.Aw

namespace Go.Proofs.YtjedflcpjlgokaaGreatDoor
open Go Go.Aw

theorem zI {a:Ex}(ha:Ar a≤1048576):∀e∈[a],Ar e≤1048576:=fun e he=>by rw [List.mem_singleton.1 he];exact ha
structure ChainOK (T:List Sc) (V:List Va) (a b c:Ex):Prop where
 a:CondOK T V a
 b:CondOK T V b
 c:CondOK T V c


theorem one_cE (e:Ex):[e].map G8 = [cE e]:=by simp only [List.map_cons,List.map_nil,Lr]
theorem bQ (T:List Sc)(hl:T.length≤1048576)(hst:∀s∈T,Ig s)(V:List Va)(hvl:V.length≤1048576)(e:Ex)(hs:Ar e≤1048576):Ax Tryz.prog 7 [.agg (Cf T V),.sl 8 [cE e]] (.bool (Ls T V [e])):=by
 have h:=gB T hl hst V hvl [e] (show 1≤1048576 by decide) (zI hs)
 rw [one_cE] at h
 exact h
theorem wJ (T:List Sc)(hl:T.length≤1048576)(hst:∀s∈T,Ig s)(V:List Va)(hvl:V.length≤1048576)(c:List Lit)(h:ClOK T V c):Ax Tryz.prog 12 [.sl 2 (T.map Ob),.sl 2 (V.map S4),.sl 9 (c.map F0)] (.tuple [.agg (Xz (Bf T V c)),.sl 8 (((B1 T V c).ts.map Fx).map G8),.int .i64 0]):=by
 have h1:=d_Zone T hl hst V hvl c h.cl h.cs
 rw [h.zone] at h1
 exact h1
end Go.Proofs.YtjedflcpjlgokaaGreatDoor

namespace Go.Aw
open Go

section
variable {P:Program} {T:List (Nat×TD)} {d:Option Nat} {ty:TypeId} {pos:String} {aft:Array Edge} {gd:Option (Nat×Bool)} {ρ:Operand→AV}

theorem rQ {t e z:Nat}{td te:TD}{H:List HO}(hT:Hb P T)(ht:Bv T t=some td)(hk:td.kind = .slice e)(hte:Bv T e=some te)(hz:te.size=z)(hp:Nat.blt 0 z=true) :
  Km P ⟨d,.buildSlice t 0 #[],ty,pos,aft,gd⟩ ρ H (fun x H'=>∃v,x = .val v∧H' = .buf v [] e z::H):=by
 intro g w a next Q hr hH hnx
 obtain ⟨cells,h1,h2,h3⟩:=Lg (n:=0) (parts:=#[]) (ρ:=ρ) (g:=g) (w:=w) (a:=a) hT ht hk hte hz rfl (by simp) rfl (fun p hp=>by cases hp)
 unfold Oper.wp
 simp only [execOp,Sem.run_bind,h1,Result.andThen_ok,Sem.run_pure]
 have hx:=Ext.alloc g w (.cells cells e) (some 0)
 refine hnx (g.put w.heap.size (some 0)) _ _ _ _ ⟨_,rfl,rfl⟩ (.val _) ((hH.alloc _ _).cons ?_ ?_) hx
 · exact .inr ⟨w.heap.size,0,cells,rfl,Gh.Aap _ _ _,Da w _,h2,Nat.le_refl _,Nat.zero_le _,(by intro e he;cases he),(by intro i x hi;cases hi)⟩
 ·
  intro b hb x hx' hb'
  simp only [HO.blk,Option.some.injEq] at hb
  have:=(HO.ok_lt (hH.ok x hx') hb').1
  omega
theorem cG {x y:Operand}{t e k z:Nat}{td te:TD}{v:Value}{es es2:List (List AV)}{H:List HO}(hT:Hb P T)(hx:ρ x = .val v)(hy:ρ y = .sl z es2)(ht:Bv T t=some td)(hk:td.kind = .slice e)
  (hte:Bv T e=some te) (hz:te.size=z) (hp:Nat.blt 0 z=true) (hH:H[k]? = some (.buf v es e z)) (hs:∀c∈es2,Be c=true) (hne:es2≠[]) (hb:(es.length+es2.length)*te.bytes≤140737488355328) (hm:es.length+es2.length≤maxLen) :
  Km P ⟨d,.call ⟨.builtin .append,#[x,y],#[t,t]⟩,ty,pos,aft,gd⟩ ρ H (fun r H'=>∃v',r = .val v'∧H'=H.set k (.buf v' (es++es2) e z)):=by
 intro g w a next Q hr hHK hn
 have hpos:0<z:=by simpa using hp
 have e1:=(hx▸hr x (by simp [Op.operands,Call.operands]):Rep g w _ _).inv_val
 have r2:=(hy▸hr y (by simp [Op.operands,Call.operands]):Rep g w _ _)
 have hu:=D3 (hT t td ht) hk
 obtain ⟨it,hit,his,hib,zv,hzv,hzs,_⟩:=(hT e te hte).info
 have hok:=hHK.ok _ (List.mem_of_getElem? hH)
 obtain ⟨a2,m,c2,h21,h22,h23,h24,_⟩:=r2.inv_sl
 have hm1:m=es2.length:=h22
 subst hm1
 have hpl:0<es2.length:=List.length_pos_iff.2 hne
 have fin:∀v' g' w',(Builtin.append_ #[t,t] ty #[a.eval x,a.eval y]).run P w = .ok v' w'→HOK g' w' (H.set k (.buf v' (es++es2) e z))→Ext g w g' w'→Oper.wp P ⟨d,.call ⟨.builtin .append,#[x,y],#[t,t]⟩,ty,pos,aft,gd⟩ a w next Q:=by
  intro v' g' w' hrun hok' hext
  unfold Oper.wp
  rw [Ih (v:=v') (w':=w') (by
   have:(#[x,y]:Array Operand).map a.eval = #[a.eval x,a.eval y]:=by simp
   rw [this]
   simp only [builtin,Sem.run_bind,hrun,Result.andThen_ok,Sem.run_pure])]
  exact hn g' w' v' _ _ ⟨v',rfl,rfl⟩ (.val _) hok' hext
 rw [h21] at r2
 obtain ⟨_,hz2,b2,o2,hb2,news,n1,n2,n3,n4⟩:=Kh r2 hpos hs hne
 subst hb2
 have hnews:∀j u,news[j]? = some u→w.cell? ((⟨b2,o2,none⟩:Addr).add j)=some u:=fun j u hj=>by rw [Hh];exact (n4 j u hj).2
 have hsz:it.size=z:=by rw [his,hz]
 have hnl:news.length=es2.length*it.size:=by rw [n1,hsz]
 have hmax:maxLen=9223372036854775807:=rfl
 have hlen:(es++es2).length=es.length+es2.length:=List.length_append
 rcases hok with ⟨rfl,h0⟩ | ⟨b,cap,cur,rfl,hg,hcur,hcsz,hcap,hcmax,hz1,hrep⟩
 ·
  subst h0
  simp only [List.nil_append,List.length_nil,Nat.zero_add] at hb hm fin ⊢
  have hbb:es2.length*it.bytes≤281474976710656:=by rw [hib];omega
  have hrun:=run_append_nil (P:=P) w t ty e it zv hu hit hzv ⟨b2,o2,none⟩ es2.length c2 news hnl hnews (by omega) (by omega) hbb
  have hext:Ext g w (g.put w.heap.size (some 0)) (w.drew.alloc (.cells (news.toArray++Builtin.zeroCells zv.cells (grownCap w es2.length 0 e-es2.length)) e)):=(Ext.drew g w).trans (Ext.alloc g w.drew _ _)
  have hcapm:es2.length≤grownCap w es2.length 0 e:=grownCap_ge w es2.length 0 e
  have hcapM:=grownCap_le_maxLen w es2.length 0 e (by omega)
  refine fin _ (g.put w.heap.size (some 0)) _ (by rw [e1,h21];exact hrun) ?_ hext
  refine hHK.set hext hH (fun b hb=>?_) (.inr ⟨w.heap.size,grownCap w es2.length 0 e,_,rfl,Gh.Aap _ _ _,Da w.drew _,?_,hcapm,hcapM,hz2,fun i x hi=>?_⟩) (fun c hc _ _=>?_)
  · simp only [HO.blk,Option.some.injEq] at hb;exact .inr (by omega)
  ·
   simp only [Array.size_append,List.size_toArray,n1,size_zeroCells,hzs,hz,Nat.sub_mul]
   have:=Nat.mul_le_mul_right z hcapm
   omega
  ·
   have h3:=(n2.mono hext).2 i x hi
   have hlt:i<news.length:=by
    have:=(List.getElem?_eq_some_iff.1 hi).1
    rw [Cz hz2] at this
    omega
   have e2:(news.toArray++Builtin.zeroCells zv.cells (grownCap w es2.length 0 e-es2.length)).getD i undef=news.toArray.getD i undef:=by
    rw [Array.getD_eq_getD_getElem?,Array.getD_eq_getD_getElem?,Array.getElem?_append_left (by simpa using hlt)]
   rw [e2];exact h3
  · exact ⟨Gh.Aau _ _ (by omega),Hy w.drew _ hc⟩
 ·
  have hfl:es.flatten.length=es.length*z:=by rw [Cz hz1]
  have hle:es.length*z≤cur.size:=by rw [hcsz];exact Nat.mul_le_mul_right z hcap
  have hzall:∀x∈es++es2,x.length=z:=fun x hx=>by
   rcases List.mem_append.1 hx with h | h
   · exact hz1 x h
   · exact hz2 x h
  have rl1:Cx g w (cur.toList.take (es.length*z)).toArray es.flatten:=by
   refine ⟨by simp [hfl];omega,fun i x hi=>?_⟩
   have hlt:=(List.getElem?_eq_some_iff.1 hi).1
   have h3:=hrep i x hi
   have e2:(cur.toList.take (es.length*z)).toArray.getD i undef=cur.getD i undef:=by
    simp only [Array.getD_eq_getD_getElem?,List.getElem?_toArray,List.getElem?_take,Array.getElem?_toList]
    rw [if_pos (by omega)]
   rw [e2];exact h3
  have hrl:Cx g w ((cur.toList.take (es.length*z)).toArray++news.toArray) (es++es2).flatten:=by
   rw [List.flatten_append];exact rl1.append n2
  have htk:(cur.toList.take (es.length*z)).length=es.length*z:=by simp;omega
  have hfl2:(es++es2).flatten.length=es.length*z+es2.length*z:=by rw [Cz hzall,hlen,Nat.add_mul]
  by_cases hroom:es.length+es2.length≤cap
  ·
   have hfit:es.length*it.size+news.length≤cur.size:=by
    rw [hsz,n1,hcsz,←Nat.add_mul];exact Nat.mul_le_mul_right z hroom
   have hrun:=run_append_room (P:=P) w t ty e it hu hit b es.length cap cur hcur ⟨b2,o2,none⟩ es2.length c2 news hnl hnews n3 hroom hfit
   rw [hsz] at hrun hfit
   have hnew:=setRow_heap w b cur (cur.toList.take (es.length*z)++news++cur.toList.drop (es.length*z+news.length)).toArray e (0,0) hcur
   have hext:Ext g w g (w.setRow b (cur.toList.take (es.length*z)++news++cur.toList.drop (es.length*z+news.length)).toArray):=Ext.setRow hg
   refine fin _ g _ (by rw [e1,h21];exact hrun) ?_ hext
   refine hHK.set hext hH (fun b' hb'=>.inl hb') (.inr ⟨b,cap,_,by rw [hlen],hg,hnew,?_,by rw [hlen];exact hroom,hcmax,hzall,fun i x hi=>?_⟩) (fun c hc hne _=>?_)
   · simp only [List.size_toArray,List.length_append,List.length_take,List.length_drop,Array.length_toList];omega
   ·
    have h3:=(hrl.mono hext).2 i x hi
    have hlt:=(List.getElem?_eq_some_iff.1 hi).1
    have e2:(cur.toList.take (es.length*z)++news++cur.toList.drop (es.length*z+news.length)).toArray.getD i undef=((cur.toList.take (es.length*z)).toArray++news.toArray).getD i undef:=by
     have e3:(cur.toList.take (es.length*z)++news++cur.toList.drop (es.length*z+news.length)).toArray=((cur.toList.take (es.length*z)).toArray++news.toArray)++(cur.toList.drop (es.length*z+news.length)).toArray:=by
      apply Array.toList_inj.1;simp
     rw [e3,Array.getD_eq_getD_getElem?,Array.getD_eq_getD_getElem?,Array.getElem?_append_left (by simp only [Array.size_append,List.size_toArray];omega)]
    rw [e2];exact h3
   · exact ⟨rfl,setRow_other w b c _ (fun h=>hne (by rw [h];rfl))⟩
  ·
   have hg':cap<es.length+es2.length:=by omega
   have hfit:Builtin.nextslicecap (es.length+es2.length) cap*it.bytes≤281474976710656:=growslice_fits hg' (by rw [hib];exact hb)
   have hol:(cur.toList.take (es.length*z)).length=es.length*it.size:=by rw [htk,hsz]
   have holds:∀j u,(cur.toList.take (es.length*z))[j]? = some u→w.cell? ((⟨b,0,none⟩:Addr).add j)=some u:=fun j u hj=>by
    rw [Hh,Nat.zero_add,Cd hcur]
    rw [List.getElem?_take] at hj
    split at hj
    · simpa using hj
    · cases hj
   have hrun:=run_append_grow (P:=P) w t ty e it zv hu hit hzv ⟨b,0,none⟩ es.length cap (cur.toList.take (es.length*z)) hol holds ⟨b2,o2,none⟩ es2.length c2 news hnl hnews hg' (by omega) hfit
   have hext:Ext g w (g.put w.heap.size (some 0)) (w.drew.alloc (.cells ((cur.toList.take (es.length*z)).toArray++news.toArray++Builtin.zeroCells zv.cells (grownCap w (es.length+es2.length) cap e-(es.length+es2.length))) e)):=(Ext.drew g w).trans (Ext.alloc g w.drew _ _)
   have hcapm:=grownCap_ge w (es.length+es2.length) cap e
   have hcapM:=grownCap_le_maxLen w (es.length+es2.length) cap e (by omega)
   refine fin _ (g.put w.heap.size (some 0)) _ (by rw [e1,h21];exact hrun) ?_ hext
   refine hHK.set hext hH (fun b' hb'=>?_) (.inr ⟨w.heap.size,grownCap w (es.length+es2.length) cap e,_,by rw [hlen],Gh.Aap _ _ _,Da w.drew _,?_,by rw [hlen];exact hcapm,hcapM,hzall,fun i x hi=>?_⟩) (fun c hc _ _=>?_)
   · simp only [HO.blk,Option.some.injEq] at hb';exact .inr (by omega)
   ·
    simp only [Array.size_append,List.size_toArray,n1,size_zeroCells,hzs,hz,Nat.sub_mul,hol,hsz]
    have:=Nat.mul_le_mul_right z hcapm
    rw [Nat.add_mul] at this
    rw [Nat.add_mul]
    omega
   ·
    have h3:=(hrl.mono hext).2 i x hi
    have hlt:=(List.getElem?_eq_some_iff.1 hi).1
    have e2:((cur.toList.take (es.length*z)).toArray++news.toArray++Builtin.zeroCells zv.cells (grownCap w (es.length+es2.length) cap e-(es.length+es2.length))).getD i undef=((cur.toList.take (es.length*z)).toArray++news.toArray).getD i undef:=by
     rw [Array.getD_eq_getD_getElem?,Array.getD_eq_getD_getElem?,Array.getElem?_append_left (by simp only [Array.size_append,List.size_toArray];omega)]
    rw [e2];exact h3
   · exact ⟨Gh.Aau _ _ (by omega),Hy w.drew _ hc⟩
end
end Go.Aw

namespace Go.Proofs.YtjedflcpjlgokaaGreatDoor
open Go Go.Aw
set_option maxHeartbeats 1600000
set_option maxRecDepth 20000

theorem oY (x:Ev)(hx:x.values.length≤1048576)(t:Tm)(n:Int)(hf:t.op≠2→0≤t.field∧t.field<(x.values.length:Int)):Ax Tryz.prog 20 [.agg (Lo x),.agg (cE (Fx t)),.int .i64 n] (.agg (Lo (pA x t n))):=by
 refine Ax.body (n:=37) Ah Tryz.func20 rfl rfl rfl fun H=>?_
 refine Ai ?_
 refine Qe (O8 (v:=.agg _) (cs:=[Iq _,Iq _,Iq _,Iq _,_]) rfl rfl (rfl)) ?_
 rintro _ _ ⟨b3,rfl,rfl⟩
 refine Qp Kx ?_
 refine Qe (Ak (l:=[.int .i64 0,.int .i64 0,.int .i64 0,.int .i64 0,.sl 3 []]) (by kernel_rfl)) ?_
 rintro _ _ ⟨b6,rfl,rfl⟩
 refine Ag (AW.seq (Ai (Qp Jl (Qp Bp (Qp A9 (Ag (A6 (fun hc1=>?_) fun hc1=>?_)))))))
 ·
  refine Ai (Qp Az (Qp Gc ?_))
  refine Cv 1 [Iq _,Iq _,Iq _,Iq _,_] (_::_::_) ?_
  refine Dm ?_
  refine AOL.Aas (A7 (k:=1) (l:=[Iq _,Iq _,Iq _,Iq _,_]) Ah rfl rfl rfl rfl rfl) rfl rfl ?_
  refine Cv 0 [Iq _,Iq _,Iq _,Iq _,_] (_::_::_) ?_
  refine Ag (Dw ?_)
  refine ⟨.inr rfl,[.agg [Iq _,Iq _,Iq _,Iq _,_]],.cons (.box _ _ _ 0 _ _ _ _ rfl rfl rfl rfl rfl rfl) <| .nil,.cons _ (.cons _ (.refl _)),?_⟩
  exact Eq.trans rfl (congrArg (fun q:Ev=>AV.agg (Lo q)) (if_pos hc1:pA x t n=_)).symm
 ·
  have hfr:=hf (by simpa [Fx] using hc1)
  have hlt:t.field.toNat<x.values.length:=by omega
  have hy:=List.getElem?_eq_getElem hlt
  have hvne:x.values.map cV≠[]:=S7 hy
  generalize x.values[t.field.toNat]=y at hy
  refine By (Ai ?_)
  refine Qe (rQ (z:=3) Ah rfl rfl rfl rfl rfl) ?_
  rintro _ _ ⟨v14,rfl,rfl⟩
  refine Qp Gc ?_
  refine AOL.Aas (Am (k:=2) (c:=.sl _ _) Ah rfl rfl rfl rfl) rfl rfl ?_
  refine Qe (cG (k:=0) (es:=[]) (es2:=x.values.map cV) Ah rfl rfl rfl rfl rfl rfl rfl rfl (Ed fun _=>rfl) hvne (by simp;omega) (by simp [maxLen];omega)) ?_
  rintro _ _ ⟨v17,rfl,rfl⟩
  refine Qp N4 (Ag (AW.seq (AW.seq ?_)))
  refine AW.unbuf (v:=v17) (es:=x.values.map cV) (E:=28) (z:=3) 0 rfl hvne fun bb cap J hub hcap hcm hJ hz=>?_
  subst hub
  refine AW.region (Qp Oq (Qp Bp (Qp Nt (Qp B0 (Qg [] Qw Oq (Qg [(22,_)] Qw Bp (Qg [] Qw Gr ?_)))))))
  refine AOL.Aar (y:=Iq _) _ [(24,_)] rfl (nC.all ⟨Ent.Aam _ _,trivial⟩) (fun hG=>Pu Ah rfl rfl rfl) rfl ?_
  refine AOL.Aar (y:=.bool _) _ [(23,_),(25,_)] rfl (nC.all ⟨Ent.Aam _ _,Ent.Aam _ _,trivial⟩) (fun hG=>P_lss rfl rfl) rfl ?_
  refine Qp F7 (Ag (A6 (fun hc2=>?_) fun hc2=>?_))
  ·
   refine AW.region (Qp Gr (Qp Oq (Qp Bp (Qp Az ?_))))
   refine Qp (Bh (o':=t.field.toNat*3) Ah rfl rfl rfl rfl rfl (hfr.1) (by rw [List.length_map];exact hfr.2) (Nat.zero_add _)) ?_
   refine Qp Gc ?_
   refine Qe (B2 (k:=0) (v:=Iq _) (cs':=((x.values.modify t.field.toNat fun y=>{ y with num:=n }).map cV).flatten++J) (H2:=_::_::_::_) Ah rfl rfl rfl rfl rfl rfl (Mf (o:=1) (Kj _) (by rw [List.getElem?_map,hy];rfl) (by decide)) ((Mq (o:=1) (e:=cV y) (x:=.int .i64 n) (Kj _) (by rw [List.getElem?_map,hy];rfl) (by decide)).trans (congrArg (fun l:List (List AV)=>l.flatten++J) (by rw [Iu hy,List.map_set];rfl))) rfl) ?_
   rintro _ _ ⟨rfl,rfl⟩
   refine AOL.ghost (GS.rebuf (H2:=_::_::_::_) 0 ((x.values.modify t.field.toNat fun y=>{ y with num:=n }).map cV) J (m:=(x.values.map cV).length) (by simp) rfl rfl (by simpa using hcap) hcm (by simpa using hJ) (Kj _) rfl) ?_
   refine AOL.ghost (GS.freezeBuf (t:=7) 0 rfl rfl) ?_
   refine Dm (Qp Dx (Qp Gc ?_))
   refine Cv 1 [Iq _,Iq _,Iq _,Iq _,_] (_::_::_) ?_
   refine Dm ?_
   refine AOL.Aas (A7 (k:=1) (l:=[Iq _,Iq _,Iq _,Iq _,_]) Ah rfl rfl rfl rfl rfl) rfl rfl ?_
   refine Cv 0 [Iq _,Iq _,Iq _,Iq _,_] (_::_::_) ?_
   refine Ag (AW.ret ?_)
   refine ⟨.inr rfl,[.agg [Iq _,Iq _,Iq _,Iq _,_]],.cons (.box _ _ _ 0 _ _ _ _ rfl rfl rfl rfl rfl rfl) <| .nil,.cons _ (.cons _ (.refl _)),?_⟩
   exact Eq.trans rfl (congrArg (fun q:Ev=>AV.agg (Lo q)) (C8 hc1:pA x t n=_)).symm
  ·
   refine absurd hc2 ?_
   rw [Bool.not_eq_false,Bool.and_eq_true]
   exact ⟨decide_eq_true hfr.1,decide_eq_true (by rw [List.length_map];exact hfr.2)⟩
theorem iX (T:List Sc)(hl:T.length≤1048576)(hst:∀s∈T,Ig s)(V:List Va)(hvl:V.length≤1048576)(y:Lit)(hs:Ar y.cond≤1048576):Ax Tryz.prog 11 [.agg (Cf T V),.sl 9 [F0 y]] (.bool (Qt T V y)):=by
 have h:=X6 T hl hst V hvl [y] (show 1≤1048576 by decide) (fun z hz=>by rw [List.mem_singleton.1 hz];exact hs)
 rw [show [y].any (Qt T V)=Qt T V y by simp] at h
 exact h

end Go.Proofs.YtjedflcpjlgokaaGreatDoor

namespace Go.Aw
open Go

section
variable {P:Program} {T:List (Nat×TD)} {d:Option Nat} {ty:TypeId} {pos:String} {aft:Array Edge} {gd:Option (Nat×Bool)} {ρ:Operand→AV} {K:List HO→Prop}
theorem bN {t e z n:Nat}{x y:Operand}{kl kc:IntKind}{td te:TD}{l:List AV}{H:List HO}(hT:Hb P T)(ht:Bv T t=some td)(hk:td.kind = .slice e)(hte:Bv T e=some te)(hz:te.size=z)(hpos:Nat.blt 0 z=true)
  (hx:ρ x = .int kl n) (hy:ρ y = .int kc n) (hb:te.bytes*n≤281474976710656) (hm:n≤maxLen) (hzo:zOK P e l=true) (hl:l.length=z) :
  Km P ⟨d,.makeSlice t x y,ty,pos,aft,gd⟩ ρ H (fun r H'=>∃b,r = .val (.slice (some ⟨b,0,none⟩) n n)∧H' = .box b e (List.replicate n l).flatten::H):=by
 intro g w a next Q hr hH hn
 have h1:=(hx▸hr x (by simp [Op.operands]):Rep g w _ _).inv_int
 have h2:=(hy▸hr y (by simp [Op.operands]):Rep g w _ _).inv_int
 have hu:=D3 (hT t td ht) hk
 have hp:0<z:=by simpa using hpos
 obtain ⟨it,hit,his,hib,zv,hzv,hzs,hzr⟩:=(hT e te hte).info
 unfold zOK at hzo
 simp only [hit,hzv] at hzo
 have h63:(n:Int)≤9223372036854775807:=by
  have h8:maxLen≤9223372036854775807:=by decide
  omega
 have hb':(it.bytes:Int)*(n:Int)≤281474976710656:=by
  have h9:((te.bytes*n:Nat):Int)≤281474976710656:=by omega
  rw [Int.natCast_mul] at h9
  rw [hib];exact h9
 have hrun:=run_make (P:=P) w t e it zv hu hit hzv kl kc n n (by omega) (Int.le_refl _) hb' h63
 simp only [Int.toNat_natCast] at hrun
 unfold Oper.wp
 simp only [execOp,h1,h2,Sem.run_bind,hrun,Result.andThen_ok,Sem.run_pure]
 have hxx:=Ext.alloc g w (.cells (madeCells zv.cells (n*it.size)) e) (some 0)
 refine hn (g.put w.heap.size (some 0)) _ _ _ _ ⟨w.heap.size,rfl,rfl⟩ (.val _) ((hH.alloc _ (some 0)).cons ⟨Gh.Aap _ _ _,_,Da w _,?_⟩ ?_) hxx
 ·
  refine ⟨?_,fun i x hi=>?_⟩
  · rw [size_madeCells,Cz (z:=z) (by intro e he;rw [List.eq_of_mem_replicate he];exact hl),List.length_replicate,his,hz]
  ·
   have h3:=He (by omega) n i x hi
   have hlt:i<n*z:=by
    have:=(List.getElem?_eq_some_iff.1 hi).1
    rwa [Cz (z:=z) (by intro e he;rw [List.eq_of_mem_replicate he];exact hl),List.length_replicate] at this
   obtain ⟨k1,k2⟩:=Rl hzo (g.put w.heap.size (some 0)) (w.alloc (.cells (madeCells zv.cells (n*it.size)) e))
   have h4:=k2 _ x h3
   have hcs:zv.cells.size=z:=by rw [←hz,←hzs]
   have hm2:i % z<zv.cells.size:=by rw [hcs];exact Nat.mod_lt _ hp
   have e1:(madeCells zv.cells (n*it.size)).getD i undef=zv.cells.getD (i % l.length) undef:=by
    have hs:it.size=z:=by rw [his,hz]
    rw [hl]
    simp only [madeCells,hs,Array.getD_eq_getD_getElem?]
    simp [hlt,hcs,hm2,Nat.mod_lt _ hp]
   rw [e1];simpa using h4
 ·
  intro b hb x hx' hb'
  simp only [HO.blk,Option.some.injEq] at hb
  have:=(HO.ok_lt (hH.ok x hx') hb').1
  omega
end
end Go.Aw
