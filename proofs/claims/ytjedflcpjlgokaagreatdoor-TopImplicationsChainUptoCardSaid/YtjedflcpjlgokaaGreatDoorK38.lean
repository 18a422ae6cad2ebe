/-
  Several texts in one: Z2, Z3, Y18, Aub, Z4, Ac, G11, Ab. No condition.
-/
import Derived.Test.YtjedflcpjlgokaaGreatDoorAz
import Derived.Test.YtjedflcpjlgokaaGreatDoorK33
import Derived.Test.YtjedflcpjlgokaaGreatDoorK37
import Derived.KernelRfl
import Derived.Test.YtjedflcpjlgokaaGreatDoorK26
import Derived.WideShapes
import Derived.Test.YtjedflcpjlgokaaGreatDoorAx
import Derived.Test.YtjedflcpjlgokaaGreatDoorCards
import Derived.Test.YtjedflcpjlgokaaGreatDoorTie
import Derived.Deep.DeepHandedRow
import Derived.Lib.LaidTab
import Derived.OpenShut
set_option linter.unusedVariables false
set_option linter.unusedSimpArgs false
namespace Go.Proofs.YtjedflcpjlgokaaGreatDoor
open Go Go.Aw
set_option maxHeartbeats 3200000
set_option maxRecDepth 20000

theorem mI (o a c n:Int):Ax Tryz.prog 23 [.int .i64 o,.int .i64 a,.int .i64 c,.int .i64 n] (.agg (cE (Rt o a c n))):=by
 refine Ax.body (n:=25) Ai Tryz.func23 rfl rfl rfl fun H=>?_
 refine Ah ?_
 refine Qe (Am (l:=[.int .i64 0,.sl 8 [],.int .i64 0,.int .i64 0,.int .i64 0,.int .i64 0,.int .i64 0,.str []]) (by kernel_rfl)) ?_
 rintro _ _ ⟨b8,rfl,rfl⟩
 refine Do (Qp A0 (Qp (Fr [Iq _,_,Iq _,Iq _,Iq _,Iq _,Iq _,.str _]) ?_))
 refine Qe (Am (l:=[.int .i64 0,.sl 8 [],.int .i64 0,.int .i64 0,.int .i64 0,.int .i64 0,.int .i64 0,.str []]) (by kernel_rfl)) ?_
 rintro _ _ ⟨b9,rfl,rfl⟩
 refine Cz 0 [Iq _,_,Iq _,Iq _,Iq _,Iq _,Iq _,.str _] (_::_::_) ?_
 refine AOL.ghost (GS.Aac (t:=9) 0 rfl rfl) ?_
 refine Do (Qp A0 (Qp (Fr [Iq _,_,Iq _,Iq _,Iq _,Iq _,Iq _,.str _]) (Qp A0 (Qp (Fr [Iq _,Iq _,.str _]) (Qp (Fr [Iq _,_,Iq _,Iq _,Iq _,Iq _,Iq _,.str _]) ?_)))))
 refine Qp (A2 (es:=[[Iq _,_,Iq _,Iq _,Iq _,Iq _,Iq _,.str _],[Iq _,_,Iq _,Iq _,Iq _,Iq _,Iq _,.str _]]) Ai rfl rfl rfl rfl rfl rfl rfl rfl rfl) ?_
 refine Qp (Fr [Iq _,_,Iq _,Iq _,Iq _,Iq _,Iq _,.str _]) ?_
 refine Qe (Am (l:=[.int .i64 0,.sl 8 [],.int .i64 0,.int .i64 0,.int .i64 0,.int .i64 0,.int .i64 0,.str []]) (by kernel_rfl)) ?_
 rintro _ _ ⟨b10,rfl,rfl⟩
 refine Cz 0 [Iq _,_,Iq _,Iq _,Iq _,Iq _,Iq _,.str _] (_::_::_) ?_
 refine AOL.ghost (GS.Aac (t:=10) 0 rfl rfl) ?_
 refine Do (Qp A0 (Qp E7 (Qp E7 ?_)))
 refine Qp (A2 (es:=[[Iq _,_,Iq _,Iq _,Iq _,Iq _,Iq _,.str _],[Iq _,_,Iq _,Iq _,Iq _,Iq _,Iq _,.str _]]) Ai rfl rfl rfl rfl rfl rfl rfl rfl rfl) ?_
 refine Qp (Fr [Iq _,_,Iq _,Iq _,Iq _,Iq _,Iq _,.str _]) ?_
 refine Cz 0 [Iq _,_,Iq _,Iq _,Iq _,Iq _,Iq _,.str _] (_::_) ?_
 refine Ag (AW.ret ?_)
 refine ⟨.inr rfl,[.agg [Iq _,_,Iq _,Iq _,Iq _,Iq _,Iq _,.str _]],.cons (.box _ _ _ 0 _ _ _ _ rfl rfl rfl rfl rfl rfl) <| .nil,.cons _ (.refl _),?_⟩
 rfl
theorem eF (T:List Sc)(hl:T.length≤1048576)(hst:∀s∈T,J4 s)(V:List Va)(hvl:V.length≤1048576)(es:List Ex)(hel:es.length≤1048576)(hes:∀e∈es,At e≤1048576):Ax Tryz.prog 7 [.agg (Cw T V),.sl 8 (es.map G7)] (.bool (Ly T V es)):=by
 refine Ax.body (n:=43) Ai Tryz.func7 rfl rfl rfl fun H=>?_
 refine Ah (Qp (Gd [_,_]) (Qp Bm (Ag (AW.seq (Ah (Qp Dt ?_))))))
 refine Qp (Al (n:=es.length) Ai rfl rfl rfl (by simp)) ?_
 refine Qp A0 (Ag (AW.block ?_))
 refine AW.Aad (fun (k:Nat)=>(⟨[(1,.sl 8 (es.map G7)),(2,.ptr (Cw T V)),(9,.sl 8 (es.map G7)),(10,.int .i64 es.length),(11,.int .i64 (k:Int))],H,43⟩:St)) (fun (k:Nat)=>k≤es.length∧(es.take k).any (fun e=>!xB e)=false) (fun (k:Nat)=>es.length-k) (0) ?_ (GS.weaken ⟨rfl,rfl,rfl,rfl,rfl,trivial⟩ (.refl _)) ?_
 · exact ⟨Nat.zero_le _,by simp⟩
 ·
  rintro k hR
  refine Ah (Qp Ck (Ag (AW.seq (A3 (fun hc1=>?_) fun hc1=>?_))))
  ·
   obtain ⟨e,he⟩:=B7 hc1
   have hlt:=Bb he
   have hem:=List.mem_of_getElem? he
   refine By (AW.seq (AW.block (Ah ?_)))
   refine Qp (Af (c:=[Iq _,_,Iq _,Iq _,Iq _,Iq _,Iq _,.str _]) Ai rfl rfl rfl rfl rfl rfl (by omega) (F2 he)) ?_
   refine Qp E7 ?_
   refine Qe (Am (l:=[.int .i64 0,.sl 8 [],.int .i64 0,.int .i64 0,.int .i64 0,.int .i64 0,.int .i64 0,.str []]) (by kernel_rfl)) ?_
   rintro _ _ ⟨b6,rfl,rfl⟩
   refine Cz 0 [Iq _,_,Iq _,Iq _,Iq _,Iq _,Iq _,.str _] (_::_) ?_
   refine AOL.ghost (GS.Aac (t:=6) 0 rfl rfl) ?_
   refine Do (Qp E7 ?_)
   refine Qp (Qc rfl (c34 e (hes e hem))) ?_
   refine Qp Hp (Ag (A3 (fun hc2=>?_) fun hc2=>?_))
   ·
    refine Ah (Qp Bm (Ag (AW.ret (A7 (Aj (Aj (A7 (Aj ?_))))))))
    refine Qr (.bool _) ?_
    exact Eq.trans rfl (congrArg (fun q:Bool=>AV.bool q) ((by unfold Ly;rw [if_pos (U4 he hc2)]:Ly T V es=false))).symm
   ·
    refine AW.skip (Bv (Ae (AW.region (Qp F7 (Qp A0 (Ag ?_))))))
    refine ⟨k+1,?_,?_,GS.weaken ⟨rfl,rfl,rfl,rfl,rfl,trivial⟩ (.refl _)⟩
    · exact ⟨hlt,Q4 hR.2 he hc2⟩
    · omega
  ·
   have hte:=C5 hc1
   have hall:=hR.2
   rw [hte] at hall
   refine AW.exit ?_
   refine A5 (A5 (Bx (Ae (AW.seq (Ah (Qp (Qf [_,_]) (Qp Ee ?_)))))))
   refine Qp (Qc rfl (r_FewT T hl hst)) ?_
   refine Qp Hp (Qp Bu (Qg [] Qw (Qf [_]) (Qg [(24,_)] Qw Ee ?_)))
   refine AOL.Aaf (y:=Iq _) _ [(25,_)] rfl (oE.all ⟨Ent.Aab _ _,trivial⟩) (fun hG=>Al (n:=V.length) Ai rfl rfl rfl (by simp)) rfl ?_
   refine Qg [(26,_)] Qw G6 (Qp E2 (Ag (A3 (fun hc3=>?_) fun hc3=>?_)))
   ·
    refine Ah (Qp Bm (Ag (Du ?_)))
    refine Qr (.bool _) ?_
    exact Eq.trans rfl (congrArg (fun q:Bool=>AV.bool q) ((by unfold Ly;rw [C3 hall,if_pos hc3]:Ly T V es=false))).symm
   ·
    refine By (AW.seq (Ah (Qp Dt ?_)))
    refine Qp (Al (n:=es.length) Ai rfl rfl rfl (by simp)) ?_
    refine Qp A0 (Ag (AW.block ?_))
    refine AW.Aad (fun (k:Nat)=>(⟨[(1,.sl 8 (es.map G7)),(2,.ptr (Cw T V)),(29,.sl 8 (es.map G7)),(30,.int .i64 es.length),(31,.int .i64 (k:Int))],H,43⟩:St)) (fun (k:Nat)=>k≤es.length∧(es.take k).any (fun e=>Fg T V e != 0)=false) (fun (k:Nat)=>es.length-k) (0) ?_ (GS.weaken ⟨rfl,rfl,rfl,rfl,rfl,trivial⟩ (.refl _)) ?_
    · exact ⟨Nat.zero_le _,by simp⟩
    ·
     rintro k hQ
     refine Ah (Qp Ck (Ag (AW.seq (A3 (fun hc4=>?_) fun hc4=>?_))))
     ·
      obtain ⟨e,he⟩:=B7 hc4
      have hlt:=Bb he
      have hem:=List.mem_of_getElem? he
      refine By (AW.seq (AW.block (Ah ?_)))
      refine Qp (Af (c:=[Iq _,_,Iq _,Iq _,Iq _,Iq _,Iq _,.str _]) Ai rfl rfl rfl rfl rfl rfl (by omega) (F2 he)) ?_
      refine Qp E7 ?_
      refine Qe (Am (l:=[.int .i64 0,.sl 8 [],.int .i64 0,.int .i64 0,.int .i64 0,.int .i64 0,.int .i64 0,.str []]) (by kernel_rfl)) ?_
      rintro _ _ ⟨b8,rfl,rfl⟩
      refine Cz 0 [Iq _,_,Iq _,Iq _,Iq _,Iq _,Iq _,.str _] (_::_) ?_
      refine AOL.ghost (GS.Aac (t:=8) 0 rfl rfl) ?_
      refine Do (Qp (Qf [_,_]) (Qp Ee (Qp (Qf [_]) (Qp Ee (Qp E7 ?_)))))
      refine Qp (Qc rfl (fQ T hl hst V hvl e (hes e hem))) ?_
      refine Qp Cr (Ag (A3 (fun hc5=>?_) fun hc5=>?_))
      ·
       refine Ah (Qp Bm (Ag (AW.ret (A7 (Aj (Aj (A7 (Aj ?_))))))))
       refine Qr (.bool _) ?_
       exact Eq.trans rfl (congrArg (fun q:Bool=>AV.bool q) ((by unfold Ly;rw [C3 hall,C3 hc3,U4 he hc5];rfl:Ly T V es=false))).symm
      ·
       refine AW.skip (Bv (Ae (AW.region (Qp F7 (Qp A0 (Ag ?_))))))
       refine ⟨k+1,?_,?_,GS.weaken ⟨rfl,rfl,rfl,rfl,rfl,trivial⟩ (.refl _)⟩
       · exact ⟨hlt,Q4 hQ.2 he hc5⟩
       · omega
     ·
      have hte2:=C5 hc4
      have hall2:=hQ.2
      rw [hte2] at hall2
      refine AW.exit ?_
      refine A5 (A5 (Bx (Ae (Ah (Qp Bm (Ag (AW.ret ?_)))))))
      refine Qr (.bool _) ?_
      exact Eq.trans rfl (congrArg (fun q:Bool=>AV.bool q) ((by unfold Ly;rw [C3 hall,C3 hc3,hall2];rfl:Ly T V es=true))).symm

set_option maxHeartbeats 3200000
set_option maxRecDepth 20000

theorem pl_at {k:Nat}(h:k<3):([[.int .i64 2],[.int .i64 2],[.int .i64 1]]:List (List AV))[((k:Nat):Int).toNat]? = some [.int .i64 (plW k)]:=by
 have:k=0∨k=1∨k=2:=by omega
 rcases this with rfl | rfl | rfl <;> rfl
theorem yQ (T:List Sc)(hl:T.length≤1048576)(hst:∀s∈T,J4 s)(V:List Va)(hvl:V.length≤1048576)(a b:Ex)(ha:At a≤1048576)(hb:At b≤1048576) :
  Ax Tryz.prog 10 [.sl 2 (T.map O2),.sl 2 (V.map Xr),.sl 8 [cE a,cE b]] (.tuple [.int .i64 (Bz T V [a,b]).1,.sl 5 ((Bz T V [a,b]).2.1.map Rz),.int .i64 (Bz T V [a,b]).2.2]):=by
 have h:=P3 T hl hst V hvl [a,b] (show 2≤60 by decide) (fun e he=>by
  rcases List.mem_cons.1 he with rfl | he
  · exact ha
  · rw [List.mem_singleton.1 he];exact hb)
 rw [show [a,b].map G7 = [cE a,cE b] by simp only [List.map_cons,List.map_nil,Lh]] at h
 exact h
theorem rT  : Ax Tryz.prog 6 [] (.bool true):=by
 refine Ax.body (n:=41) Ai Tryz.func6 rfl rfl rfl fun H=>?_
 refine Ah (Qp Bm (Do (Qp (Fr [.str _,Iq _]) ?_)))
 refine Qp (A2 (es:=[[.str _,Iq _]]) Ai rfl rfl rfl rfl rfl rfl rfl rfl rfl) ?_
 refine Qp (Fr [.str _,_]) ?_
 refine Qp (A2 (es:=[[.str _,_]]) Ai rfl rfl rfl rfl rfl rfl rfl rfl rfl) ?_
 refine Qp Un (Do (Qp (Fr [.str _,Iq _]) (Qp (Fr [.str _,Iq _]) ?_)))
 refine Qp (A2 (es:=[[.str _,Iq _],[.str _,Iq _]]) Ai rfl rfl rfl rfl rfl rfl rfl rfl rfl) ?_
 refine Qp Un (Ag (AW.seq (Ah ?_)))
 refine Qp (A2 (es:=[[Iq _],[Iq _],[Iq _]]) Ai rfl rfl rfl rfl rfl rfl rfl rfl rfl) ?_
 refine Qp (Al (n:=3) Ai rfl rfl rfl (rfl)) ?_
 refine Qp A0 (Ag (AW.block ?_))
 refine AW.Aad (fun (k:Nat)=>(⟨[(1,.sl 2 (plT.map O2)),(2,.sl 2 (plV.map Xr)),(15,.sl 1 [[.int .i64 2],[.int .i64 2],[.int .i64 1]]),(16,.int .i64 3),(17,.int .i64 (k:Int))],H,41⟩:St)) (fun (k:Nat)=>k≤3) (fun (k:Nat)=>3-k) (0) ?_ (GS.weaken ⟨rfl,rfl,rfl,rfl,rfl,trivial⟩ (.refl _)) ?_
 · exact Nat.zero_le _
 ·
  rintro k hR
  refine Ah (Qp Ck (Ag (AW.seq (A3 (fun hc1=>?_) fun hc1=>?_))))
  ·
   have hk3:k<3:=by have:=of_decide_eq_true hc1;omega
   have hpl:=pl_k hk3
   refine By (AW.seq (AW.block (Ah (Qp A0 ?_))))
   refine Qp (Af (c:=[Iq _]) Ai rfl rfl rfl rfl rfl rfl (by omega) (pl_at hk3)) ?_
   refine Qp Bp (Qp Ar (Qp Ar (Do (Qp Dt (Qp Dt ?_)))))
   refine Qp (Qc rfl (mI _ _ _ _)) ?_
   refine Qp A0 ?_
   refine Qp (Qc rfl (mI _ _ _ _)) ?_
   refine Qp (A2 (es:=[[Iq _,_,Iq _,Iq _,Iq _,Iq _,Iq _,.str _],[Iq _,_,Iq _,Iq _,Iq _,Iq _,Iq _,.str _]]) Ai rfl rfl rfl rfl rfl rfl rfl rfl rfl) ?_
   refine Qp (Qc rfl (yQ plT (by decide) pl_sc plV (by decide) (Rt 7 0 1 0) (Rt 7 1 0 (k:Int)) (lP ..) (lP ..))) ?_
   refine Qp Nb (Qp I6 (Qp yW (Qp I6 (Qp Ar (Qp Un (Qp Ar (Do (Qp A0 (Qp Cr ?_)))))))))
   refine Qp Bu (Qg [] Qw A0 (Qg [] Qw A0 ?_))
   refine AOL.Aaf (y:=.bool _) _ [(36,_),(37,_)] rfl (oE.all ⟨Ent.Aab _ _,Ent.Aab _ _,trivial⟩) (fun hG=>Wb rfl rfl) rfl ?_
   refine Qp E2 (Ag (A3 (fun hc2=>?_) fun hc2=>?_))
   ·
    exact absurd hc2 (by rw [hpl.1,hpl.2];simp)
   ·
    refine AW.skip (Bv (Ae (AW.region (Qp F7 (Qp A0 (Ag ?_))))))
    refine ⟨k+1,?_,?_,GS.weaken ⟨rfl,rfl,rfl,rfl,rfl,trivial⟩ (.refl _)⟩
    · exact hk3
    · omega
  ·
   refine AW.exit ?_
   refine A5 (A5 (Bx (Ae (Ah (Qp Bm (Ag (AW.ret ?_)))))))
   refine Qr (.bool _) ?_
   rfl
set_option maxHeartbeats 1600000
set_option maxRecDepth 20000

theorem r_Bind (l:List Ev)(hel:l.length≤1048576):Ax Tryz.prog 19 [.sl 5 (l.map Rz)] (.agg (cEnv (Eg l))):=by
 refine Ax.body (n:=22) Ai Tryz.func19 rfl rfl rfl fun H=>?_
 refine Ah ?_
 refine Qe (Am (l:=[.sl 1 []]) (by kernel_rfl)) ?_
 rintro _ _ ⟨b2,rfl,rfl⟩
 refine Do ?_
 refine Qe (Am (l:=[.val (.slice none 0 0)]) (by kernel_rfl)) ?_
 rintro _ _ ⟨b3,rfl,rfl⟩
 refine AOL.ghost (GS.cellRow 0 0 39 1 rfl rfl rfl rfl) ?_
 refine Ag (AW.seq (Ah (Qp Ar (Ag (AW.block ?_)))))
 refine AW.Aad (fun (p:Nat×List (List AV)×Value)=>(⟨[(0,.sl 5 (l.map Rz)),(2,.val (.pointer (some ⟨b2,0,none⟩))),(3,.val (.pointer (some ⟨b3,0,none⟩))),(4,.int .i64 (p.1:Int))],.row p.2.2 p.2.1.length 39 1 :: .box b3 62 [.row p.2.2 1 p.2.1] :: .box b2 62 [.sl 1 []]::H,22⟩:St)) (fun (p:Nat×List (List AV)×Value)=>p.1≤l.length∧p.2.1=((l.take p.1).map fun e=>[e]).map qU) (fun (p:Nat×List (List AV)×Value)=>l.length-p.1) ((0,[],.slice none 0 0)) ?_ (GS.weaken ⟨rfl,rfl,rfl,rfl,trivial⟩ (.refl _)) ?_
 · exact ⟨Nat.zero_le _,rfl⟩
 ·
  rintro p hR
  refine AW.seq (Ah (Qp A0 (Qp Dt ?_)))
  refine Qp (Al (n:=l.length) Ai rfl rfl rfl (by simp)) ?_
  refine Qp Ck (Ag (A3 (fun hc1=>?_) fun hc1=>?_))
  ·
   obtain ⟨a,ha⟩:=B7 hc1
   have hlt:=Bb ha
   have hm:=List.mem_of_getElem? ha
   have hsc:∀c∈p.2.1,Bc c=true:=by rw [hR.2];exact Fc fun _=>rfl
   refine By (AW.seq (AW.block ?_))
   refine AW.draw mixed (fun H'=>_∈H') (List.mem_of_getElem? (i:=1) rfl) (by kernel_rfl) ?_
   refine Qn 0 rfl H9 ?_
   refine Qn 1 rfl (OpP.Aag (fun k=>Ao (k:=k) (c:=.row _ _ _) Ai rfl rfl rfl rfl) (fun _ h=>h)) ?_
   refine Qn 2 rfl Dt (Qn 3 rfl A0 ?_)
   refine Qn 4 rfl (Af (c:=[Iq _,Iq _,Iq _,Iq _,_]) Ai rfl rfl rfl rfl rfl rfl (by omega) (Bo ha)) ?_
   refine Qn 5 rfl (Cv [Iq _,Iq _,Iq _,Iq _,_]) ?_
   refine Qn 6 rfl (A2 (es:=[[Iq _,Iq _,Iq _,Iq _,_]]) Ai rfl rfl rfl rfl rfl rfl rfl rfl rfl) ?_
   refine Qn 7 rfl (A2 (es:=[[_]]) Ai rfl rfl rfl rfl rfl rfl rfl rfl rfl) ?_
   refine Jb.eff _ _ 8 _ _ rfl (by kernel_rfl) rfl rfl (Dh (k:=0) Ai rfl rfl rfl rfl rfl rfl rfl rfl (G5 rfl) (hsc) (by simp [hR.2];omega) (by simp [hR.2,maxLen];omega)) (by rintro _ _ ⟨v19,rfl,rfl⟩;simp) ?_
   rintro _ _ ⟨v19,rfl,rfl⟩
   refine Qn 9 rfl H9 ?_
   refine Jb.last _ _ 10 _ _ rfl (by kernel_rfl) rfl rfl (Df (k:=1) (v:=.row _ _ _) (cs':=[_]) (H2:=_::_::_::_) Ai rfl rfl rfl rfl (rfl) rfl rfl rfl rfl) (by kernel_rfl) ?_
   rintro _ _ ⟨rfl,rfl⟩
   refine Bv (Ae (AW.region (Qp A0 (Qp F7 (Qp Ar (Ag ?_))))))
   refine ⟨(p.1+1,p.2.1 ++ [qU [a]],v19),?_,?_,GS.weaken ⟨rfl,rfl,rfl,rfl,trivial⟩ (.refl _)⟩
   · exact ⟨hlt,by simp only;rw [C9 ha,hR.2];simp⟩
   · simp only;omega
  ·
   have hte:=C5 hc1
   obtain ⟨k,es,rv⟩:=p
   simp only at hR hte
   obtain rfl:es=(Eg l).map qU:=by rw [hR.2,hte];rfl
   refine AW.exit ?_
   refine A5 (A5 (Bx (Ae (Ah ?_))))
   refine AOL.ghost (GS.cell 1 0 rfl rfl rfl rfl Gn) ?_
   refine AOL.Aah (Bs (k:=1) (l:=[_]) Ai rfl rfl rfl rfl rfl) rfl rfl ?_
   refine Cz 2 [_] (_::_::_::_) ?_
   refine Ag (AW.ret ?_)
   refine ⟨.inr rfl,[.agg [_]],.cons (.box _ _ _ 2 _ _ _ _ rfl rfl rfl rfl rfl rfl) <| .nil,.cons _ (.cons _ (.cons _ (.refl _))),?_⟩
   rfl

end Go.Proofs.YtjedflcpjlgokaaGreatDoor

namespace Go.Aw
open Go

section
variable {P:Program} {T:List (Nat×TD)} {d:Option Nat} {ty:TypeId} {pos:String} {aft:Array Edge} {gd:Option (Nat×Bool)} {ρ:Operand→AV} {K:List HO→Prop}
theorem Po {x:Operand}{lo hi:Option Operand}{t e n z:Nat}{td te:TD}{cs:List AV}{es r:List (List AV)}{l h:Nat}(hT:G3 P T)(hx:ρ x = .ptr cs)(hcs:cs=es.flatten)(ht:Bl T t=some td)(hk:td.kind = .array n e)(hte:Bl T e=some te)(hz:te.size=z)
    (hl:match lo with | some y=>∃k,ρ y = .int k l | none=>l=0) (hh:match hi with | some y=>∃k,ρ y = .int k h | none=>h=n) (hlh:l<h) (hhs:h≤n) (hr':(es.take h).drop l=r)
    (hln:Nat.beq es.length n=true) (hm:Nat.ble n maxLen=true) (hzs:es.all (fun e=>Nat.beq e.length z)=true) :
    C6 P ⟨d,.slice t x lo hi none,ty,pos,aft,gd⟩ ρ K (.sl z r):=
  .of_run fun g w a hr=>by
    subst hcs
    obtain ⟨b,o,he,fv,h3,h4⟩:=(hx▸hr x (by simp [Op.operands]):Rep g w _ _).inv_ptr
    have hu:=L0 (hT t td ht) hk
    have hz':∀e∈es,e.length=z:=fun e he=>Nat.eq_of_beq_eq_true (List.all_eq_true.1 hzs e he)
    have hln':=Nat.eq_of_beq_eq_true hln
    have hm':=Nat.le_of_ble_eq_true hm
    have e1:∀v,lo.map a.eval=some v→∃k,v = .int k l:=fun v hv=>by
      cases lo with
      | none=>cases hv
      | some y=>
        obtain ⟨k,hk⟩:=hl
        simp only [Option.map_some,Option.some.injEq] at hv;subst hv
        exact ⟨k,(hk▸hr y (by simp [Op.operands]):Rep g w _ _).inv_int⟩
    have e2:∀v,hi.map a.eval=some v→∃k,v = .int k h:=fun v hv=>by
      cases hi with
      | none=>cases hv
      | some y=>
        obtain ⟨k,hk⟩:=hh
        simp only [Option.map_some,Option.some.injEq] at hv;subst hv
        exact ⟨k,(hk▸hr y (by simp [Op.operands]):Rep g w _ _).inv_int⟩
    have key:∀q,(Instr.sliceBounds q n n (lo.map a.eval) (hi.map a.eval) none).run P w = .ok (l,h,n) w:=fun q=>by
      unfold Instr.sliceBounds
      simp only [Sem.run_bind,Sem.run_pure,Result.andThen_ok]
      cases hhi:hi.map a.eval with
      | none=>
        have:h=n:=by cases hi with | none=>exact hh | some y=>cases hhi
        subst this
        simp only [Sem.run_pure,Result.andThen_ok]
        cases hlo:lo.map a.eval with
        | none=>
          have:l=0:=by cases lo with | none=>exact hl | some y=>cases hlo
          subst this;rfl
        | some v=>obtain ⟨k,rfl⟩:=e1 v hlo;simp [Ga (P:=P) (k:=k) (n:=(l:Int)) (y:=h) (by omega) (by omega)]
      | some v=>
        obtain ⟨k,rfl⟩:=e2 v hhi
        simp only [Ga (P:=P) (k:=k) (n:=(h:Int)) (y:=n) (by omega) (by omega),Sem.run_bind,Result.andThen_ok,Int.toNat_natCast]
        cases hlo:lo.map a.eval with
        | none=>
          have:l=0:=by cases lo with | none=>exact hl | some y=>cases hlo
          subst this;rfl
        | some v=>obtain ⟨k,rfl⟩:=e1 v hlo;simp [Ga (P:=P) (k:=k) (n:=(l:Int)) (y:=h) (by omega) (by omega)]
    have hlen:r.length=h-l:=by rw [←hr',List.length_drop,List.length_take];omega
    have hget:∀i e,r[i]? = some e→es[l+i]? = some e:=fun i e hi=>by
      rw [←hr',List.getElem?_drop,List.getElem?_take] at hi
      split at hi
      · exact hi
      · cases hi
    have hne:¬n=l:=by omega
    refine ⟨.slice (some ⟨b,o+l*z,none⟩) (h-l) (n-l),?_,?_⟩
    · simp only [execOp,he,Instr.sliceAt,Sem.run_bind,A1 hu,Result.andThen_ok,Instr.sureAddr,Sem.run_pure,Option.map_none,key,Ff (hT e te hte),hz,hne,if_false,Gv]
    · refine .sl b (o+l*z) (h-l) (n-l) z r hlen.symm (by omega) (by omega) (fun e he=>?_) (fun i j=>fv ((l+i)*z+j)) (fun i e hi j x hj=>?_) (fun i e hi j x hj=>?_)
      · obtain ⟨i,hi⟩:=List.getElem?_of_mem he
        exact hz' e (List.mem_of_getElem? (hget i e hi))
      · have:=h3 _ x (Rm es hz' (l+i) e (hget i e hi) j x hj)
        have e3:o+l*z+i*z+j=o+((l+i)*z+j):=by rw [Nat.add_mul];omega
        rw [e3];exact this
      · exact h4 _ x (Rm es hz' (l+i) e (hget i e hi) j x hj)
end
end Go.Aw

namespace Go.Proofs.YtjedflcpjlgokaaGreatDoor
open Go Go.Aw
set_option maxHeartbeats 25600000
set_option maxRecDepth 20000

theorem Px (a b c:Ex):cE a++(cE b++cE c)=([a,b,c].map G7).flatten:=by
 rw [show [a,b,c].map G7 = [cE a,cE b,cE c] by simp only [List.map_cons,List.map_nil,Lh]];rfl
theorem bB (a b c:Ex):(([a,b,c].map G7).all fun e=>Nat.beq e.length 8)=true:=by
 rw [show [a,b,c].map G7 = [cE a,cE b,cE c] by simp only [List.map_cons,List.map_nil,Lh]];rfl
theorem oP {a b c:Ex}(ha:At a≤1048576)(hb:At b≤1048576)(hc:At c≤1048576):∀e∈[a,b,c],At e≤1048576:=fun e he=>by
 rcases List.mem_cons.1 he with rfl | he
 · exact ha
 ·
  rcases List.mem_cons.1 he with rfl | he
  · exact hb
  · rw [List.mem_singleton.1 he];exact hc
theorem kT {a:Ex}(ha:At a≤1048576):∀e∈[a],At e≤1048576:=fun e he=>by rw [List.mem_singleton.1 he];exact ha
structure ChainOK (T:List Sc) (V:List Va) (a b c:Ex):Prop where
 a:CondOK T V a
 b:CondOK T V b
 c:CondOK T V c
theorem sF {T:List Sc}{V:List Va}{a b c:Ex}(h:(!Ly T V [a,b,c])=false):ChainOK T V a b c:=by
 have h1:=iR (show Ly T V [a,b,c]=true by simpa using h)
 exact ⟨h1 a (by simp),h1 b (by simp),h1 c (by simp)⟩
theorem ChainOK.errs {T:List Sc}{V:List Va}{a b c:Ex}(h:ChainOK T V a b c):(Cj T V a b).2=0∧(Cj T V b c).2=0∧(Cj T V a c).2=0∧(Bz T V [a]).2.2=0∧(Bz T V [b]).2.2=0:=
 ⟨(Od (N4 h.a.kc.types h.a.kc.vars h.a h.b)).1,(Od (N4 h.a.kc.types h.a.kc.vars h.b h.c)).1,(Od (N4 h.a.kc.types h.a.kc.vars h.a h.c)).1,gC h.a,gC h.b⟩
theorem ChainOK.chain {T:List Sc}{V:List Va}{a b c:Ex}(h:ChainOK T V a b c):((((Cj T V a b).1==1)&&((Cj T V b c).1==1))&&((Cj T V a c).1==2))=false:=by
  cases h1:(Cj T V a b).1==1 with
  | false=>rfl
  | true=>
    cases h2:(Cj T V b c).1==1 with
    | false=>rfl
    | true=>have:=tD h.a h.b h.c (by simpa using h1) (by simpa using h2);simpa using this
theorem ChainOK.last {T:List Sc}{V:List Va}{a b c:Ex}(h:ChainOK T V a b c)(h0:(((Cj T V a b).1 != 1)||((Bz T V [a]).1 != 1))=false) :
  ((((Bz T V [b]).1 != 2)&&Lk T V (Bz T V [a]).2.1)&&Li ⟨Eg (Bz T V [a]).2.1,-1,Ke⟩ b)=true:=by
 rw [Bool.or_eq_false_iff] at h0
 obtain ⟨q1,q2,q3⟩:=jB h.a h.b (by simpa using h0.1) (by simpa using h0.2)
 rw [q2,q3];simpa using q1
theorem Mf (T:List Sc)(hl:T.length≤1048576)(hst:∀s∈T,J4 s)(V:List Va)(hvl:V.length≤1048576)(a b c:Ex)(ha:At a≤1048576)(hb:At b≤1048576)(hc:At c≤1048576):Ax Tryz.prog 4 [.agg (Cw T V),.agg (cE a++(cE b++cE c))] (.bool true):=by
 refine Ax.body (n:=131) Ai Tryz.func4 rfl rfl rfl fun H=>?_
 refine Ah (Qp (Gd [_,_]) (Qp (Gd [Iq _,_,Iq _,Iq _,Iq _,Iq _,Iq _,.str _,Iq _,_,Iq _,Iq _,Iq _,Iq _,Iq _,.str _,Iq _,_,Iq _,Iq _,Iq _,Iq _,Iq _,.str _]) (Qp Bm (Ag (AW.seq (Ah ?_))))))
 refine Qp (Qc rfl (rT)) ?_
 refine Qp Hp (Ag (A3 (fun hc1=>?_) fun hc1=>?_))
 ·
  exact absurd hc1 (by decide)
 ·
  refine By (AW.seq (AW.seq ?_))
  refine AW.draw mixed (fun _=>True) trivial (by kernel_rfl) ?_
  refine Qn 0 rfl (Cv [_,_]) ?_
  refine Qn 1 rfl (bR (es:=[a,b,c].map G7) Ai rfl (Px a b c) rfl rfl rfl rfl rfl rfl (bB a b c) rfl) ?_
  refine Qn 2 rfl (Qc rfl (eF T hl hst V hvl [a,b,c] (show 3≤1048576 by decide) (oP ha hb hc))) ?_
  refine Qn 3 rfl Hp ?_
  refine Jb.done _ _ (by kernel_rfl) ?_
  refine Ae (A3 (fun hc2=>?_) fun hc2=>?_)
  ·
   refine Ah (Qp Bm (Ag (Du ?_)))
   refine Qr (.bool _) ?_
   rfl
  ·
   have hok:=sF hc2
   obtain ⟨e1,e2,e3,e4,e5⟩:=hok.errs
   have hch:=hok.chain
   refine By (Ah (Qp (Qf [_,_]) (Qp Ee (Qp (Qf [_]) (Qp Ee ?_)))))
   refine Qp (Ed (cs':=cE a++(cE b++cE c)) Ai rfl rfl rfl rfl rfl (by decide) (by decide) (rfl)) ?_
   refine Qp E7 ?_
   refine Qp (Ed (cs':=cE b++cE c) Ai rfl rfl rfl rfl rfl (by decide) (by decide) (rfl)) ?_
   refine Qp E7 ?_
   refine Qp (Qc rfl (Tf T hl hst V hvl a b ha hb)) ?_
   refine Qp Nb (Qp I6 (Qp I6 (Qp Ar (Qp Ar (Do (Qp (Qf [_,_]) (Qp Ee (Qp (Qf [_]) (Qp Ee ?_)))))))))
   refine Qp (Ed (cs':=cE b++cE c) Ai rfl rfl rfl rfl rfl (by decide) (by decide) (rfl)) ?_
   refine Qp E7 ?_
   refine Qp (Ed (cs':=cE c) Ai rfl rfl rfl rfl rfl (by decide) (by decide) (rfl)) ?_
   refine Qp E7 ?_
   refine Qp (Qc rfl (Tf T hl hst V hvl b c hb hc)) ?_
   refine Qp Nb (Qp I6 (Qp I6 (Qp Ar (Qp Ar (Do (Qp (Qf [_,_]) (Qp Ee (Qp (Qf [_]) (Qp Ee ?_)))))))))
   refine Qp (Ed (cs':=cE a++(cE b++cE c)) Ai rfl rfl rfl rfl rfl (by decide) (by decide) (rfl)) ?_
   refine Qp E7 ?_
   refine Qp (Ed (cs':=cE c) Ai rfl rfl rfl rfl rfl (by decide) (by decide) (rfl)) ?_
   refine Qp E7 ?_
   refine Qp (Qc rfl (Tf T hl hst V hvl a c ha hc)) ?_
   refine Qp Nb (Qp I6 (Qp I6 (Qp Ar (Qp Ar (Ag (AW.seq ?_))))))
   refine AW.draw mixed (fun _=>True) trivial (by kernel_rfl) ?_
   refine Qn 0 rfl (Qf [_,_]) (Qn 1 rfl Ee (Qn 2 rfl (Qf [_]) (Qn 3 rfl Ee ?_)))
   refine Qn 4 rfl (Po (es:=[a,b,c].map G7) (r:=[a].map G7) (l:=0) (h:=1) Ai rfl (Px a b c) rfl rfl rfl rfl (rfl) (⟨_,rfl⟩) (by decide) (by decide) (rfl) rfl rfl (bB a b c)) ?_
   refine Qn 5 rfl (Qc rfl (P3 T hl hst V hvl [a] (show 1≤60 by decide) (kT ha))) ?_
   refine Qn 6 rfl Nb (Qn 7 rfl I6 (Qn 8 rfl yW (Qn 9 rfl I6 (Qn 10 rfl Ar (Qn 11 rfl Un (Qn 12 rfl Ar ?_))))))
   refine Jb.done _ _ (by kernel_rfl) ?_
   refine Ae (AW.seq ?_)
   refine AW.draw mixed (fun _=>True) trivial (by kernel_rfl) ?_
   refine Qn 0 rfl (Qf [_,_]) (Qn 1 rfl Ee (Qn 2 rfl (Qf [_]) (Qn 3 rfl Ee ?_)))
   refine Qn 4 rfl (Po (es:=[a,b,c].map G7) (r:=[b].map G7) (l:=1) (h:=2) Ai rfl (Px a b c) rfl rfl rfl rfl (⟨_,rfl⟩) (⟨_,rfl⟩) (by decide) (by decide) (rfl) rfl rfl (bB a b c)) ?_
   refine Qn 5 rfl (Qc rfl (P3 T hl hst V hvl [b] (show 1≤60 by decide) (kT hb))) ?_
   refine Qn 6 rfl Nb (Qn 7 rfl I6 (Qn 8 rfl yW (Qn 9 rfl I6 (Qn 10 rfl Ar (Qn 11 rfl Un (Qn 12 rfl Ar ?_))))))
   refine Jb.done _ _ (by kernel_rfl) ?_
   refine Ae (AW.seq (Ah (Qp A0 (Qp Cr (Qp Bu (Qg [] Qw A0 (Qg [(82,_)] Qw Cr (Qp E2 (Qp Bu ?_)))))))))
   refine Qg [] Qw A0 (Qg [(86,_)] Qw Cr (Qp E2 (Qp Bu (Qg [] Qw A0 (Qg [(90,_)] Qw Cr (Qp E2 (Qp Bu (Qg [] Qw A0 (Qg [(94,_)] Qw Cr ?_)))))))))
   refine Qp E2 (Ag (A3 (fun hc3=>?_) fun hc3=>?_))
   ·
    exact absurd hc3 (by rw [e1,e2,e3,e4,e5];decide)
   ·
    refine By (AW.seq (Ah (Qp A0 (Qp A6 (Qp Bu (Qg [] Qw A0 (Qg [(100,_)] Qw A6 (Qp Gg (Qp Bu ?_)))))))))
    refine Qg [] Qw A0 (Qg [(104,_)] Qw A6 (Qp Gg (Ag (A3 (fun hc4=>?_) fun hc4=>?_))))
    ·
     exact absurd hc4 (by rw [hch];decide)
    ·
     refine By (AW.seq (Ah (Qp A0 (Qp Cr (Qp Bu (Qg [] Qw A0 (Qg [(110,_)] Qw Cr (Qp E2 (Ag (A3 (fun hc5=>?_) fun hc5=>?_))))))))))
     ·
      refine Ah (Qp Bm (Ag (Du ?_)))
      refine Qr (.bool _) ?_
      rfl
     ·
      refine By (AW.seq ?_)
      refine AW.draw mixed (fun _=>True) trivial (by kernel_rfl) ?_
      refine Qn 0 rfl A0 (Qn 1 rfl Cr (Qn 2 rfl Bu (Qo 3 rfl [] Qw (Qf [_,_]) (Qo 4 rfl [(116,_)] Qw Ee (Qo 5 rfl [] Qw (Qf [_]) (Qo 6 rfl [(118,_)] Qw Ee (Qo 7 rfl [] Qw Dt ?_)))))))
      refine Jb.pure _ _ 8 _ _ rfl (by kernel_rfl) (by kernel_rfl) rfl (.opt _ (.bool _) [(117,_),(119,_),(120,_)] rfl (oE.all ⟨Ent.Aab _ _,Ent.Aab _ _,Ent.Aab _ _,trivial⟩) (fun hG=>E6 (by kernel_rfl) rfl rfl (wH T hl hst V hvl _ (Nat.le_trans (gF [a]) hvl))) rfl) ?_
      refine Qn 9 rfl Gg (Qn 10 rfl Bu ?_)
      refine Jb.pure _ _ 11 _ _ rfl (by kernel_rfl) (by kernel_rfl) rfl (.opt _ (.ptr _) [] rfl (oE.all trivial) (fun hG=>Ed (cs':=cE b++cE c) Ai rfl rfl rfl rfl rfl (by decide) (by decide) (rfl)) rfl) ?_
      refine Qo 12 rfl [(124,_)] Qw E7 (Qo 13 rfl [] Qw Dt ?_)
      refine Qo 14 rfl [(126,_)] Qw (Qc rfl (r_Bind _ (Nat.le_trans (gF [a]) hvl))) ?_
      refine Qo 15 rfl [] Qw (Fr [Iq _,Iq _,Iq _,Iq _,_]) ?_
      refine Jb.pure _ _ 16 _ _ rfl (by kernel_rfl) (by kernel_rfl) rfl (.opt _ (.bool _) [(125,_),(127,_),(128,_)] rfl (oE.all ⟨Ent.Aab _ _,Ent.Aab _ _,Ent.Aab _ _,trivial⟩) (fun hG=>E6 (by kernel_rfl) rfl rfl (c16 (Eg (Bz T V [a]).2.1) (-1) Ke (tF _) b hb)) rfl) ?_
      refine Qn 17 rfl Gg (Qn 18 rfl Bm ?_)
      refine Jb.done _ _ (by kernel_rfl) ?_
      refine Ae (AW.ret ?_)
      refine Qr (.bool _) ?_
      exact congrArg AV.bool (hok.last (by assumption))

end Go.Proofs.YtjedflcpjlgokaaGreatDoor

namespace Go.Aw
open Go
section
variable {P:Program} {w:World} {r:Reach} {base:Nat} {t:TypeId} {v:Value}
theorem Zw {n:Nat}{e:TypeId}(ht:P.underlying t=some (.array n e))(h:Value.okWide P w r base t v):∃cs,v = .agg cs∧cs.size=P.cellsOf t:=by
 simp only [Value.okWide,ht] at h
 obtain ⟨cs,h1,h2,_⟩:=h
 exact ⟨cs,h1,h2⟩
end
end Go.Aw

namespace Go.Proofs.YtjedflcpjlgokaaGreatDoor
open Go Go.Aw Go.ChangeShapes Go.WideShapes Go.ChangeAt Go.RowKit
set_option maxRecDepth 100000

theorem laid:laidOutB Tryz.prog=true:=by kernel_rfl
theorem own:ownKnob Tryz.prog.godebug=none:=by kernel_rfl
def Td:List Int:=[1,10,100,1000,10000,100000,1000000,10000000,100000000,1000000000,10000000000,100000000000,1000000000000,10000000000000,100000000000000,1000000000000000,10000000000000000,100000000000000000,1000000000000000000,10000000000000000000]
theorem pow_of {W : World} (h : laidMet Tryz.prog Rows.topClausesDecideRow.laid W) : Lib.TabIs Tryz.prog W "internal/strconv.uint64pow10" .u64 Td := by
 obtain ⟨ps,⟨_,_,_,_,_,_,_,_,_,_,⟨_,_,_,_,_,_,_,_,_,_,⟨g',t',cs,fuel,p,q,hg',ht',hvar,hd,_,_⟩,_⟩,_⟩,_⟩:=h
 obtain rfl := Option.some.inj ((show Tryz.prog.globalNamed "internal/strconv.uint64pow10" = some 0 by kernel_rfl).symm.trans hg')
 obtain rfl:=Option.some.inj ((show (Tryz.prog.globals[0]?).map (·.type)=some 245 by kernel_rfl).symm.trans ht')
 have:=Lib.cells_of_tab (k:=.u64) (zs:=Td) (n:=20) (e:=216) (by kernel_rfl) (by kernel_rfl) (by kernel_rfl) (by kernel_rfl) hd
 unfold Lib.TabIs
 rw [hvar,←this]
theorem rU {W : World} (h : Lib.TabIs Tryz.prog W "internal/strconv.uint64pow10" .u64 Td) : ∃ T fr, W.heap[0]? = some (.cells (Td.map fun z => Value.int .u64 z).toArray T fr) := by
 have e : Tryz.prog.globalNamed "internal/strconv.uint64pow10" = some 0 := by kernel_rfl
 unfold Lib.TabIs World.var? at h
 rw [e] at h
 have hk:∀(X:Array Value) (o:Option Obj),(match o with | some (Obj.cells cs _ _)=>some cs | _=>none)=some X→∃T fr,o=some (Obj.cells X T fr):=by
  intro X o h
  match o,h with
  | some (Obj.cells cs T fr),h=>exact ⟨T,fr,by rw [Option.some.inj h]⟩
 exact hk _ _ h
theorem globOK {W:World}(h:laidMet Tryz.prog Rows.topClausesDecideRow.laid W)(hS:W.ShapedOpen Tryz.prog):GlobOK g0 W:=by
  have ht:=pow_of h
  refine ⟨fun p hp=>?_,fun p hp=>?_⟩
  · obtain rfl:=List.mem_singleton.1 hp
    refine ⟨P5,rfl,?_⟩
    have hcell : ∀ j, W.cell? ⟨0, j, none⟩ = (Td.map fun z => Value.int .u64 z).toArray[j]? := fun j => World.var?_cell (show Tryz.prog.globalNamed "internal/strconv.uint64pow10" = some 0 by kernel_rfl) ht j
    have hs:P5=Td.map fun z=>AV.int .u64 z:=rfl
    rw [hs]
    refine .ptr 0 0 _ (fun j=>Value.int .u64 (Td.getD j 0)) (fun j x hj=>?_) (fun j x hj=>?_)
    · rw [List.getElem?_map] at hj
      cases hq:Td[j]? with
      | none=>rw [hq] at hj;cases hj
      | some y=>
        refine ⟨trivial,?_⟩
        rw [Nat.zero_add,hcell j]
        simp [hq,List.getD_eq_getElem?_getD]
    · rw [List.getElem?_map] at hj
      cases hq:Td[j]? with
      | none=>rw [hq] at hj;cases hj
      | some y=>
        rw [hq] at hj
        simp only [Option.map_some,Option.some.injEq] at hj
        subst hj
        have e:Td.getD j 0=y:=by rw [List.getD_eq_getElem?_getD,hq];rfl
        rw [e]
        exact .int _ _
  · obtain rfl:=List.mem_singleton.1 hp
    exact ⟨rfl,rU ht⟩
def iK (k:IntKind)(l:List Int):Obj→Obj
 | .cells _ t frozen=>.cells (l.map fun z=>Value.int k z).toArray t frozen
 | o=>o
def zZ (d:DataW Unit):List Int:=match d with
 | .agg l=>l.map fun | .lit (.int _ n)=>n | _=>0
 | _=>[]
noncomputable def laidWorld (os:Os):World:=
 { World.holding Tryz.prog os ⟨#[],#[],[]⟩ with heap:=(((World.holding Tryz.prog os ⟨#[],#[],[]⟩).heap.modify 0 (iK .u64 Td)).modify 1 (iK .u8 (zZ Rows.laid_math_bits_deBruijn32tab))).modify 2 (iK .u8 (zZ Rows.laid_math_bits_deBruijn64tab)) }
end Go.Proofs.YtjedflcpjlgokaaGreatDoor

namespace Go.Aw
open Go
section
variable {H:Type} {enc:TypeId×Value→H} {P:Program} {w:World} {sp:Nat→Bool} {hd:Bool} {B:DataW H→Nat} {BA:List (DataW H)→Nat}
theorem Rd.array' {α:Type}{fuel:Nat}{t e:TypeId}{n:Nat}{ts:List TypeId}{f:α→List AV}{ok:α→Prop}{bk:α→Nat}(h:P.underlying t=some (.array n e))(hB:Bulk B BA)
    (hts:ts=List.replicate n e) (hsz:P.cellsOf t=(ts.map P.cellsOf).sum) (hs:∀m,m<fuel→Rds enc P w sp hd BA m 0 ts f ok bk):Rd enc P w sp hd B fuel t f ok bk:=by
  cases fuel with
  | zero=>exact Rd.zero
  | succ m=>
    intro cs d ps hr
    obtain ⟨xs,m',hn,hx,hl,hxl,hg⟩:=DataW.trod_array h hr
    cases hn
    simp only [Prod.mk.injEq] at hx
    obtain ⟨rfl,rfl⟩:=hx
    subst hts
    obtain ⟨x,h1,h2,h3⟩:=hs m (Nat.lt_succ_self m) cs xs (by omega) (by rw [List.length_replicate];omega) (fun i t' hi=>by
      have hlt:i<n:=by have:=(List.getElem?_eq_some_iff.1 hi).1;simpa using this
      have e1:t'=e:=by
        have:=List.mem_of_getElem? hi
        exact (List.mem_replicate.1 this).2
      subst e1
      have:=hg i hlt
      have hsum:∀k z:Nat,(List.replicate k z).sum=k*z:=fun k z=>by
        induction k with
        | zero=>simp
        | succ k ih=>rw [List.replicate_succ,List.sum_cons,ih,Nat.add_mul];omega
      rw [Nat.zero_add,List.take_replicate,List.map_replicate,hsum,Nat.min_eq_left (Nat.le_of_lt hlt)]
      exact this)
    exact ⟨x,h1,Nat.le_trans h2 (hB.agg _),by simpa using h3⟩
end
end Go.Aw
