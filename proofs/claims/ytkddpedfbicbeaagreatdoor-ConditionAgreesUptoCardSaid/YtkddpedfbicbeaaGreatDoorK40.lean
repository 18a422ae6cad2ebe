/-
  Several texts in one: Y14, Y17, Y18. No condition.
-/
import Derived.Test.YtkddpedfbicbeaaGreatDoorAz
import Derived.Test.YtkddpedfbicbeaaGreatDoorK22
import Derived.Test.YtkddpedfbicbeaaGreatDoorK39
import Derived.Test.YtkddpedfbicbeaaGreatDoorY7b
import Derived.Test.YtkddpedfbicbeaaGreatDoorK31
import Derived.KernelRfl
import Derived.Test.YtkddpedfbicbeaaGreatDoorK23
set_option linter.unusedVariables false
set_option linter.unusedSimpArgs false
namespace Go.Proofs.YtkddpedfbicbeaaGreatDoor
open Go Go.Aw
set_option maxHeartbeats 1600000
set_option maxRecDepth 20000

set_option maxRecDepth 100000
theorem aJ  : Ar Tryz.prog 39 [] (.agg (Cj qV tM)):=by
 refine Ar.body (n:=12) Ai Tryz.func39 rfl rfl rfl fun H=>?_
 refine Ah ?_
 refine Qe (Aj (l:=[.sl 2 [],.sl 2 []]) (by kernel_rfl)) ?_
 rintro _ _ ⟨b0,rfl,rfl⟩
 refine Db (Qp (El [.str _,Iq _]) (Qp (El [.str _,Iq _]) ?_))
 refine Qp (A0 (es:=[[.str _,Iq _],[.str _,Iq _]]) Ai rfl rfl rfl rfl rfl rfl rfl rfl rfl) ?_
 refine Qp (El [.str _,_]) ?_
 refine Qe (Aj (l:=[.str [],.sl 2 []]) (by kernel_rfl)) ?_
 rintro _ _ ⟨b1,rfl,rfl⟩
 refine Cq 0 [.str _,_] (_::_::_) ?_
 refine AOL.ghost (GS.Aat (t:=1) 0 rfl rfl) ?_
 refine Db (Qp (Cd [.str _,_]) ?_)
 refine Qp (A0 (es:=[[.str _,_]]) Ai rfl rfl rfl rfl rfl rfl rfl rfl rfl) ?_
 refine Qp (El [.str _,Iq _]) (Qp (El [.str _,Iq _]) ?_)
 refine Qp (A0 (es:=[[.str _,Iq _],[.str _,Iq _]]) Ai rfl rfl rfl rfl rfl rfl rfl rfl rfl) ?_
 refine Qp (El [_,_]) ?_
 refine Cq 0 [_,_] (_::_) ?_
 refine Ag (AW.ret ?_)
 refine ⟨.inr rfl,[.agg [_,_]],.cons (.box _ _ _ 0 _ _ _ _ rfl rfl rfl rfl rfl rfl) <| .nil,.cons _ (.refl _),?_⟩
 rfl
theorem r_FewT (T:List Sc)(hl:T.length≤1048576)(hst:∀s∈T,I9 s):Ar Tryz.prog 38 [.sl 2 (T.map Nf)] (.bool (rQ T)):=by
 refine Ar.body (n:=29) Ai Tryz.func38 rfl rfl rfl fun H=>?_
 refine Ah (Qp Bc (Ag (AW.seq (Ah (Qp Ap (Ag (AW.block ?_)))))))
 refine AW.Aau (fun (k:Nat)=>(⟨[(0,.sl 2 (T.map Nf)),(3,.int .i64 (k:Int))],H,29⟩:St)) (fun (k:Nat)=>k≤T.length∧(T.take k).any bigSc=false) (fun (k:Nat)=>T.length-k) (0) ?_ (GS.weaken ⟨rfl,rfl,trivial⟩ (.refl _)) ?_
 · exact ⟨Nat.zero_le _,by simp⟩
 ·
  rintro k hR
  refine AW.seq (Ah (Qp Az (Qp C5 ?_)))
  refine Qp (Ak (n:=T.length) Ai rfl rfl rfl (by simp)) ?_
  refine Qp Cf (Ag (A2 (fun hc1=>?_) fun hc1=>?_))
  ·
   obtain ⟨a,ha⟩:=B1 hc1
   have hlt:=A8 ha
   have hm:=List.mem_of_getElem? ha
   refine Bv (AW.seq (AW.block (Ah (Qp C5 (Qp Az ?_)))))
   refine Qp (Af (c:=[.str _,_]) Ai rfl rfl rfl rfl rfl rfl (by omega) (Bg ha)) ?_
   refine Qp (Qf [_]) (Qp Dg ?_)
   refine Qp (Ak (n:=a.fields.length) Ai rfl rfl rfl (by simp)) ?_
   refine Qp Hb (Qp Bm (Qg [] Qw C5 (Qg [] Qw Az ?_)))
   refine AOL.Aav (y:=.ptr _) _ [(18,_),(19,_)] rfl (sB.all ⟨tO.self _ _,tO.self _ _,trivial⟩) (fun hG=>Af (c:=[.str _,_]) Ai rfl rfl rfl rfl rfl rfl (by omega) (Bg ha)) rfl ?_
   refine Qg [(20,_)] Qw (Qf [.str _,_]) (Qg [(21,_)] Qw Vn ?_)
   refine AOL.Aav (y:=Iq _) _ [(22,_)] rfl (sB.all ⟨tO.self _ _,trivial⟩) (fun hG=>He (n:=a.name.length) Ai rfl rfl rfl (rfl)) rfl ?_
   refine Qg [(23,_)] Qw Hb (Qp Ek (Ag (A2 (fun hc2=>?_) fun hc2=>?_)))
   ·
    refine Ah (Qp Bc (Ag (AW.ret (A9 (Al (Al (A9 (Al ?_))))))))
    refine Qr (.bool _) ?_
    exact Eq.trans rfl (congrArg (fun q:Bool=>AV.bool q) ((by unfold rQ;rw [if_pos (dB ha hc2)]:rQ T=false))).symm
   ·
    refine AW.skip (Bp (Ae (AW.region (Qp Az (Qp Fu (Qp Ap (Ag ?_)))))))
    refine ⟨k+1,?_,?_,GS.weaken ⟨rfl,rfl,trivial⟩ (.refl _)⟩
    · exact ⟨hlt,Wy hR.2 ha hc2⟩
    · omega
  ·
   have hte:=Cv hc1
   have hall:=hR.2
   rw [hte] at hall
   refine AW.exit ?_
   refine A3 (A3 (Bq (Ae (Ah (Qp C5 ?_)))))
   refine Qp (Ak (n:=T.length) Ai rfl rfl rfl (by simp)) ?_
   refine Qp Mt (Qp Bc (Ag (AW.ret ?_)))
   refine Qr (.bool _) ?_
   exact Eq.trans rfl (congrArg (fun q:Bool=>AV.bool q) ((by unfold rQ;rw [Cz hall]:rQ T=decide ((T.length:Int)≤20)))).symm
theorem l_few (T:List Sc)(hl:T.length≤1048576)(hst:∀s∈T,I9 s)(V:List Va)(hvl:V.length≤1048576)(es:List Ex)(hel:es.length≤1048576)(hes:∀e∈es,Av e≤1048576):Ar Tryz.prog 9 [.agg (Cj T V),.sl 8 (es.map Gs)] (.bool (iF T V es)):=by
 refine Ar.body (n:=31) Ai Tryz.func9 rfl rfl rfl fun H=>?_
 refine Ah (Qp (Fx [_,_]) (Qp Bc (Ag (AW.seq (Ah (Qp C5 ?_))))))
 refine Qp (Ak (n:=es.length) Ai rfl rfl rfl (by simp)) ?_
 refine Qp Az (Ag (AW.block ?_))
 refine AW.Aau (fun (k:Nat)=>(⟨[(1,.sl 8 (es.map Gs)),(2,.ptr (Cj T V)),(7,.sl 8 (es.map Gs)),(8,.int .i64 es.length),(9,.int .i64 (k:Int))],H,31⟩:St)) (fun (k:Nat)=>k≤es.length∧(es.take k).any (fun e=>!fewX e)=false) (fun (k:Nat)=>es.length-k) (0) ?_ (GS.weaken ⟨rfl,rfl,rfl,rfl,rfl,trivial⟩ (.refl _)) ?_
 · exact ⟨Nat.zero_le _,by simp⟩
 ·
  rintro k hR
  refine Ah (Qp Cf (Ag (AW.seq (A2 (fun hc1=>?_) fun hc1=>?_))))
  ·
   obtain ⟨e,he⟩:=B1 hc1
   have hlt:=A8 he
   have hem:=List.mem_of_getElem? he
   refine Bv (AW.seq (AW.block (Ah ?_)))
   refine Qp (Af (c:=[Iq _,_,Iq _,Iq _,Iq _,Iq _,Iq _,.str _]) Ai rfl rfl rfl rfl rfl rfl (by omega) (E0 he)) ?_
   refine Qp Dh ?_
   refine Qe (Aj (l:=[.int .i64 0,.sl 8 [],.int .i64 0,.int .i64 0,.int .i64 0,.int .i64 0,.int .i64 0,.str []]) (by kernel_rfl)) ?_
   rintro _ _ ⟨b6,rfl,rfl⟩
   refine Cq 0 [Iq _,_,Iq _,Iq _,Iq _,Iq _,Iq _,.str _] (_::_) ?_
   refine AOL.ghost (GS.Aat (t:=6) 0 rfl rfl) ?_
   refine Db (Qp Dh ?_)
   refine Qp (Qc rfl (c34 e (hes e hem))) ?_
   refine Qp Ge (Ag (A2 (fun hc2=>?_) fun hc2=>?_))
   ·
    refine Ah (Qp Bc (Ag (AW.ret (A9 (Al (Al (A9 (Al ?_))))))))
    refine Qr (.bool _) ?_
    exact Eq.trans rfl (congrArg (fun q:Bool=>AV.bool q) ((by unfold iF;rw [if_pos (dB he hc2)]:iF T V es=false))).symm
   ·
    refine AW.skip (Bp (Ae (AW.region (Qp Fu (Qp Az (Ag ?_))))))
    refine ⟨k+1,?_,?_,GS.weaken ⟨rfl,rfl,rfl,rfl,rfl,trivial⟩ (.refl _)⟩
    · exact ⟨hlt,Wy hR.2 he hc2⟩
    · omega
  ·
   have hte:=Cv hc1
   have hall:=hR.2
   rw [hte] at hall
   refine AW.exit ?_
   refine A3 (A3 (Bq (Ae (Ah (Qp (Qf [_,_]) (Qp Dg ?_))))))
   refine Qp (Qc rfl (r_FewT T hl hst)) ?_
   refine Qp Bm (Qg [] Qw (Qf [_]) (Qg [(21,_)] Qw Dg ?_))
   refine AOL.Aav (y:=Iq _) _ [(22,_)] rfl (sB.all ⟨tO.self _ _,trivial⟩) (fun hG=>Ak (n:=V.length) Ai rfl rfl rfl (by simp)) rfl ?_
   refine Qg [(23,_)] Qw Mt (Qp Em (Qp Bm (Qg [] Qw C5 ?_)))
   refine AOL.Aav (y:=Iq _) _ [(27,_)] rfl (sB.all ⟨tO.self _ _,trivial⟩) (fun hG=>Ak (n:=es.length) Ai rfl rfl rfl (by simp)) rfl ?_
   refine Qg [(28,_)] Qw Mt (Qp Em (Qp Bc (Ag (AW.ret ?_))))
   refine Qr (.bool _) ?_
   exact Eq.trans rfl (congrArg (fun q:Bool=>AV.bool q) ((by unfold iF;rw [Cz hall]:iF T V es=_))).symm
theorem qB (es:List Ex)(hel:es.length≤1048576)(hes:∀e∈es,Av e≤1048576):Ar Tryz.prog 45 [.sl 8 (es.map Gs),.sl 8 (es.map Gs)] (.bool true):=by
 refine Ar.body (n:=27) Ai Tryz.func45 rfl rfl rfl fun H=>?_
 refine Ah (Qp Bc (Ag (AW.seq (Ah (Qp C5 ?_)))))
 refine Qp (Ak (n:=es.length) Ai rfl rfl rfl (by simp)) ?_
 refine Qp C5 ?_
 refine Qp (Ak (n:=es.length) Ai rfl rfl rfl (by simp)) ?_
 refine Qp Ci (Ag (A2 (fun hc1=>?_) fun hc1=>?_))
 ·
  exact absurd hc1 (by simp)
 ·
  refine Bv (AW.seq (Ah (Qp Ap (Ag (AW.block ?_)))))
  refine AW.Aau (fun (k:Nat)=>(⟨[(0,.sl 8 (es.map Gs)),(1,.sl 8 (es.map Gs)),(4,.bool false),(5,.int .i64 (k:Int))],H,27⟩:St)) (fun (k:Nat)=>k≤es.length) (fun (k:Nat)=>es.length-k) (0) ?_ (GS.weaken ⟨rfl,rfl,rfl,rfl,trivial⟩ (.refl _)) ?_
  · exact Nat.zero_le _
  ·
   rintro k hR
   refine AW.seq (Ah (Qp Az (Qp C5 ?_)))
   refine Qp (Ak (n:=es.length) Ai rfl rfl rfl (by simp)) ?_
   refine Qp Cf (Ag (A2 (fun hc2=>?_) fun hc2=>?_))
   ·
    obtain ⟨e,he⟩:=B1 hc2
    have hlt:=A8 he
    have hem:=List.mem_of_getElem? he
    refine Bv (AW.seq (AW.block (AW.seq ?_)))
    refine AW.draw mixed (fun _=>True) trivial (by kernel_rfl) ?_
    refine Qn 0 rfl C5 (Qn 1 rfl Az ?_)
    refine Qn 2 rfl (Af (c:=[Iq _,_,Iq _,Iq _,Iq _,Iq _,Iq _,.str _]) Ai rfl rfl rfl rfl rfl rfl (by omega) (E0 he)) ?_
    refine Qn 3 rfl Dh (Qn 4 rfl C5 (Qn 5 rfl Az ?_))
    refine Qn 6 rfl (Af (c:=[Iq _,_,Iq _,Iq _,Iq _,Iq _,Iq _,.str _]) Ai rfl rfl rfl rfl rfl rfl (by omega) (E0 he)) ?_
    refine Qn 7 rfl Dh ?_
    refine Qn 8 rfl (Qc rfl (c20 e e (hes e hem))) ?_
    refine Qn 9 rfl Ge ?_
    refine Js.done _ _ (by kernel_rfl) ?_
    refine Ae (A2 (fun hc3=>?_) fun hc3=>?_)
    ·
     exact absurd hc3 (by rw [(Tj e e).2 rfl];simp)
    ·
     refine AW.skip (Bp (Ae (AW.region (Qp Az (Qp Fu (Qp Ap (Ag ?_)))))))
     refine ⟨k+1,?_,?_,GS.weaken ⟨rfl,rfl,rfl,rfl,trivial⟩ (.refl _)⟩
     · exact hlt
     · omega
   ·
    refine AW.exit ?_
    refine A3 (A3 (Bq (Ae (Ah (Qp Bc (Ag (AW.ret ?_)))))))
    refine Qr (.bool _) ?_
    rfl
theorem r_SameZ (z:Zn)(hz:z.bs.length≤1048576):Ar Tryz.prog 44 [.agg (Th z),.agg (Th z)] (.bool true):=by
 refine Ar.body (n:=38) Ai Tryz.func44 rfl rfl rfl fun H=>?_
 refine Ah (Qp (Fx [Iq _,_]) (Qp (Fx [Iq _,_]) (Qp Bc (Ag (AW.seq (Ah (Qp (Qf [Iq _,_]) (Qp Br (Qp (Qf [Iq _,_]) ?_)))))))))
 refine Qp Br (Qp Ci (Qp Bm (Qg [] Qw (Qf [_]) (Qg [(12,_)] Qw Dg ?_))))
 refine AOL.Aav (y:=Iq _) _ [(13,_)] rfl (sB.all ⟨tO.self _ _,trivial⟩) (fun hG=>Ak (n:=z.bs.length) Ai rfl rfl rfl (by simp)) rfl ?_
 refine Qg [] Qw (Qf [_]) (Qg [(15,_)] Qw Dg ?_)
 refine AOL.Aav (y:=Iq _) _ [(16,_)] rfl (sB.all ⟨tO.self _ _,trivial⟩) (fun hG=>Ak (n:=z.bs.length) Ai rfl rfl rfl (by simp)) rfl ?_
 refine AOL.Aav (y:=.bool _) _ [(14,_),(17,_)] rfl (sB.all ⟨tO.self _ _,tO.self _ _,trivial⟩) (fun hG=>O5 rfl rfl) rfl ?_
 refine Qp Ek (Ag (A2 (fun hc1=>?_) fun hc1=>?_))
 ·
  exact absurd hc1 (by simp)
 ·
  refine Bv (AW.seq (Ah (Qp Ap (Ag (AW.block ?_)))))
  refine AW.Aau (fun (k:Nat)=>(⟨[(2,.ptr (Th z)),(3,.ptr (Th z)),(4,.bool false),(5,.int .i64 (k:Int))],H,38⟩:St)) (fun (k:Nat)=>k≤z.bs.length) (fun (k:Nat)=>z.bs.length-k) (0) ?_ (GS.weaken ⟨rfl,rfl,rfl,rfl,trivial⟩ (.refl _)) ?_
  · exact Nat.zero_le _
  ·
   rintro k hR
   refine AW.seq (Ah (Qp Az (Qp (Qf [_]) (Qp Dg ?_))))
   refine Qp (Ak (n:=z.bs.length) Ai rfl rfl rfl (by simp)) ?_
   refine Qp Cf (Ag (A2 (fun hc2=>?_) fun hc2=>?_))
   ·
    obtain ⟨a,ha⟩:=B1 hc2
    have hlt:=A8 ha
    have hm:=List.mem_of_getElem? ha
    refine Bv (AW.seq (AW.block (AW.seq ?_)))
    refine AW.draw mixed (fun _=>True) trivial (by kernel_rfl) ?_
    refine Qn 0 rfl (Qf [_]) (Qn 1 rfl Dg (Qn 2 rfl Az ?_))
    refine Qn 3 rfl (Af (c:=[Iq _,Iq _,Iq _]) Ai rfl rfl rfl rfl rfl rfl (by omega) (Bg ha)) ?_
    refine Qn 4 rfl (Cd [Iq _,Iq _,Iq _]) (Qn 5 rfl (Qf [_]) (Qn 6 rfl Dg (Qn 7 rfl Az ?_)))
    refine Qn 8 rfl (Af (c:=[Iq _,Iq _,Iq _]) Ai rfl rfl rfl rfl rfl rfl (by omega) (Bg ha)) ?_
    refine Qn 9 rfl (Cd [Iq _,Iq _,Iq _]) ?_
    refine Qn 10 rfl (Hg Ai rfl rfl rfl rfl rfl) ?_
    refine Js.done _ _ (by kernel_rfl) ?_
    refine Ae (A2 (fun hc3=>?_) fun hc3=>?_)
    ·
     exact absurd hc3 (by simp)
    ·
     refine AW.skip (Bp (Ae (AW.region (Qp Az (Qp Fu (Qp Ap (Ag ?_)))))))
     refine ⟨k+1,?_,?_,GS.weaken ⟨rfl,rfl,rfl,rfl,trivial⟩ (.refl _)⟩
     · exact hlt
     · omega
   ·
    refine AW.exit ?_
    refine A3 (A3 (Bq (Ae (Ah (Qp Bc (Ag (AW.ret ?_)))))))
    refine Qr (.bool _) ?_
    rfl
theorem yJ (n:Int):Ar Tryz.prog 46 [.int .i64 n] (.agg (cE (gN n))):=by
 refine Ar.body (n:=9) Ai Tryz.func46 rfl rfl rfl fun H=>?_
 refine Ah ?_
 refine Qe (Aj (l:=[.int .i64 0,.sl 8 [],.int .i64 0,.int .i64 0,.int .i64 0,.int .i64 0,.int .i64 0,.str []]) (by kernel_rfl)) ?_
 rintro _ _ ⟨b2,rfl,rfl⟩
 refine Db ?_
 refine Qp (Qc rfl (Fy _)) ?_
 refine Qp (Qc rfl (Fy _)) ?_
 refine Qp Az ?_
 refine Qp (Qc rfl (Pl _)) ?_
 refine Qp (Qc rfl (Kb _ _ _)) ?_
 refine Qp (Qc rfl (Kb _ _ _)) ?_
 refine Cq 0 [Iq _,_,Iq _,Iq _,Iq _,Iq _,Iq _,.str _] (_::_) ?_
 refine Ag (AW.ret ?_)
 refine ⟨.inr rfl,[.agg [Iq _,_,Iq _,Iq _,Iq _,Iq _,Iq _,.str _]],.cons (.box _ _ _ 0 _ _ _ _ rfl rfl rfl rfl rfl rfl) <| .nil,.cons _ (.refl _),?_⟩
 rfl
theorem qU (w:Int)(es:List Ex)(hel:es.length≤60)(hes:∀e∈es,Av e≤1048576):Ar Tryz.prog 47 [.int .i64 w,.sl 8 (es.map Gs)] (.bool (mM w es)):=by
 refine Ar.body (n:=27) Ai Tryz.func47 rfl rfl rfl fun H=>?_
 refine Ah (Qp Bc (Db ?_))
 refine Qp (Qc rfl (aJ)) ?_
 refine Qe (Aj (l:=[.sl 2 [],.sl 2 []]) (by kernel_rfl)) ?_
 rintro _ _ ⟨b5,rfl,rfl⟩
 refine Cq 0 [_,_] (_::_) ?_
 refine AOL.ghost (GS.Aat (t:=5) 0 rfl rfl) ?_
 refine Db (Qp (Qf [_,_]) (Qp Dg (Qp (Qf [_]) (Qp Dg (Qp C5 ?_)))))
 refine Qp (Qc rfl (kX qV (by decide) fU tM (by decide) es hel hes)) ?_
 refine Qp Lv (Qp Ih (Qp Qxs (Qp Ih (Qp Ap (Qp Xa (Qp Ap (Db (Qp Az (Qp A6 ?_)))))))))
 refine Qp Bm (Qg [] Qw Az (Qg [] Qw Az ?_))
 refine AOL.Aav (y:=.bool _) _ [(23,_),(24,_)] rfl (sB.all ⟨tO.self _ _,tO.self _ _,trivial⟩) (fun hG=>P_eql rfl rfl) rfl ?_
 refine Qp Em (Qp Bc (Ag (AW.ret ?_)))
 refine Qr (.bool _) ?_
 rfl
theorem Lp (w:Int)(es:List Ex)(hel:es.length≤60)(hes:∀e∈es,Av e≤1048576)(h:mM w es=true):Ar Tryz.prog 47 [.int .i64 w,.sl 8 (es.map cE)] (.bool true):=by
 have h1:=qU w es hel hes
 rw [show es.map Gs=es.map cE from List.map_congr_left fun e _=>K5 e,h] at h1
 exact h1

set_option maxHeartbeats 1600000
set_option maxRecDepth 20000

theorem r_few1 (l:List Vl):Ar Tryz.prog 112 [.sl 3 (l.map cV)] (.bool (Xd l)):=by
 refine Ar.body (n:=24) Ai Tryz.func112 rfl rfl rfl fun H=>?_
 refine Ah (Qp Bc (Ag (AW.seq (Ah (Qp Ap (Ag (AW.block ?_)))))))
 refine AW.Aau (fun (k:Nat)=>(⟨[(0,.sl 3 (l.map cV)),(3,.int .i64 (k:Int))],H,24⟩:St)) (fun (k:Nat)=>k≤40∧(l.take k).any (fun v=>decide (128<v.text.length))=false) (fun (k:Nat)=>40-k) (0) ?_ (GS.weaken ⟨rfl,rfl,trivial⟩ (.refl _)) ?_
 · exact ⟨Nat.zero_le _,by simp⟩
 ·
  rintro k hR
  refine AW.seq (Ah (Qp Az (Qp C5 ?_)))
  refine Qp (Ak (n:=l.length) Ai rfl rfl rfl (by simp)) ?_
  refine Qp Cf (Qp Bm (Qg [] Qw Az (Qg [(9,_)] Qw Cf (Qp Em (Ag (A2 (fun hc1=>?_) fun hc1=>?_))))))
  ·
   rw [Bool.and_eq_true] at hc1
   have hk40:k<40:=by have:=of_decide_eq_true hc1.2;omega
   obtain ⟨a,ha⟩:=B1 hc1.1
   have hlt:=A8 ha
   have hm:=List.mem_of_getElem? ha
   refine Bv (AW.seq (AW.block (Ah (Qp C5 (Qp Az ?_)))))
   refine Qp (Af (c:=[Iq _,Iq _,.str _]) Ai rfl rfl rfl rfl rfl rfl (by omega) (Bg ha)) ?_
   refine Qp Qf7 (Qp Vn ?_)
   refine Qp (He (n:=a.text.length) Ai rfl rfl rfl (rfl)) ?_
   refine Qp Hb (Ag (A2 (fun hc2=>?_) fun hc2=>?_))
   ·
    refine Ah (Qp Bc (Ag (AW.ret (A9 (Al (Al (A9 (Al ?_))))))))
    refine Qr (.bool _) ?_
    exact congrArg AV.bool (vH ha hk40 hc2).symm
   ·
    refine AW.skip (Bp (Ae (AW.region (Qp Az (Qp Fu (Qp Ap (Ag ?_)))))))
    refine ⟨k+1,?_,?_,GS.weaken ⟨rfl,rfl,trivial⟩ (.refl _)⟩
    · exact ⟨hk40,rF ha hR.2 hc2⟩
    · omega
  ·
   refine AW.exit ?_
   refine A3 (A3 (Bq (Ae (Ah (Qp C5 ?_)))))
   refine Qp (Ak (n:=l.length) Ai rfl rfl rfl (by simp)) ?_
   refine Qp Cf (Qp Bc (Ag (AW.ret ?_)))
   refine Qr (.bool _) ?_
   exact congrArg AV.bool (yH hc1 hR.1 hR.2).symm
theorem r_FewE (e:Ev):Ar Tryz.prog 71 [.agg (Pm e)] (.bool (Xd e.values)):=by
 refine Ar.body (n:=6) Ai Tryz.func71 rfl rfl rfl fun H=>?_
 refine Ah (Qp (Fx [Iq _,Iq _,Iq _,Iq _,_]) (Qp Bc (Db (Qp (Qf [_]) (Qp Dg ?_)))))
 refine Qp (Qc rfl (r_few1 e.values)) ?_
 refine Qp Bc (Ag (AW.ret ?_))
 refine Qr (.bool _) ?_
 rfl
theorem wH (l:List Ev):Ar Tryz.prog 33 [.sl 5 (l.map Pm)] (.bool (kP l)):=by
 refine Ar.body (n:=23) Ai Tryz.func33 rfl rfl rfl fun H=>?_
 refine Ah (Qp Bc (Ag (AW.seq (Ah (Qp Ap (Ag (AW.block ?_)))))))
 refine AW.Aau (fun (k:Nat)=>(⟨[(0,.sl 5 (l.map Pm)),(3,.int .i64 (k:Int))],H,23⟩:St)) (fun (k:Nat)=>k≤20∧(l.take k).any (fun e=>!Xd e.values)=false) (fun (k:Nat)=>20-k) (0) ?_ (GS.weaken ⟨rfl,rfl,trivial⟩ (.refl _)) ?_
 · exact ⟨Nat.zero_le _,by simp⟩
 ·
  rintro k hR
  refine AW.seq (Ah (Qp Az (Qp C5 ?_)))
  refine Qp (Ak (n:=l.length) Ai rfl rfl rfl (by simp)) ?_
  refine Qp Cf (Qp Bm (Qg [] Qw Az (Qg [(9,_)] Qw Cf (Qp Em (Ag (A2 (fun hc1=>?_) fun hc1=>?_))))))
  ·
   rw [Bool.and_eq_true] at hc1
   have hk20:k<20:=by have:=of_decide_eq_true hc1.2;omega
   obtain ⟨a,ha⟩:=B1 hc1.1
   have hlt:=A8 ha
   have hm:=List.mem_of_getElem? ha
   refine Bv (AW.seq (AW.block (Ah (Qp C5 (Qp Az ?_)))))
   refine Qp (Af (c:=[Iq _,Iq _,Iq _,Iq _,_]) Ai rfl rfl rfl rfl rfl rfl (by omega) (Bg ha)) ?_
   refine Qp (Cd [Iq _,Iq _,Iq _,Iq _,_]) ?_
   refine Qp (Qc rfl (r_FewE a)) ?_
   refine Qp Ge (Ag (A2 (fun hc2=>?_) fun hc2=>?_))
   ·
    refine Ah (Qp Bc (Ag (AW.ret (A9 (Al (Al (A9 (Al ?_))))))))
    refine Qr (.bool _) ?_
    exact congrArg AV.bool (xD ha hk20 hc2).symm
   ·
    refine AW.skip (Bp (Ae (AW.region (Qp Az (Qp Fu (Qp Ap (Ag ?_)))))))
    refine ⟨k+1,?_,?_,GS.weaken ⟨rfl,rfl,trivial⟩ (.refl _)⟩
    · exact ⟨hk20,by rw [jM _ ha,hR.2,hc2];rfl⟩
    · omega
  ·
   refine AW.exit ?_
   refine A3 (A3 (Bq (Ae (Ah (Qp C5 ?_)))))
   refine Qp (Ak (n:=l.length) Ai rfl rfl rfl (by simp)) ?_
   refine Qp Mt (Qp Bc (Ag (AW.ret ?_)))
   refine Qr (.bool _) ?_
   exact congrArg AV.bool (vD hc1 hR.1 hR.2).symm
theorem r_Valid (T:List Sc)(hs:∀s∈T,I9 s)(e:Ev):Ar Tryz.prog 111 [.sl 2 (T.map Nf),.agg (Pm e)] (.int .i64 (Jz T e)):=by
 refine Ar.body (n:=83) Ai Tryz.func111 rfl rfl rfl fun H=>?_
 refine Ah (Qp (Fx [Iq _,Iq _,Iq _,Iq _,_]) (Qp Ap (Ag (AW.seq (Ah (Qp (Qf [Iq _,Iq _,Iq _,Iq _,_]) (Qp Br (Qp Cf (Qp Bm ?_)))))))))
 refine Qg [] Qw (Qf [Iq _,Iq _,Iq _,Iq _,_]) (Qg [(12,_)] Qw Br (Qg [(13,_)] Qw Ob (Qp Ek (Ag (A2 (fun hc1=>?_) fun hc1=>?_)))))
 ·
  refine Ah (Qp Ap (Ag (Dq ?_)))
  refine Qr (Iq _) ?_
  have h0:Gu e=32:=by unfold Gu;rw [if_pos hc1]
  exact congrArg (AV.int .i64) (by unfold Jz;rw [h0];rfl)
 ·
  have hn0:(Gu e != 0)=false∨(decide (e.seq<0)||decide (1099511627776<e.seq)||decide (e.time<0)||decide (1099511627776<e.time))=true:=by
     unfold Gu;rw [Cz hc1];cases (decide (e.seq<0)||decide (1099511627776<e.seq)||decide (e.time<0)||decide (1099511627776<e.time)) <;> simp
  refine Bv (AW.seq (Ah (Qp (Qf [Iq _,Iq _,Iq _,_]) (Qp Br (Qp Cf (Qp Bm (Qg [] Qw (Qf [Iq _,Iq _,Iq _,_]) (Qg [(20,_)] Qw Br (Qg [(21,_)] Qw Hb ?_)))))))))
  refine Qp Ek (Qp Bm (Qg [] Qw (Qf [Iq _,_]) (Qg [(25,_)] Qw Br (Qg [(26,_)] Qw Cf (Qp Ek (Qp Bm (Qg [] Qw (Qf [Iq _,_]) (Qg [(30,_)] Qw Br (Qg [(31,_)] Qw Hb ?_)))))))))
  refine Qp Ek (Ag (A2 (fun hc2=>?_) fun hc2=>?_))
  ·
   refine Ah (Qp Ap (Ag (Dq ?_)))
   refine Qr (Iq _) ?_
   have h0:Gu e=2:=by unfold Gu;rw [Cz hc1,if_pos hc2]
   exact congrArg (AV.int .i64) (by unfold Jz;rw [h0];rfl)
  ·
   have hn1:(Gu e != 0)=false:=hn0.resolve_right (by rw [hc2];decide)
   refine Bv (AW.seq (Ah (Qp (Qf [Iq _,Iq _,_]) (Qp Br (Qp Cf (Qp Bm (Qg [] Qw (Qf [Iq _,Iq _,_]) (Qg [(38,_)] Qw Br (Qg [] Qw C5 ?_)))))))))
   refine AOL.Aav (y:=Iq _) _ [(40,_)] rfl (sB.all ⟨tO.self _ _,trivial⟩) (fun hG=>Ak (n:=T.length) Ai rfl rfl rfl (by simp)) rfl ?_
   refine AOL.Aav (y:=.bool _) _ [(39,_),(41,_)] rfl (sB.all ⟨tO.self _ _,tO.self _ _,trivial⟩) (fun hG=>U1 rfl rfl) rfl ?_
   refine Qp Ek (Ag (A2 (fun hc3=>?_) fun hc3=>?_))
   ·
    refine Ah (Qp Ap (Ag (Dq ?_)))
    refine Qr (Iq _) ?_
    exact congrArg (AV.int .i64) (by unfold Jz;rw [Cz hn1,if_pos hc3])
   ·
    have hty:=ty_in hc3
    have hsc:T[e.type.toNat]? = some ((T[e.type.toNat]?).getD sc0):=dJ sc0 hty.2
    refine Bv (Ah (Qp C5 (Qp (Qf [Iq _,Iq _,_]) (Qp Br ?_))))
    refine Qp (Af (c:=[.str _,_]) Ai rfl rfl rfl rfl rfl rfl (hty.1) (Bg hsc)) ?_
    refine Qp (Qf [_]) (Qp Dg (Qp Xa (Ag (AW.seq (Ah (Qp (Qf [_]) (Qp Dg ?_)))))))
    refine Qp (Ak (n:=e.values.length) Ai rfl rfl rfl (by simp)) ?_
    refine Qp C5 ?_
    refine Qp (Ak (n:=(Fa T e).length) Ai rfl rfl rfl (by simp [Fa])) ?_
    refine Qp Ci (Ag (A2 (fun hc4=>?_) fun hc4=>?_))
    ·
     refine Ah (Qp Ap (Ag (Dq ?_)))
     refine Qr (Iq _) ?_
     exact congrArg (AV.int .i64) (by unfold Jz;rw [Cz hn1,Cz hc3,if_pos hc4])
    ·
     have hfl:=mC hc4
     have hfb:(Fa T e).length≤1048576:=(hs _ (List.mem_of_getElem? hsc)).2.1
     refine Bv (AW.seq (Ah (Qp Ap (Ag (AW.block ?_)))))
     refine AW.Aau (fun (k:Nat)=>(⟨[(3,.ptr (Pm e)),(5,.sl 2 ((Fa T e).map cFi)),(6,.int .i64 (k:Int))],H,83⟩:St)) (fun (k:Nat)=>k≤e.values.length∧Qh e.values (Fa T e)=Qh (e.values.drop k) ((Fa T e).drop k)) (fun (k:Nat)=>e.values.length-k) (0) ?_ (GS.weaken ⟨rfl,rfl,rfl,trivial⟩ (.refl _)) ?_
     · exact ⟨Nat.zero_le _,rfl⟩
     ·
      rintro k hR
      refine AW.seq (Ah (Qp Az (Qp C5 ?_)))
      refine Qp (Ak (n:=(Fa T e).length) Ai rfl rfl rfl (by simp)) ?_
      refine Qp Cf (Ag (A2 (fun hc5=>?_) fun hc5=>?_))
      ·
       have hk5:k<(Fa T e).length:=by have:=of_decide_eq_true hc5;omega
       obtain ⟨a,ha⟩:=B1 (l:=e.values) (k:=k) (by simp;omega)
       have hlt:=A8 ha
       have hm:=List.mem_of_getElem? ha
       have hfk:(Fa T e)[k]? = some (((Fa T e)[k]?).getD fi0):=dJ fi0 (by omega)
       have hstep:=qM ha hfk
       refine Bv (AW.seq (AW.block (AW.seq (Ah (Qp (Qf [_]) (Qp Dg (Qp Az ?_)))))))
       refine Qp (Af (c:=[Iq _,Iq _,.str _]) Ai rfl rfl rfl rfl rfl rfl (by omega) (Bg ha)) ?_
       refine Qp (Cd [Iq _,Iq _,.str _]) ?_
       refine Qp (Qc rfl (c79 a)) ?_
       refine Qp Ap (Db (Qp Az (Qp Ci (Ag (A2 (fun hc6=>?_) fun hc6=>?_)))))
       ·
        refine Ah (Qp Az (Qp Ap (Ag (Dq (A9 (Al (Al (A9 (Al ?_)))))))))
        refine Qr (Iq _) ?_
        have he:Wt a (((Fa T e)[k]?).getD fi0)=An a:=by unfold Wt;rw [if_pos hc6]
        exact congrArg (AV.int .i64) (by unfold Jz;rw [Cz hn1,Cz hc3,Cz hc4,hR.2,hstep,he,if_pos hc6])
       ·
        refine Bv (AW.seq ?_)
        refine AW.draw mixed (fun _=>True) trivial (by kernel_rfl) ?_
        refine Qn 0 rfl (Qf [_]) (Qn 1 rfl Dg (Qn 2 rfl Az ?_))
        refine Qn 3 rfl (Af (c:=[Iq _,Iq _,.str _]) Ai rfl rfl rfl rfl rfl rfl (by omega) (Bg ha)) ?_
        refine Qn 4 rfl J2 (Qn 5 rfl Br (Qn 6 rfl C5 (Qn 7 rfl Az ?_)))
        refine Qn 8 rfl (Af (c:=[.str _,Iq _]) Ai rfl rfl rfl rfl rfl rfl (by omega) (Bg hfk)) ?_
        refine Qn 9 rfl (Qf [Iq _]) (Qn 10 rfl Br (Qn 11 rfl Ci ?_))
        refine Js.done _ _ (by kernel_rfl) ?_
        refine Ae (A2 (fun hc7=>?_) fun hc7=>?_)
        ·
         refine Ah (Qp Ap (Ag (AW.ret (A9 (Al (Al (A9 (Al ?_))))))))
         refine Qr (Iq _) ?_
         have he:Wt a (((Fa T e)[k]?).getD fi0)=9:=by unfold Wt;rw [Cz hc6,if_pos hc7]
         exact congrArg (AV.int .i64) (by unfold Jz;rw [Cz hn1,Cz hc3,Cz hc4,hR.2,hstep,he];rfl)
        ·
         refine AW.skip (Bp (Ae (AW.region (Qp Az (Qp Fu (Qp Ap (Ag ?_)))))))
         refine ⟨k+1,?_,?_,GS.weaken ⟨rfl,rfl,rfl,trivial⟩ (.refl _)⟩
         · exact ⟨hlt,by rw [hR.2,hstep,if_neg];unfold Wt;rw [Cz hc6,Cz hc7];decide⟩
         · omega
      ·
       have hd:=Df hc5
       refine AW.exit ?_
       refine A3 (A3 (Bq (Ae (Ah (Qp Ap (Ag (AW.ret ?_)))))))
       refine Qr (Iq _) ?_
       exact congrArg (AV.int .i64) (by unfold Jz;rw [Cz hn1,Cz hc3,Cz hc4,hR.2,hd,pP])
theorem tB (T:List Sc)(hl:T.length≤1048576)(hs:∀s∈T,I9 s)(e:Ev):Ar Tryz.prog 70 [.sl 2 (T.map Nf),.agg (Pm e)] (.int .i64 (Gi T e)):=by
  refine Ar.body (n:=14) Ai Tryz.func70 rfl rfl rfl fun H=>?_
  refine AW.seq (AW.region (Qp (Fx [Iq _,Iq _,Iq _,Iq _,_]) (Qp Ap (AOL.nil (Ae (AW.seq (AW.seq (AW.region (Qp C5 ?_)))))))))
  refine Qp (Qc rfl (c59 T hl hs)) ?_
  refine Qp Ap (AOL.nil (Ae (AW.seq (AW.region (Qp Az (Qp Ci (AOL.nil (Ae (A2 (fun hc1=>?_) fun hc1=>?_)))))))))
  · skip
    refine AW.seq (AW.region (Qp Az (Qp Ap (AOL.nil (Ae (Dq ?_))))))
    refine Qr (Iq _) ?_
    try simp only [Cx,Bool.and_true] at *
    first
      | (simp only [Ad,Gi];(first | rw [if_pos hc1] | skip);first | done | rfl)
      | (try simp only [Bool.not_eq_true',Bool.not_eq_false'] at *
         first
         | (simp only [Ad,Gi, *,Bool.false_eq_true,↓reduceIte,Bool.true_or,Bool.or_true,Bool.false_or,Bool.or_false,Bool.true_and,Bool.and_true,Bool.false_and,Bool.and_false,Bool.not_true,Bool.not_false];done)
         | (simp [Ad,Gi, *];done)
         | (simp_all [Ad,Gi];done))
      | skip
  · skip
    refine Bv (AW.seq (AW.region (Qp C5 (Qp (Cd [Iq _,Iq _,Iq _,Iq _,_]) ?_))))
    refine Qp (Qc rfl (r_Valid T hs e)) ?_
    refine Qp Ap (AOL.nil (Ae (AW.ret ?_)))
    refine Qr (Iq _) ?_
    try simp only [Cx,Bool.and_true] at *
    first
      | (simp only [Ad,Gi];(first | rw [iN hc1] | skip);first | done | rfl)
      | (try simp only [Bool.not_eq_true',Bool.not_eq_false'] at *
         first
         | (simp only [Ad,Gi, *,Bool.false_eq_true,↓reduceIte,Bool.true_or,Bool.or_true,Bool.false_or,Bool.or_false,Bool.true_and,Bool.and_true,Bool.false_and,Bool.and_false,Bool.not_true,Bool.not_false];done)
         | (simp [Ad,Gi, *];done)
         | (simp_all [Ad,Gi];done))
      | skip
theorem Aao (T:List Sc)(hl:T.length≤1048576)(hs:∀s∈T,I9 s)(V:List Va)(hvl:V.length≤1048576)(l:List Ev)(hel:l.length≤1048576):Ar Tryz.prog 32 [.sl 2 (T.map Nf),.sl 2 (V.map Ub),.sl 5 (l.map Pm)] (.bool (Ls T V l)):=by
 refine Ar.body (n:=45) Ai Tryz.func32 rfl rfl rfl fun H=>?_
 refine Ah (Qp Bc (Ag (AW.seq (Ah (Qp Ap (Ag (AW.block ?_)))))))
 refine AW.Aau (fun (k:Nat)=>(⟨[(0,.sl 2 (T.map Nf)),(1,.sl 2 (V.map Ub)),(2,.sl 5 (l.map Pm)),(7,.int .i64 (k:Int))],H,45⟩:St)) (fun (k:Nat)=>k≤l.length∧((l.zip V).take k).any (We T)=false) (fun (k:Nat)=>l.length-k) (0) ?_ (GS.weaken ⟨rfl,rfl,rfl,rfl,trivial⟩ (.refl _)) ?_
 · exact ⟨Nat.zero_le _,by simp⟩
 ·
  rintro k hR
  refine AW.seq (Ah (Qp Az (Qp C5 ?_)))
  refine Qp (Ak (n:=l.length) Ai rfl rfl rfl (by simp)) ?_
  refine Qp Cf (Qp Bm (Qg [] Qw Az (Qg [] Qw C5 ?_)))
  refine AOL.Aav (y:=Iq _) _ [(14,_)] rfl (sB.all ⟨tO.self _ _,trivial⟩) (fun hG=>Ak (n:=V.length) Ai rfl rfl rfl (by simp)) rfl ?_
  refine AOL.Aav (y:=.bool _) _ [(13,_),(15,_)] rfl (sB.all ⟨tO.self _ _,tO.self _ _,trivial⟩) (fun hG=>P_lss rfl rfl) rfl ?_
  refine Qp Em (Ag (A2 (fun hc1=>?_) fun hc1=>?_))
  ·
   rw [Bool.and_eq_true] at hc1
   obtain ⟨a,ha⟩:=B1 hc1.1
   have hlt:=A8 ha
   have hm:=List.mem_of_getElem? ha
   obtain ⟨w,hw⟩:=B1 hc1.2
   have hltw:=A8 hw
   have hzw:=pD ha hw
   refine Bv (AW.seq (AW.block (AW.seq ?_)))
   refine AW.draw mixed (fun _=>True) trivial (by kernel_rfl) ?_
   refine Qn 0 rfl C5 (Qn 1 rfl C5 (Qn 2 rfl Az ?_))
   refine Qn 3 rfl (Af (c:=[Iq _,Iq _,Iq _,Iq _,_]) Ai rfl rfl rfl rfl rfl rfl (by omega) (Bg ha)) ?_
   refine Qn 4 rfl (Cd [Iq _,Iq _,Iq _,Iq _,_]) ?_
   refine Qn 5 rfl (Qc rfl (tB T hl hs a)) ?_
   refine Qn 6 rfl Ci (Qn 7 rfl Bm (Qo 8 rfl [] Qw C5 (Qo 9 rfl [] Qw Az ?_)))
   refine Js.pure _ _ 10 _ _ rfl (by kernel_rfl) (by kernel_rfl) rfl (.opt _ (.ptr _) [(28,_),(29,_)] rfl (sB.all ⟨tO.self _ _,tO.self _ _,trivial⟩) (fun hG=>Af (c:=[Iq _,Iq _,Iq _,Iq _,_]) Ai rfl rfl rfl rfl rfl rfl (by omega) (Bg ha)) rfl) ?_
   refine Qo 11 rfl [(30,_)] Qw (Qf [Iq _,Iq _,_]) (Qo 12 rfl [(31,_)] Qw Br (Qo 13 rfl [] Qw C5 (Qo 14 rfl [] Qw Az ?_)))
   refine Js.pure _ _ 15 _ _ rfl (by kernel_rfl) (by kernel_rfl) rfl (.opt _ (.ptr _) [(33,_),(34,_)] rfl (sB.all ⟨tO.self _ _,tO.self _ _,trivial⟩) (fun hG=>Af (c:=[.str _,Iq _]) Ai rfl rfl rfl rfl rfl rfl (by omega) (Bg hw)) rfl) ?_
   refine Qo 16 rfl [(35,_)] Qw (Qf [Iq _]) (Qo 17 rfl [(36,_)] Qw Br ?_)
   refine Js.pure _ _ 18 _ _ rfl (by kernel_rfl) (by kernel_rfl) rfl (.opt _ (.bool _) [(32,_),(37,_)] rfl (sB.all ⟨tO.self _ _,tO.self _ _,trivial⟩) (fun hG=>O5 rfl rfl) rfl) ?_
   refine Qn 19 rfl Ek ?_
   refine Js.done _ _ (by kernel_rfl) ?_
   refine Ae (A2 (fun hc2=>?_) fun hc2=>?_)
   ·
    refine Ah (Qp Bc (Ag (AW.ret (A9 (Al (Al (A9 (Al ?_))))))))
    refine Qr (.bool _) ?_
    exact Eq.trans rfl (congrArg (fun q:Bool=>AV.bool q) ((by unfold Ls;rw [if_pos (dB hzw hc2)]:Ls T V l=false))).symm
   ·
    refine AW.skip (Bp (Ae (AW.region (Qp Az (Qp Fu (Qp Ap (Ag ?_)))))))
    refine ⟨k+1,?_,?_,GS.weaken ⟨rfl,rfl,rfl,rfl,trivial⟩ (.refl _)⟩
    · exact ⟨hlt,Wy hR.2 hzw hc2⟩
    · omega
  ·
   have hte:=zip_end hc1
   have hall:=hR.2
   rw [hte] at hall
   refine AW.exit ?_
   refine A3 (A3 (Bq (Ae (Ah (Qp C5 ?_)))))
   refine Qp (Ak (n:=l.length) Ai rfl rfl rfl (by simp)) ?_
   refine Qp C5 ?_
   refine Qp (Ak (n:=V.length) Ai rfl rfl rfl (by simp)) ?_
   refine Qp A6 (Qp Bc (Ag (AW.ret ?_)))
   refine Qr (.bool _) ?_
   exact Eq.trans rfl (congrArg (fun q:Bool=>AV.bool q) ((by unfold Ls;rw [Cz hall]:Ls T V l=_))).symm

set_option maxHeartbeats 1600000
set_option maxRecDepth 20000

theorem xN (l:List Ev)(hel:l.length≤1048576):Ar Tryz.prog 26 [.sl 5 (l.map Pm)] (.agg (cEnv (Dw l))):=by
 refine Ar.body (n:=22) Ai Tryz.func26 rfl rfl rfl fun H=>?_
 refine Ah ?_
 refine Qe (Aj (l:=[.sl 1 []]) (by kernel_rfl)) ?_
 rintro _ _ ⟨b2,rfl,rfl⟩
 refine Db ?_
 refine Qe (Aj (l:=[.val (.slice none 0 0)]) (by kernel_rfl)) ?_
 rintro _ _ ⟨b3,rfl,rfl⟩
 refine AOL.ghost (GS.cellRow 0 0 58 1 rfl rfl rfl rfl) ?_
 refine Ag (AW.seq (Ah (Qp Ap (Ag (AW.block ?_)))))
 refine AW.Aau (fun (p:Nat×List (List AV)×Value)=>(⟨[(0,.sl 5 (l.map Pm)),(2,.val (.pointer (some ⟨b2,0,none⟩))),(3,.val (.pointer (some ⟨b3,0,none⟩))),(4,.int .i64 (p.1:Int))],.row p.2.2 p.2.1.length 58 1 :: .box b3 47 [.row p.2.2 1 p.2.1] :: .box b2 47 [.sl 1 []]::H,22⟩:St)) (fun (p:Nat×List (List AV)×Value)=>p.1≤l.length∧p.2.1=((l.take p.1).map fun e=>[e]).map qQ) (fun (p:Nat×List (List AV)×Value)=>l.length-p.1) ((0,[],.slice none 0 0)) ?_ (GS.weaken ⟨rfl,rfl,rfl,rfl,trivial⟩ (.refl _)) ?_
 · exact ⟨Nat.zero_le _,rfl⟩
 ·
  rintro p hR
  refine AW.seq (Ah (Qp Az (Qp C5 ?_)))
  refine Qp (Ak (n:=l.length) Ai rfl rfl rfl (by simp)) ?_
  refine Qp Cf (Ag (A2 (fun hc1=>?_) fun hc1=>?_))
  ·
   obtain ⟨a,ha⟩:=B1 hc1
   have hlt:=A8 ha
   have hm:=List.mem_of_getElem? ha
   have hsc:∀c∈p.2.1,Bf c=true:=by rw [hR.2];exact Ff fun _=>rfl
   refine Bv (AW.seq (AW.block ?_))
   refine AW.draw mixed (fun H'=>_∈H') (List.mem_of_getElem? (i:=1) rfl) (by kernel_rfl) ?_
   refine Qn 0 rfl Iu ?_
   refine Qn 1 rfl (OpP.Aax (fun k=>At (k:=k) (c:=.row _ _ _) Ai rfl rfl rfl rfl) (fun _ h=>h)) ?_
   refine Qn 2 rfl C5 (Qn 3 rfl Az ?_)
   refine Qn 4 rfl (Af (c:=[Iq _,Iq _,Iq _,Iq _,_]) Ai rfl rfl rfl rfl rfl rfl (by omega) (Bg ha)) ?_
   refine Qn 5 rfl (Cd [Iq _,Iq _,Iq _,Iq _,_]) ?_
   refine Qn 6 rfl (A0 (es:=[[Iq _,Iq _,Iq _,Iq _,_]]) Ai rfl rfl rfl rfl rfl rfl rfl rfl rfl) ?_
   refine Qn 7 rfl (A0 (es:=[[_]]) Ai rfl rfl rfl rfl rfl rfl rfl rfl rfl) ?_
   refine Js.eff _ _ 8 _ _ rfl (by kernel_rfl) rfl rfl (Dj (k:=0) Ai rfl rfl rfl rfl rfl rfl rfl rfl (G2 rfl) (hsc) (by simp [hR.2];omega) (by simp [hR.2,maxLen];omega)) (by rintro _ _ ⟨v19,rfl,rfl⟩;simp) ?_
   rintro _ _ ⟨v19,rfl,rfl⟩
   refine Qn 9 rfl Iu ?_
   refine Js.last _ _ 10 _ _ rfl (by kernel_rfl) rfl rfl (C6 (k:=1) (v:=.row _ _ _) (cs':=[_]) (H2:=_::_::_::_) Ai rfl rfl rfl rfl (rfl) rfl rfl rfl rfl) (by kernel_rfl) ?_
   rintro _ _ ⟨rfl,rfl⟩
   refine Bp (Ae (AW.region (Qp Az (Qp Fu (Qp Ap (Ag ?_))))))
   refine ⟨(p.1+1,p.2.1 ++ [qQ [a]],v19),?_,?_,GS.weaken ⟨rfl,rfl,rfl,rfl,trivial⟩ (.refl _)⟩
   · exact ⟨hlt,by simp only;rw [Cm ha,hR.2];simp⟩
   · simp only;omega
  ·
   have hte:=Cv hc1
   obtain ⟨k,es,rv⟩:=p
   simp only at hR hte
   obtain rfl:es=(Dw l).map qQ:=by rw [hR.2,hte];rfl
   refine AW.exit ?_
   refine A3 (A3 (Bq (Ae (Ah ?_))))
   refine AOL.ghost (GS.cell 1 0 rfl rfl rfl rfl G1) ?_
   refine AOL.Aay (By (k:=1) (l:=[_]) Ai rfl rfl rfl rfl rfl) rfl rfl ?_
   refine Cq 2 [_] (_::_::_::_) ?_
   refine Ag (AW.ret ?_)
   refine ⟨.inr rfl,[.agg [_]],.cons (.box _ _ _ 2 _ _ _ _ rfl rfl rfl rfl rfl rfl) <| .nil,.cons _ (.cons _ (.cons _ (.refl _))),?_⟩
   rfl

end Go.Proofs.YtkddpedfbicbeaaGreatDoor
