/-
  Several texts in one: Y14, Y17, Y18. No condition.
-/
import Derived.Test.YtkddpedfbicbeaaGreatDoorAz
import Derived.Test.YtkddpedfbicbeaaGreatDoorK21
import Derived.Test.YtkddpedfbicbeaaGreatDoorK38
import Derived.Test.YtkddpedfbicbeaaGreatDoorY7b
import Derived.Test.YtkddpedfbicbeaaGreatDoorK29
import Derived.KernelRfl
import Derived.Test.YtkddpedfbicbeaaGreatDoorK22
set_option linter.unusedVariables false
set_option linter.unusedSimpArgs false
namespace Go.Proofs.YtkddpedfbicbeaaGreatDoor
open Go Go.Aw
set_option maxHeartbeats 1600000
set_option maxRecDepth 20000

set_option maxRecDepth 100000
theorem bA  : Av Tryz.prog 39 [] (.agg (Co qW tN)):=by
 refine Av.body (n:=12) Ai Tryz.func39 rfl rfl rfl fun H=>?_
 refine Ah ?_
 refine Qe (Al (l:=[.sl 2 [],.sl 2 []]) (by kernel_rfl)) ?_
 rintro _ _ ⟨b0,rfl,rfl⟩
 refine Df (Qp (Ep [.str _,Iq _]) (Qp (Ep [.str _,Iq _]) ?_))
 refine Qp (Az (es:=[[.str _,Iq _],[.str _,Iq _]]) Ai rfl rfl rfl rfl rfl rfl rfl rfl rfl) ?_
 refine Qp (Ep [.str _,_]) ?_
 refine Qe (Al (l:=[.str [],.sl 2 []]) (by kernel_rfl)) ?_
 rintro _ _ ⟨b1,rfl,rfl⟩
 refine Cm 0 [.str _,_] (_::_::_) ?_
 refine AOL.ghost (GS.Aad (t:=1) 0 rfl rfl) ?_
 refine Df (Qp (Ck [.str _,_]) ?_)
 refine Qp (Az (es:=[[.str _,_]]) Ai rfl rfl rfl rfl rfl rfl rfl rfl rfl) ?_
 refine Qp (Ep [.str _,Iq _]) (Qp (Ep [.str _,Iq _]) ?_)
 refine Qp (Az (es:=[[.str _,Iq _],[.str _,Iq _]]) Ai rfl rfl rfl rfl rfl rfl rfl rfl rfl) ?_
 refine Qp (Ep [_,_]) ?_
 refine Cm 0 [_,_] (_::_) ?_
 refine Ag (AW.ret ?_)
 refine ⟨.inr rfl,[.agg [_,_]],.cons (.box _ _ _ 0 _ _ _ _ rfl rfl rfl rfl rfl rfl) <| .nil,.cons _ (.refl _),?_⟩
 rfl
theorem r_FewT (T:List Sc)(hl:T.length≤1048576)(hst:∀s∈T,Jk s):Av Tryz.prog 38 [.sl 2 (T.map Nz)] (.bool (rZ T)):=by
 refine Av.body (n:=29) Ai Tryz.func38 rfl rfl rfl fun H=>?_
 refine Ah (Qp Be (Ag (AW.seq (Ah (Qp At (Ag (AW.block ?_)))))))
 refine AW.Aae (fun (k:Nat)=>(⟨[(0,.sl 2 (T.map Nz)),(3,.int .i64 (k:Int))],H,29⟩:St)) (fun (k:Nat)=>k≤T.length∧(T.take k).any bigSc=false) (fun (k:Nat)=>T.length-k) (0) ?_ (GS.weaken ⟨rfl,rfl,trivial⟩ (.refl _)) ?_
 · exact ⟨Nat.zero_le _,by simp⟩
 ·
  rintro k hR
  refine AW.seq (Ah (Qp A0 (Qp C4 ?_)))
  refine Qp (Ak (n:=T.length) Ai rfl rfl rfl (by simp)) ?_
  refine Qp Cj (Ag (A3 (fun hc1=>?_) fun hc1=>?_))
  ·
   obtain ⟨a,ha⟩:=B2 hc1
   have hlt:=A9 ha
   have hm:=List.mem_of_getElem? ha
   refine Bx (AW.seq (AW.block (Ah (Qp C4 (Qp A0 ?_)))))
   refine Qp (Af (c:=[.str _,_]) Ai rfl rfl rfl rfl rfl rfl (by omega) (Bh ha)) ?_
   refine Qp (Qf [_]) (Qp Dk ?_)
   refine Qp (Ak (n:=a.fields.length) Ai rfl rfl rfl (by simp)) ?_
   refine Qp Hg (Qp Bp (Qg [] Qw C4 (Qg [] Qw A0 ?_)))
   refine AOL.Aaf (y:=.ptr _) _ [(18,_),(19,_)] rfl (rX.all ⟨Ent.Aac _ _,Ent.Aac _ _,trivial⟩) (fun hG=>Af (c:=[.str _,_]) Ai rfl rfl rfl rfl rfl rfl (by omega) (Bh ha)) rfl ?_
   refine Qg [(20,_)] Qw (Qf [.str _,_]) (Qg [(21,_)] Qw Vr ?_)
   refine AOL.Aaf (y:=Iq _) _ [(22,_)] rfl (rX.all ⟨Ent.Aac _ _,trivial⟩) (fun hG=>Ho (n:=a.name.length) Ai rfl rfl rfl (rfl)) rfl ?_
   refine Qg [(23,_)] Qw Hg (Qp E2 (Ag (A3 (fun hc2=>?_) fun hc2=>?_)))
   ·
    refine Ah (Qp Be (Ag (AW.ret (Ba (Aj (Aj (Ba (Aj ?_))))))))
    refine Qr (.bool _) ?_
    exact Eq.trans rfl (congrArg (fun q:Bool=>AV.bool q) ((by unfold rZ;rw [if_pos (cD ha hc2)]:rZ T=false))).symm
   ·
    refine AW.skip (Bq (Ae (AW.region (Qp A0 (Qp Fv (Qp At (Ag ?_)))))))
    refine ⟨k+1,?_,?_,GS.weaken ⟨rfl,rfl,trivial⟩ (.refl _)⟩
    · exact ⟨hlt,Ye hR.2 ha hc2⟩
    · omega
  ·
   have hte:=C3 hc1
   have hall:=hR.2
   rw [hte] at hall
   refine AW.exit ?_
   refine A6 (A6 (Bv (Ae (Ah (Qp C4 ?_)))))
   refine Qp (Ak (n:=T.length) Ai rfl rfl rfl (by simp)) ?_
   refine Qp Nx (Qp Be (Ag (AW.ret ?_)))
   refine Qr (.bool _) ?_
   exact Eq.trans rfl (congrArg (fun q:Bool=>AV.bool q) ((by unfold rZ;rw [Ci hall]:rZ T=decide ((T.length:Int)≤20)))).symm
theorem l_few (T:List Sc)(hl:T.length≤1048576)(hst:∀s∈T,Jk s)(V:List Va)(hvl:V.length≤1048576)(es:List Ex)(hel:es.length≤1048576)(hes:∀e∈es,Ar e≤1048576):Av Tryz.prog 9 [.agg (Co T V),.sl 8 (es.map Fu)] (.bool (fT T V es)):=by
 refine Av.body (n:=31) Ai Tryz.func9 rfl rfl rfl fun H=>?_
 refine Ah (Qp (F5 [_,_]) (Qp Be (Ag (AW.seq (Ah (Qp C4 ?_))))))
 refine Qp (Ak (n:=es.length) Ai rfl rfl rfl (by simp)) ?_
 refine Qp A0 (Ag (AW.block ?_))
 refine AW.Aae (fun (k:Nat)=>(⟨[(1,.sl 8 (es.map Fu)),(2,.ptr (Co T V)),(7,.sl 8 (es.map Fu)),(8,.int .i64 es.length),(9,.int .i64 (k:Int))],H,31⟩:St)) (fun (k:Nat)=>k≤es.length∧(es.take k).any (fun e=>!fewX e)=false) (fun (k:Nat)=>es.length-k) (0) ?_ (GS.weaken ⟨rfl,rfl,rfl,rfl,rfl,trivial⟩ (.refl _)) ?_
 · exact ⟨Nat.zero_le _,by simp⟩
 ·
  rintro k hR
  refine Ah (Qp Cj (Ag (AW.seq (A3 (fun hc1=>?_) fun hc1=>?_))))
  ·
   obtain ⟨e,he⟩:=B2 hc1
   have hlt:=A9 he
   have hem:=List.mem_of_getElem? he
   refine Bx (AW.seq (AW.block (Ah ?_)))
   refine Qp (Af (c:=[Iq _,_,Iq _,Iq _,Iq _,Iq _,Iq _,.str _]) Ai rfl rfl rfl rfl rfl rfl (by omega) (E9 he)) ?_
   refine Qp D0 ?_
   refine Qe (Al (l:=[.int .i64 0,.sl 8 [],.int .i64 0,.int .i64 0,.int .i64 0,.int .i64 0,.int .i64 0,.str []]) (by kernel_rfl)) ?_
   rintro _ _ ⟨b6,rfl,rfl⟩
   refine Cm 0 [Iq _,_,Iq _,Iq _,Iq _,Iq _,Iq _,.str _] (_::_) ?_
   refine AOL.ghost (GS.Aad (t:=6) 0 rfl rfl) ?_
   refine Df (Qp D0 ?_)
   refine Qp (Qc rfl (c34 e (hes e hem))) ?_
   refine Qp Ge (Ag (A3 (fun hc2=>?_) fun hc2=>?_))
   ·
    refine Ah (Qp Be (Ag (AW.ret (Ba (Aj (Aj (Ba (Aj ?_))))))))
    refine Qr (.bool _) ?_
    exact Eq.trans rfl (congrArg (fun q:Bool=>AV.bool q) ((by unfold fT;rw [if_pos (cD he hc2)]:fT T V es=false))).symm
   ·
    refine AW.skip (Bq (Ae (AW.region (Qp Fv (Qp A0 (Ag ?_))))))
    refine ⟨k+1,?_,?_,GS.weaken ⟨rfl,rfl,rfl,rfl,rfl,trivial⟩ (.refl _)⟩
    · exact ⟨hlt,Ye hR.2 he hc2⟩
    · omega
  ·
   have hte:=C3 hc1
   have hall:=hR.2
   rw [hte] at hall
   refine AW.exit ?_
   refine A6 (A6 (Bv (Ae (Ah (Qp (Qf [_,_]) (Qp Dk ?_))))))
   refine Qp (Qc rfl (r_FewT T hl hst)) ?_
   refine Qp Bp (Qg [] Qw (Qf [_]) (Qg [(21,_)] Qw Dk ?_))
   refine AOL.Aaf (y:=Iq _) _ [(22,_)] rfl (rX.all ⟨Ent.Aac _ _,trivial⟩) (fun hG=>Ak (n:=V.length) Ai rfl rfl rfl (by simp)) rfl ?_
   refine Qg [(23,_)] Qw Nx (Qp E1 (Qp Bp (Qg [] Qw C4 ?_)))
   refine AOL.Aaf (y:=Iq _) _ [(27,_)] rfl (rX.all ⟨Ent.Aac _ _,trivial⟩) (fun hG=>Ak (n:=es.length) Ai rfl rfl rfl (by simp)) rfl ?_
   refine Qg [(28,_)] Qw Nx (Qp E1 (Qp Be (Ag (AW.ret ?_))))
   refine Qr (.bool _) ?_
   exact Eq.trans rfl (congrArg (fun q:Bool=>AV.bool q) ((by unfold fT;rw [Ci hall]:fT T V es=_))).symm
theorem sP (es:List Ex)(hel:es.length≤1048576)(hes:∀e∈es,Ar e≤1048576):Av Tryz.prog 45 [.sl 8 (es.map Fu),.sl 8 (es.map Fu)] (.bool true):=by
 refine Av.body (n:=27) Ai Tryz.func45 rfl rfl rfl fun H=>?_
 refine Ah (Qp Be (Ag (AW.seq (Ah (Qp C4 ?_)))))
 refine Qp (Ak (n:=es.length) Ai rfl rfl rfl (by simp)) ?_
 refine Qp C4 ?_
 refine Qp (Ak (n:=es.length) Ai rfl rfl rfl (by simp)) ?_
 refine Qp Cr (Ag (A3 (fun hc1=>?_) fun hc1=>?_))
 ·
  exact absurd hc1 (by simp)
 ·
  refine Bx (AW.seq (Ah (Qp At (Ag (AW.block ?_)))))
  refine AW.Aae (fun (k:Nat)=>(⟨[(0,.sl 8 (es.map Fu)),(1,.sl 8 (es.map Fu)),(4,.bool false),(5,.int .i64 (k:Int))],H,27⟩:St)) (fun (k:Nat)=>k≤es.length) (fun (k:Nat)=>es.length-k) (0) ?_ (GS.weaken ⟨rfl,rfl,rfl,rfl,trivial⟩ (.refl _)) ?_
  · exact Nat.zero_le _
  ·
   rintro k hR
   refine AW.seq (Ah (Qp A0 (Qp C4 ?_)))
   refine Qp (Ak (n:=es.length) Ai rfl rfl rfl (by simp)) ?_
   refine Qp Cj (Ag (A3 (fun hc2=>?_) fun hc2=>?_))
   ·
    obtain ⟨e,he⟩:=B2 hc2
    have hlt:=A9 he
    have hem:=List.mem_of_getElem? he
    refine Bx (AW.seq (AW.block (AW.seq ?_)))
    refine AW.draw mixed (fun _=>True) trivial (by kernel_rfl) ?_
    refine Qn 0 rfl C4 (Qn 1 rfl A0 ?_)
    refine Qn 2 rfl (Af (c:=[Iq _,_,Iq _,Iq _,Iq _,Iq _,Iq _,.str _]) Ai rfl rfl rfl rfl rfl rfl (by omega) (E9 he)) ?_
    refine Qn 3 rfl D0 (Qn 4 rfl C4 (Qn 5 rfl A0 ?_))
    refine Qn 6 rfl (Af (c:=[Iq _,_,Iq _,Iq _,Iq _,Iq _,Iq _,.str _]) Ai rfl rfl rfl rfl rfl rfl (by omega) (E9 he)) ?_
    refine Qn 7 rfl D0 ?_
    refine Qn 8 rfl (Qc rfl (c20 e e (hes e hem))) ?_
    refine Qn 9 rfl Ge ?_
    refine Jv.done _ _ (by kernel_rfl) ?_
    refine Ae (A3 (fun hc3=>?_) fun hc3=>?_)
    ·
     exact absurd hc3 (by rw [(Tj e e).2 rfl];simp)
    ·
     refine AW.skip (Bq (Ae (AW.region (Qp A0 (Qp Fv (Qp At (Ag ?_)))))))
     refine ⟨k+1,?_,?_,GS.weaken ⟨rfl,rfl,rfl,rfl,trivial⟩ (.refl _)⟩
     · exact hlt
     · omega
   ·
    refine AW.exit ?_
    refine A6 (A6 (Bv (Ae (Ah (Qp Be (Ag (AW.ret ?_)))))))
    refine Qr (.bool _) ?_
    rfl
theorem r_SameZ (z:Zn)(hz:z.bs.length≤1048576):Av Tryz.prog 44 [.agg (Tw z),.agg (Tw z)] (.bool true):=by
 refine Av.body (n:=38) Ai Tryz.func44 rfl rfl rfl fun H=>?_
 refine Ah (Qp (F5 [Iq _,_]) (Qp (F5 [Iq _,_]) (Qp Be (Ag (AW.seq (Ah (Qp (Qf [Iq _,_]) (Qp Bs (Qp (Qf [Iq _,_]) ?_)))))))))
 refine Qp Bs (Qp Cr (Qp Bp (Qg [] Qw (Qf [_]) (Qg [(12,_)] Qw Dk ?_))))
 refine AOL.Aaf (y:=Iq _) _ [(13,_)] rfl (rX.all ⟨Ent.Aac _ _,trivial⟩) (fun hG=>Ak (n:=z.bs.length) Ai rfl rfl rfl (by simp)) rfl ?_
 refine Qg [] Qw (Qf [_]) (Qg [(15,_)] Qw Dk ?_)
 refine AOL.Aaf (y:=Iq _) _ [(16,_)] rfl (rX.all ⟨Ent.Aac _ _,trivial⟩) (fun hG=>Ak (n:=z.bs.length) Ai rfl rfl rfl (by simp)) rfl ?_
 refine AOL.Aaf (y:=.bool _) _ [(14,_),(17,_)] rfl (rX.all ⟨Ent.Aac _ _,Ent.Aac _ _,trivial⟩) (fun hG=>Ox rfl rfl) rfl ?_
 refine Qp E2 (Ag (A3 (fun hc1=>?_) fun hc1=>?_))
 ·
  exact absurd hc1 (by simp)
 ·
  refine Bx (AW.seq (Ah (Qp At (Ag (AW.block ?_)))))
  refine AW.Aae (fun (k:Nat)=>(⟨[(2,.ptr (Tw z)),(3,.ptr (Tw z)),(4,.bool false),(5,.int .i64 (k:Int))],H,38⟩:St)) (fun (k:Nat)=>k≤z.bs.length) (fun (k:Nat)=>z.bs.length-k) (0) ?_ (GS.weaken ⟨rfl,rfl,rfl,rfl,trivial⟩ (.refl _)) ?_
  · exact Nat.zero_le _
  ·
   rintro k hR
   refine AW.seq (Ah (Qp A0 (Qp (Qf [_]) (Qp Dk ?_))))
   refine Qp (Ak (n:=z.bs.length) Ai rfl rfl rfl (by simp)) ?_
   refine Qp Cj (Ag (A3 (fun hc2=>?_) fun hc2=>?_))
   ·
    obtain ⟨a,ha⟩:=B2 hc2
    have hlt:=A9 ha
    have hm:=List.mem_of_getElem? ha
    refine Bx (AW.seq (AW.block (AW.seq ?_)))
    refine AW.draw mixed (fun _=>True) trivial (by kernel_rfl) ?_
    refine Qn 0 rfl (Qf [_]) (Qn 1 rfl Dk (Qn 2 rfl A0 ?_))
    refine Qn 3 rfl (Af (c:=[Iq _,Iq _,Iq _]) Ai rfl rfl rfl rfl rfl rfl (by omega) (Bh ha)) ?_
    refine Qn 4 rfl (Ck [Iq _,Iq _,Iq _]) (Qn 5 rfl (Qf [_]) (Qn 6 rfl Dk (Qn 7 rfl A0 ?_)))
    refine Qn 8 rfl (Af (c:=[Iq _,Iq _,Iq _]) Ai rfl rfl rfl rfl rfl rfl (by omega) (Bh ha)) ?_
    refine Qn 9 rfl (Ck [Iq _,Iq _,Iq _]) ?_
    refine Qn 10 rfl (Hm Ai rfl rfl rfl rfl rfl) ?_
    refine Jv.done _ _ (by kernel_rfl) ?_
    refine Ae (A3 (fun hc3=>?_) fun hc3=>?_)
    ·
     exact absurd hc3 (by simp)
    ·
     refine AW.skip (Bq (Ae (AW.region (Qp A0 (Qp Fv (Qp At (Ag ?_)))))))
     refine ⟨k+1,?_,?_,GS.weaken ⟨rfl,rfl,rfl,rfl,trivial⟩ (.refl _)⟩
     · exact hlt
     · omega
   ·
    refine AW.exit ?_
    refine A6 (A6 (Bv (Ae (Ah (Qp Be (Ag (AW.ret ?_)))))))
    refine Qr (.bool _) ?_
    rfl
theorem yO (n:Int):Av Tryz.prog 46 [.int .i64 n] (.agg (cE (fD n))):=by
 refine Av.body (n:=9) Ai Tryz.func46 rfl rfl rfl fun H=>?_
 refine Ah ?_
 refine Qe (Al (l:=[.int .i64 0,.sl 8 [],.int .i64 0,.int .i64 0,.int .i64 0,.int .i64 0,.int .i64 0,.str []]) (by kernel_rfl)) ?_
 rintro _ _ ⟨b2,rfl,rfl⟩
 refine Df ?_
 refine Qp (Qc rfl (Fx _)) ?_
 refine Qp (Qc rfl (Fx _)) ?_
 refine Qp A0 ?_
 refine Qp (Qc rfl (Oo _)) ?_
 refine Qp (Qc rfl (Lg _ _ _)) ?_
 refine Qp (Qc rfl (Lg _ _ _)) ?_
 refine Cm 0 [Iq _,_,Iq _,Iq _,Iq _,Iq _,Iq _,.str _] (_::_) ?_
 refine Ag (AW.ret ?_)
 refine ⟨.inr rfl,[.agg [Iq _,_,Iq _,Iq _,Iq _,Iq _,Iq _,.str _]],.cons (.box _ _ _ 0 _ _ _ _ rfl rfl rfl rfl rfl rfl) <| .nil,.cons _ (.refl _),?_⟩
 rfl
theorem pZ (w:Int)(es:List Ex)(hel:es.length≤60)(hes:∀e∈es,Ar e≤1048576):Av Tryz.prog 47 [.int .i64 w,.sl 8 (es.map Fu)] (.bool (kE w es)):=by
 refine Av.body (n:=27) Ai Tryz.func47 rfl rfl rfl fun H=>?_
 refine Ah (Qp Be (Df ?_))
 refine Qp (Qc rfl (bA)) ?_
 refine Qe (Al (l:=[.sl 2 [],.sl 2 []]) (by kernel_rfl)) ?_
 rintro _ _ ⟨b5,rfl,rfl⟩
 refine Cm 0 [_,_] (_::_) ?_
 refine AOL.ghost (GS.Aad (t:=5) 0 rfl rfl) ?_
 refine Df (Qp (Qf [_,_]) (Qp Dk (Qp (Qf [_]) (Qp Dk (Qp C4 ?_)))))
 refine Qp (Qc rfl (Wp qW (by decide) gT tN (by decide) es hel hes)) ?_
 refine Qp Mv (Qp Jn (Qp Qxs (Qp Jn (Qp At (Qp Wj (Qp At (Df (Qp A0 (Qp A5 ?_)))))))))
 refine Qp Bp (Qg [] Qw A0 (Qg [] Qw A0 ?_))
 refine AOL.Aaf (y:=.bool _) _ [(23,_),(24,_)] rfl (rX.all ⟨Ent.Aac _ _,Ent.Aac _ _,trivial⟩) (fun hG=>P_eql rfl rfl) rfl ?_
 refine Qp E1 (Qp Be (Ag (AW.ret ?_)))
 refine Qr (.bool _) ?_
 rfl
theorem Lh (w:Int)(es:List Ex)(hel:es.length≤60)(hes:∀e∈es,Ar e≤1048576)(h:kE w es=true):Av Tryz.prog 47 [.int .i64 w,.sl 8 (es.map cE)] (.bool true):=by
 have h1:=pZ w es hel hes
 rw [show es.map Fu=es.map cE from List.map_congr_left fun e _=>Jg e,h] at h1
 exact h1

set_option maxHeartbeats 1600000
set_option maxRecDepth 20000

theorem r_few1 (l:List Vl):Av Tryz.prog 112 [.sl 3 (l.map cV)] (.bool (Xe l)):=by
 refine Av.body (n:=24) Ai Tryz.func112 rfl rfl rfl fun H=>?_
 refine Ah (Qp Be (Ag (AW.seq (Ah (Qp At (Ag (AW.block ?_)))))))
 refine AW.Aae (fun (k:Nat)=>(⟨[(0,.sl 3 (l.map cV)),(3,.int .i64 (k:Int))],H,24⟩:St)) (fun (k:Nat)=>k≤40∧(l.take k).any (fun v=>decide (128<v.text.length))=false) (fun (k:Nat)=>40-k) (0) ?_ (GS.weaken ⟨rfl,rfl,trivial⟩ (.refl _)) ?_
 · exact ⟨Nat.zero_le _,by simp⟩
 ·
  rintro k hR
  refine AW.seq (Ah (Qp A0 (Qp C4 ?_)))
  refine Qp (Ak (n:=l.length) Ai rfl rfl rfl (by simp)) ?_
  refine Qp Cj (Qp Bp (Qg [] Qw A0 (Qg [(9,_)] Qw Cj (Qp E1 (Ag (A3 (fun hc1=>?_) fun hc1=>?_))))))
  ·
   rw [Bool.and_eq_true] at hc1
   have hk40:k<40:=by have:=of_decide_eq_true hc1.2;omega
   obtain ⟨a,ha⟩:=B2 hc1.1
   have hlt:=A9 ha
   have hm:=List.mem_of_getElem? ha
   refine Bx (AW.seq (AW.block (Ah (Qp C4 (Qp A0 ?_)))))
   refine Qp (Af (c:=[Iq _,Iq _,.str _]) Ai rfl rfl rfl rfl rfl rfl (by omega) (Bh ha)) ?_
   refine Qp Qf7 (Qp Vr ?_)
   refine Qp (Ho (n:=a.text.length) Ai rfl rfl rfl (rfl)) ?_
   refine Qp Hg (Ag (A3 (fun hc2=>?_) fun hc2=>?_))
   ·
    refine Ah (Qp Be (Ag (AW.ret (Ba (Aj (Aj (Ba (Aj ?_))))))))
    refine Qr (.bool _) ?_
    exact congrArg AV.bool (yB ha hk40 hc2).symm
   ·
    refine AW.skip (Bq (Ae (AW.region (Qp A0 (Qp Fv (Qp At (Ag ?_)))))))
    refine ⟨k+1,?_,?_,GS.weaken ⟨rfl,rfl,trivial⟩ (.refl _)⟩
    · exact ⟨hk40,qP ha hR.2 hc2⟩
    · omega
  ·
   refine AW.exit ?_
   refine A6 (A6 (Bv (Ae (Ah (Qp C4 ?_)))))
   refine Qp (Ak (n:=l.length) Ai rfl rfl rfl (by simp)) ?_
   refine Qp Cj (Qp Be (Ag (AW.ret ?_)))
   refine Qr (.bool _) ?_
   exact congrArg AV.bool (wR hc1 hR.1 hR.2).symm
theorem r_FewE (e:Ev):Av Tryz.prog 71 [.agg (Ph e)] (.bool (Xe e.values)):=by
 refine Av.body (n:=6) Ai Tryz.func71 rfl rfl rfl fun H=>?_
 refine Ah (Qp (F5 [Iq _,Iq _,Iq _,Iq _,_]) (Qp Be (Df (Qp (Qf [_]) (Qp Dk ?_)))))
 refine Qp (Qc rfl (r_few1 e.values)) ?_
 refine Qp Be (Ag (AW.ret ?_))
 refine Qr (.bool _) ?_
 rfl
theorem yT (l:List Ev):Av Tryz.prog 33 [.sl 5 (l.map Ph)] (.bool (lI l)):=by
 refine Av.body (n:=23) Ai Tryz.func33 rfl rfl rfl fun H=>?_
 refine Ah (Qp Be (Ag (AW.seq (Ah (Qp At (Ag (AW.block ?_)))))))
 refine AW.Aae (fun (k:Nat)=>(⟨[(0,.sl 5 (l.map Ph)),(3,.int .i64 (k:Int))],H,23⟩:St)) (fun (k:Nat)=>k≤20∧(l.take k).any (fun e=>!Xe e.values)=false) (fun (k:Nat)=>20-k) (0) ?_ (GS.weaken ⟨rfl,rfl,trivial⟩ (.refl _)) ?_
 · exact ⟨Nat.zero_le _,by simp⟩
 ·
  rintro k hR
  refine AW.seq (Ah (Qp A0 (Qp C4 ?_)))
  refine Qp (Ak (n:=l.length) Ai rfl rfl rfl (by simp)) ?_
  refine Qp Cj (Qp Bp (Qg [] Qw A0 (Qg [(9,_)] Qw Cj (Qp E1 (Ag (A3 (fun hc1=>?_) fun hc1=>?_))))))
  ·
   rw [Bool.and_eq_true] at hc1
   have hk20:k<20:=by have:=of_decide_eq_true hc1.2;omega
   obtain ⟨a,ha⟩:=B2 hc1.1
   have hlt:=A9 ha
   have hm:=List.mem_of_getElem? ha
   refine Bx (AW.seq (AW.block (Ah (Qp C4 (Qp A0 ?_)))))
   refine Qp (Af (c:=[Iq _,Iq _,Iq _,Iq _,_]) Ai rfl rfl rfl rfl rfl rfl (by omega) (Bh ha)) ?_
   refine Qp (Ck [Iq _,Iq _,Iq _,Iq _,_]) ?_
   refine Qp (Qc rfl (r_FewE a)) ?_
   refine Qp Ge (Ag (A3 (fun hc2=>?_) fun hc2=>?_))
   ·
    refine Ah (Qp Be (Ag (AW.ret (Ba (Aj (Aj (Ba (Aj ?_))))))))
    refine Qr (.bool _) ?_
    exact congrArg AV.bool (vT ha hk20 hc2).symm
   ·
    refine AW.skip (Bq (Ae (AW.region (Qp A0 (Qp Fv (Qp At (Ag ?_)))))))
    refine ⟨k+1,?_,?_,GS.weaken ⟨rfl,rfl,trivial⟩ (.refl _)⟩
    · exact ⟨hk20,by rw [iS _ ha,hR.2,hc2];rfl⟩
    · omega
  ·
   refine AW.exit ?_
   refine A6 (A6 (Bv (Ae (Ah (Qp C4 ?_)))))
   refine Qp (Ak (n:=l.length) Ai rfl rfl rfl (by simp)) ?_
   refine Qp Nx (Qp Be (Ag (AW.ret ?_)))
   refine Qr (.bool _) ?_
   exact congrArg AV.bool (uP hc1 hR.1 hR.2).symm
theorem zK (T:List Sc)(hs:∀s∈T,Jk s)(e:Ev):Av Tryz.prog 111 [.sl 2 (T.map Nz),.agg (Ph e)] (.int .i64 (Iy T e)):=by
 refine Av.body (n:=83) Ai Tryz.func111 rfl rfl rfl fun H=>?_
 refine Ah (Qp (F5 [Iq _,Iq _,Iq _,Iq _,_]) (Qp At (Ag (AW.seq (Ah (Qp (Qf [Iq _,Iq _,Iq _,Iq _,_]) (Qp Bs (Qp Cj (Qp Bp ?_)))))))))
 refine Qg [] Qw (Qf [Iq _,Iq _,Iq _,Iq _,_]) (Qg [(12,_)] Qw Bs (Qg [(13,_)] Qw N9 (Qp E2 (Ag (A3 (fun hc1=>?_) fun hc1=>?_)))))
 ·
  refine Ah (Qp At (Ag (Dr ?_)))
  refine Qr (Iq _) ?_
  have h0:Fk e=32:=by unfold Fk;rw [if_pos hc1]
  exact congrArg (AV.int .i64) (by unfold Iy;rw [h0];rfl)
 ·
  have hn0:(Fk e != 0)=false∨(decide (e.seq<0)||decide (1099511627776<e.seq)||decide (e.time<0)||decide (1099511627776<e.time))=true:=by
     unfold Fk;rw [Ci hc1];cases (decide (e.seq<0)||decide (1099511627776<e.seq)||decide (e.time<0)||decide (1099511627776<e.time)) <;> simp
  refine Bx (AW.seq (Ah (Qp (Qf [Iq _,Iq _,Iq _,_]) (Qp Bs (Qp Cj (Qp Bp (Qg [] Qw (Qf [Iq _,Iq _,Iq _,_]) (Qg [(20,_)] Qw Bs (Qg [(21,_)] Qw Hg ?_)))))))))
  refine Qp E2 (Qp Bp (Qg [] Qw (Qf [Iq _,_]) (Qg [(25,_)] Qw Bs (Qg [(26,_)] Qw Cj (Qp E2 (Qp Bp (Qg [] Qw (Qf [Iq _,_]) (Qg [(30,_)] Qw Bs (Qg [(31,_)] Qw Hg ?_)))))))))
  refine Qp E2 (Ag (A3 (fun hc2=>?_) fun hc2=>?_))
  ·
   refine Ah (Qp At (Ag (Dr ?_)))
   refine Qr (Iq _) ?_
   have h0:Fk e=2:=by unfold Fk;rw [Ci hc1,if_pos hc2]
   exact congrArg (AV.int .i64) (by unfold Iy;rw [h0];rfl)
  ·
   have hn1:(Fk e != 0)=false:=hn0.resolve_right (by rw [hc2];decide)
   refine Bx (AW.seq (Ah (Qp (Qf [Iq _,Iq _,_]) (Qp Bs (Qp Cj (Qp Bp (Qg [] Qw (Qf [Iq _,Iq _,_]) (Qg [(38,_)] Qw Bs (Qg [] Qw C4 ?_)))))))))
   refine AOL.Aaf (y:=Iq _) _ [(40,_)] rfl (rX.all ⟨Ent.Aac _ _,trivial⟩) (fun hG=>Ak (n:=T.length) Ai rfl rfl rfl (by simp)) rfl ?_
   refine AOL.Aaf (y:=.bool _) _ [(39,_),(41,_)] rfl (rX.all ⟨Ent.Aac _ _,Ent.Aac _ _,trivial⟩) (fun hG=>Ut rfl rfl) rfl ?_
   refine Qp E2 (Ag (A3 (fun hc3=>?_) fun hc3=>?_))
   ·
    refine Ah (Qp At (Ag (Dr ?_)))
    refine Qr (Iq _) ?_
    exact congrArg (AV.int .i64) (by unfold Iy;rw [Ci hn1,if_pos hc3])
   ·
    have hty:=ty_in hc3
    have hsc:T[e.type.toNat]? = some ((T[e.type.toNat]?).getD sc0):=dV sc0 hty.2
    refine Bx (Ah (Qp C4 (Qp (Qf [Iq _,Iq _,_]) (Qp Bs ?_))))
    refine Qp (Af (c:=[.str _,_]) Ai rfl rfl rfl rfl rfl rfl (hty.1) (Bh hsc)) ?_
    refine Qp (Qf [_]) (Qp Dk (Qp Wj (Ag (AW.seq (Ah (Qp (Qf [_]) (Qp Dk ?_)))))))
    refine Qp (Ak (n:=e.values.length) Ai rfl rfl rfl (by simp)) ?_
    refine Qp C4 ?_
    refine Qp (Ak (n:=(Et T e).length) Ai rfl rfl rfl (by simp [Et])) ?_
    refine Qp Cr (Ag (A3 (fun hc4=>?_) fun hc4=>?_))
    ·
     refine Ah (Qp At (Ag (Dr ?_)))
     refine Qr (Iq _) ?_
     exact congrArg (AV.int .i64) (by unfold Iy;rw [Ci hn1,Ci hc3,if_pos hc4])
    ·
     have hfl:=kR hc4
     have hfb:(Et T e).length≤1048576:=(hs _ (List.mem_of_getElem? hsc)).2.1
     refine Bx (AW.seq (Ah (Qp At (Ag (AW.block ?_)))))
     refine AW.Aae (fun (k:Nat)=>(⟨[(3,.ptr (Ph e)),(5,.sl 2 ((Et T e).map cFi)),(6,.int .i64 (k:Int))],H,83⟩:St)) (fun (k:Nat)=>k≤e.values.length∧Ny e.values (Et T e)=Ny (e.values.drop k) ((Et T e).drop k)) (fun (k:Nat)=>e.values.length-k) (0) ?_ (GS.weaken ⟨rfl,rfl,rfl,trivial⟩ (.refl _)) ?_
     · exact ⟨Nat.zero_le _,rfl⟩
     ·
      rintro k hR
      refine AW.seq (Ah (Qp A0 (Qp C4 ?_)))
      refine Qp (Ak (n:=(Et T e).length) Ai rfl rfl rfl (by simp)) ?_
      refine Qp Cj (Ag (A3 (fun hc5=>?_) fun hc5=>?_))
      ·
       have hk5:k<(Et T e).length:=by have:=of_decide_eq_true hc5;omega
       obtain ⟨a,ha⟩:=B2 (l:=e.values) (k:=k) (by simp;omega)
       have hlt:=A9 ha
       have hm:=List.mem_of_getElem? ha
       have hfk:(Et T e)[k]? = some (((Et T e)[k]?).getD fi0):=dV fi0 (by omega)
       have hstep:=sI ha hfk
       refine Bx (AW.seq (AW.block (AW.seq (Ah (Qp (Qf [_]) (Qp Dk (Qp A0 ?_)))))))
       refine Qp (Af (c:=[Iq _,Iq _,.str _]) Ai rfl rfl rfl rfl rfl rfl (by omega) (Bh ha)) ?_
       refine Qp (Ck [Iq _,Iq _,.str _]) ?_
       refine Qp (Qc rfl (c79 a)) ?_
       refine Qp At (Df (Qp A0 (Qp Cr (Ag (A3 (fun hc6=>?_) fun hc6=>?_)))))
       ·
        refine Ah (Qp A0 (Qp At (Ag (Dr (Ba (Aj (Aj (Ba (Aj ?_)))))))))
        refine Qr (Iq _) ?_
        have he:Ug a (((Et T e)[k]?).getD fi0)=Ap a:=by unfold Ug;rw [if_pos hc6]
        exact congrArg (AV.int .i64) (by unfold Iy;rw [Ci hn1,Ci hc3,Ci hc4,hR.2,hstep,he,if_pos hc6])
       ·
        refine Bx (AW.seq ?_)
        refine AW.draw mixed (fun _=>True) trivial (by kernel_rfl) ?_
        refine Qn 0 rfl (Qf [_]) (Qn 1 rfl Dk (Qn 2 rfl A0 ?_))
        refine Qn 3 rfl (Af (c:=[Iq _,Iq _,.str _]) Ai rfl rfl rfl rfl rfl rfl (by omega) (Bh ha)) ?_
        refine Qn 4 rfl Jp (Qn 5 rfl Bs (Qn 6 rfl C4 (Qn 7 rfl A0 ?_)))
        refine Qn 8 rfl (Af (c:=[.str _,Iq _]) Ai rfl rfl rfl rfl rfl rfl (by omega) (Bh hfk)) ?_
        refine Qn 9 rfl (Qf [Iq _]) (Qn 10 rfl Bs (Qn 11 rfl Cr ?_))
        refine Jv.done _ _ (by kernel_rfl) ?_
        refine Ae (A3 (fun hc7=>?_) fun hc7=>?_)
        ·
         refine Ah (Qp At (Ag (AW.ret (Ba (Aj (Aj (Ba (Aj ?_))))))))
         refine Qr (Iq _) ?_
         have he:Ug a (((Et T e)[k]?).getD fi0)=9:=by unfold Ug;rw [Ci hc6,if_pos hc7]
         exact congrArg (AV.int .i64) (by unfold Iy;rw [Ci hn1,Ci hc3,Ci hc4,hR.2,hstep,he];rfl)
        ·
         refine AW.skip (Bq (Ae (AW.region (Qp A0 (Qp Fv (Qp At (Ag ?_)))))))
         refine ⟨k+1,?_,?_,GS.weaken ⟨rfl,rfl,rfl,trivial⟩ (.refl _)⟩
         · exact ⟨hlt,by rw [hR.2,hstep,if_neg];unfold Ug;rw [Ci hc6,Ci hc7];decide⟩
         · omega
      ·
       have hd:=Dh hc5
       refine AW.exit ?_
       refine A6 (A6 (Bv (Ae (Ah (Qp At (Ag (AW.ret ?_)))))))
       refine Qr (Iq _) ?_
       exact congrArg (AV.int .i64) (by unfold Iy;rw [Ci hn1,Ci hc3,Ci hc4,hR.2,hd,qA])
theorem tJ (T:List Sc)(hl:T.length≤1048576)(hs:∀s∈T,Jk s)(e:Ev):Av Tryz.prog 70 [.sl 2 (T.map Nz),.agg (Ph e)] (.int .i64 (Fy T e)):=by
  refine Av.body (n:=14) Ai Tryz.func70 rfl rfl rfl fun H=>?_
  refine AW.seq (AW.region (Qp (F5 [Iq _,Iq _,Iq _,Iq _,_]) (Qp At (AOL.nil (Ae (AW.seq (AW.seq (AW.region (Qp C4 ?_)))))))))
  refine Qp (Qc rfl (c59 T hl hs)) ?_
  refine Qp At (AOL.nil (Ae (AW.seq (AW.region (Qp A0 (Qp Cr (AOL.nil (Ae (A3 (fun hc1=>?_) fun hc1=>?_)))))))))
  · skip
    refine AW.seq (AW.region (Qp A0 (Qp At (AOL.nil (Ae (Dr ?_))))))
    refine Qr (Iq _) ?_
    try simp only [Cx,Bool.and_true] at *
    first
      | (simp only [Ad,Fy];(first | rw [if_pos hc1] | skip);first | done | rfl)
      | (try simp only [Bool.not_eq_true',Bool.not_eq_false'] at *
         first
         | (simp only [Ad,Fy, *,Bool.false_eq_true,↓reduceIte,Bool.true_or,Bool.or_true,Bool.false_or,Bool.or_false,Bool.true_and,Bool.and_true,Bool.false_and,Bool.and_false,Bool.not_true,Bool.not_false];done)
         | (simp [Ad,Fy, *];done)
         | (simp_all [Ad,Fy];done))
      | skip
  · skip
    refine Bx (AW.seq (AW.region (Qp C4 (Qp (Ck [Iq _,Iq _,Iq _,Iq _,_]) ?_))))
    refine Qp (Qc rfl (zK T hs e)) ?_
    refine Qp At (AOL.nil (Ae (AW.ret ?_)))
    refine Qr (Iq _) ?_
    try simp only [Cx,Bool.and_true] at *
    first
      | (simp only [Ad,Fy];(first | rw [iN hc1] | skip);first | done | rfl)
      | (try simp only [Bool.not_eq_true',Bool.not_eq_false'] at *
         first
         | (simp only [Ad,Fy, *,Bool.false_eq_true,↓reduceIte,Bool.true_or,Bool.or_true,Bool.false_or,Bool.or_false,Bool.true_and,Bool.and_true,Bool.false_and,Bool.and_false,Bool.not_true,Bool.not_false];done)
         | (simp [Ad,Fy, *];done)
         | (simp_all [Ad,Fy];done))
      | skip
theorem pL (T:List Sc)(hl:T.length≤1048576)(hs:∀s∈T,Jk s)(V:List Va)(hvl:V.length≤1048576)(l:List Ev)(hel:l.length≤1048576):Av Tryz.prog 32 [.sl 2 (T.map Nz),.sl 2 (V.map Un),.sl 5 (l.map Ph)] (.bool (Ix T V l)):=by
 refine Av.body (n:=45) Ai Tryz.func32 rfl rfl rfl fun H=>?_
 refine Ah (Qp Be (Ag (AW.seq (Ah (Qp At (Ag (AW.block ?_)))))))
 refine AW.Aae (fun (k:Nat)=>(⟨[(0,.sl 2 (T.map Nz)),(1,.sl 2 (V.map Un)),(2,.sl 5 (l.map Ph)),(7,.int .i64 (k:Int))],H,45⟩:St)) (fun (k:Nat)=>k≤l.length∧((l.zip V).take k).any (Ps T)=false) (fun (k:Nat)=>l.length-k) (0) ?_ (GS.weaken ⟨rfl,rfl,rfl,rfl,trivial⟩ (.refl _)) ?_
 · exact ⟨Nat.zero_le _,by simp⟩
 ·
  rintro k hR
  refine AW.seq (Ah (Qp A0 (Qp C4 ?_)))
  refine Qp (Ak (n:=l.length) Ai rfl rfl rfl (by simp)) ?_
  refine Qp Cj (Qp Bp (Qg [] Qw A0 (Qg [] Qw C4 ?_)))
  refine AOL.Aaf (y:=Iq _) _ [(14,_)] rfl (rX.all ⟨Ent.Aac _ _,trivial⟩) (fun hG=>Ak (n:=V.length) Ai rfl rfl rfl (by simp)) rfl ?_
  refine AOL.Aaf (y:=.bool _) _ [(13,_),(15,_)] rfl (rX.all ⟨Ent.Aac _ _,Ent.Aac _ _,trivial⟩) (fun hG=>P_lss rfl rfl) rfl ?_
  refine Qp E1 (Ag (A3 (fun hc1=>?_) fun hc1=>?_))
  ·
   rw [Bool.and_eq_true] at hc1
   obtain ⟨a,ha⟩:=B2 hc1.1
   have hlt:=A9 ha
   have hm:=List.mem_of_getElem? ha
   obtain ⟨w,hw⟩:=B2 hc1.2
   have hltw:=A9 hw
   have hzw:=pK ha hw
   refine Bx (AW.seq (AW.block (AW.seq ?_)))
   refine AW.draw mixed (fun _=>True) trivial (by kernel_rfl) ?_
   refine Qn 0 rfl C4 (Qn 1 rfl C4 (Qn 2 rfl A0 ?_))
   refine Qn 3 rfl (Af (c:=[Iq _,Iq _,Iq _,Iq _,_]) Ai rfl rfl rfl rfl rfl rfl (by omega) (Bh ha)) ?_
   refine Qn 4 rfl (Ck [Iq _,Iq _,Iq _,Iq _,_]) ?_
   refine Qn 5 rfl (Qc rfl (tJ T hl hs a)) ?_
   refine Qn 6 rfl Cr (Qn 7 rfl Bp (Qo 8 rfl [] Qw C4 (Qo 9 rfl [] Qw A0 ?_)))
   refine Jv.pure _ _ 10 _ _ rfl (by kernel_rfl) (by kernel_rfl) rfl (.opt _ (.ptr _) [(28,_),(29,_)] rfl (rX.all ⟨Ent.Aac _ _,Ent.Aac _ _,trivial⟩) (fun hG=>Af (c:=[Iq _,Iq _,Iq _,Iq _,_]) Ai rfl rfl rfl rfl rfl rfl (by omega) (Bh ha)) rfl) ?_
   refine Qo 11 rfl [(30,_)] Qw (Qf [Iq _,Iq _,_]) (Qo 12 rfl [(31,_)] Qw Bs (Qo 13 rfl [] Qw C4 (Qo 14 rfl [] Qw A0 ?_)))
   refine Jv.pure _ _ 15 _ _ rfl (by kernel_rfl) (by kernel_rfl) rfl (.opt _ (.ptr _) [(33,_),(34,_)] rfl (rX.all ⟨Ent.Aac _ _,Ent.Aac _ _,trivial⟩) (fun hG=>Af (c:=[.str _,Iq _]) Ai rfl rfl rfl rfl rfl rfl (by omega) (Bh hw)) rfl) ?_
   refine Qo 16 rfl [(35,_)] Qw (Qf [Iq _]) (Qo 17 rfl [(36,_)] Qw Bs ?_)
   refine Jv.pure _ _ 18 _ _ rfl (by kernel_rfl) (by kernel_rfl) rfl (.opt _ (.bool _) [(32,_),(37,_)] rfl (rX.all ⟨Ent.Aac _ _,Ent.Aac _ _,trivial⟩) (fun hG=>Ox rfl rfl) rfl) ?_
   refine Qn 19 rfl E2 ?_
   refine Jv.done _ _ (by kernel_rfl) ?_
   refine Ae (A3 (fun hc2=>?_) fun hc2=>?_)
   ·
    refine Ah (Qp Be (Ag (AW.ret (Ba (Aj (Aj (Ba (Aj ?_))))))))
    refine Qr (.bool _) ?_
    exact Eq.trans rfl (congrArg (fun q:Bool=>AV.bool q) ((by unfold Ix;rw [if_pos (cD hzw hc2)]:Ix T V l=false))).symm
   ·
    refine AW.skip (Bq (Ae (AW.region (Qp A0 (Qp Fv (Qp At (Ag ?_)))))))
    refine ⟨k+1,?_,?_,GS.weaken ⟨rfl,rfl,rfl,rfl,trivial⟩ (.refl _)⟩
    · exact ⟨hlt,Ye hR.2 hzw hc2⟩
    · omega
  ·
   have hte:=zip_end hc1
   have hall:=hR.2
   rw [hte] at hall
   refine AW.exit ?_
   refine A6 (A6 (Bv (Ae (Ah (Qp C4 ?_)))))
   refine Qp (Ak (n:=l.length) Ai rfl rfl rfl (by simp)) ?_
   refine Qp C4 ?_
   refine Qp (Ak (n:=V.length) Ai rfl rfl rfl (by simp)) ?_
   refine Qp A5 (Qp Be (Ag (AW.ret ?_)))
   refine Qr (.bool _) ?_
   exact Eq.trans rfl (congrArg (fun q:Bool=>AV.bool q) ((by unfold Ix;rw [Ci hall]:Ix T V l=_))).symm

set_option maxHeartbeats 1600000
set_option maxRecDepth 20000

theorem r_Bind (l:List Ev)(hel:l.length≤1048576):Av Tryz.prog 26 [.sl 5 (l.map Ph)] (.agg (cEnv (Dy l))):=by
 refine Av.body (n:=22) Ai Tryz.func26 rfl rfl rfl fun H=>?_
 refine Ah ?_
 refine Qe (Al (l:=[.sl 1 []]) (by kernel_rfl)) ?_
 rintro _ _ ⟨b2,rfl,rfl⟩
 refine Df ?_
 refine Qe (Al (l:=[.val (.slice none 0 0)]) (by kernel_rfl)) ?_
 rintro _ _ ⟨b3,rfl,rfl⟩
 refine AOL.ghost (GS.cellRow 0 0 58 1 rfl rfl rfl rfl) ?_
 refine Ag (AW.seq (Ah (Qp At (Ag (AW.block ?_)))))
 refine AW.Aae (fun (p:Nat×List (List AV)×Value)=>(⟨[(0,.sl 5 (l.map Ph)),(2,.val (.pointer (some ⟨b2,0,none⟩))),(3,.val (.pointer (some ⟨b3,0,none⟩))),(4,.int .i64 (p.1:Int))],.row p.2.2 p.2.1.length 58 1 :: .box b3 47 [.row p.2.2 1 p.2.1] :: .box b2 47 [.sl 1 []]::H,22⟩:St)) (fun (p:Nat×List (List AV)×Value)=>p.1≤l.length∧p.2.1=((l.take p.1).map fun e=>[e]).map rO) (fun (p:Nat×List (List AV)×Value)=>l.length-p.1) ((0,[],.slice none 0 0)) ?_ (GS.weaken ⟨rfl,rfl,rfl,rfl,trivial⟩ (.refl _)) ?_
 · exact ⟨Nat.zero_le _,rfl⟩
 ·
  rintro p hR
  refine AW.seq (Ah (Qp A0 (Qp C4 ?_)))
  refine Qp (Ak (n:=l.length) Ai rfl rfl rfl (by simp)) ?_
  refine Qp Cj (Ag (A3 (fun hc1=>?_) fun hc1=>?_))
  ·
   obtain ⟨a,ha⟩:=B2 hc1
   have hlt:=A9 ha
   have hm:=List.mem_of_getElem? ha
   have hsc:∀c∈p.2.1,Bf c=true:=by rw [hR.2];exact Fm fun _=>rfl
   refine Bx (AW.seq (AW.block ?_))
   refine AW.draw mixed (fun H'=>_∈H') (List.mem_of_getElem? (i:=1) rfl) (by kernel_rfl) ?_
   refine Qn 0 rfl Ir ?_
   refine Qn 1 rfl (OpP.Aah (fun k=>Ax (k:=k) (c:=.row _ _ _) Ai rfl rfl rfl rfl) (fun _ h=>h)) ?_
   refine Qn 2 rfl C4 (Qn 3 rfl A0 ?_)
   refine Qn 4 rfl (Af (c:=[Iq _,Iq _,Iq _,Iq _,_]) Ai rfl rfl rfl rfl rfl rfl (by omega) (Bh ha)) ?_
   refine Qn 5 rfl (Ck [Iq _,Iq _,Iq _,Iq _,_]) ?_
   refine Qn 6 rfl (Az (es:=[[Iq _,Iq _,Iq _,Iq _,_]]) Ai rfl rfl rfl rfl rfl rfl rfl rfl rfl) ?_
   refine Qn 7 rfl (Az (es:=[[_]]) Ai rfl rfl rfl rfl rfl rfl rfl rfl rfl) ?_
   refine Jv.eff _ _ 8 _ _ rfl (by kernel_rfl) rfl rfl (Dm (k:=0) Ai rfl rfl rfl rfl rfl rfl rfl rfl (Hd rfl) (hsc) (by simp [hR.2];omega) (by simp [hR.2,maxLen];omega)) (by rintro _ _ ⟨v19,rfl,rfl⟩;simp) ?_
   rintro _ _ ⟨v19,rfl,rfl⟩
   refine Qn 9 rfl Ir ?_
   refine Jv.last _ _ 10 _ _ rfl (by kernel_rfl) rfl rfl (C6 (k:=1) (v:=.row _ _ _) (cs':=[_]) (H2:=_::_::_::_) Ai rfl rfl rfl rfl (rfl) rfl rfl rfl rfl) (by kernel_rfl) ?_
   rintro _ _ ⟨rfl,rfl⟩
   refine Bq (Ae (AW.region (Qp A0 (Qp Fv (Qp At (Ag ?_))))))
   refine ⟨(p.1+1,p.2.1 ++ [rO [a]],v19),?_,?_,GS.weaken ⟨rfl,rfl,rfl,rfl,trivial⟩ (.refl _)⟩
   · exact ⟨hlt,by simp only;rw [Cq ha,hR.2];simp⟩
   · simp only;omega
  ·
   have hte:=C3 hc1
   obtain ⟨k,es,rv⟩:=p
   simp only at hR hte
   obtain rfl:es=(Dy l).map rO:=by rw [hR.2,hte];rfl
   refine AW.exit ?_
   refine A6 (A6 (Bv (Ae (Ah ?_))))
   refine AOL.ghost (GS.cell 1 0 rfl rfl rfl rfl G8) ?_
   refine AOL.Aai (Bz (k:=1) (l:=[_]) Ai rfl rfl rfl rfl rfl) rfl rfl ?_
   refine Cm 2 [_] (_::_::_::_) ?_
   refine Ag (AW.ret ?_)
   refine ⟨.inr rfl,[.agg [_]],.cons (.box _ _ _ 2 _ _ _ _ rfl rfl rfl rfl rfl rfl) <| .nil,.cons _ (.cons _ (.cons _ (.refl _))),?_⟩
   rfl

end Go.Proofs.YtkddpedfbicbeaaGreatDoor
