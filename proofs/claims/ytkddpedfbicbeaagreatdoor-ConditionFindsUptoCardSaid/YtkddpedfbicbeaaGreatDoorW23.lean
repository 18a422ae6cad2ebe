/-
  Walks of layer 3: names. No condition.
-/
import Derived.Test.YtkddpedfbicbeaaGreatDoorAz
import Derived.Test.YtkddpedfbicbeaaGreatDoorK03
import Derived.Test.YtkddpedfbicbeaaGreatDoorW4
import Derived.KernelRfl
namespace Go.Proofs.YtkddpedfbicbeaaGreatDoor
open Go Go.Aw
set_option maxHeartbeats 400000
set_option maxRecDepth 20000
set_option linter.unusedVariables false
set_option linter.unusedSimpArgs false

theorem mS {s:List UInt8}(h:s.length≠0):s[(0:Int).toNat]? = some (s.headD 0):=by
 cases s with
 | nil=>exact absurd rfl h
 | cons a r=>rfl
theorem aY {s:List UInt8}{x:Bool}(h:Im [((((s.length:Nat):Int)==0||x),false)]):s.length≠0:=by
 have h1:=h _ (List.mem_singleton.2 rfl)
 intro h0
 simp [h0] at h1
theorem Sh {s:List UInt8}{k:Nat}{c:UInt8}(h:s[k]? = some c):s[((k:Nat):Int).toNat]? = some c:=h
theorem Pv {s:List UInt8}(h:s.length=0∨24<s.length∨Tn ((s.headD 0).toNat)=true):Lx s=false:=by
 unfold Lx
 rcases h with h | h | h
 ·
  have e:(s.length==0)=true:=by simp [h]
  rw [e];rfl
 ·
  have e:decide (s.length≤24)=false:=by simp;omega
  rw [e,Bool.and_false,Bool.false_and,Bool.false_and]
 · rw [h,Bool.not_true,Bool.and_false,Bool.false_and]
theorem fQ {s:List UInt8}(h:s.length≠0∧s.length≤24∧Tn ((s.headD 0).toNat)=false)(ha:s.all dI=true):Lx s=true:=by
 unfold Lx
 have e1:(s.length==0)=false:=by rw [beq_eq_false_iff_ne];exact h.1
 have e2:decide (s.length≤24)=true:=by simp;exact h.2.1
 rw [e1,e2,h.2.2,ha];rfl
theorem mM {s:List UInt8}(h:T0 ((s.headD 0).toNat)=false):Lx s=false:=by
  cases s with
  | nil=>rfl
  | cons a r=>
    have h1:T0 a.toNat=false:=h
    cases hd:Tn a.toNat with
    | true=>exact Pv (.inr (.inr hd))
    | false=>
      unfold Lx
      have:(a::r).all dI=false:=by rw [List.all_cons];unfold dI;rw [h1,hd];rfl
      rw [this,Bool.and_false]
theorem eM {s:List UInt8}{c:UInt8}(hm:c∈s)(h:dI c=false):s.all dI=false:=by
 rw [Bool.eq_false_iff];intro ha;rw [List.all_eq_true.1 ha c hm] at h;cases h
theorem R7 {s:List UInt8}{k:Nat}{c:UInt8}(hc:s[k]? = some c)(h:(s.take k).all dI=true)(hx:dI c=true):(s.take (k+1)).all dI=true:=by
 rw [Cq hc,List.all_append,h];simp [hx]
theorem let_dig {b:UInt8}(h:T0 b.toNat=true):Tn b.toNat=false:=by
 simp [T0,Tn] at h ⊢;omega
theorem lA {l:List Fi}{k:Nat}{a:Fi}(h:l[k]? = some a):(l.take (k+1)).map (·.name)=(l.take k).map (·.name) ++ [a.name]:=by rw [Cq h];simp
theorem iX {l:List Sc}{k:Nat}{a:Sc}(h:l[k]? = some a):(l.take (k+1)).map (·.name)=(l.take k).map (·.name) ++ [a.name]:=by rw [Cq h];simp

theorem c111 (n:Int):Av Tryz.prog 186 [.int .u8 n] (.bool (Tn n)):=by
 refine Av.body (n:=9) Ai Tryz.func186 rfl rfl rfl fun H=>?_
 refine Ah (Qp Be (Df ?_))
 refine Qp (Bj (v:=.int .u8 _) rfl) ?_
 refine Qp N9 (Qp Bp ?_)
 refine AOL.Aaf (y:=.int .u8 _) _ [] rfl (rX.all trivial) (fun hG=>Bj (v:=.int .u8 _) rfl) rfl ?_
 refine Qg [(6,_)] Qw Nx (Qp E1 (Qp Be (Ag (AW.ret ?_))))
 refine Qr (.bool _) ?_
 rfl
theorem c112 (n:Int):Av Tryz.prog 187 [.int .u8 n] (.bool (T0 n)):=by
 refine Av.body (n:=21) Ai Tryz.func187 rfl rfl rfl fun H=>?_
 refine Ah (Qp Be (Df ?_))
 refine Qp (Bj (v:=.int .u8 _) rfl) ?_
 refine Qp A5 (Qp Bp ?_)
 refine AOL.Aaf (y:=.int .u8 _) _ [] rfl (rX.all trivial) (fun hG=>Bj (v:=.int .u8 _) rfl) rfl ?_
 refine Qg [(6,_)] Qw N9 (Qg [(7,_)] Qw Bp ?_)
 refine AOL.Aaf (y:=.int .u8 _) _ [] rfl (rX.all trivial) (fun hG=>Bj (v:=.int .u8 _) rfl) rfl ?_
 refine Qg [(9,_)] Qw Nx (Qg [(8,_),(10,_)] Qw E1 (Qp E2 (Qp Bp ?_)))
 refine AOL.Aaf (y:=.int .u8 _) _ [] rfl (rX.all trivial) (fun hG=>Bj (v:=.int .u8 _) rfl) rfl ?_
 refine Qg [(14,_)] Qw N9 (Qg [(15,_)] Qw Bp ?_)
 refine AOL.Aaf (y:=.int .u8 _) _ [] rfl (rX.all trivial) (fun hG=>Bj (v:=.int .u8 _) rfl) rfl ?_
 refine Qg [(17,_)] Qw Nx (Qg [(16,_),(18,_)] Qw E1 (Qp E2 (Qp Be (Ag (AW.ret ?_)))))
 refine Qr (.bool _) ?_
 rfl
theorem c113 (n:Int):Av Tryz.prog 149 [.int .u8 n] (.bool (T0 n)):=by
 refine Av.body (n:=21) Ai Tryz.func149 rfl rfl rfl fun H=>?_
 refine Ah (Qp Be (Df ?_))
 refine Qp (Bj (v:=.int .u8 _) rfl) ?_
 refine Qp N9 (Qp Bp ?_)
 refine AOL.Aaf (y:=.int .u8 _) _ [] rfl (rX.all trivial) (fun hG=>Bj (v:=.int .u8 _) rfl) rfl ?_
 refine Qg [(6,_)] Qw Nx (Qp E1 (Qp Bp ?_))
 refine AOL.Aaf (y:=.int .u8 _) _ [] rfl (rX.all trivial) (fun hG=>Bj (v:=.int .u8 _) rfl) rfl ?_
 refine Qg [(10,_)] Qw N9 (Qg [(11,_)] Qw Bp ?_)
 refine AOL.Aaf (y:=.int .u8 _) _ [] rfl (rX.all trivial) (fun hG=>Bj (v:=.int .u8 _) rfl) rfl ?_
 refine Qg [(13,_)] Qw Nx (Qg [(12,_),(14,_)] Qw E1 (Qp E2 (Qp Bp ?_)))
 refine AOL.Aaf (y:=.int .u8 _) _ [] rfl (rX.all trivial) (fun hG=>Bj (v:=.int .u8 _) rfl) rfl ?_
 refine Qg [(18,_)] Qw A5 (Qp E2 (Qp Be (Ag (AW.ret ?_))))
 refine Qr (.bool _) ?_
 simp only [Ad,T0,AV.bool.injEq];cases h1:(n==95) <;> simp
theorem c102 (s:List UInt8)(hs:s.length≤1048576):Av Tryz.prog 171 [.str s] (.bool (Lx s)):=by
 refine Av.body (n:=35) Ai Tryz.func171 rfl rfl rfl fun H=>?_
 refine Ah (Qp Be (Ag (AW.seq (Ah (Qp eE ?_)))))
 refine Qp (Ho (n:=s.length) Ai rfl rfl rfl (rfl)) ?_
 refine Qp A5 (Qp Bp (Qg [] Qw eE ?_))
 refine AOL.Aaf (y:=Iq _) _ [(8,_)] rfl (rX.all ⟨Ent.Aac _ _,trivial⟩) (fun hG=>Ho (n:=s.length) Ai rfl rfl rfl (rfl)) rfl ?_
 refine Qg [(9,_)] Qw Hg (Qp E2 (Qp Bp (Qg [] Qw eE ?_)))
 refine AOL.Aaf (y:=.int .u8 _) _ [(13,_)] rfl (rX.all ⟨Ent.Aac _ _,trivial⟩) (fun hG=>H1 Ai rfl rfl rfl rfl (by decide) (mS (aY hG))) rfl ?_
 refine Qg [(14,_)] Qw (Qc rfl (c111 _)) ?_
 refine Qp E2 (Ag (A3 (fun hc1=>?_) fun hc1=>?_))
 ·
  refine Ah (Qp Be (Ag (Dr ?_)))
  refine Qr (.bool _) ?_
  simp only [Ad,AV.bool.injEq]
  simp only [Bool.or_eq_true,decide_eq_true_eq,beq_iff_eq] at hc1
  rcases hc1 with (h1 | h1) | h1
  · exact (Pv (.inl (by omega))).symm
  · exact (Pv (.inr (.inl (by omega)))).symm
  · exact (Pv (.inr (.inr h1))).symm
 ·
  have hn1:s.length≠0∧s.length≤24∧Tn ((s.headD 0).toNat)=false:=by
     simp only [Bool.or_eq_false_iff,decide_eq_false_iff_not,beq_eq_false_iff_ne] at hc1
     exact ⟨by omega,by omega,hc1.2⟩
  refine Bx (AW.seq (Ah (Qp eE ?_)))
  refine Qp (Ho (n:=s.length) Ai rfl rfl rfl (rfl)) ?_
  refine Qp A0 (Ag (AW.block ?_))
  refine AW.Aae (fun (p:Nat)=>(⟨[(0,.str s),(18,.int .i64 s.length),(19,.int .i64 (p:Int))],H,35⟩:St)) (fun (p:Nat)=>p≤s.length∧(s.take p).all dI=true) (fun (p:Nat)=>s.length-p) (0) ?_ (GS.weaken ⟨rfl,rfl,rfl,trivial⟩ (.refl _)) ?_
  · exact ⟨Nat.zero_le _,by simp⟩
  ·
   rintro p hR
   refine Ah (Qp Cj (Ag (AW.seq (A3 (fun hc2=>?_) fun hc2=>?_))))
   ·
    obtain ⟨c,hc⟩:=B2 hc2
    have hlt:=A9 hc
    have hm:=List.mem_of_getElem? hc
    refine Bx (AW.seq (AW.block (Ah (Qp A0 (Qp At (Df (Qp eE (Qp A0 ?_))))))))
    refine Qp (H1 Ai rfl rfl rfl rfl (by omega) (Sh hc)) ?_
    refine Qp (Qc rfl (c112 _)) ?_
    refine Qp Ge (Qp Bp (Qg [] Qw eE (Qg [] Qw A0 ?_)))
    refine AOL.Aaf (y:=.int .u8 _) _ [(28,_),(29,_)] rfl (rX.all ⟨Ent.Aac _ _,Ent.Aac _ _,trivial⟩) (fun hG=>H1 Ai rfl rfl rfl rfl (by omega) (Sh hc)) rfl ?_
    refine Qg [(30,_)] Qw (Qc rfl (c111 _)) ?_
    refine Qg [(31,_)] Qw Ge (Qp E1 (Ag (A3 (fun hc3=>?_) fun hc3=>?_)))
    ·
     have hch:dI c=false:=by
      unfold dI;cases hl:T0 c.toNat <;> cases hd:Tn c.toNat <;> simp_all
     refine Ah (Qp Be (Ag (AW.ret (Ba (Aj (Aj (Ba (Aj ?_))))))))
     refine Qr (.bool _) ?_
     simp only [Ad,AV.bool.injEq]
     symm
     unfold Lx
     rw [eM hm hch,Bool.and_false]
    ·
     have hch:dI c=true:=by
      unfold dI;cases hl:T0 c.toNat <;> cases hd:Tn c.toNat <;> simp_all
     refine AW.skip (Bq (Ae (AW.region (Qp Fv (Qp A0 (Ag ?_))))))
     refine ⟨p+1,?_,?_,GS.weaken ⟨rfl,rfl,rfl,trivial⟩ (.refl _)⟩
     · exact ⟨hlt,R7 hc hR.2 hch⟩
     · omega
   ·
    have hte:=C3 hc2
    refine AW.exit ?_
    refine A6 (A6 (Bv (Ae (Ah (Qp Be (Ag (AW.ret ?_)))))))
    refine Qr (.bool _) ?_
    simp only [Ad,AV.bool.injEq]
    exact (fQ hn1 (by rw [←hte];exact hR.2)).symm
theorem c104 (s:List UInt8)(hs:s.length≤1048576):Av Tryz.prog 113 [.str s] (.bool (Lx s)):=by
 refine Av.body (n:=41) Ai Tryz.func113 rfl rfl rfl fun H=>?_
 refine Ah (Qp Be (Ag (AW.seq (Ah (Qp eE ?_)))))
 refine Qp (Ho (n:=s.length) Ai rfl rfl rfl (rfl)) ?_
 refine Qp A5 (Qp Bp (Qg [] Qw eE ?_))
 refine AOL.Aaf (y:=Iq _) _ [(8,_)] rfl (rX.all ⟨Ent.Aac _ _,trivial⟩) (fun hG=>Ho (n:=s.length) Ai rfl rfl rfl (rfl)) rfl ?_
 refine Qg [(9,_)] Qw Hg (Qp E2 (Qp Bp (Qg [] Qw eE ?_)))
 refine AOL.Aaf (y:=.int .u8 _) _ [(13,_)] rfl (rX.all ⟨Ent.Aac _ _,trivial⟩) (fun hG=>H1 Ai rfl rfl rfl rfl (by decide) (mS (aY hG))) rfl ?_
 refine Qg [(14,_)] Qw (Qc rfl (c113 _)) ?_
 refine Qg [(15,_)] Qw Ge (Qp E2 (Ag (A3 (fun hc1=>?_) fun hc1=>?_)))
 ·
  refine Ah (Qp Be (Ag (Dr ?_)))
  refine Qr (.bool _) ?_
  simp only [Ad,AV.bool.injEq]
  simp only [Bool.or_eq_true,decide_eq_true_eq,beq_iff_eq,Bool.not_eq_true'] at hc1
  rcases hc1 with (h1 | h1) | h1
  · exact (Pv (.inl (by omega))).symm
  · exact (Pv (.inr (.inl (by omega)))).symm
  · exact (mM h1).symm
 ·
  have hn1:s.length≠0∧s.length≤24∧T0 ((s.headD 0).toNat)=true:=by
     simp only [Bool.or_eq_false_iff,decide_eq_false_iff_not,beq_eq_false_iff_ne,Bool.not_eq_false'] at hc1
     exact ⟨by omega,by omega,hc1.2⟩
  refine Bx (AW.seq (Ah (Qp At (Ag (AW.block ?_)))))
  refine AW.Aae (fun (p:Nat)=>(⟨[(0,.str s),(3,.int .i64 (p:Int))],H,41⟩:St)) (fun (p:Nat)=>p≤s.length∧(s.take p).all dI=true) (fun (p:Nat)=>s.length-p) (0) ?_ (GS.weaken ⟨rfl,rfl,trivial⟩ (.refl _)) ?_
  · exact ⟨Nat.zero_le _,by simp⟩
  ·
   rintro p hR
   refine AW.seq (Ah (Qp A0 (Qp eE ?_)))
   refine Qp (Ho (n:=s.length) Ai rfl rfl rfl (rfl)) ?_
   refine Qp Cj (Ag (A3 (fun hc2=>?_) fun hc2=>?_))
   ·
    obtain ⟨c,hc⟩:=B2 hc2
    have hlt:=A9 hc
    have hm:=List.mem_of_getElem? hc
    refine Bx (AW.seq (AW.block (Ah (Qp eE (Qp A0 ?_)))))
    refine Qp (H1 Ai rfl rfl rfl rfl (by omega) (Sh hc)) ?_
    refine Qp (Qc rfl (c113 _)) ?_
    refine Qp Ge (Qp Bp (Qg [] Qw eE (Qg [] Qw A0 ?_)))
    refine AOL.Aaf (y:=.int .u8 _) _ [(30,_),(31,_)] rfl (rX.all ⟨Ent.Aac _ _,Ent.Aac _ _,trivial⟩) (fun hG=>H1 Ai rfl rfl rfl rfl (by omega) (Sh hc)) rfl ?_
    refine Qg [(32,_)] Qw Cj (Qg [(33,_)] Qw Bp (Qg [] Qw eE (Qg [] Qw A0 ?_)))
    refine AOL.Aaf (y:=.int .u8 _) _ [(35,_),(36,_)] rfl (rX.all ⟨Ent.Aac _ _,Ent.Aac _ _,trivial⟩) (fun hG=>H1 Ai rfl rfl rfl rfl (by omega) (Sh hc)) rfl ?_
    refine Qg [(37,_)] Qw Hg (Qg [(34,_),(38,_)] Qw E2 (Qp E1 (Ag (A3 (fun hc3=>?_) fun hc3=>?_))))
    ·
     have hch:dI c=false:=by
      unfold dI Tn;cases hl:T0 c.toNat <;> simp_all <;> omega
     refine Ah (Qp Be (Ag (AW.ret (Ba (Aj (Aj (Ba (Aj ?_))))))))
     refine Qr (.bool _) ?_
     simp only [Ad,AV.bool.injEq]
     symm
     unfold Lx
     rw [eM hm hch,Bool.and_false]
    ·
     have hch:dI c=true:=by
      unfold dI Tn;cases hl:T0 c.toNat <;> simp_all <;> omega
     refine AW.skip (Bq (Ae (AW.region (Qp A0 (Qp Fv (Qp At (Ag ?_)))))))
     refine ⟨p+1,?_,?_,GS.weaken ⟨rfl,rfl,trivial⟩ (.refl _)⟩
     · exact ⟨hlt,R7 hc hR.2 hch⟩
     · omega
   ·
    have hte:=C3 hc2
    refine AW.exit ?_
    refine A6 (A6 (Bv (Ae (Ah (Qp Be (Ag (AW.ret ?_)))))))
    refine Qr (.bool _) ?_
    simp only [Ad,AV.bool.injEq]
    exact (fQ ⟨hn1.1,hn1.2.1,let_dig hn1.2.2⟩ (by rw [←hte];exact hR.2)).symm
theorem c103 (s:List UInt8)(hs:s.length≤1048576):Av Tryz.prog 172 [.str s] (.bool (Pe s)):=by
 refine Av.body (n:=9) Ai Tryz.func172 rfl rfl rfl fun H=>?_
 refine Ah (Qp Be (Df (Qp eE ?_)))
 refine Qp (Qc rfl (c102 s hs)) ?_
 refine Qp Bp (Qg [] Qw eE ?_)
 refine AOL.Aaf (y:=.bool _) _ [(6,_)] rfl (rX.all ⟨Ent.Aac _ _,trivial⟩) (fun hG=>Pz rfl rfl) rfl ?_
 refine Qp E1 (Qp Be (Ag (AW.ret ?_)))
 refine Qr (.bool _) ?_
 rfl

end Go.Proofs.YtkddpedfbicbeaaGreatDoor
