/-
  Walks of layer 3: names. No condition.
-/
import Derived.Test.YtjedflcpjlgokaaGreatDoorAz
import Derived.Test.YtjedflcpjlgokaaGreatDoorK03
import Derived.Test.YtjedflcpjlgokaaGreatDoorW4
import Derived.KernelRfl
namespace Go.Proofs.YtjedflcpjlgokaaGreatDoor
open Go Go.Aw
set_option maxHeartbeats 400000
set_option maxRecDepth 20000
set_option linter.unusedVariables false
set_option linter.unusedSimpArgs false

theorem iP {s:List UInt8}(h:s.length≠0):s[(0:Int).toNat]? = some (s.headD 0):=by
 cases s with
 | nil=>exact absurd rfl h
 | cons a r=>rfl
theorem W0 {s:List UInt8}{x:Bool}(h:Hl [((((s.length:Nat):Int)==0||x),false)]):s.length≠0:=by
 have h1:=h _ (List.mem_singleton.2 rfl)
 intro h0
 simp [h0] at h1
theorem Q8 {s:List UInt8}{k:Nat}{c:UInt8}(h:s[k]? = some c):s[((k:Nat):Int).toNat]? = some c:=h
theorem Oa {s:List UInt8}(h:s.length=0∨24<s.length∨Ry ((s.headD 0).toNat)=true):Kx s=false:=by
 unfold Kx
 rcases h with h | h | h
 ·
  have e:(s.length==0)=true:=by simp [h]
  rw [e];rfl
 ·
  have e:decide (s.length≤24)=false:=by simp;omega
  rw [e,Bool.and_false,Bool.false_and,Bool.false_and]
 · rw [h,Bool.not_true,Bool.and_false,Bool.false_and]
theorem bY {s:List UInt8}(h:s.length≠0∧s.length≤24∧Ry ((s.headD 0).toNat)=false)(ha:s.all Yz=true):Kx s=true:=by
 unfold Kx
 have e1:(s.length==0)=false:=by rw [beq_eq_false_iff_ne];exact h.1
 have e2:decide (s.length≤24)=true:=by simp;exact h.2.1
 rw [e1,e2,h.2.2,ha];rfl
theorem fV {s:List UInt8}(h:Ro ((s.headD 0).toNat)=false):Kx s=false:=by
  cases s with
  | nil=>rfl
  | cons a r=>
    have h1:Ro a.toNat=false:=h
    cases hd:Ry a.toNat with
    | true=>exact Oa (.inr (.inr hd))
    | false=>
      unfold Kx
      have:(a::r).all Yz=false:=by rw [List.all_cons];unfold Yz;rw [h1,hd];rfl
      rw [this,Bool.and_false]
theorem bQ {s:List UInt8}{c:UInt8}(hm:c∈s)(h:Yz c=false):s.all Yz=false:=by
 rw [Bool.eq_false_iff];intro ha;rw [List.all_eq_true.1 ha c hm] at h;cases h
theorem Qh {s:List UInt8}{k:Nat}{c:UInt8}(hc:s[k]? = some c)(h:(s.take k).all Yz=true)(hx:Yz c=true):(s.take (k+1)).all Yz=true:=by
 rw [Cx hc,List.all_append,h];simp [hx]
theorem xR {b:UInt8}(h:Ro b.toNat=true):Ry b.toNat=false:=by
 simp [Ro,Ry] at h ⊢;omega
theorem gX {l:List Fi}{k:Nat}{a:Fi}(h:l[k]? = some a):(l.take (k+1)).map (·.name)=(l.take k).map (·.name) ++ [a.name]:=by rw [Cx h];simp
theorem bC {l:List Sc}{k:Nat}{a:Sc}(h:l[k]? = some a):(l.take (k+1)).map (·.name)=(l.take k).map (·.name) ++ [a.name]:=by rw [Cx h];simp

theorem c111 (n:Int):A1 Tryz.prog 147 [.int .u8 n] (.bool (Ry n)):=by
 refine A1.body (n:=9) Aj Tryz.func147 rfl rfl rfl fun H=>?_
 refine Ah (Qp Bb (Dv ?_))
 refine Qp (Bk (v:=.int .u8 _) rfl) ?_
 refine Qp Mq (Qp Bt ?_)
 refine AOL.Aa5 (y:=.int .u8 _) _ [] rfl (nI.all trivial) (fun hG=>Bk (v:=.int .u8 _) rfl) rfl ?_
 refine Qg [(6,_)] Qw Pk (Qp G1 (Qp Bb (Ag (AW.ret ?_))))
 refine Qr (.bool _) ?_
 rfl
theorem c112 (n:Int):A1 Tryz.prog 148 [.int .u8 n] (.bool (Ro n)):=by
 refine A1.body (n:=21) Aj Tryz.func148 rfl rfl rfl fun H=>?_
 refine Ah (Qp Bb (Dv ?_))
 refine Qp (Bk (v:=.int .u8 _) rfl) ?_
 refine Qp Ba (Qp Bt ?_)
 refine AOL.Aa5 (y:=.int .u8 _) _ [] rfl (nI.all trivial) (fun hG=>Bk (v:=.int .u8 _) rfl) rfl ?_
 refine Qg [(6,_)] Qw Mq (Qg [(7,_)] Qw Bt ?_)
 refine AOL.Aa5 (y:=.int .u8 _) _ [] rfl (nI.all trivial) (fun hG=>Bk (v:=.int .u8 _) rfl) rfl ?_
 refine Qg [(9,_)] Qw Pk (Qg [(8,_),(10,_)] Qw G1 (Qp Ew (Qp Bt ?_)))
 refine AOL.Aa5 (y:=.int .u8 _) _ [] rfl (nI.all trivial) (fun hG=>Bk (v:=.int .u8 _) rfl) rfl ?_
 refine Qg [(14,_)] Qw Mq (Qg [(15,_)] Qw Bt ?_)
 refine AOL.Aa5 (y:=.int .u8 _) _ [] rfl (nI.all trivial) (fun hG=>Bk (v:=.int .u8 _) rfl) rfl ?_
 refine Qg [(17,_)] Qw Pk (Qg [(16,_),(18,_)] Qw G1 (Qp Ew (Qp Bb (Ag (AW.ret ?_)))))
 refine Qr (.bool _) ?_
 rfl
theorem c113 (n:Int):A1 Tryz.prog 149 [.int .u8 n] (.bool (Ro n)):=by
 refine A1.body (n:=21) Aj Tryz.func149 rfl rfl rfl fun H=>?_
 refine Ah (Qp Bb (Dv ?_))
 refine Qp (Bk (v:=.int .u8 _) rfl) ?_
 refine Qp Mq (Qp Bt ?_)
 refine AOL.Aa5 (y:=.int .u8 _) _ [] rfl (nI.all trivial) (fun hG=>Bk (v:=.int .u8 _) rfl) rfl ?_
 refine Qg [(6,_)] Qw Pk (Qp G1 (Qp Bt ?_))
 refine AOL.Aa5 (y:=.int .u8 _) _ [] rfl (nI.all trivial) (fun hG=>Bk (v:=.int .u8 _) rfl) rfl ?_
 refine Qg [(10,_)] Qw Mq (Qg [(11,_)] Qw Bt ?_)
 refine AOL.Aa5 (y:=.int .u8 _) _ [] rfl (nI.all trivial) (fun hG=>Bk (v:=.int .u8 _) rfl) rfl ?_
 refine Qg [(13,_)] Qw Pk (Qg [(12,_),(14,_)] Qw G1 (Qp Ew (Qp Bt ?_)))
 refine AOL.Aa5 (y:=.int .u8 _) _ [] rfl (nI.all trivial) (fun hG=>Bk (v:=.int .u8 _) rfl) rfl ?_
 refine Qg [(18,_)] Qw Ba (Qp Ew (Qp Bb (Ag (AW.ret ?_))))
 refine Qr (.bool _) ?_
 simp only [Ae,Ro,AV.bool.injEq];cases h1:(n==95) <;> simp
theorem c102 (s:List UInt8)(hs:s.length≤1048576):A1 Tryz.prog 128 [.str s] (.bool (Kx s)):=by
 refine A1.body (n:=35) Aj Tryz.func128 rfl rfl rfl fun H=>?_
 refine Ah (Qp Bb (Ag (AW.seq (Ah (Qp aY ?_)))))
 refine Qp (G4 (n:=s.length) Aj rfl rfl rfl (rfl)) ?_
 refine Qp Ba (Qp Bt (Qg [] Qw aY ?_))
 refine AOL.Aa5 (y:=Iq _) _ [(8,_)] rfl (nI.all ⟨Ent.Aa1 _ _,trivial⟩) (fun hG=>G4 (n:=s.length) Aj rfl rfl rfl (rfl)) rfl ?_
 refine Qg [(9,_)] Qw Gl (Qp Ew (Qp Bt (Qg [] Qw aY ?_)))
 refine AOL.Aa5 (y:=.int .u8 _) _ [(13,_)] rfl (nI.all ⟨Ent.Aa1 _ _,trivial⟩) (fun hG=>Gy Aj rfl rfl rfl rfl (by decide) (iP (W0 hG))) rfl ?_
 refine Qg [(14,_)] Qw (Qc rfl (c111 _)) ?_
 refine Qp Ew (Ag (A4 (fun hc1=>?_) fun hc1=>?_))
 ·
  refine Ah (Qp Bb (Ag (D4 ?_)))
  refine Qr (.bool _) ?_
  simp only [Ae,AV.bool.injEq]
  simp only [Bool.or_eq_true,decide_eq_true_eq,beq_iff_eq] at hc1
  rcases hc1 with (h1 | h1) | h1
  · exact (Oa (.inl (by omega))).symm
  · exact (Oa (.inr (.inl (by omega)))).symm
  · exact (Oa (.inr (.inr h1))).symm
 ·
  have hn1:s.length≠0∧s.length≤24∧Ry ((s.headD 0).toNat)=false:=by
     simp only [Bool.or_eq_false_iff,decide_eq_false_iff_not,beq_eq_false_iff_ne] at hc1
     exact ⟨by omega,by omega,hc1.2⟩
  refine Bx (AW.seq (Ah (Qp aY ?_)))
  refine Qp (G4 (n:=s.length) Aj rfl rfl rfl (rfl)) ?_
  refine Qp Az (Ag (AW.block ?_))
  refine AW.Aa3 (fun (p:Nat)=>(⟨[(0,.str s),(18,.int .i64 s.length),(19,.int .i64 (p:Int))],H,35⟩:St)) (fun (p:Nat)=>p≤s.length∧(s.take p).all Yz=true) (fun (p:Nat)=>s.length-p) (0) ?_ (GS.weaken ⟨rfl,rfl,rfl,trivial⟩ (.refl _)) ?_
  · exact ⟨Nat.zero_le _,by simp⟩
  ·
   rintro p hR
   refine Ah (Qp Co (Ag (AW.seq (A4 (fun hc2=>?_) fun hc2=>?_))))
   ·
    obtain ⟨c,hc⟩:=B5 hc2
    have hlt:=Bh hc
    have hm:=List.mem_of_getElem? hc
    refine Bx (AW.seq (AW.block (Ah (Qp Az (Qp Aq (Dv (Qp aY (Qp Az ?_))))))))
    refine Qp (Gy Aj rfl rfl rfl rfl (by omega) (Q8 hc)) ?_
    refine Qp (Qc rfl (c112 _)) ?_
    refine Qp Gj (Qp Bt (Qg [] Qw aY (Qg [] Qw Az ?_)))
    refine AOL.Aa5 (y:=.int .u8 _) _ [(28,_),(29,_)] rfl (nI.all ⟨Ent.Aa1 _ _,Ent.Aa1 _ _,trivial⟩) (fun hG=>Gy Aj rfl rfl rfl rfl (by omega) (Q8 hc)) rfl ?_
    refine Qg [(30,_)] Qw (Qc rfl (c111 _)) ?_
    refine Qg [(31,_)] Qw Gj (Qp G1 (Ag (A4 (fun hc3=>?_) fun hc3=>?_)))
    ·
     have hch:Yz c=false:=by
      unfold Yz;cases hl:Ro c.toNat <;> cases hd:Ry c.toNat <;> simp_all
     refine Ah (Qp Bb (Ag (AW.ret (A6 (Ai (Ai (A6 (Ai ?_))))))))
     refine Qr (.bool _) ?_
     simp only [Ae,AV.bool.injEq]
     symm
     unfold Kx
     rw [bQ hm hch,Bool.and_false]
    ·
     have hch:Yz c=true:=by
      unfold Yz;cases hl:Ro c.toNat <;> cases hd:Ry c.toNat <;> simp_all
     refine AW.skip (Bn (Ad (AW.region (Qp Fb (Qp Az (Ag ?_))))))
     refine ⟨p+1,?_,?_,GS.weaken ⟨rfl,rfl,rfl,trivial⟩ (.refl _)⟩
     · exact ⟨hlt,Qh hc hR.2 hch⟩
     · omega
   ·
    have hte:=Cg hc2
    refine AW.exit ?_
    refine A2 (A2 (Bo (Ad (Ah (Qp Bb (Ag (AW.ret ?_)))))))
    refine Qr (.bool _) ?_
    simp only [Ae,AV.bool.injEq]
    exact (bY hn1 (by rw [←hte];exact hR.2)).symm
theorem c104 (s:List UInt8)(hs:s.length≤1048576):A1 Tryz.prog 136 [.str s] (.bool (Kx s)):=by
 refine A1.body (n:=41) Aj Tryz.func136 rfl rfl rfl fun H=>?_
 refine Ah (Qp Bb (Ag (AW.seq (Ah (Qp aY ?_)))))
 refine Qp (G4 (n:=s.length) Aj rfl rfl rfl (rfl)) ?_
 refine Qp Ba (Qp Bt (Qg [] Qw aY ?_))
 refine AOL.Aa5 (y:=Iq _) _ [(8,_)] rfl (nI.all ⟨Ent.Aa1 _ _,trivial⟩) (fun hG=>G4 (n:=s.length) Aj rfl rfl rfl (rfl)) rfl ?_
 refine Qg [(9,_)] Qw Gl (Qp Ew (Qp Bt (Qg [] Qw aY ?_)))
 refine AOL.Aa5 (y:=.int .u8 _) _ [(13,_)] rfl (nI.all ⟨Ent.Aa1 _ _,trivial⟩) (fun hG=>Gy Aj rfl rfl rfl rfl (by decide) (iP (W0 hG))) rfl ?_
 refine Qg [(14,_)] Qw (Qc rfl (c113 _)) ?_
 refine Qg [(15,_)] Qw Gj (Qp Ew (Ag (A4 (fun hc1=>?_) fun hc1=>?_)))
 ·
  refine Ah (Qp Bb (Ag (D4 ?_)))
  refine Qr (.bool _) ?_
  simp only [Ae,AV.bool.injEq]
  simp only [Bool.or_eq_true,decide_eq_true_eq,beq_iff_eq,Bool.not_eq_true'] at hc1
  rcases hc1 with (h1 | h1) | h1
  · exact (Oa (.inl (by omega))).symm
  · exact (Oa (.inr (.inl (by omega)))).symm
  · exact (fV h1).symm
 ·
  have hn1:s.length≠0∧s.length≤24∧Ro ((s.headD 0).toNat)=true:=by
     simp only [Bool.or_eq_false_iff,decide_eq_false_iff_not,beq_eq_false_iff_ne,Bool.not_eq_false'] at hc1
     exact ⟨by omega,by omega,hc1.2⟩
  refine Bx (AW.seq (Ah (Qp Aq (Ag (AW.block ?_)))))
  refine AW.Aa3 (fun (p:Nat)=>(⟨[(0,.str s),(3,.int .i64 (p:Int))],H,41⟩:St)) (fun (p:Nat)=>p≤s.length∧(s.take p).all Yz=true) (fun (p:Nat)=>s.length-p) (0) ?_ (GS.weaken ⟨rfl,rfl,trivial⟩ (.refl _)) ?_
  · exact ⟨Nat.zero_le _,by simp⟩
  ·
   rintro p hR
   refine AW.seq (Ah (Qp Az (Qp aY ?_)))
   refine Qp (G4 (n:=s.length) Aj rfl rfl rfl (rfl)) ?_
   refine Qp Co (Ag (A4 (fun hc2=>?_) fun hc2=>?_))
   ·
    obtain ⟨c,hc⟩:=B5 hc2
    have hlt:=Bh hc
    have hm:=List.mem_of_getElem? hc
    refine Bx (AW.seq (AW.block (Ah (Qp aY (Qp Az ?_)))))
    refine Qp (Gy Aj rfl rfl rfl rfl (by omega) (Q8 hc)) ?_
    refine Qp (Qc rfl (c113 _)) ?_
    refine Qp Gj (Qp Bt (Qg [] Qw aY (Qg [] Qw Az ?_)))
    refine AOL.Aa5 (y:=.int .u8 _) _ [(30,_),(31,_)] rfl (nI.all ⟨Ent.Aa1 _ _,Ent.Aa1 _ _,trivial⟩) (fun hG=>Gy Aj rfl rfl rfl rfl (by omega) (Q8 hc)) rfl ?_
    refine Qg [(32,_)] Qw Co (Qg [(33,_)] Qw Bt (Qg [] Qw aY (Qg [] Qw Az ?_)))
    refine AOL.Aa5 (y:=.int .u8 _) _ [(35,_),(36,_)] rfl (nI.all ⟨Ent.Aa1 _ _,Ent.Aa1 _ _,trivial⟩) (fun hG=>Gy Aj rfl rfl rfl rfl (by omega) (Q8 hc)) rfl ?_
    refine Qg [(37,_)] Qw Gl (Qg [(34,_),(38,_)] Qw Ew (Qp G1 (Ag (A4 (fun hc3=>?_) fun hc3=>?_))))
    ·
     have hch:Yz c=false:=by
      unfold Yz Ry;cases hl:Ro c.toNat <;> simp_all <;> omega
     refine Ah (Qp Bb (Ag (AW.ret (A6 (Ai (Ai (A6 (Ai ?_))))))))
     refine Qr (.bool _) ?_
     simp only [Ae,AV.bool.injEq]
     symm
     unfold Kx
     rw [bQ hm hch,Bool.and_false]
    ·
     have hch:Yz c=true:=by
      unfold Yz Ry;cases hl:Ro c.toNat <;> simp_all <;> omega
     refine AW.skip (Bn (Ad (AW.region (Qp Az (Qp Fb (Qp Aq (Ag ?_)))))))
     refine ⟨p+1,?_,?_,GS.weaken ⟨rfl,rfl,trivial⟩ (.refl _)⟩
     · exact ⟨hlt,Qh hc hR.2 hch⟩
     · omega
   ·
    have hte:=Cg hc2
    refine AW.exit ?_
    refine A2 (A2 (Bo (Ad (Ah (Qp Bb (Ag (AW.ret ?_)))))))
    refine Qr (.bool _) ?_
    simp only [Ae,AV.bool.injEq]
    exact (bY ⟨hn1.1,hn1.2.1,xR hn1.2.2⟩ (by rw [←hte];exact hR.2)).symm
theorem c103 (s:List UInt8)(hs:s.length≤1048576):A1 Tryz.prog 129 [.str s] (.bool (Nc s)):=by
 refine A1.body (n:=9) Aj Tryz.func129 rfl rfl rfl fun H=>?_
 refine Ah (Qp Bb (Dv (Qp aY ?_)))
 refine Qp (Qc rfl (c102 s hs)) ?_
 refine Qp Bt (Qg [] Qw aY ?_)
 refine AOL.Aa5 (y:=.bool _) _ [(6,_)] rfl (nI.all ⟨Ent.Aa1 _ _,trivial⟩) (fun hG=>Ol rfl rfl) rfl ?_
 refine Qp G1 (Qp Bb (Ag (AW.ret ?_)))
 refine Qr (.bool _) ?_
 rfl

end Go.Proofs.YtjedflcpjlgokaaGreatDoor
