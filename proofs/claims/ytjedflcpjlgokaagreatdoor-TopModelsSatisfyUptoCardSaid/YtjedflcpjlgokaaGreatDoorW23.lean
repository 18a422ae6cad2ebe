/-
  Walks of layer 3: names. No condition.
-/
import Derived.Test.YtjedflcpjlgokaaGreatDoorAz
import Derived.Test.YtjedflcpjlgokaaGreatDoorK03
import Derived.Test.YtjedflcpjlgokaaGreatDoorW4
import Derived.KernelRfl
namespace Go.Proofs.YtjedflcpjlgokaaGreatDoor
open Go Go.Aw
set_option maxHeartbeats 400000
set_option maxRecDepth 20000
set_option linter.unusedVariables false
set_option linter.unusedSimpArgs false

theorem kN {s:List UInt8}(h:s.length≠0):s[(0:Int).toNat]? = some (s.headD 0):=by
 cases s with
 | nil=>exact absurd rfl h
 | cons a r=>rfl
theorem Yd {s:List UInt8}{x:Bool}(h:Ij [((((s.length:Nat):Int)==0||x),false)]):s.length≠0:=by
 have h1:=h _ (List.mem_singleton.2 rfl)
 intro h0
 simp [h0] at h1
theorem Rw {s:List UInt8}{k:Nat}{c:UInt8}(h:s[k]? = some c):s[((k:Nat):Int).toNat]? = some c:=h
theorem Pn {s:List UInt8}(h:s.length=0∨24<s.length∨S3 ((s.headD 0).toNat)=true):Lz s=false:=by
 unfold Lz
 rcases h with h | h | h
 ·
  have e:(s.length==0)=true:=by simp [h]
  rw [e];rfl
 ·
  have e:decide (s.length≤24)=false:=by simp;omega
  rw [e,Bool.and_false,Bool.false_and,Bool.false_and]
 · rw [h,Bool.not_true,Bool.and_false,Bool.false_and]
theorem fG {s:List UInt8}(h:s.length≠0∧s.length≤24∧S3 ((s.headD 0).toNat)=false)(ha:s.all bV=true):Lz s=true:=by
 unfold Lz
 have e1:(s.length==0)=false:=by rw [beq_eq_false_iff_ne];exact h.1
 have e2:decide (s.length≤24)=true:=by simp;exact h.2.1
 rw [e1,e2,h.2.2,ha];rfl
theorem iZ {s:List UInt8}(h:S0 ((s.headD 0).toNat)=false):Lz s=false:=by
  cases s with
  | nil=>rfl
  | cons a r=>
    have h1:S0 a.toNat=false:=h
    cases hd:S3 a.toNat with
    | true=>exact Pn (.inr (.inr hd))
    | false=>
      unfold Lz
      have:(a::r).all bV=false:=by rw [List.all_cons];unfold bV;rw [h1,hd];rfl
      rw [this,Bool.and_false]
theorem eH {s:List UInt8}{c:UInt8}(hm:c∈s)(h:bV c=false):s.all bV=false:=by
 rw [Bool.eq_false_iff];intro ha;rw [List.all_eq_true.1 ha c hm] at h;cases h
theorem Rj {s:List UInt8}{k:Nat}{c:UInt8}(hc:s[k]? = some c)(h:(s.take k).all bV=true)(hx:bV c=true):(s.take (k+1)).all bV=true:=by
 rw [C4 hc,List.all_append,h];simp [hx]
theorem yS {b:UInt8}(h:S0 b.toNat=true):S3 b.toNat=false:=by
 simp [S0,S3] at h ⊢;omega
theorem iC {l:List Fi}{k:Nat}{a:Fi}(h:l[k]? = some a):(l.take (k+1)).map (·.name)=(l.take k).map (·.name) ++ [a.name]:=by rw [C4 h];simp
theorem fC {l:List Sc}{k:Nat}{a:Sc}(h:l[k]? = some a):(l.take (k+1)).map (·.name)=(l.take k).map (·.name) ++ [a.name]:=by rw [C4 h];simp

theorem c111 (n:Int):Ax Tryz.prog 147 [.int .u8 n] (.bool (S3 n)):=by
 refine Ax.body (n:=9) Ah Tryz.func147 rfl rfl rfl fun H=>?_
 refine Ai (Qp Bl (Dm ?_))
 refine Qp (Bm (v:=.int .u8 _) rfl) ?_
 refine Qp Nt (Qp B0 ?_)
 refine AOL.Aar (y:=.int .u8 _) _ [] rfl (nC.all trivial) (fun hG=>Bm (v:=.int .u8 _) rfl) rfl ?_
 refine Qg [(6,_)] Qw N8 (Qp F7 (Qp Bl (Ag (AW.ret ?_))))
 refine Qr (.bool _) ?_
 rfl
theorem c112 (n:Int):Ax Tryz.prog 148 [.int .u8 n] (.bool (S0 n)):=by
 refine Ax.body (n:=21) Ah Tryz.func148 rfl rfl rfl fun H=>?_
 refine Ai (Qp Bl (Dm ?_))
 refine Qp (Bm (v:=.int .u8 _) rfl) ?_
 refine Qp A9 (Qp B0 ?_)
 refine AOL.Aar (y:=.int .u8 _) _ [] rfl (nC.all trivial) (fun hG=>Bm (v:=.int .u8 _) rfl) rfl ?_
 refine Qg [(6,_)] Qw Nt (Qg [(7,_)] Qw B0 ?_)
 refine AOL.Aar (y:=.int .u8 _) _ [] rfl (nC.all trivial) (fun hG=>Bm (v:=.int .u8 _) rfl) rfl ?_
 refine Qg [(9,_)] Qw N8 (Qg [(8,_),(10,_)] Qw F7 (Qp E1 (Qp B0 ?_)))
 refine AOL.Aar (y:=.int .u8 _) _ [] rfl (nC.all trivial) (fun hG=>Bm (v:=.int .u8 _) rfl) rfl ?_
 refine Qg [(14,_)] Qw Nt (Qg [(15,_)] Qw B0 ?_)
 refine AOL.Aar (y:=.int .u8 _) _ [] rfl (nC.all trivial) (fun hG=>Bm (v:=.int .u8 _) rfl) rfl ?_
 refine Qg [(17,_)] Qw N8 (Qg [(16,_),(18,_)] Qw F7 (Qp E1 (Qp Bl (Ag (AW.ret ?_)))))
 refine Qr (.bool _) ?_
 rfl
theorem c113 (n:Int):Ax Tryz.prog 149 [.int .u8 n] (.bool (S0 n)):=by
 refine Ax.body (n:=21) Ah Tryz.func149 rfl rfl rfl fun H=>?_
 refine Ai (Qp Bl (Dm ?_))
 refine Qp (Bm (v:=.int .u8 _) rfl) ?_
 refine Qp Nt (Qp B0 ?_)
 refine AOL.Aar (y:=.int .u8 _) _ [] rfl (nC.all trivial) (fun hG=>Bm (v:=.int .u8 _) rfl) rfl ?_
 refine Qg [(6,_)] Qw N8 (Qp F7 (Qp B0 ?_))
 refine AOL.Aar (y:=.int .u8 _) _ [] rfl (nC.all trivial) (fun hG=>Bm (v:=.int .u8 _) rfl) rfl ?_
 refine Qg [(10,_)] Qw Nt (Qg [(11,_)] Qw B0 ?_)
 refine AOL.Aar (y:=.int .u8 _) _ [] rfl (nC.all trivial) (fun hG=>Bm (v:=.int .u8 _) rfl) rfl ?_
 refine Qg [(13,_)] Qw N8 (Qg [(12,_),(14,_)] Qw F7 (Qp E1 (Qp B0 ?_)))
 refine AOL.Aar (y:=.int .u8 _) _ [] rfl (nC.all trivial) (fun hG=>Bm (v:=.int .u8 _) rfl) rfl ?_
 refine Qg [(18,_)] Qw A9 (Qp E1 (Qp Bl (Ag (AW.ret ?_))))
 refine Qr (.bool _) ?_
 simp only [Ae,S0,AV.bool.injEq];cases h1:(n==95) <;> simp
theorem c102 (s:List UInt8)(hs:s.length≤1048576):Ax Tryz.prog 128 [.str s] (.bool (Lz s)):=by
 refine Ax.body (n:=35) Ah Tryz.func128 rfl rfl rfl fun H=>?_
 refine Ai (Qp Bl (Ag (AW.seq (Ai (Qp cR ?_)))))
 refine Qp (H8 (n:=s.length) Ah rfl rfl rfl (rfl)) ?_
 refine Qp A9 (Qp B0 (Qg [] Qw cR ?_))
 refine AOL.Aar (y:=Iq _) _ [(8,_)] rfl (nC.all ⟨Ent.Aam _ _,trivial⟩) (fun hG=>H8 (n:=s.length) Ah rfl rfl rfl (rfl)) rfl ?_
 refine Qg [(9,_)] Qw Ha (Qp E1 (Qp B0 (Qg [] Qw cR ?_)))
 refine AOL.Aar (y:=.int .u8 _) _ [(13,_)] rfl (nC.all ⟨Ent.Aam _ _,trivial⟩) (fun hG=>Hs Ah rfl rfl rfl rfl (by decide) (kN (Yd hG))) rfl ?_
 refine Qg [(14,_)] Qw (Qc rfl (c111 _)) ?_
 refine Qp E1 (Ag (A6 (fun hc1=>?_) fun hc1=>?_))
 ·
  refine Ai (Qp Bl (Ag (Dw ?_)))
  refine Qr (.bool _) ?_
  simp only [Ae,AV.bool.injEq]
  simp only [Bool.or_eq_true,decide_eq_true_eq,beq_iff_eq] at hc1
  rcases hc1 with (h1 | h1) | h1
  · exact (Pn (.inl (by omega))).symm
  · exact (Pn (.inr (.inl (by omega)))).symm
  · exact (Pn (.inr (.inr h1))).symm
 ·
  have hn1:s.length≠0∧s.length≤24∧S3 ((s.headD 0).toNat)=false:=by
     simp only [Bool.or_eq_false_iff,decide_eq_false_iff_not,beq_eq_false_iff_ne] at hc1
     exact ⟨by omega,by omega,hc1.2⟩
  refine By (AW.seq (Ai (Qp cR ?_)))
  refine Qp (H8 (n:=s.length) Ah rfl rfl rfl (rfl)) ?_
  refine Qp Az (Ag (AW.block ?_))
  refine AW.Aao (fun (p:Nat)=>(⟨[(0,.str s),(18,.int .i64 s.length),(19,.int .i64 (p:Int))],H,35⟩:St)) (fun (p:Nat)=>p≤s.length∧(s.take p).all bV=true) (fun (p:Nat)=>s.length-p) (0) ?_ (GS.weaken ⟨rfl,rfl,rfl,trivial⟩ (.refl _)) ?_
  · exact ⟨Nat.zero_le _,by simp⟩
  ·
   rintro p hR
   refine Ai (Qp Ch (Ag (AW.seq (A6 (fun hc2=>?_) fun hc2=>?_))))
   ·
    obtain ⟨c,hc⟩:=B5 hc2
    have hlt:=A4 hc
    have hm:=List.mem_of_getElem? hc
    refine By (AW.seq (AW.block (Ai (Qp Az (Qp Ap (Dm (Qp cR (Qp Az ?_))))))))
    refine Qp (Hs Ah rfl rfl rfl rfl (by omega) (Rw hc)) ?_
    refine Qp (Qc rfl (c112 _)) ?_
    refine Qp Hc (Qp B0 (Qg [] Qw cR (Qg [] Qw Az ?_)))
    refine AOL.Aar (y:=.int .u8 _) _ [(28,_),(29,_)] rfl (nC.all ⟨Ent.Aam _ _,Ent.Aam _ _,trivial⟩) (fun hG=>Hs Ah rfl rfl rfl rfl (by omega) (Rw hc)) rfl ?_
    refine Qg [(30,_)] Qw (Qc rfl (c111 _)) ?_
    refine Qg [(31,_)] Qw Hc (Qp F7 (Ag (A6 (fun hc3=>?_) fun hc3=>?_)))
    ·
     have hch:bV c=false:=by
      unfold bV;cases hl:S0 c.toNat <;> cases hd:S3 c.toNat <;> simp_all
     refine Ai (Qp Bl (Ag (AW.ret (Bb (Aj (Aj (Bb (Aj ?_))))))))
     refine Qr (.bool _) ?_
     simp only [Ae,AV.bool.injEq]
     symm
     unfold Lz
     rw [eH hm hch,Bool.and_false]
    ·
     have hch:bV c=true:=by
      unfold bV;cases hl:S0 c.toNat <;> cases hd:S3 c.toNat <;> simp_all
     refine AW.skip (Bu (Ad (AW.region (Qp Ey (Qp Az (Ag ?_))))))
     refine ⟨p+1,?_,?_,GS.weaken ⟨rfl,rfl,rfl,trivial⟩ (.refl _)⟩
     · exact ⟨hlt,Rj hc hR.2 hch⟩
     · omega
   ·
    have hte:=Cu hc2
    refine AW.exit ?_
    refine A5 (A5 (Bq (Ad (Ai (Qp Bl (Ag (AW.ret ?_)))))))
    refine Qr (.bool _) ?_
    simp only [Ae,AV.bool.injEq]
    exact (fG hn1 (by rw [←hte];exact hR.2)).symm
theorem c104 (s:List UInt8)(hs:s.length≤1048576):Ax Tryz.prog 136 [.str s] (.bool (Lz s)):=by
 refine Ax.body (n:=41) Ah Tryz.func136 rfl rfl rfl fun H=>?_
 refine Ai (Qp Bl (Ag (AW.seq (Ai (Qp cR ?_)))))
 refine Qp (H8 (n:=s.length) Ah rfl rfl rfl (rfl)) ?_
 refine Qp A9 (Qp B0 (Qg [] Qw cR ?_))
 refine AOL.Aar (y:=Iq _) _ [(8,_)] rfl (nC.all ⟨Ent.Aam _ _,trivial⟩) (fun hG=>H8 (n:=s.length) Ah rfl rfl rfl (rfl)) rfl ?_
 refine Qg [(9,_)] Qw Ha (Qp E1 (Qp B0 (Qg [] Qw cR ?_)))
 refine AOL.Aar (y:=.int .u8 _) _ [(13,_)] rfl (nC.all ⟨Ent.Aam _ _,trivial⟩) (fun hG=>Hs Ah rfl rfl rfl rfl (by decide) (kN (Yd hG))) rfl ?_
 refine Qg [(14,_)] Qw (Qc rfl (c113 _)) ?_
 refine Qg [(15,_)] Qw Hc (Qp E1 (Ag (A6 (fun hc1=>?_) fun hc1=>?_)))
 ·
  refine Ai (Qp Bl (Ag (Dw ?_)))
  refine Qr (.bool _) ?_
  simp only [Ae,AV.bool.injEq]
  simp only [Bool.or_eq_true,decide_eq_true_eq,beq_iff_eq,Bool.not_eq_true'] at hc1
  rcases hc1 with (h1 | h1) | h1
  · exact (Pn (.inl (by omega))).symm
  · exact (Pn (.inr (.inl (by omega)))).symm
  · exact (iZ h1).symm
 ·
  have hn1:s.length≠0∧s.length≤24∧S0 ((s.headD 0).toNat)=true:=by
     simp only [Bool.or_eq_false_iff,decide_eq_false_iff_not,beq_eq_false_iff_ne,Bool.not_eq_false'] at hc1
     exact ⟨by omega,by omega,hc1.2⟩
  refine By (AW.seq (Ai (Qp Ap (Ag (AW.block ?_)))))
  refine AW.Aao (fun (p:Nat)=>(⟨[(0,.str s),(3,.int .i64 (p:Int))],H,41⟩:St)) (fun (p:Nat)=>p≤s.length∧(s.take p).all bV=true) (fun (p:Nat)=>s.length-p) (0) ?_ (GS.weaken ⟨rfl,rfl,trivial⟩ (.refl _)) ?_
  · exact ⟨Nat.zero_le _,by simp⟩
  ·
   rintro p hR
   refine AW.seq (Ai (Qp Az (Qp cR ?_)))
   refine Qp (H8 (n:=s.length) Ah rfl rfl rfl (rfl)) ?_
   refine Qp Ch (Ag (A6 (fun hc2=>?_) fun hc2=>?_))
   ·
    obtain ⟨c,hc⟩:=B5 hc2
    have hlt:=A4 hc
    have hm:=List.mem_of_getElem? hc
    refine By (AW.seq (AW.block (Ai (Qp cR (Qp Az ?_)))))
    refine Qp (Hs Ah rfl rfl rfl rfl (by omega) (Rw hc)) ?_
    refine Qp (Qc rfl (c113 _)) ?_
    refine Qp Hc (Qp B0 (Qg [] Qw cR (Qg [] Qw Az ?_)))
    refine AOL.Aar (y:=.int .u8 _) _ [(30,_),(31,_)] rfl (nC.all ⟨Ent.Aam _ _,Ent.Aam _ _,trivial⟩) (fun hG=>Hs Ah rfl rfl rfl rfl (by omega) (Rw hc)) rfl ?_
    refine Qg [(32,_)] Qw Ch (Qg [(33,_)] Qw B0 (Qg [] Qw cR (Qg [] Qw Az ?_)))
    refine AOL.Aar (y:=.int .u8 _) _ [(35,_),(36,_)] rfl (nC.all ⟨Ent.Aam _ _,Ent.Aam _ _,trivial⟩) (fun hG=>Hs Ah rfl rfl rfl rfl (by omega) (Rw hc)) rfl ?_
    refine Qg [(37,_)] Qw Ha (Qg [(34,_),(38,_)] Qw E1 (Qp F7 (Ag (A6 (fun hc3=>?_) fun hc3=>?_))))
    ·
     have hch:bV c=false:=by
      unfold bV S3;cases hl:S0 c.toNat <;> simp_all <;> omega
     refine Ai (Qp Bl (Ag (AW.ret (Bb (Aj (Aj (Bb (Aj ?_))))))))
     refine Qr (.bool _) ?_
     simp only [Ae,AV.bool.injEq]
     symm
     unfold Lz
     rw [eH hm hch,Bool.and_false]
    ·
     have hch:bV c=true:=by
      unfold bV S3;cases hl:S0 c.toNat <;> simp_all <;> omega
     refine AW.skip (Bu (Ad (AW.region (Qp Az (Qp Ey (Qp Ap (Ag ?_)))))))
     refine ⟨p+1,?_,?_,GS.weaken ⟨rfl,rfl,trivial⟩ (.refl _)⟩
     · exact ⟨hlt,Rj hc hR.2 hch⟩
     · omega
   ·
    have hte:=Cu hc2
    refine AW.exit ?_
    refine A5 (A5 (Bq (Ad (Ai (Qp Bl (Ag (AW.ret ?_)))))))
    refine Qr (.bool _) ?_
    simp only [Ae,AV.bool.injEq]
    exact (fG ⟨hn1.1,hn1.2.1,yS hn1.2.2⟩ (by rw [←hte];exact hR.2)).symm
theorem c103 (s:List UInt8)(hs:s.length≤1048576):Ax Tryz.prog 129 [.str s] (.bool (O2 s)):=by
 refine Ax.body (n:=9) Ah Tryz.func129 rfl rfl rfl fun H=>?_
 refine Ai (Qp Bl (Dm (Qp cR ?_)))
 refine Qp (Qc rfl (c102 s hs)) ?_
 refine Qp B0 (Qg [] Qw cR ?_)
 refine AOL.Aar (y:=.bool _) _ [(6,_)] rfl (nC.all ⟨Ent.Aam _ _,trivial⟩) (fun hG=>Pi rfl rfl) rfl ?_
 refine Qp F7 (Qp Bl (Ag (AW.ret ?_)))
 refine Qr (.bool _) ?_
 rfl

end Go.Proofs.YtjedflcpjlgokaaGreatDoor
