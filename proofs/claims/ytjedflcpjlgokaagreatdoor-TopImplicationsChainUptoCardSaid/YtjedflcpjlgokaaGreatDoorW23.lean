/-
  Walks of layer 3: names. No condition.
-/
import Derived.Test.YtjedflcpjlgokaaGreatDoorAz
import Derived.Test.YtjedflcpjlgokaaGreatDoorK03
import Derived.Test.YtjedflcpjlgokaaGreatDoorW4
import Derived.KernelRfl
namespace Go.Proofs.YtjedflcpjlgokaaGreatDoor
open Go Go.Aw
set_option maxHeartbeats 400000
set_option maxRecDepth 20000
set_option linter.unusedVariables false
set_option linter.unusedSimpArgs false

theorem mF {s:List UInt8}(h:s.length≠0):s[(0:Int).toNat]? = some (s.headD 0):=by
 cases s with
 | nil=>exact absurd rfl h
 | cons a r=>rfl
theorem Y7 {s:List UInt8}{x:Bool}(h:Ig [((((s.length:Nat):Int)==0||x),false)]):s.length≠0:=by
 have h1:=h _ (List.mem_singleton.2 rfl)
 intro h0
 simp [h0] at h1
theorem Q6 {s:List UInt8}{k:Nat}{c:UInt8}(h:s[k]? = some c):s[((k:Nat):Int).toNat]? = some c:=h
theorem O8 {s:List UInt8}(h:s.length=0∨24<s.length∨Tg ((s.headD 0).toNat)=true):Ld s=false:=by
 unfold Ld
 rcases h with h | h | h
 ·
  have e:(s.length==0)=true:=by simp [h]
  rw [e];rfl
 ·
  have e:decide (s.length≤24)=false:=by simp;omega
  rw [e,Bool.and_false,Bool.false_and,Bool.false_and]
 · rw [h,Bool.not_true,Bool.and_false,Bool.false_and]
theorem eC {s:List UInt8}(h:s.length≠0∧s.length≤24∧Tg ((s.headD 0).toNat)=false)(ha:s.all Z7=true):Ld s=true:=by
 unfold Ld
 have e1:(s.length==0)=false:=by rw [beq_eq_false_iff_ne];exact h.1
 have e2:decide (s.length≤24)=true:=by simp;exact h.2.1
 rw [e1,e2,h.2.2,ha];rfl
theorem iF {s:List UInt8}(h:Sh ((s.headD 0).toNat)=false):Ld s=false:=by
  cases s with
  | nil=>rfl
  | cons a r=>
    have h1:Sh a.toNat=false:=h
    cases hd:Tg a.toNat with
    | true=>exact O8 (.inr (.inr hd))
    | false=>
      unfold Ld
      have:(a::r).all Z7=false:=by rw [List.all_cons];unfold Z7;rw [h1,hd];rfl
      rw [this,Bool.and_false]
theorem cR {s:List UInt8}{c:UInt8}(hm:c∈s)(h:Z7 c=false):s.all Z7=false:=by
 rw [Bool.eq_false_iff];intro ha;rw [List.all_eq_true.1 ha c hm] at h;cases h
theorem Rc {s:List UInt8}{k:Nat}{c:UInt8}(hc:s[k]? = some c)(h:(s.take k).all Z7=true)(hx:Z7 c=true):(s.take (k+1)).all Z7=true:=by
 rw [C9 hc,List.all_append,h];simp [hx]
theorem xI {b:UInt8}(h:Sh b.toNat=true):Tg b.toNat=false:=by
 simp [Sh,Tg] at h ⊢;omega
theorem iX {l:List Fi}{k:Nat}{a:Fi}(h:l[k]? = some a):(l.take (k+1)).map (·.name)=(l.take k).map (·.name) ++ [a.name]:=by rw [C9 h];simp
theorem eW {l:List Sc}{k:Nat}{a:Sc}(h:l[k]? = some a):(l.take (k+1)).map (·.name)=(l.take k).map (·.name) ++ [a.name]:=by rw [C9 h];simp

theorem c111 (n:Int):Ax Tryz.prog 147 [.int .u8 n] (.bool (Tg n)):=by
 refine Ax.body (n:=9) Ai Tryz.func147 rfl rfl rfl fun H=>?_
 refine Ah (Qp Bm (Do ?_))
 refine Qp (Bk (v:=.int .u8 _) rfl) ?_
 refine Qp Nj (Qp Bu ?_)
 refine AOL.Aaf (y:=.int .u8 _) _ [] rfl (oE.all trivial) (fun hG=>Bk (v:=.int .u8 _) rfl) rfl ?_
 refine Qg [(6,_)] Qw Ph (Qp Gg (Qp Bm (Ag (AW.ret ?_))))
 refine Qr (.bool _) ?_
 rfl
theorem c112 (n:Int):Ax Tryz.prog 148 [.int .u8 n] (.bool (Sh n)):=by
 refine Ax.body (n:=21) Ai Tryz.func148 rfl rfl rfl fun H=>?_
 refine Ah (Qp Bm (Do ?_))
 refine Qp (Bk (v:=.int .u8 _) rfl) ?_
 refine Qp A6 (Qp Bu ?_)
 refine AOL.Aaf (y:=.int .u8 _) _ [] rfl (oE.all trivial) (fun hG=>Bk (v:=.int .u8 _) rfl) rfl ?_
 refine Qg [(6,_)] Qw Nj (Qg [(7,_)] Qw Bu ?_)
 refine AOL.Aaf (y:=.int .u8 _) _ [] rfl (oE.all trivial) (fun hG=>Bk (v:=.int .u8 _) rfl) rfl ?_
 refine Qg [(9,_)] Qw Ph (Qg [(8,_),(10,_)] Qw Gg (Qp E2 (Qp Bu ?_)))
 refine AOL.Aaf (y:=.int .u8 _) _ [] rfl (oE.all trivial) (fun hG=>Bk (v:=.int .u8 _) rfl) rfl ?_
 refine Qg [(14,_)] Qw Nj (Qg [(15,_)] Qw Bu ?_)
 refine AOL.Aaf (y:=.int .u8 _) _ [] rfl (oE.all trivial) (fun hG=>Bk (v:=.int .u8 _) rfl) rfl ?_
 refine Qg [(17,_)] Qw Ph (Qg [(16,_),(18,_)] Qw Gg (Qp E2 (Qp Bm (Ag (AW.ret ?_)))))
 refine Qr (.bool _) ?_
 rfl
theorem c113 (n:Int):Ax Tryz.prog 149 [.int .u8 n] (.bool (Sh n)):=by
 refine Ax.body (n:=21) Ai Tryz.func149 rfl rfl rfl fun H=>?_
 refine Ah (Qp Bm (Do ?_))
 refine Qp (Bk (v:=.int .u8 _) rfl) ?_
 refine Qp Nj (Qp Bu ?_)
 refine AOL.Aaf (y:=.int .u8 _) _ [] rfl (oE.all trivial) (fun hG=>Bk (v:=.int .u8 _) rfl) rfl ?_
 refine Qg [(6,_)] Qw Ph (Qp Gg (Qp Bu ?_))
 refine AOL.Aaf (y:=.int .u8 _) _ [] rfl (oE.all trivial) (fun hG=>Bk (v:=.int .u8 _) rfl) rfl ?_
 refine Qg [(10,_)] Qw Nj (Qg [(11,_)] Qw Bu ?_)
 refine AOL.Aaf (y:=.int .u8 _) _ [] rfl (oE.all trivial) (fun hG=>Bk (v:=.int .u8 _) rfl) rfl ?_
 refine Qg [(13,_)] Qw Ph (Qg [(12,_),(14,_)] Qw Gg (Qp E2 (Qp Bu ?_)))
 refine AOL.Aaf (y:=.int .u8 _) _ [] rfl (oE.all trivial) (fun hG=>Bk (v:=.int .u8 _) rfl) rfl ?_
 refine Qg [(18,_)] Qw A6 (Qp E2 (Qp Bm (Ag (AW.ret ?_))))
 refine Qr (.bool _) ?_
 simp only [Ad,Sh,AV.bool.injEq];cases h1:(n==95) <;> simp
theorem c102 (s:List UInt8)(hs:s.length≤1048576):Ax Tryz.prog 128 [.str s] (.bool (Ld s)):=by
 refine Ax.body (n:=35) Ai Tryz.func128 rfl rfl rfl fun H=>?_
 refine Ah (Qp Bm (Ag (AW.seq (Ah (Qp cJ ?_)))))
 refine Qp (Hs (n:=s.length) Ai rfl rfl rfl (rfl)) ?_
 refine Qp A6 (Qp Bu (Qg [] Qw cJ ?_))
 refine AOL.Aaf (y:=Iq _) _ [(8,_)] rfl (oE.all ⟨Ent.Aab _ _,trivial⟩) (fun hG=>Hs (n:=s.length) Ai rfl rfl rfl (rfl)) rfl ?_
 refine Qg [(9,_)] Qw G6 (Qp E2 (Qp Bu (Qg [] Qw cJ ?_)))
 refine AOL.Aaf (y:=.int .u8 _) _ [(13,_)] rfl (oE.all ⟨Ent.Aab _ _,trivial⟩) (fun hG=>Hl Ai rfl rfl rfl rfl (by decide) (mF (Y7 hG))) rfl ?_
 refine Qg [(14,_)] Qw (Qc rfl (c111 _)) ?_
 refine Qp E2 (Ag (A3 (fun hc1=>?_) fun hc1=>?_))
 ·
  refine Ah (Qp Bm (Ag (Du ?_)))
  refine Qr (.bool _) ?_
  simp only [Ad,AV.bool.injEq]
  simp only [Bool.or_eq_true,decide_eq_true_eq,beq_iff_eq] at hc1
  rcases hc1 with (h1 | h1) | h1
  · exact (O8 (.inl (by omega))).symm
  · exact (O8 (.inr (.inl (by omega)))).symm
  · exact (O8 (.inr (.inr h1))).symm
 ·
  have hn1:s.length≠0∧s.length≤24∧Tg ((s.headD 0).toNat)=false:=by
     simp only [Bool.or_eq_false_iff,decide_eq_false_iff_not,beq_eq_false_iff_ne] at hc1
     exact ⟨by omega,by omega,hc1.2⟩
  refine By (AW.seq (Ah (Qp cJ ?_)))
  refine Qp (Hs (n:=s.length) Ai rfl rfl rfl (rfl)) ?_
  refine Qp A0 (Ag (AW.block ?_))
  refine AW.Aad (fun (p:Nat)=>(⟨[(0,.str s),(18,.int .i64 s.length),(19,.int .i64 (p:Int))],H,35⟩:St)) (fun (p:Nat)=>p≤s.length∧(s.take p).all Z7=true) (fun (p:Nat)=>s.length-p) (0) ?_ (GS.weaken ⟨rfl,rfl,rfl,trivial⟩ (.refl _)) ?_
  · exact ⟨Nat.zero_le _,by simp⟩
  ·
   rintro p hR
   refine Ah (Qp Ck (Ag (AW.seq (A3 (fun hc2=>?_) fun hc2=>?_))))
   ·
    obtain ⟨c,hc⟩:=B7 hc2
    have hlt:=Bb hc
    have hm:=List.mem_of_getElem? hc
    refine By (AW.seq (AW.block (Ah (Qp A0 (Qp Ar (Do (Qp cJ (Qp A0 ?_))))))))
    refine Qp (Hl Ai rfl rfl rfl rfl (by omega) (Q6 hc)) ?_
    refine Qp (Qc rfl (c112 _)) ?_
    refine Qp Hp (Qp Bu (Qg [] Qw cJ (Qg [] Qw A0 ?_)))
    refine AOL.Aaf (y:=.int .u8 _) _ [(28,_),(29,_)] rfl (oE.all ⟨Ent.Aab _ _,Ent.Aab _ _,trivial⟩) (fun hG=>Hl Ai rfl rfl rfl rfl (by omega) (Q6 hc)) rfl ?_
    refine Qg [(30,_)] Qw (Qc rfl (c111 _)) ?_
    refine Qg [(31,_)] Qw Hp (Qp Gg (Ag (A3 (fun hc3=>?_) fun hc3=>?_)))
    ·
     have hch:Z7 c=false:=by
      unfold Z7;cases hl:Sh c.toNat <;> cases hd:Tg c.toNat <;> simp_all
     refine Ah (Qp Bm (Ag (AW.ret (A7 (Aj (Aj (A7 (Aj ?_))))))))
     refine Qr (.bool _) ?_
     simp only [Ad,AV.bool.injEq]
     symm
     unfold Ld
     rw [cR hm hch,Bool.and_false]
    ·
     have hch:Z7 c=true:=by
      unfold Z7;cases hl:Sh c.toNat <;> cases hd:Tg c.toNat <;> simp_all
     refine AW.skip (Bv (Ae (AW.region (Qp F7 (Qp A0 (Ag ?_))))))
     refine ⟨p+1,?_,?_,GS.weaken ⟨rfl,rfl,rfl,trivial⟩ (.refl _)⟩
     · exact ⟨hlt,Rc hc hR.2 hch⟩
     · omega
   ·
    have hte:=C5 hc2
    refine AW.exit ?_
    refine A5 (A5 (Bx (Ae (Ah (Qp Bm (Ag (AW.ret ?_)))))))
    refine Qr (.bool _) ?_
    simp only [Ad,AV.bool.injEq]
    exact (eC hn1 (by rw [←hte];exact hR.2)).symm
theorem c104 (s:List UInt8)(hs:s.length≤1048576):Ax Tryz.prog 136 [.str s] (.bool (Ld s)):=by
 refine Ax.body (n:=41) Ai Tryz.func136 rfl rfl rfl fun H=>?_
 refine Ah (Qp Bm (Ag (AW.seq (Ah (Qp cJ ?_)))))
 refine Qp (Hs (n:=s.length) Ai rfl rfl rfl (rfl)) ?_
 refine Qp A6 (Qp Bu (Qg [] Qw cJ ?_))
 refine AOL.Aaf (y:=Iq _) _ [(8,_)] rfl (oE.all ⟨Ent.Aab _ _,trivial⟩) (fun hG=>Hs (n:=s.length) Ai rfl rfl rfl (rfl)) rfl ?_
 refine Qg [(9,_)] Qw G6 (Qp E2 (Qp Bu (Qg [] Qw cJ ?_)))
 refine AOL.Aaf (y:=.int .u8 _) _ [(13,_)] rfl (oE.all ⟨Ent.Aab _ _,trivial⟩) (fun hG=>Hl Ai rfl rfl rfl rfl (by decide) (mF (Y7 hG))) rfl ?_
 refine Qg [(14,_)] Qw (Qc rfl (c113 _)) ?_
 refine Qg [(15,_)] Qw Hp (Qp E2 (Ag (A3 (fun hc1=>?_) fun hc1=>?_)))
 ·
  refine Ah (Qp Bm (Ag (Du ?_)))
  refine Qr (.bool _) ?_
  simp only [Ad,AV.bool.injEq]
  simp only [Bool.or_eq_true,decide_eq_true_eq,beq_iff_eq,Bool.not_eq_true'] at hc1
  rcases hc1 with (h1 | h1) | h1
  · exact (O8 (.inl (by omega))).symm
  · exact (O8 (.inr (.inl (by omega)))).symm
  · exact (iF h1).symm
 ·
  have hn1:s.length≠0∧s.length≤24∧Sh ((s.headD 0).toNat)=true:=by
     simp only [Bool.or_eq_false_iff,decide_eq_false_iff_not,beq_eq_false_iff_ne,Bool.not_eq_false'] at hc1
     exact ⟨by omega,by omega,hc1.2⟩
  refine By (AW.seq (Ah (Qp Ar (Ag (AW.block ?_)))))
  refine AW.Aad (fun (p:Nat)=>(⟨[(0,.str s),(3,.int .i64 (p:Int))],H,41⟩:St)) (fun (p:Nat)=>p≤s.length∧(s.take p).all Z7=true) (fun (p:Nat)=>s.length-p) (0) ?_ (GS.weaken ⟨rfl,rfl,trivial⟩ (.refl _)) ?_
  · exact ⟨Nat.zero_le _,by simp⟩
  ·
   rintro p hR
   refine AW.seq (Ah (Qp A0 (Qp cJ ?_)))
   refine Qp (Hs (n:=s.length) Ai rfl rfl rfl (rfl)) ?_
   refine Qp Ck (Ag (A3 (fun hc2=>?_) fun hc2=>?_))
   ·
    obtain ⟨c,hc⟩:=B7 hc2
    have hlt:=Bb hc
    have hm:=List.mem_of_getElem? hc
    refine By (AW.seq (AW.block (Ah (Qp cJ (Qp A0 ?_)))))
    refine Qp (Hl Ai rfl rfl rfl rfl (by omega) (Q6 hc)) ?_
    refine Qp (Qc rfl (c113 _)) ?_
    refine Qp Hp (Qp Bu (Qg [] Qw cJ (Qg [] Qw A0 ?_)))
    refine AOL.Aaf (y:=.int .u8 _) _ [(30,_),(31,_)] rfl (oE.all ⟨Ent.Aab _ _,Ent.Aab _ _,trivial⟩) (fun hG=>Hl Ai rfl rfl rfl rfl (by omega) (Q6 hc)) rfl ?_
    refine Qg [(32,_)] Qw Ck (Qg [(33,_)] Qw Bu (Qg [] Qw cJ (Qg [] Qw A0 ?_)))
    refine AOL.Aaf (y:=.int .u8 _) _ [(35,_),(36,_)] rfl (oE.all ⟨Ent.Aab _ _,Ent.Aab _ _,trivial⟩) (fun hG=>Hl Ai rfl rfl rfl rfl (by omega) (Q6 hc)) rfl ?_
    refine Qg [(37,_)] Qw G6 (Qg [(34,_),(38,_)] Qw E2 (Qp Gg (Ag (A3 (fun hc3=>?_) fun hc3=>?_))))
    ·
     have hch:Z7 c=false:=by
      unfold Z7 Tg;cases hl:Sh c.toNat <;> simp_all <;> omega
     refine Ah (Qp Bm (Ag (AW.ret (A7 (Aj (Aj (A7 (Aj ?_))))))))
     refine Qr (.bool _) ?_
     simp only [Ad,AV.bool.injEq]
     symm
     unfold Ld
     rw [cR hm hch,Bool.and_false]
    ·
     have hch:Z7 c=true:=by
      unfold Z7 Tg;cases hl:Sh c.toNat <;> simp_all <;> omega
     refine AW.skip (Bv (Ae (AW.region (Qp A0 (Qp F7 (Qp Ar (Ag ?_)))))))
     refine ⟨p+1,?_,?_,GS.weaken ⟨rfl,rfl,trivial⟩ (.refl _)⟩
     · exact ⟨hlt,Rc hc hR.2 hch⟩
     · omega
   ·
    have hte:=C5 hc2
    refine AW.exit ?_
    refine A5 (A5 (Bx (Ae (Ah (Qp Bm (Ag (AW.ret ?_)))))))
    refine Qr (.bool _) ?_
    simp only [Ad,AV.bool.injEq]
    exact (eC ⟨hn1.1,hn1.2.1,xI hn1.2.2⟩ (by rw [←hte];exact hR.2)).symm
theorem c103 (s:List UInt8)(hs:s.length≤1048576):Ax Tryz.prog 129 [.str s] (.bool (Ob s)):=by
 refine Ax.body (n:=9) Ai Tryz.func129 rfl rfl rfl fun H=>?_
 refine Ah (Qp Bm (Do (Qp cJ ?_)))
 refine Qp (Qc rfl (c102 s hs)) ?_
 refine Qp Bu (Qg [] Qw cJ ?_)
 refine AOL.Aaf (y:=.bool _) _ [(6,_)] rfl (oE.all ⟨Ent.Aab _ _,trivial⟩) (fun hG=>O6 rfl rfl) rfl ?_
 refine Qp Gg (Qp Bm (Ag (AW.ret ?_)))
 refine Qr (.bool _) ?_
 rfl

end Go.Proofs.YtjedflcpjlgokaaGreatDoor
