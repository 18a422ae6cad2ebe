/-
  Walks of layer 3: names. No condition.
-/
import Derived.Test.YtkddpedfbicbeaaGreatDoorAz
import Derived.Test.YtkddpedfbicbeaaGreatDoorK03
import Derived.Test.YtkddpedfbicbeaaGreatDoorW4
import Derived.KernelRfl
namespace Go.Proofs.YtkddpedfbicbeaaGreatDoor
open Go Go.Aw
set_option maxHeartbeats 400000
set_option maxRecDepth 20000
set_option linter.unusedVariables false
set_option linter.unusedSimpArgs false

theorem oM {s:List UInt8}(h:s.length≠0):s[(0:Int).toNat]? = some (s.headD 0):=by
 cases s with
 | nil=>exact absurd rfl h
 | cons a r=>rfl
theorem aK {s:List UInt8}{x:Bool}(h:Il [((((s.length:Nat):Int)==0||x),false)]):s.length≠0:=by
 have h1:=h _ (List.mem_singleton.2 rfl)
 intro h0
 simp [h0] at h1
theorem Sd {s:List UInt8}{k:Nat}{c:UInt8}(h:s[k]? = some c):s[((k:Nat):Int).toNat]? = some c:=h
theorem P6 {s:List UInt8}(h:s.length=0∨24<s.length∨Te ((s.headD 0).toNat)=true):Ly s=false:=by
 unfold Ly
 rcases h with h | h | h
 ·
  have e:(s.length==0)=true:=by simp [h]
  rw [e];rfl
 ·
  have e:decide (s.length≤24)=false:=by simp;omega
  rw [e,Bool.and_false,Bool.false_and,Bool.false_and]
 · rw [h,Bool.not_true,Bool.and_false,Bool.false_and]
theorem fJ {s:List UInt8}(h:s.length≠0∧s.length≤24∧Te ((s.headD 0).toNat)=false)(ha:s.all bS=true):Ly s=true:=by
 unfold Ly
 have e1:(s.length==0)=false:=by rw [beq_eq_false_iff_ne];exact h.1
 have e2:decide (s.length≤24)=true:=by simp;exact h.2.1
 rw [e1,e2,h.2.2,ha];rfl
theorem mB {s:List UInt8}(h:Tn ((s.headD 0).toNat)=false):Ly s=false:=by
  cases s with
  | nil=>rfl
  | cons a r=>
    have h1:Tn a.toNat=false:=h
    cases hd:Te a.toNat with
    | true=>exact P6 (.inr (.inr hd))
    | false=>
      unfold Ly
      have:(a::r).all bS=false:=by rw [List.all_cons];unfold bS;rw [h1,hd];rfl
      rw [this,Bool.and_false]
theorem iP {s:List UInt8}{c:UInt8}(hm:c∈s)(h:bS c=false):s.all bS=false:=by
 rw [Bool.eq_false_iff];intro ha;rw [List.all_eq_true.1 ha c hm] at h;cases h
theorem Tc {s:List UInt8}{k:Nat}{c:UInt8}(hc:s[k]? = some c)(h:(s.take k).all bS=true)(hx:bS c=true):(s.take (k+1)).all bS=true:=by
 rw [Cm hc,List.all_append,h];simp [hx]
theorem zR {b:UInt8}(h:Tn b.toNat=true):Te b.toNat=false:=by
 simp [Tn,Te] at h ⊢;omega
theorem kK {l:List Fi}{k:Nat}{a:Fi}(h:l[k]? = some a):(l.take (k+1)).map (·.name)=(l.take k).map (·.name) ++ [a.name]:=by rw [Cm h];simp
theorem iD {l:List Sc}{k:Nat}{a:Sc}(h:l[k]? = some a):(l.take (k+1)).map (·.name)=(l.take k).map (·.name) ++ [a.name]:=by rw [Cm h];simp

theorem c111 (n:Int):Ar Tryz.prog 186 [.int .u8 n] (.bool (Te n)):=by
 refine Ar.body (n:=9) Ai Tryz.func186 rfl rfl rfl fun H=>?_
 refine Ah (Qp Bc (Db ?_))
 refine Qp (Bk (v:=.int .u8 _) rfl) ?_
 refine Qp Ob (Qp Bm ?_)
 refine AOL.Aav (y:=.int .u8 _) _ [] rfl (sB.all trivial) (fun hG=>Bk (v:=.int .u8 _) rfl) rfl ?_
 refine Qg [(6,_)] Qw Mt (Qp Em (Qp Bc (Ag (AW.ret ?_))))
 refine Qr (.bool _) ?_
 rfl
theorem c112 (n:Int):Ar Tryz.prog 187 [.int .u8 n] (.bool (Tn n)):=by
 refine Ar.body (n:=21) Ai Tryz.func187 rfl rfl rfl fun H=>?_
 refine Ah (Qp Bc (Db ?_))
 refine Qp (Bk (v:=.int .u8 _) rfl) ?_
 refine Qp A6 (Qp Bm ?_)
 refine AOL.Aav (y:=.int .u8 _) _ [] rfl (sB.all trivial) (fun hG=>Bk (v:=.int .u8 _) rfl) rfl ?_
 refine Qg [(6,_)] Qw Ob (Qg [(7,_)] Qw Bm ?_)
 refine AOL.Aav (y:=.int .u8 _) _ [] rfl (sB.all trivial) (fun hG=>Bk (v:=.int .u8 _) rfl) rfl ?_
 refine Qg [(9,_)] Qw Mt (Qg [(8,_),(10,_)] Qw Em (Qp Ek (Qp Bm ?_)))
 refine AOL.Aav (y:=.int .u8 _) _ [] rfl (sB.all trivial) (fun hG=>Bk (v:=.int .u8 _) rfl) rfl ?_
 refine Qg [(14,_)] Qw Ob (Qg [(15,_)] Qw Bm ?_)
 refine AOL.Aav (y:=.int .u8 _) _ [] rfl (sB.all trivial) (fun hG=>Bk (v:=.int .u8 _) rfl) rfl ?_
 refine Qg [(17,_)] Qw Mt (Qg [(16,_),(18,_)] Qw Em (Qp Ek (Qp Bc (Ag (AW.ret ?_)))))
 refine Qr (.bool _) ?_
 rfl
theorem c113 (n:Int):Ar Tryz.prog 149 [.int .u8 n] (.bool (Tn n)):=by
 refine Ar.body (n:=21) Ai Tryz.func149 rfl rfl rfl fun H=>?_
 refine Ah (Qp Bc (Db ?_))
 refine Qp (Bk (v:=.int .u8 _) rfl) ?_
 refine Qp Ob (Qp Bm ?_)
 refine AOL.Aav (y:=.int .u8 _) _ [] rfl (sB.all trivial) (fun hG=>Bk (v:=.int .u8 _) rfl) rfl ?_
 refine Qg [(6,_)] Qw Mt (Qp Em (Qp Bm ?_))
 refine AOL.Aav (y:=.int .u8 _) _ [] rfl (sB.all trivial) (fun hG=>Bk (v:=.int .u8 _) rfl) rfl ?_
 refine Qg [(10,_)] Qw Ob (Qg [(11,_)] Qw Bm ?_)
 refine AOL.Aav (y:=.int .u8 _) _ [] rfl (sB.all trivial) (fun hG=>Bk (v:=.int .u8 _) rfl) rfl ?_
 refine Qg [(13,_)] Qw Mt (Qg [(12,_),(14,_)] Qw Em (Qp Ek (Qp Bm ?_)))
 refine AOL.Aav (y:=.int .u8 _) _ [] rfl (sB.all trivial) (fun hG=>Bk (v:=.int .u8 _) rfl) rfl ?_
 refine Qg [(18,_)] Qw A6 (Qp Ek (Qp Bc (Ag (AW.ret ?_))))
 refine Qr (.bool _) ?_
 simp only [Ad,Tn,AV.bool.injEq];cases h1:(n==95) <;> simp
theorem c102 (s:List UInt8)(hs:s.length≤1048576):Ar Tryz.prog 171 [.str s] (.bool (Ly s)):=by
 refine Ar.body (n:=35) Ai Tryz.func171 rfl rfl rfl fun H=>?_
 refine Ah (Qp Bc (Ag (AW.seq (Ah (Qp eD ?_)))))
 refine Qp (He (n:=s.length) Ai rfl rfl rfl (rfl)) ?_
 refine Qp A6 (Qp Bm (Qg [] Qw eD ?_))
 refine AOL.Aav (y:=Iq _) _ [(8,_)] rfl (sB.all ⟨tO.self _ _,trivial⟩) (fun hG=>He (n:=s.length) Ai rfl rfl rfl (rfl)) rfl ?_
 refine Qg [(9,_)] Qw Hb (Qp Ek (Qp Bm (Qg [] Qw eD ?_)))
 refine AOL.Aav (y:=.int .u8 _) _ [(13,_)] rfl (sB.all ⟨tO.self _ _,trivial⟩) (fun hG=>Hy Ai rfl rfl rfl rfl (by decide) (oM (aK hG))) rfl ?_
 refine Qg [(14,_)] Qw (Qc rfl (c111 _)) ?_
 refine Qp Ek (Ag (A2 (fun hc1=>?_) fun hc1=>?_))
 ·
  refine Ah (Qp Bc (Ag (Dq ?_)))
  refine Qr (.bool _) ?_
  simp only [Ad,AV.bool.injEq]
  simp only [Bool.or_eq_true,decide_eq_true_eq,beq_iff_eq] at hc1
  rcases hc1 with (h1 | h1) | h1
  · exact (P6 (.inl (by omega))).symm
  · exact (P6 (.inr (.inl (by omega)))).symm
  · exact (P6 (.inr (.inr h1))).symm
 ·
  have hn1:s.length≠0∧s.length≤24∧Te ((s.headD 0).toNat)=false:=by
     simp only [Bool.or_eq_false_iff,decide_eq_false_iff_not,beq_eq_false_iff_ne] at hc1
     exact ⟨by omega,by omega,hc1.2⟩
  refine Bv (AW.seq (Ah (Qp eD ?_)))
  refine Qp (He (n:=s.length) Ai rfl rfl rfl (rfl)) ?_
  refine Qp Az (Ag (AW.block ?_))
  refine AW.Aau (fun (p:Nat)=>(⟨[(0,.str s),(18,.int .i64 s.length),(19,.int .i64 (p:Int))],H,35⟩:St)) (fun (p:Nat)=>p≤s.length∧(s.take p).all bS=true) (fun (p:Nat)=>s.length-p) (0) ?_ (GS.weaken ⟨rfl,rfl,rfl,trivial⟩ (.refl _)) ?_
  · exact ⟨Nat.zero_le _,by simp⟩
  ·
   rintro p hR
   refine Ah (Qp Cf (Ag (AW.seq (A2 (fun hc2=>?_) fun hc2=>?_))))
   ·
    obtain ⟨c,hc⟩:=B1 hc2
    have hlt:=A8 hc
    have hm:=List.mem_of_getElem? hc
    refine Bv (AW.seq (AW.block (Ah (Qp Az (Qp Ap (Db (Qp eD (Qp Az ?_))))))))
    refine Qp (Hy Ai rfl rfl rfl rfl (by omega) (Sd hc)) ?_
    refine Qp (Qc rfl (c112 _)) ?_
    refine Qp Ge (Qp Bm (Qg [] Qw eD (Qg [] Qw Az ?_)))
    refine AOL.Aav (y:=.int .u8 _) _ [(28,_),(29,_)] rfl (sB.all ⟨tO.self _ _,tO.self _ _,trivial⟩) (fun hG=>Hy Ai rfl rfl rfl rfl (by omega) (Sd hc)) rfl ?_
    refine Qg [(30,_)] Qw (Qc rfl (c111 _)) ?_
    refine Qg [(31,_)] Qw Ge (Qp Em (Ag (A2 (fun hc3=>?_) fun hc3=>?_)))
    ·
     have hch:bS c=false:=by
      unfold bS;cases hl:Tn c.toNat <;> cases hd:Te c.toNat <;> simp_all
     refine Ah (Qp Bc (Ag (AW.ret (A9 (Al (Al (A9 (Al ?_))))))))
     refine Qr (.bool _) ?_
     simp only [Ad,AV.bool.injEq]
     symm
     unfold Ly
     rw [iP hm hch,Bool.and_false]
    ·
     have hch:bS c=true:=by
      unfold bS;cases hl:Tn c.toNat <;> cases hd:Te c.toNat <;> simp_all
     refine AW.skip (Bp (Ae (AW.region (Qp Fu (Qp Az (Ag ?_))))))
     refine ⟨p+1,?_,?_,GS.weaken ⟨rfl,rfl,rfl,trivial⟩ (.refl _)⟩
     · exact ⟨hlt,Tc hc hR.2 hch⟩
     · omega
   ·
    have hte:=Cv hc2
    refine AW.exit ?_
    refine A3 (A3 (Bq (Ae (Ah (Qp Bc (Ag (AW.ret ?_)))))))
    refine Qr (.bool _) ?_
    simp only [Ad,AV.bool.injEq]
    exact (fJ hn1 (by rw [←hte];exact hR.2)).symm
theorem c104 (s:List UInt8)(hs:s.length≤1048576):Ar Tryz.prog 113 [.str s] (.bool (Ly s)):=by
 refine Ar.body (n:=41) Ai Tryz.func113 rfl rfl rfl fun H=>?_
 refine Ah (Qp Bc (Ag (AW.seq (Ah (Qp eD ?_)))))
 refine Qp (He (n:=s.length) Ai rfl rfl rfl (rfl)) ?_
 refine Qp A6 (Qp Bm (Qg [] Qw eD ?_))
 refine AOL.Aav (y:=Iq _) _ [(8,_)] rfl (sB.all ⟨tO.self _ _,trivial⟩) (fun hG=>He (n:=s.length) Ai rfl rfl rfl (rfl)) rfl ?_
 refine Qg [(9,_)] Qw Hb (Qp Ek (Qp Bm (Qg [] Qw eD ?_)))
 refine AOL.Aav (y:=.int .u8 _) _ [(13,_)] rfl (sB.all ⟨tO.self _ _,trivial⟩) (fun hG=>Hy Ai rfl rfl rfl rfl (by decide) (oM (aK hG))) rfl ?_
 refine Qg [(14,_)] Qw (Qc rfl (c113 _)) ?_
 refine Qg [(15,_)] Qw Ge (Qp Ek (Ag (A2 (fun hc1=>?_) fun hc1=>?_)))
 ·
  refine Ah (Qp Bc (Ag (Dq ?_)))
  refine Qr (.bool _) ?_
  simp only [Ad,AV.bool.injEq]
  simp only [Bool.or_eq_true,decide_eq_true_eq,beq_iff_eq,Bool.not_eq_true'] at hc1
  rcases hc1 with (h1 | h1) | h1
  · exact (P6 (.inl (by omega))).symm
  · exact (P6 (.inr (.inl (by omega)))).symm
  · exact (mB h1).symm
 ·
  have hn1:s.length≠0∧s.length≤24∧Tn ((s.headD 0).toNat)=true:=by
     simp only [Bool.or_eq_false_iff,decide_eq_false_iff_not,beq_eq_false_iff_ne,Bool.not_eq_false'] at hc1
     exact ⟨by omega,by omega,hc1.2⟩
  refine Bv (AW.seq (Ah (Qp Ap (Ag (AW.block ?_)))))
  refine AW.Aau (fun (p:Nat)=>(⟨[(0,.str s),(3,.int .i64 (p:Int))],H,41⟩:St)) (fun (p:Nat)=>p≤s.length∧(s.take p).all bS=true) (fun (p:Nat)=>s.length-p) (0) ?_ (GS.weaken ⟨rfl,rfl,trivial⟩ (.refl _)) ?_
  · exact ⟨Nat.zero_le _,by simp⟩
  ·
   rintro p hR
   refine AW.seq (Ah (Qp Az (Qp eD ?_)))
   refine Qp (He (n:=s.length) Ai rfl rfl rfl (rfl)) ?_
   refine Qp Cf (Ag (A2 (fun hc2=>?_) fun hc2=>?_))
   ·
    obtain ⟨c,hc⟩:=B1 hc2
    have hlt:=A8 hc
    have hm:=List.mem_of_getElem? hc
    refine Bv (AW.seq (AW.block (Ah (Qp eD (Qp Az ?_)))))
    refine Qp (Hy Ai rfl rfl rfl rfl (by omega) (Sd hc)) ?_
    refine Qp (Qc rfl (c113 _)) ?_
    refine Qp Ge (Qp Bm (Qg [] Qw eD (Qg [] Qw Az ?_)))
    refine AOL.Aav (y:=.int .u8 _) _ [(30,_),(31,_)] rfl (sB.all ⟨tO.self _ _,tO.self _ _,trivial⟩) (fun hG=>Hy Ai rfl rfl rfl rfl (by omega) (Sd hc)) rfl ?_
    refine Qg [(32,_)] Qw Cf (Qg [(33,_)] Qw Bm (Qg [] Qw eD (Qg [] Qw Az ?_)))
    refine AOL.Aav (y:=.int .u8 _) _ [(35,_),(36,_)] rfl (sB.all ⟨tO.self _ _,tO.self _ _,trivial⟩) (fun hG=>Hy Ai rfl rfl rfl rfl (by omega) (Sd hc)) rfl ?_
    refine Qg [(37,_)] Qw Hb (Qg [(34,_),(38,_)] Qw Ek (Qp Em (Ag (A2 (fun hc3=>?_) fun hc3=>?_))))
    ·
     have hch:bS c=false:=by
      unfold bS Te;cases hl:Tn c.toNat <;> simp_all <;> omega
     refine Ah (Qp Bc (Ag (AW.ret (A9 (Al (Al (A9 (Al ?_))))))))
     refine Qr (.bool _) ?_
     simp only [Ad,AV.bool.injEq]
     symm
     unfold Ly
     rw [iP hm hch,Bool.and_false]
    ·
     have hch:bS c=true:=by
      unfold bS Te;cases hl:Tn c.toNat <;> simp_all <;> omega
     refine AW.skip (Bp (Ae (AW.region (Qp Az (Qp Fu (Qp Ap (Ag ?_)))))))
     refine ⟨p+1,?_,?_,GS.weaken ⟨rfl,rfl,trivial⟩ (.refl _)⟩
     · exact ⟨hlt,Tc hc hR.2 hch⟩
     · omega
   ·
    have hte:=Cv hc2
    refine AW.exit ?_
    refine A3 (A3 (Bq (Ae (Ah (Qp Bc (Ag (AW.ret ?_)))))))
    refine Qr (.bool _) ?_
    simp only [Ad,AV.bool.injEq]
    exact (fJ ⟨hn1.1,hn1.2.1,zR hn1.2.2⟩ (by rw [←hte];exact hR.2)).symm
theorem c103 (s:List UInt8)(hs:s.length≤1048576):Ar Tryz.prog 172 [.str s] (.bool (Pe s)):=by
 refine Ar.body (n:=9) Ai Tryz.func172 rfl rfl rfl fun H=>?_
 refine Ah (Qp Bc (Db (Qp eD ?_)))
 refine Qp (Qc rfl (c102 s hs)) ?_
 refine Qp Bm (Qg [] Qw eD ?_)
 refine AOL.Aav (y:=.bool _) _ [(6,_)] rfl (sB.all ⟨tO.self _ _,trivial⟩) (fun hG=>P0 rfl rfl) rfl ?_
 refine Qp Em (Qp Bc (Ag (AW.ret ?_)))
 refine Qr (.bool _) ?_
 rfl

end Go.Proofs.YtkddpedfbicbeaaGreatDoor
