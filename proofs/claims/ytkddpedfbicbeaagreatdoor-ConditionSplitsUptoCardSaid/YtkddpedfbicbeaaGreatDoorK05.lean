/-
  Several texts in one: W23, W24, W13. No condition.
-/
import Derived.Test.YtkddpedfbicbeaaGreatDoorK01
import Derived.Test.YtkddpedfbicbeaaGreatDoorK02
import Derived.Test.YtkddpedfbicbeaaGreatDoorW4
import Derived.KernelRfl
set_option linter.unusedVariables false
set_option linter.unusedSimpArgs false
namespace Go.Proofs.YtkddpedfbicbeaaGreatDoor
open Go Go.Aw
set_option maxHeartbeats 400000
set_option maxRecDepth 20000

theorem head_at {s:List UInt8}(h:s.length≠0):s[(0:Int).toNat]? = some (s.headD 0):=by
 cases s with
 | nil=>exact absurd rfl h
 | cons a r=>rfl
theorem guard_len {s:List UInt8}{x:Bool}(h:allG [((((s.length:Nat):Int)==0||x),false)]):s.length≠0:=by
 have h1:=h _ (List.mem_singleton.2 rfl)
 intro h0
 simp [h0] at h1
theorem byte_at {s:List UInt8}{k:Nat}{c:UInt8}(h:s[k]? = some c):s[((k:Nat):Int).toNat]? = some c:=h
theorem name_no {s:List UInt8}(h:s.length=0∨24<s.length∨digS ((s.headD 0).toNat)=true):nameS s=false:=by
 unfold nameS
 rcases h with h | h | h
 ·
  have e:(s.length==0)=true:=by simp [h]
  rw [e];rfl
 ·
  have e:decide (s.length≤24)=false:=by simp;omega
  rw [e,Bool.and_false,Bool.false_and,Bool.false_and]
 · rw [h,Bool.not_true,Bool.and_false,Bool.false_and]
theorem name_yes {s:List UInt8}(h:s.length≠0∧s.length≤24∧digS ((s.headD 0).toNat)=false)(ha:s.all chS=true):nameS s=true:=by
 unfold nameS
 have e1:(s.length==0)=false:=by rw [beq_eq_false_iff_ne];exact h.1
 have e2:decide (s.length≤24)=true:=by simp;exact h.2.1
 rw [e1,e2,h.2.2,ha];rfl
theorem name_nolet {s:List UInt8}(h:letS ((s.headD 0).toNat)=false):nameS s=false:=by
  cases s with
  | nil=>rfl
  | cons a r=>
    have h1:letS a.toNat=false:=h
    cases hd:digS a.toNat with
    | true=>exact name_no (.inr (.inr hd))
    | false=>
      unfold nameS
      have:(a::r).all chS=false:=by rw [List.all_cons];unfold chS;rw [h1,hd];rfl
      rw [this,Bool.and_false]
theorem name_bad {s:List UInt8}{c:UInt8}(hm:c∈s)(h:chS c=false):s.all chS=false:=by
 rw [Bool.eq_false_iff];intro ha;rw [List.all_eq_true.1 ha c hm] at h;cases h
theorem all_take_get {s:List UInt8}{k:Nat}{c:UInt8}(hc:s[k]? = some c)(h:(s.take k).all chS=true)(hx:chS c=true):(s.take (k+1)).all chS=true:=by
 rw [take_get hc,List.all_append,h];simp [hx]
theorem let_dig {b:UInt8}(h:letS b.toNat=true):digS b.toNat=false:=by
 simp [letS,digS] at h ⊢;omega
theorem names_take {l:List Fi}{k:Nat}{a:Fi}(h:l[k]? = some a):(l.take (k+1)).map (·.name)=(l.take k).map (·.name) ++ [a.name]:=by rw [take_get h];simp
theorem tnames_take {l:List Sc}{k:Nat}{a:Sc}(h:l[k]? = some a):(l.take (k+1)).map (·.name)=(l.take k).map (·.name) ++ [a.name]:=by rw [take_get h];simp

theorem c111 (n:Int):APure Tryz.prog 186 [.int .u8 n] (.bool (digS n)):=by
 refine APure.body (n:=9) tok Tryz.func186 rfl rfl rfl fun H=>?_
 refine Qsr (Qp Qab (Qns ?_))
 refine Qp (P_move (v:=.int .u8 _) rfl) ?_
 refine Qp Qcgq (Qp Qmb ?_)
 refine AOL.g (y:=.int .u8 _) _ [] rfl (EntL.all trivial) (fun hG=>P_move (v:=.int .u8 _) rfl) rfl ?_
 refine Qg [(6,_)] Qw Qclq (Qp Qpa (Qp Qab (Qnn (AW.ret ?_))))
 refine Qr (.bool _) ?_
 rfl
theorem c112 (n:Int):APure Tryz.prog 187 [.int .u8 n] (.bool (letS n)):=by
 refine APure.body (n:=21) tok Tryz.func187 rfl rfl rfl fun H=>?_
 refine Qsr (Qp Qab (Qns ?_))
 refine Qp (P_move (v:=.int .u8 _) rfl) ?_
 refine Qp Qceq (Qp Qmb ?_)
 refine AOL.g (y:=.int .u8 _) _ [] rfl (EntL.all trivial) (fun hG=>P_move (v:=.int .u8 _) rfl) rfl ?_
 refine Qg [(6,_)] Qw Qcgq (Qg [(7,_)] Qw Qmb ?_)
 refine AOL.g (y:=.int .u8 _) _ [] rfl (EntL.all trivial) (fun hG=>P_move (v:=.int .u8 _) rfl) rfl ?_
 refine Qg [(9,_)] Qw Qclq (Qg [(8,_),(10,_)] Qw Qpa (Qp Qpo (Qp Qmb ?_)))
 refine AOL.g (y:=.int .u8 _) _ [] rfl (EntL.all trivial) (fun hG=>P_move (v:=.int .u8 _) rfl) rfl ?_
 refine Qg [(14,_)] Qw Qcgq (Qg [(15,_)] Qw Qmb ?_)
 refine AOL.g (y:=.int .u8 _) _ [] rfl (EntL.all trivial) (fun hG=>P_move (v:=.int .u8 _) rfl) rfl ?_
 refine Qg [(17,_)] Qw Qclq (Qg [(16,_),(18,_)] Qw Qpa (Qp Qpo (Qp Qab (Qnn (AW.ret ?_)))))
 refine Qr (.bool _) ?_
 rfl
theorem c113 (n:Int):APure Tryz.prog 149 [.int .u8 n] (.bool (letS n)):=by
 refine APure.body (n:=21) tok Tryz.func149 rfl rfl rfl fun H=>?_
 refine Qsr (Qp Qab (Qns ?_))
 refine Qp (P_move (v:=.int .u8 _) rfl) ?_
 refine Qp Qcgq (Qp Qmb ?_)
 refine AOL.g (y:=.int .u8 _) _ [] rfl (EntL.all trivial) (fun hG=>P_move (v:=.int .u8 _) rfl) rfl ?_
 refine Qg [(6,_)] Qw Qclq (Qp Qpa (Qp Qmb ?_))
 refine AOL.g (y:=.int .u8 _) _ [] rfl (EntL.all trivial) (fun hG=>P_move (v:=.int .u8 _) rfl) rfl ?_
 refine Qg [(10,_)] Qw Qcgq (Qg [(11,_)] Qw Qmb ?_)
 refine AOL.g (y:=.int .u8 _) _ [] rfl (EntL.all trivial) (fun hG=>P_move (v:=.int .u8 _) rfl) rfl ?_
 refine Qg [(13,_)] Qw Qclq (Qg [(12,_),(14,_)] Qw Qpa (Qp Qpo (Qp Qmb ?_)))
 refine AOL.g (y:=.int .u8 _) _ [] rfl (EntL.all trivial) (fun hG=>P_move (v:=.int .u8 _) rfl) rfl ?_
 refine Qg [(18,_)] Qw Qceq (Qp Qpo (Qp Qab (Qnn (AW.ret ?_))))
 refine Qr (.bool _) ?_
 simp only [resOf,letS,AV.bool.injEq];cases h1:(n==95) <;> simp
theorem c102 (s:List UInt8)(hs:s.length≤1048576):APure Tryz.prog 171 [.str s] (.bool (nameS s)):=by
 refine APure.body (n:=35) tok Tryz.func171 rfl rfl rfl fun H=>?_
 refine Qsr (Qp Qab (Qnn (AW.seq (Qsr (Qp Qmt ?_)))))
 refine Qp (P_len_str (n:=s.length) tok rfl rfl rfl (rfl)) ?_
 refine Qp Qceq (Qp Qmb (Qg [] Qw Qmt ?_))
 refine AOL.g (y:=.int .i64 _) _ [(8,_)] rfl (EntL.all ⟨Ent.self _ _,trivial⟩) (fun hG=>P_len_str (n:=s.length) tok rfl rfl rfl (rfl)) rfl ?_
 refine Qg [(9,_)] Qw Qcgt (Qp Qpo (Qp Qmb (Qg [] Qw Qmt ?_)))
 refine AOL.g (y:=.int .u8 _) _ [(13,_)] rfl (EntL.all ⟨Ent.self _ _,trivial⟩) (fun hG=>P_index_str tok rfl rfl rfl rfl (by decide) (head_at (guard_len hG))) rfl ?_
 refine Qg [(14,_)] Qw (Qc rfl (c111 _)) ?_
 refine Qp Qpo (Qnn (Qif (fun hc1=>?_) fun hc1=>?_))
 ·
  refine Qsr (Qp Qab (Qnn (Qrt ?_)))
  refine Qr (.bool _) ?_
  simp only [resOf,AV.bool.injEq]
  simp only [Bool.or_eq_true,decide_eq_true_eq,beq_iff_eq] at hc1
  rcases hc1 with (h1 | h1) | h1
  · exact (name_no (.inl (by omega))).symm
  · exact (name_no (.inr (.inl (by omega)))).symm
  · exact (name_no (.inr (.inr h1))).symm
 ·
  have hn1:s.length≠0∧s.length≤24∧digS ((s.headD 0).toNat)=false:=by
     simp only [Bool.or_eq_false_iff,decide_eq_false_iff_not,beq_eq_false_iff_ne] at hc1
     exact ⟨by omega,by omega,hc1.2⟩
  refine Qst (AW.seq (Qsr (Qp Qmt ?_)))
  refine Qp (P_len_str (n:=s.length) tok rfl rfl rfl (rfl)) ?_
  refine Qp Qmi (Qnn (AW.block ?_))
  refine AW.loopS (fun (p:Nat)=>(⟨[(0,.str s),(18,.int .i64 s.length),(19,.int .i64 (p:Int))],H,35⟩:St)) (fun (p:Nat)=>p≤s.length∧(s.take p).all chS=true) (fun (p:Nat)=>s.length-p) (0) ?_ (GS.weaken ⟨rfl,rfl,rfl,trivial⟩ (.refl _)) ?_
  · exact ⟨Nat.zero_le _,by simp⟩
  ·
   rintro p hR
   refine Qsr (Qp Qclt (Qnn (AW.seq (Qif (fun hc2=>?_) fun hc2=>?_))))
   ·
    obtain ⟨c,hc⟩:=get_lt hc2
    have hlt:=get_lt' hc
    have hm:=List.mem_of_getElem? hc
    refine Qst (AW.seq (AW.block (Qsr (Qp Qmi (Qp Qai (Qns (Qp Qmt (Qp Qmi ?_))))))))
    refine Qp (P_index_str tok rfl rfl rfl rfl (by omega) (byte_at hc)) ?_
    refine Qp (Qc rfl (c112 _)) ?_
    refine Qp Qnt (Qp Qmb (Qg [] Qw Qmt (Qg [] Qw Qmi ?_)))
    refine AOL.g (y:=.int .u8 _) _ [(28,_),(29,_)] rfl (EntL.all ⟨Ent.self _ _,Ent.self _ _,trivial⟩) (fun hG=>P_index_str tok rfl rfl rfl rfl (by omega) (byte_at hc)) rfl ?_
    refine Qg [(30,_)] Qw (Qc rfl (c111 _)) ?_
    refine Qg [(31,_)] Qw Qnt (Qp Qpa (Qnn (Qif (fun hc3=>?_) fun hc3=>?_)))
    ·
     have hch:chS c=false:=by
      unfold chS;cases hl:letS c.toNat <;> cases hd:digS c.toNat <;> simp_all
     refine Qsr (Qp Qab (Qnn (AW.ret (blkR (thenR (thenR (blkR (thenR ?_))))))))
     refine Qr (.bool _) ?_
     simp only [resOf,AV.bool.injEq]
     symm
     unfold nameS
     rw [name_bad hm hch,Bool.and_false]
    ·
     have hch:chS c=true:=by
      unfold chS;cases hl:letS c.toNat <;> cases hd:digS c.toNat <;> simp_all
     refine AW.skip (blkN (thenN (AW.region (Qp Qad (Qp Qmi (Qnn ?_))))))
     refine ⟨p+1,?_,?_,GS.weaken ⟨rfl,rfl,rfl,trivial⟩ (.refl _)⟩
     · exact ⟨hlt,all_take_get hc hR.2 hch⟩
     · omega
   ·
    have hte:=take_end hc2
    refine AW.exit ?_
    refine thenE (thenE (blkHit (thenN (Qsr (Qp Qab (Qnn (AW.ret ?_)))))))
    refine Qr (.bool _) ?_
    simp only [resOf,AV.bool.injEq]
    exact (name_yes hn1 (by rw [←hte];exact hR.2)).symm
theorem c104 (s:List UInt8)(hs:s.length≤1048576):APure Tryz.prog 113 [.str s] (.bool (nameS s)):=by
 refine APure.body (n:=41) tok Tryz.func113 rfl rfl rfl fun H=>?_
 refine Qsr (Qp Qab (Qnn (AW.seq (Qsr (Qp Qmt ?_)))))
 refine Qp (P_len_str (n:=s.length) tok rfl rfl rfl (rfl)) ?_
 refine Qp Qceq (Qp Qmb (Qg [] Qw Qmt ?_))
 refine AOL.g (y:=.int .i64 _) _ [(8,_)] rfl (EntL.all ⟨Ent.self _ _,trivial⟩) (fun hG=>P_len_str (n:=s.length) tok rfl rfl rfl (rfl)) rfl ?_
 refine Qg [(9,_)] Qw Qcgt (Qp Qpo (Qp Qmb (Qg [] Qw Qmt ?_)))
 refine AOL.g (y:=.int .u8 _) _ [(13,_)] rfl (EntL.all ⟨Ent.self _ _,trivial⟩) (fun hG=>P_index_str tok rfl rfl rfl rfl (by decide) (head_at (guard_len hG))) rfl ?_
 refine Qg [(14,_)] Qw (Qc rfl (c113 _)) ?_
 refine Qg [(15,_)] Qw Qnt (Qp Qpo (Qnn (Qif (fun hc1=>?_) fun hc1=>?_)))
 ·
  refine Qsr (Qp Qab (Qnn (Qrt ?_)))
  refine Qr (.bool _) ?_
  simp only [resOf,AV.bool.injEq]
  simp only [Bool.or_eq_true,decide_eq_true_eq,beq_iff_eq,Bool.not_eq_true'] at hc1
  rcases hc1 with (h1 | h1) | h1
  · exact (name_no (.inl (by omega))).symm
  · exact (name_no (.inr (.inl (by omega)))).symm
  · exact (name_nolet h1).symm
 ·
  have hn1:s.length≠0∧s.length≤24∧letS ((s.headD 0).toNat)=true:=by
     simp only [Bool.or_eq_false_iff,decide_eq_false_iff_not,beq_eq_false_iff_ne,Bool.not_eq_false'] at hc1
     exact ⟨by omega,by omega,hc1.2⟩
  refine Qst (AW.seq (Qsr (Qp Qai (Qnn (AW.block ?_)))))
  refine AW.loopS (fun (p:Nat)=>(⟨[(0,.str s),(3,.int .i64 (p:Int))],H,41⟩:St)) (fun (p:Nat)=>p≤s.length∧(s.take p).all chS=true) (fun (p:Nat)=>s.length-p) (0) ?_ (GS.weaken ⟨rfl,rfl,trivial⟩ (.refl _)) ?_
  · exact ⟨Nat.zero_le _,by simp⟩
  ·
   rintro p hR
   refine AW.seq (Qsr (Qp Qmi (Qp Qmt ?_)))
   refine Qp (P_len_str (n:=s.length) tok rfl rfl rfl (rfl)) ?_
   refine Qp Qclt (Qnn (Qif (fun hc2=>?_) fun hc2=>?_))
   ·
    obtain ⟨c,hc⟩:=get_lt hc2
    have hlt:=get_lt' hc
    have hm:=List.mem_of_getElem? hc
    refine Qst (AW.seq (AW.block (Qsr (Qp Qmt (Qp Qmi ?_)))))
    refine Qp (P_index_str tok rfl rfl rfl rfl (by omega) (byte_at hc)) ?_
    refine Qp (Qc rfl (c113 _)) ?_
    refine Qp Qnt (Qp Qmb (Qg [] Qw Qmt (Qg [] Qw Qmi ?_)))
    refine AOL.g (y:=.int .u8 _) _ [(30,_),(31,_)] rfl (EntL.all ⟨Ent.self _ _,Ent.self _ _,trivial⟩) (fun hG=>P_index_str tok rfl rfl rfl rfl (by omega) (byte_at hc)) rfl ?_
    refine Qg [(32,_)] Qw Qclt (Qg [(33,_)] Qw Qmb (Qg [] Qw Qmt (Qg [] Qw Qmi ?_)))
    refine AOL.g (y:=.int .u8 _) _ [(35,_),(36,_)] rfl (EntL.all ⟨Ent.self _ _,Ent.self _ _,trivial⟩) (fun hG=>P_index_str tok rfl rfl rfl rfl (by omega) (byte_at hc)) rfl ?_
    refine Qg [(37,_)] Qw Qcgt (Qg [(34,_),(38,_)] Qw Qpo (Qp Qpa (Qnn (Qif (fun hc3=>?_) fun hc3=>?_))))
    ·
     have hch:chS c=false:=by
      unfold chS digS;cases hl:letS c.toNat <;> simp_all <;> omega
     refine Qsr (Qp Qab (Qnn (AW.ret (blkR (thenR (thenR (blkR (thenR ?_))))))))
     refine Qr (.bool _) ?_
     simp only [resOf,AV.bool.injEq]
     symm
     unfold nameS
     rw [name_bad hm hch,Bool.and_false]
    ·
     have hch:chS c=true:=by
      unfold chS digS;cases hl:letS c.toNat <;> simp_all <;> omega
     refine AW.skip (blkN (thenN (AW.region (Qp Qmi (Qp Qad (Qp Qai (Qnn ?_)))))))
     refine ⟨p+1,?_,?_,GS.weaken ⟨rfl,rfl,trivial⟩ (.refl _)⟩
     · exact ⟨hlt,all_take_get hc hR.2 hch⟩
     · omega
   ·
    have hte:=take_end hc2
    refine AW.exit ?_
    refine thenE (thenE (blkHit (thenN (Qsr (Qp Qab (Qnn (AW.ret ?_)))))))
    refine Qr (.bool _) ?_
    simp only [resOf,AV.bool.injEq]
    exact (name_yes ⟨hn1.1,hn1.2.1,let_dig hn1.2.2⟩ (by rw [←hte];exact hR.2)).symm
theorem c103 (s:List UInt8)(hs:s.length≤1048576):APure Tryz.prog 172 [.str s] (.bool (fnameS s)):=by
 refine APure.body (n:=9) tok Tryz.func172 rfl rfl rfl fun H=>?_
 refine Qsr (Qp Qab (Qns (Qp Qmt ?_)))
 refine Qp (Qc rfl (c102 s hs)) ?_
 refine Qp Qmb (Qg [] Qw Qmt ?_)
 refine AOL.g (y:=.bool _) _ [(6,_)] rfl (EntL.all ⟨Ent.self _ _,trivial⟩) (fun hG=>P_neq_str rfl rfl) rfl ?_
 refine Qp Qpa (Qp Qab (Qnn (AW.ret ?_)))
 refine Qr (.bool _) ?_
 rfl

set_option maxHeartbeats 800000
set_option maxRecDepth 20000

theorem place_hit {ns:List (List UInt8)}{k:Nat}{n:List UInt8}(h:ns[k]? = some n)(hn:(ns.take k).contains n=false):placeS ns n=(k:Int):=by
 have h1:=place_lt h
 rw [hn] at h1
 have hm:n∈ns:=List.mem_of_getElem? h
 have hc:ns.contains n=true:=by simpa using hm
 have h3:ns.idxOf n≤k:=by
  refine Nat.le_of_not_lt fun hlt=>?_
  have hk:k<ns.length:=get_lt' h
  have h4:=List.not_of_lt_findIdx (p:=fun x=>x==n) (xs:=ns) (i:=k) hlt
  have h5:ns[k]=n:=by rw [List.getElem?_eq_getElem hk] at h;exact Option.some.inj h
  simp only [h5] at h4
  simp at h4
 unfold placeS at h1 ⊢
 rw [if_pos hc] at h1 ⊢
 simp at h1
 omega
theorem place_none {ns:List (List UInt8)}{n:List UInt8}(h:ns.contains n=false):placeS ns n = -1:=by unfold placeS;rw [if_neg (by simp only [h];decide)]
theorem contains_next {ns:List (List UInt8)}{k:Nat}{m n:List UInt8}(h:ns[k]? = some m)(hn:(ns.take k).contains n=false)(hne:(m==n)=false):(ns.take (k+1)).contains n=false:=by
 rw [take_get h]
 have h1:m≠n:=by simpa using hne
 simp at hn ⊢
 exact ⟨hn,fun e=>h1 e.symm⟩
def scOK (s:Sc):Prop:=s.name.length≤1048576∧s.fields.length≤1048576∧∀f∈s.fields,f.name.length≤1048576
theorem fields_step {seen:List (List UInt8)}{a:Fi}{r:List Fi}(h:fieldE seen a=0):fieldsS seen (a::r)=fieldsS (seen ++ [a.name]) r:=by rw [fieldsS,if_neg (by rw [h];decide)]
theorem fields_stop {seen:List (List UInt8)}{a:Fi}{r:List Fi}(h:fieldE seen a≠0):fieldsS seen (a::r)=fieldE seen a:=by rw [fieldsS,if_pos (by simpa using h)]
theorem types_step {seen:List (List UInt8)}{a:Sc}{r:List Sc}(h:typeE seen a=0):typesS seen (a::r)=typesS (seen ++ [a.name]) r:=by rw [typesS,if_neg (by rw [h];decide)]
theorem types_stop {seen:List (List UInt8)}{a:Sc}{r:List Sc}(h:typeE seen a≠0):typesS seen (a::r)=typeE seen a:=by rw [typesS,if_pos (by simpa using h)]
theorem kind_out (k:Int):(k != 0&&k != 1&&k != 2)=(decide (k<0)||decide (3≤k)):=by
 rw [Bool.eq_iff_iff];simp;omega
theorem fname_no (s:List UInt8):(!nameS s||s==timeB) = !fnameS s:=by
 unfold fnameS;cases nameS s <;> cases (s==timeB) <;> rfl

theorem c105 (s:Sc)(hl:s.fields.length≤1048576)(n:List UInt8):APure Tryz.prog 114 [.agg (cSc s),.str n] (.int .i64 (placeS (s.fields.map (·.name)) n)):=by
 refine APure.body (n:=22) tok Tryz.func114 rfl rfl rfl fun H=>?_
 refine Qsr (Qp (Qbx [.str _,_]) (Qp Qai (Qnn (AW.seq (Qsr (Qp Qai (Qnn (AW.block ?_))))))))
 refine AW.loopS (fun (p:Nat)=>(⟨[(1,.str n),(2,.ptr (cSc s)),(5,.int .i64 (p:Int))],H,22⟩:St)) (fun (p:Nat)=>p≤s.fields.length∧((s.fields.map (·.name)).take p).contains n=false) (fun (p:Nat)=>s.fields.length-p) (0) ?_ (GS.weaken ⟨rfl,rfl,rfl,trivial⟩ (.refl _)) ?_
 · exact ⟨Nat.zero_le _,by simp⟩
 ·
  rintro p hR
  refine AW.seq (Qsr (Qp Qmi (Qp (Qf [_]) (Qp Qls ?_))))
  refine Qp (P_len_sl (n:=s.fields.length) tok rfl rfl rfl (by simp)) ?_
  refine Qp Qclt (Qnn (Qif (fun hc1=>?_) fun hc1=>?_))
  ·
   obtain ⟨a,ha⟩:=get_lt hc1
   have hlt:=get_lt' ha
   have hm:=List.mem_of_getElem? ha
   have hna:(s.fields.map (·.name))[p]? = some a.name:=by simp [ha]
   refine Qst (AW.seq (AW.block (Qsr (Qp (Qf [_]) (Qp Qls (Qp Qmi ?_))))))
   refine Qp (P_indexAddr (c:=[.str _,.int .i64 _]) tok rfl rfl rfl rfl rfl rfl (by omega) (map_at ha)) ?_
   refine Qp (Qf [.str _,.int .i64 _]) (Qp Qlt (Qp Qmt ?_))
   refine Qp (P_eql_str rfl rfl) ?_
   refine Qnn (Qif (fun hc2=>?_) fun hc2=>?_)
   ·
    refine Qsr (Qp Qmi (Qp Qai (Qnn (AW.ret (blkR (thenR (thenR (blkR (thenR ?_)))))))))
    refine Qr (.int .i64 _) ?_
    have e:a.name=n:=by simpa using hc2
    rw [e] at hna
    rw [place_hit hna hR.2];rfl
   ·
    refine AW.skip (blkN (thenN (AW.region (Qp Qmi (Qp Qad (Qp Qai (Qnn ?_)))))))
    refine ⟨p+1,?_,?_,GS.weaken ⟨rfl,rfl,rfl,trivial⟩ (.refl _)⟩
    · exact ⟨hlt,contains_next hna hR.2 hc2⟩
    · omega
  ·
   have hte:=take_end hc1
   refine AW.exit ?_
   refine thenE (thenE (blkHit (thenN (Qsr (Qp Qai (Qnn (AW.ret ?_)))))))
   refine Qr (.int .i64 _) ?_
   have h2:=hR.2
   rw [←List.map_take,hte] at h2
   rw [place_none h2];rfl
theorem c88 (l:List Sc)(hl:l.length≤1048576)(n:List UInt8):APure Tryz.prog 73 [.sl 2 (l.map cSc),.str n] (.int .i64 (placeS (l.map (·.name)) n)):=by
 refine APure.body (n:=20) tok Tryz.func73 rfl rfl rfl fun H=>?_
 refine Qsr (Qp Qai (Qnn (AW.seq (Qsr (Qp Qai (Qnn (AW.block ?_)))))))
 refine AW.loopS (fun (p:Nat)=>(⟨[(0,.sl 2 (l.map cSc)),(1,.str n),(5,.int .i64 (p:Int))],H,20⟩:St)) (fun (p:Nat)=>p≤l.length∧((l.map (·.name)).take p).contains n=false) (fun (p:Nat)=>l.length-p) (0) ?_ (GS.weaken ⟨rfl,rfl,rfl,trivial⟩ (.refl _)) ?_
 · exact ⟨Nat.zero_le _,by simp⟩
 ·
  rintro p hR
  refine AW.seq (Qsr (Qp Qmi (Qp Qms ?_)))
  refine Qp (P_len_sl (n:=l.length) tok rfl rfl rfl (by simp)) ?_
  refine Qp Qclt (Qnn (Qif (fun hc1=>?_) fun hc1=>?_))
  ·
   obtain ⟨a,ha⟩:=get_lt hc1
   have hlt:=get_lt' ha
   have hm:=List.mem_of_getElem? ha
   have hna:(l.map (·.name))[p]? = some a.name:=by simp [ha]
   refine Qst (AW.seq (AW.block (Qsr (Qp Qms (Qp Qmi ?_)))))
   refine Qp (P_indexAddr (c:=[.str _,_]) tok rfl rfl rfl rfl rfl rfl (by omega) (map_at ha)) ?_
   refine Qp (Qf [.str _,_]) (Qp Qlt (Qp Qmt ?_))
   refine Qp (P_eql_str rfl rfl) ?_
   refine Qnn (Qif (fun hc2=>?_) fun hc2=>?_)
   ·
    refine Qsr (Qp Qmi (Qp Qai (Qnn (AW.ret (blkR (thenR (thenR (blkR (thenR ?_)))))))))
    refine Qr (.int .i64 _) ?_
    have e:a.name=n:=by simpa using hc2
    rw [e] at hna
    rw [place_hit hna hR.2];rfl
   ·
    refine AW.skip (blkN (thenN (AW.region (Qp Qmi (Qp Qad (Qp Qai (Qnn ?_)))))))
    refine ⟨p+1,?_,?_,GS.weaken ⟨rfl,rfl,rfl,trivial⟩ (.refl _)⟩
    · exact ⟨hlt,contains_next hna hR.2 hc2⟩
    · omega
  ·
   have hte:=take_end hc1
   refine AW.exit ?_
   refine thenE (thenE (blkHit (thenN (Qsr (Qp Qai (Qnn (AW.ret ?_)))))))
   refine Qr (.int .i64 _) ?_
   have h2:=hR.2
   rw [←List.map_take,hte] at h2
   rw [place_none h2];rfl
theorem c85 (s:Sc)(hs:scOK s):APure Tryz.prog 155 [.agg (cSc s)] (.int .i64 (schS s)):=by
 refine APure.body (n:=45) tok Tryz.func155 rfl rfl rfl fun H=>?_
 refine Qsr (Qp (Qbx [.str _,_]) (Qp Qai (Qnn (AW.seq (Qsr (Qp (Qf [.str _,_]) (Qp Qlt ?_)))))))
 refine Qp (Qc rfl (c102 _ hs.1)) ?_
 refine Qp Qnt (Qnn (Qif (fun hc1=>?_) fun hc1=>?_))
 ·
  refine Qsr (Qp Qai (Qnn (Qrt ?_)))
  refine Qr (.int .i64 _) ?_
  rw [show schS s=8 by unfold schS;rw [if_pos (by simpa using hc1)]];rfl
 ·
  refine Qst (AW.seq (Qsr (Qp (Qf [_]) (Qp Qls ?_))))
  refine Qp (P_len_sl (n:=s.fields.length) tok rfl rfl rfl (by simp)) ?_
  refine Qp Qcgt (Qnn (Qif (fun hc2=>?_) fun hc2=>?_))
  ·
   refine Qsr (Qp Qai (Qnn (Qrt ?_)))
   refine Qr (.int .i64 _) ?_
   rw [show schS s=5 by unfold schS;rw [if_neg (by simpa using hc1),if_pos (by simpa using hc2)]];rfl
  ·
   refine Qst (Qsr ?_)
   refine Qe (E_makeSMap) ?_
   rintro _ _ ⟨b14,rfl,rfl⟩
   refine Qp Qav (Qnn (AW.seq (Qsr (Qp (Qf [_]) (Qp Qls ?_)))))
   refine Qp (P_len_sl (n:=s.fields.length) tok rfl rfl rfl (by simp)) ?_
   refine Qp Qmi (Qnn (AW.block ?_))
   have hfl:=hs.2.1
   refine AW.loopS (fun (p:Nat×List (List UInt8))=>(⟨[(3,.val (.map (some b14))),(16,.sl 2 (s.fields.map cFi)),(17,.int .i64 s.fields.length),(18,.int .i64 (p.1:Int))],.smap b14 (setS p.2)::H,45⟩:St)) (fun (p:Nat×List (List UInt8))=>p.1≤s.fields.length∧fieldsS [] s.fields=fieldsS p.2 (s.fields.drop p.1)) (fun (p:Nat×List (List UInt8))=>s.fields.length-p.1) ((0,[])) ?_ (GS.weaken ⟨rfl,rfl,rfl,rfl,trivial⟩ (.refl _)) ?_
   · exact ⟨Nat.zero_le _,rfl⟩
   ·
    rintro p hR
    refine Qsr (Qp Qclt (Qnn (AW.seq (Qif (fun hc3=>?_) fun hc3=>?_))))
    ·
     obtain ⟨a,ha⟩:=get_lt hc3
     have hlt:=get_lt' ha
     have hm:=List.mem_of_getElem? ha
     refine Qst (AW.seq (AW.block (Qsr ?_)))
     refine Qp (P_indexAddr (c:=[.str _,.int .i64 _]) tok rfl rfl rfl rfl rfl rfl (by omega) (map_at ha)) ?_
     refine Qp (Qlg [.str _,.int .i64 _]) ?_
     refine Qe (E_alloc (l:=[.str [],.int .i64 0]) (by kernel_rfl)) ?_
     rintro _ _ ⟨b5,rfl,rfl⟩
     refine Qe (E_store (k:=0) (v:=.agg _) (cs':=[.str _,.int .i64 _]) (H2:=_::_::_) tok rfl rfl rfl rfl (rfl) rfl rfl rfl rfl) ?_
     rintro _ _ ⟨rfl,rfl⟩
     refine AOL.ghost (GS.freeze (t:=5) 0 rfl rfl) ?_
     refine Qnn (AW.seq (AW.block (Qsr (Qp (Qf [.str _,.int .i64 _]) (Qp Qlt ?_)))))
     refine Qp (Qc rfl (c103 _ (hs.2.2 a hm))) ?_
     refine Qp Qnt (Qp Qab (Qnn (Qif (fun hc4=>?_) fun hc4=>?_)))
     ·
      have hb4:(!fnameS a.name)=true:=hc4
      refine Qsr (Qp Qai (Qnn (AW.ret (blkR (thenR (blkR (thenR (thenR (blkR ?_)))))))))
      refine thenR ?_
      refine ⟨.inr rfl,[.int .i64 _],.cons (.tmp _ _ rfl) <| .nil,.cons _ (.refl _),?_⟩
      have he:fieldE p.2 a=8:=by
       unfold fieldE;rw [if_pos hb4]
      rw [show schS s=fieldE p.2 a by unfold schS;rw [if_neg (by simpa using hc1),if_neg (by simpa using hc2),hR.2,drop_cons ha,fields_stop (by rw [he];decide)],he];rfl
     ·
      have hb4:¬(!fnameS a.name)=true:=by simpa using hc4
      refine Qsr (Qp Qmv (Qp (Qf [.str _,.int .i64 _]) (Qp Qlt ?_)))
      refine AOL.pk (P_setLook (i:=0) (ks:=p.2) tok rfl rfl rfl rfl rfl (by kernel_rfl) rfl rfl rfl) rfl rfl ?_
      refine Qp Qab (Qnn (Qif (fun hc5=>?_) fun hc5=>?_))
      ·
       have hb5:p.2.contains a.name=true:=hc5
       refine Qsr (Qp Qai (Qnn (AW.ret (blkR (thenR (blkR (thenR (thenR (blkR ?_)))))))))
       refine thenR ?_
       refine ⟨.inr rfl,[.int .i64 _],.cons (.tmp _ _ rfl) <| .nil,.cons _ (.refl _),?_⟩
       have he:fieldE p.2 a=7:=by
        unfold fieldE;rw [if_neg hb4,if_pos hb5]
       rw [show schS s=fieldE p.2 a by unfold schS;rw [if_neg (by simpa using hc1),if_neg (by simpa using hc2),hR.2,drop_cons ha,fields_stop (by rw [he];decide)],he];rfl
      ·
       have hb5:¬p.2.contains a.name=true:=by simpa using hc5
       refine Qsr (Qp (Qf [.int .i64 _]) (Qp Qli (Qp Qclt (Qp Qmb (Qg [] Qw (Qf [.int .i64 _]) (Qg [(37,_)] Qw Qli (Qg [(38,_)] Qw Qcgq (Qp Qpo (Qp Qab ?_)))))))))
       refine Qnn (Qif (fun hc6=>?_) fun hc6=>?_)
       ·
        have hb6:=hc6
        refine Qsr (Qp Qai (Qnn (AW.ret (blkR (thenR (blkR (thenR (thenR (blkR ?_)))))))))
        refine thenR ?_
        refine ⟨.inr rfl,[.int .i64 _],.cons (.tmp _ _ rfl) <| .nil,.cons _ (.refl _),?_⟩
        have he:fieldE p.2 a=1:=by
         unfold fieldE;rw [if_neg hb4,if_neg hb5,if_pos hb6]
        rw [show schS s=fieldE p.2 a by unfold schS;rw [if_neg (by simpa using hc1),if_neg (by simpa using hc2),hR.2,drop_cons ha,fields_stop (by rw [he];decide)],he];rfl
       ·
        have hb6:=Bool.eq_false_iff.mp hc6
        have he0:fieldE p.2 a=0:=by unfold fieldE;rw [if_neg hb4,if_neg hb5,if_neg hb6]
        refine AW.skip (blkN (thenN (AW.region (Qp Qmv (Qp (Qf [.str _,.int .i64 _]) (Qp Qlt ?_))))))
        refine Qe (E_setAdd (i:=0) (H2:=_::_) tok rfl rfl rfl rfl rfl rfl rfl rfl (by simpa using hb5) rfl) ?_
        rintro _ _ ⟨rfl,rfl⟩
        refine AOL.nil (blkN (thenN (AW.region (Qp Qad (Qp Qmi (Qnn ?_))))))
        refine ⟨(p.1+1,p.2 ++ [a.name]),?_,?_,GS.weaken ⟨rfl,rfl,rfl,rfl,trivial⟩ (.refl _)⟩
        · exact ⟨hlt,by rw [hR.2,drop_cons ha,fields_step he0]⟩
        · first | omega | (simp only;omega)
    ·
     have hd:=get_end hc3
     refine AW.exit ?_
     refine thenE (thenE (blkHit (thenN (Qsr (Qp Qai (Qnn (AW.ret ?_)))))))
     refine ⟨.inr rfl,[.int .i64 _],.cons (.tmp _ _ rfl) <| .nil,.cons _ (.refl _),?_⟩
     rw [show schS s=0 by unfold schS;rw [if_neg (by simpa using hc1),if_neg (by simpa using hc2),hR.2,hd];rfl];rfl
theorem c87 (s:Sc)(hs:scOK s):APure Tryz.prog 72 [.agg (cSc s)] (.int .i64 (schS s)):=by
 refine APure.body (n:=53) tok Tryz.func72 rfl rfl rfl fun H=>?_
 refine Qsr (Qp (Qbx [.str _,_]) (Qp Qai (Qnn (AW.seq (Qsr (Qp (Qf [.str _,_]) (Qp Qlt ?_)))))))
 refine Qp (Qc rfl (c104 _ hs.1)) ?_
 refine Qp Qnt (Qnn (Qif (fun hc1=>?_) fun hc1=>?_))
 ·
  refine Qsr (Qp Qai (Qnn (Qrt ?_)))
  refine Qr (.int .i64 _) ?_
  rw [show schS s=8 by unfold schS;rw [if_pos (by simpa using hc1)]];rfl
 ·
  refine Qst (AW.seq (Qsr (Qp (Qf [_]) (Qp Qls ?_))))
  refine Qp (P_len_sl (n:=s.fields.length) tok rfl rfl rfl (by simp)) ?_
  refine Qp Qcgt (Qnn (Qif (fun hc2=>?_) fun hc2=>?_))
  ·
   refine Qsr (Qp Qai (Qnn (Qrt ?_)))
   refine Qr (.int .i64 _) ?_
   rw [show schS s=5 by unfold schS;rw [if_neg (by simpa using hc1),if_pos (by simpa using hc2)]];rfl
  ·
   refine Qst (AW.seq (Qsr (Qp Qai (Qnn (AW.block ?_)))))
   have hfl:=hs.2.1
   refine AW.loopS (fun (p:Nat)=>(⟨[(1,.ptr (cSc s)),(3,.int .i64 (p:Int))],H,53⟩:St)) (fun (p:Nat)=>p≤s.fields.length∧fieldsS [] s.fields=fieldsS ((s.fields.take p).map (·.name)) (s.fields.drop p)) (fun (p:Nat)=>s.fields.length-p) (0) ?_ (GS.weaken ⟨rfl,rfl,trivial⟩ (.refl _)) ?_
   · exact ⟨Nat.zero_le _,rfl⟩
   ·
    rintro p hR
    refine AW.seq (Qsr (Qp Qmi (Qp (Qf [_]) (Qp Qls ?_))))
    refine Qp (P_len_sl (n:=s.fields.length) tok rfl rfl rfl (by simp)) ?_
    refine Qp Qclt (Qnn (Qif (fun hc3=>?_) fun hc3=>?_))
    ·
     obtain ⟨a,ha⟩:=get_lt hc3
     have hlt:=get_lt' ha
     have hm:=List.mem_of_getElem? ha
     have hna:(s.fields.map (·.name))[p]? = some a.name:=by simp [ha]
     refine Qst (AW.seq (AW.block (Qsr (Qp (Qf [_]) (Qp Qls (Qp Qmi ?_))))))
     refine Qp (P_indexAddr (c:=[.str _,.int .i64 _]) tok rfl rfl rfl rfl rfl rfl (by omega) (map_at ha)) ?_
     refine Qp (Qlg [.str _,.int .i64 _]) ?_
     refine Qe (E_alloc (l:=[.str [],.int .i64 0]) (by kernel_rfl)) ?_
     rintro _ _ ⟨b4,rfl,rfl⟩
     refine Qe (E_store (k:=0) (v:=.agg _) (cs':=[.str _,.int .i64 _]) (H2:=_::_) tok rfl rfl rfl rfl (rfl) rfl rfl rfl rfl) ?_
     rintro _ _ ⟨rfl,rfl⟩
     refine AOL.ghost (GS.freeze (t:=4) 0 rfl rfl) ?_
     refine Qnn (AW.seq (Qsr (Qp (Qf [.str _,.int .i64 _]) (Qp Qlt ?_))))
     refine Qp (Qc rfl (c104 _ (hs.2.2 a hm))) ?_
     refine Qp Qnt (Qp Qmb (Qg [] Qw (Qf [.str _,.int .i64 _]) (Qg [(30,_)] Qw Qlt ?_)))
     refine AOL.g (y:=.bool _) _ [(31,_)] rfl (EntL.all ⟨Ent.self _ _,trivial⟩) (fun hG=>P_eql_str rfl rfl) rfl ?_
     refine Qp Qpo (Qnn (Qif (fun hc4=>?_) fun hc4=>?_))
     ·
      have hb4:(!fnameS a.name)=true:=by rw [←fname_no];exact hc4
      refine Qsr (Qp Qai (Qnn (Qrt (blkR (thenR (thenR (blkR (thenR ?_))))))))
      refine Qr (.int .i64 _) ?_
      have he:fieldE ((s.fields.take p).map (·.name)) a=8:=by
       unfold fieldE;rw [if_pos hb4]
      rw [show schS s=fieldE ((s.fields.take p).map (·.name)) a by unfold schS;rw [if_neg (by simpa using hc1),if_neg (by simpa using hc2),hR.2,drop_cons ha,fields_stop (by rw [he];decide)],he];rfl
     ·
      have hb4:¬(!fnameS a.name)=true:=by rw [←fname_no];exact Bool.eq_false_iff.mp hc4
      refine Qst (AW.seq (Qsr (Qp (Qlg [.str _,_]) (Qp (Qf [.str _,.int .i64 _]) (Qp Qlt ?_)))))
      refine Qp (Qc rfl (c105 s hs.2.1 _)) ?_
      refine Qp Qmi (Qp Qclt (Qnn (Qif (fun hc5=>?_) fun hc5=>?_)))
      ·
       rw [place_lt hna,←List.map_take] at hc5
       have hb5:((s.fields.take p).map (·.name)).contains a.name=true:=hc5
       refine Qsr (Qp Qai (Qnn (Qrt (blkR (thenR (thenR (blkR (thenR ?_))))))))
       refine Qr (.int .i64 _) ?_
       have he:fieldE ((s.fields.take p).map (·.name)) a=7:=by
        unfold fieldE;rw [if_neg hb4,if_pos hb5]
       rw [show schS s=fieldE ((s.fields.take p).map (·.name)) a by unfold schS;rw [if_neg (by simpa using hc1),if_neg (by simpa using hc2),hR.2,drop_cons ha,fields_stop (by rw [he];decide)],he];rfl
      ·
       rw [place_lt hna,←List.map_take] at hc5
       have hb5:¬((s.fields.take p).map (·.name)).contains a.name=true:=Bool.eq_false_iff.mp hc5
       refine Qst (Qsr (Qp (Qf [.int .i64 _]) (Qp Qli (Qp Qcne (Qp Qmb (Qg [] Qw (Qf [.int .i64 _]) (Qg [(44,_)] Qw Qli (Qg [(45,_)] Qw Qcne (Qp Qpa ?_)))))))))
       refine Qp Qmb (Qg [] Qw (Qf [.int .i64 _]) (Qg [(49,_)] Qw Qli (Qg [(50,_)] Qw Qcne (Qp Qpa (Qnn (Qif (fun hc6=>?_) fun hc6=>?_))))))
       ·
        have hb6:=(kind_out a.kind).symm.trans hc6
        refine Qsr (Qp Qai (Qnn (AW.ret (blkR (thenR (thenR (blkR (thenR ?_))))))))
        refine Qr (.int .i64 _) ?_
        have he:fieldE ((s.fields.take p).map (·.name)) a=1:=by
         unfold fieldE;rw [if_neg hb4,if_neg hb5,if_pos hb6]
        rw [show schS s=fieldE ((s.fields.take p).map (·.name)) a by unfold schS;rw [if_neg (by simpa using hc1),if_neg (by simpa using hc2),hR.2,drop_cons ha,fields_stop (by rw [he];decide)],he];rfl
       ·
        have hb6:=Bool.eq_false_iff.mp ((kind_out a.kind).symm.trans hc6)
        have he0:fieldE ((s.fields.take p).map (·.name)) a=0:=by unfold fieldE;rw [if_neg hb4,if_neg hb5,if_neg hb6]
        refine AW.skip (blkN (thenN (AW.region (Qp Qmi (Qp Qad (Qp Qai (Qnn ?_)))))))
        refine ⟨p+1,?_,?_,GS.weaken ⟨rfl,rfl,trivial⟩ (.refl _)⟩
        · exact ⟨hlt,by rw [hR.2,drop_cons ha,fields_step he0,names_take ha]⟩
        · omega
    ·
     have hd:=get_end hc3
     refine AW.exit ?_
     refine thenE (thenE (blkHit (thenN (Qsr (Qp Qai (Qnn (AW.ret ?_)))))))
     refine Qr (.int .i64 _) ?_
     rw [show schS s=0 by unfold schS;rw [if_neg (by simpa using hc1),if_neg (by simpa using hc2),hR.2,hd];rfl];rfl
theorem c57 (l:List Sc)(hl:l.length≤1048576)(hs:∀s∈l,scOK s):APure Tryz.prog 132 [.sl 2 (l.map cSc)] (.int .i64 (allTS l)):=by
 refine APure.body (n:=30) tok Tryz.func132 rfl rfl rfl fun H=>?_
 refine Qsr (Qp Qai (Qnn (AW.seq (Qsr (Qp Qms ?_)))))
 refine Qp (P_len_sl (n:=l.length) tok rfl rfl rfl (by simp)) ?_
 refine Qp Qcgt (Qnn (Qif (fun hc1=>?_) fun hc1=>?_))
 ·
  refine Qsr (Qp Qai (Qnn (Qrt ?_)))
  refine Qr (.int .i64 _) ?_
  rw [show allTS l=5 by unfold allTS;rw [if_pos (by simpa using hc1)]];rfl
 ·
  refine Qst (Qsr ?_)
  refine Qe (E_makeSMap) ?_
  rintro _ _ ⟨b10,rfl,rfl⟩
  refine Qp Qav (Qnn (AW.seq (Qsr (Qp Qms ?_))))
  refine Qp (P_len_sl (n:=l.length) tok rfl rfl rfl (by simp)) ?_
  refine Qp Qmi (Qnn (AW.block ?_))
  refine AW.loopS (fun (p:Nat×List (List UInt8))=>(⟨[(3,.val (.map (some b10))),(11,.sl 2 (l.map cSc)),(12,.int .i64 l.length),(13,.int .i64 (p.1:Int))],.smap b10 (setS p.2)::H,30⟩:St)) (fun (p:Nat×List (List UInt8))=>p.1≤l.length∧typesS [] l=typesS p.2 (l.drop p.1)) (fun (p:Nat×List (List UInt8))=>l.length-p.1) ((0,[])) ?_ (GS.weaken ⟨rfl,rfl,rfl,rfl,trivial⟩ (.refl _)) ?_
  · exact ⟨Nat.zero_le _,rfl⟩
  ·
   rintro p hR
   refine Qsr (Qp Qclt (Qnn (AW.seq (Qif (fun hc2=>?_) fun hc2=>?_))))
   ·
    obtain ⟨a,ha⟩:=get_lt hc2
    have hlt:=get_lt' ha
    have hm:=List.mem_of_getElem? ha
    refine Qst (AW.seq (AW.block (Qsr ?_)))
    refine Qp (P_indexAddr (c:=[.str _,_]) tok rfl rfl rfl rfl rfl rfl (by omega) (map_at ha)) ?_
    refine Qp (Qlg [.str _,_]) ?_
    refine Qe (E_alloc (l:=[.str [],.sl 2 []]) (by kernel_rfl)) ?_
    rintro _ _ ⟨b5,rfl,rfl⟩
    refine Qe (E_store (k:=0) (v:=.agg _) (cs':=[.str _,_]) (H2:=_::_::_) tok rfl rfl rfl rfl (rfl) rfl rfl rfl rfl) ?_
    rintro _ _ ⟨rfl,rfl⟩
    refine AOL.ghost (GS.freeze (t:=5) 0 rfl rfl) ?_
    refine Qnn (AW.seq (Qsr (Qp (Qlg [.str _,_]) ?_)))
    refine Qp (Qc rfl (c85 a (hs a hm))) ?_
    refine Qp Qai (Qns (Qp Qmi (Qp Qcne (Qnn (Qif (fun hc3=>?_) fun hc3=>?_)))))
    ·
     refine Qsr (Qp Qmi (Qp Qai (Qnn (Qrt (blkR (thenR (thenR (blkR (thenR ?_)))))))))
     refine ⟨.inr rfl,[.int .i64 _],.cons (.tmp _ _ rfl) <| .nil,.cons _ (.refl _),?_⟩
     have he:typeE p.2 a=schS a:=by unfold typeE;rw [if_pos hc3]
     rw [show allTS l=typeE p.2 a by unfold allTS;rw [if_neg (by simpa using hc1),hR.2,drop_cons ha,types_stop (by rw [he];simpa using hc3)],he];rfl
    ·
     have hb3:=Bool.eq_false_iff.mp hc3
     refine Qst (AW.seq (Qsr (Qp Qmv (Qp (Qf [.str _,_]) (Qp Qlt ?_)))))
     refine AOL.pk (P_setLook (i:=0) (ks:=p.2) tok rfl rfl rfl rfl rfl (by kernel_rfl) rfl rfl rfl) rfl rfl ?_
     refine Qnn (Qif (fun hc4=>?_) fun hc4=>?_)
     ·
      have hb4:p.2.contains a.name=true:=hc4
      refine Qsr (Qp Qai (Qnn (Qrt (blkR (thenR (thenR (blkR (thenR ?_))))))))
      refine ⟨.inr rfl,[.int .i64 _],.cons (.tmp _ _ rfl) <| .nil,.cons _ (.refl _),?_⟩
      have he:typeE p.2 a=7:=by unfold typeE;rw [if_neg hb3,if_pos hb4]
      rw [show allTS l=typeE p.2 a by unfold allTS;rw [if_neg (by simpa using hc1),hR.2,drop_cons ha,types_stop (by rw [he];decide)],he];rfl
     ·
      have hb4:¬p.2.contains a.name=true:=by simpa using hc4
      have he0:typeE p.2 a=0:=by unfold typeE;rw [if_neg hb3,if_neg hb4]
      refine Qst (AW.region (Qp Qmv (Qp (Qf [.str _,_]) (Qp Qlt ?_))))
      refine Qe (E_setAdd (i:=0) (H2:=_::_) tok rfl rfl rfl rfl rfl rfl rfl rfl (by simpa using hb4) rfl) ?_
      rintro _ _ ⟨rfl,rfl⟩
      refine AOL.nil (blkN (thenN (AW.region (Qp Qad (Qp Qmi (Qnn ?_))))))
      refine ⟨(p.1+1,p.2 ++ [a.name]),?_,?_,GS.weaken ⟨rfl,rfl,rfl,rfl,trivial⟩ (.refl _)⟩
      · exact ⟨hlt,by rw [hR.2,drop_cons ha,types_step he0]⟩
      · first | omega | (simp only;omega)
   ·
    have hd:=get_end hc2
    refine AW.exit ?_
    refine thenE (thenE (blkHit (thenN (Qsr (Qp Qai (Qnn (AW.ret ?_)))))))
    refine ⟨.inr rfl,[.int .i64 _],.cons (.tmp _ _ rfl) <| .nil,.cons _ (.refl _),?_⟩
    rw [show allTS l=0 by unfold allTS;rw [if_neg (by simpa using hc1),hR.2,hd];rfl];rfl
theorem c59 (l:List Sc)(hl:l.length≤1048576)(hs:∀s∈l,scOK s):APure Tryz.prog 34 [.sl 2 (l.map cSc)] (.int .i64 (allTS l)):=by
 refine APure.body (n:=31) tok Tryz.func34 rfl rfl rfl fun H=>?_
 refine Qsr (Qp Qai (Qnn (AW.seq (Qsr (Qp Qms ?_)))))
 refine Qp (P_len_sl (n:=l.length) tok rfl rfl rfl (by simp)) ?_
 refine Qp Qcgt (Qnn (Qif (fun hc1=>?_) fun hc1=>?_))
 ·
  refine Qsr (Qp Qai (Qnn (Qrt ?_)))
  refine Qr (.int .i64 _) ?_
  rw [show allTS l=5 by unfold allTS;rw [if_pos (by simpa using hc1)]];rfl
 ·
  refine Qst (AW.seq (Qsr (Qp Qai (Qnn (AW.block ?_)))))
  refine AW.loopS (fun (p:Nat)=>(⟨[(0,.sl 2 (l.map cSc)),(3,.int .i64 (p:Int))],H,31⟩:St)) (fun (p:Nat)=>p≤l.length∧typesS [] l=typesS ((l.take p).map (·.name)) (l.drop p)) (fun (p:Nat)=>l.length-p) (0) ?_ (GS.weaken ⟨rfl,rfl,trivial⟩ (.refl _)) ?_
  · exact ⟨Nat.zero_le _,rfl⟩
  ·
   rintro p hR
   refine AW.seq (Qsr (Qp Qmi (Qp Qms ?_)))
   refine Qp (P_len_sl (n:=l.length) tok rfl rfl rfl (by simp)) ?_
   refine Qp Qclt (Qnn (Qif (fun hc2=>?_) fun hc2=>?_))
   ·
    obtain ⟨a,ha⟩:=get_lt hc2
    have hlt:=get_lt' ha
    have hm:=List.mem_of_getElem? ha
    have hna:(l.map (·.name))[p]? = some a.name:=by simp [ha]
    refine Qst (AW.seq (AW.block (AW.seq (Qsr (Qp Qms (Qp Qmi ?_))))))
    refine Qp (P_indexAddr (c:=[.str _,_]) tok rfl rfl rfl rfl rfl rfl (by omega) (map_at ha)) ?_
    refine Qp (Qlg [.str _,_]) ?_
    refine Qp (Qc rfl (c87 a (hs a hm))) ?_
    refine Qp Qai (Qns (Qp Qmi (Qp Qcne (Qnn (Qif (fun hc3=>?_) fun hc3=>?_)))))
    ·
     refine Qsr (Qp Qmi (Qp Qai (Qnn (Qrt (blkR (thenR (thenR (blkR (thenR ?_)))))))))
     refine Qr (.int .i64 _) ?_
     have he:typeE ((l.take p).map (·.name)) a=schS a:=by unfold typeE;rw [if_pos hc3]
     rw [show allTS l=typeE ((l.take p).map (·.name)) a by unfold allTS;rw [if_neg (by simpa using hc1),hR.2,drop_cons ha,types_stop (by rw [he];simpa using hc3)],he];rfl
    ·
     have hb3:=Bool.eq_false_iff.mp hc3
     refine Qst (Qsr (Qp Qms (Qp Qms (Qp Qmi ?_))))
     refine Qp (P_indexAddr (c:=[.str _,_]) tok rfl rfl rfl rfl rfl rfl (by omega) (map_at ha)) ?_
     refine Qp (Qf [.str _,_]) (Qp Qlt ?_)
     refine Qp (Qc rfl (c88 l hl _)) ?_
     refine Qp Qmi (Qp Qclt (Qnn (Qif (fun hc4=>?_) fun hc4=>?_)))
     ·
      rw [place_lt hna,←List.map_take] at hc4
      have hb4:((l.take p).map (·.name)).contains a.name=true:=hc4
      refine Qsr (Qp Qai (Qnn (AW.ret (blkR (thenR (thenR (blkR (thenR ?_))))))))
      refine Qr (.int .i64 _) ?_
      have he:typeE ((l.take p).map (·.name)) a=7:=by unfold typeE;rw [if_neg hb3,if_pos hb4]
      rw [show allTS l=typeE ((l.take p).map (·.name)) a by unfold allTS;rw [if_neg (by simpa using hc1),hR.2,drop_cons ha,types_stop (by rw [he];decide)],he];rfl
     ·
      rw [place_lt hna,←List.map_take] at hc4
      have hb4:¬((l.take p).map (·.name)).contains a.name=true:=Bool.eq_false_iff.mp hc4
      have he0:typeE ((l.take p).map (·.name)) a=0:=by unfold typeE;rw [if_neg hb3,if_neg hb4]
      refine AW.skip (blkN (thenN (AW.region (Qp Qmi (Qp Qad (Qp Qai (Qnn ?_)))))))
      refine ⟨p+1,?_,?_,GS.weaken ⟨rfl,rfl,trivial⟩ (.refl _)⟩
      · exact ⟨hlt,by rw [hR.2,drop_cons ha,types_step he0,tnames_take ha]⟩
      · omega
   ·
    have hd:=get_end hc2
    refine AW.exit ?_
    refine thenE (thenE (blkHit (thenN (Qsr (Qp Qai (Qnn (AW.ret ?_)))))))
    refine Qr (.int .i64 _) ?_
    rw [show allTS l=0 by unfold allTS;rw [if_neg (by simpa using hc1),hR.2,hd];rfl];rfl

set_option maxHeartbeats 1600000
set_option maxRecDepth 20000

theorem len_of_head {a b:Ex}(h:headS a b=false):a.args.length=b.args.length:=by
 simp [headS] at h;omega

def badS (l:List Ev):Bool:=decide (12<(l.length:Int))||l.any fun v=>decide (10<(v.values.length:Int))
def fewEnvS (vars:List (List Ev)):Bool:=!((vars.take 20).any badS)&&decide ((vars.length:Int)≤20)
def fewE (e:Ex):Bool:=decide (sizeN e≤200∧depthN e≤100)
theorem c20 (a b:Ex)(hs:sizeN a≤1048576):APure Tryz.prog 22 [.agg (cE a),.agg (cE b)] (.bool (sameS a b)):=by
 revert b hs
 induction a using Ex.ind
 rename_i a ih
 intro b hs
 have hal:=args_le a hs
 refine APure.body (n:=67) tok Tryz.func22 rfl rfl rfl fun H=>?_
 refine Qsr (Qp Qbe (Qp Qbe (Qp Qab (Qnn (AW.seq (Qsr (Qp Qf0 (Qp Qli (Qp Qf0 ?_)))))))))
 refine Qp Qli (Qp Qcne (Qp Qmb (Qg [] Qw Qf2 (Qg [(12,_)] Qw Qli (Qg [] Qw Qf2 (Qg [(14,_)] Qw Qli ?_))))))
 refine AOL.g (y:=.bool _) _ [(13,_),(15,_)] rfl (EntL.all ⟨Ent.self _ _,Ent.self _ _,trivial⟩) (fun hG=>P_neq rfl rfl) rfl ?_
 refine Qp Qpo (Qp Qmb (Qg [] Qw Qf3 (Qg [(19,_)] Qw Qli (Qg [] Qw Qf3 (Qg [(21,_)] Qw Qli ?_)))))
 refine AOL.g (y:=.bool _) _ [(20,_),(22,_)] rfl (EntL.all ⟨Ent.self _ _,Ent.self _ _,trivial⟩) (fun hG=>P_neq rfl rfl) rfl ?_
 refine Qp Qpo (Qp Qmb (Qg [] Qw Qf4 (Qg [(26,_)] Qw Qli (Qg [] Qw Qf4 (Qg [(28,_)] Qw Qli ?_)))))
 refine AOL.g (y:=.bool _) _ [(27,_),(29,_)] rfl (EntL.all ⟨Ent.self _ _,Ent.self _ _,trivial⟩) (fun hG=>P_neq rfl rfl) rfl ?_
 refine Qp Qpo (Qp Qmb (Qg [] Qw Qf5 (Qg [(33,_)] Qw (Qlg [.int .i64 _,.int .i64 _,.str _]) (Qg [] Qw Qf5 (Qg [(35,_)] Qw (Qlg [.int .i64 _,.int .i64 _,.str _]) ?_)))))
 refine AOL.g (y:=.bool _) _ [(34,_),(36,_)] rfl (EntL.all ⟨Ent.self _ _,Ent.self _ _,trivial⟩) (fun hG=>P_neq_agg tok rfl rfl rfl rfl rfl) rfl ?_
 refine Qp Qpo (Qp Qmb (Qg [] Qw Qf1 (Qg [(40,_)] Qw Qls ?_)))
 refine AOL.g (y:=.int .i64 _) _ [(41,_)] rfl (EntL.all ⟨Ent.self _ _,trivial⟩) (fun hG=>P_len_sl (n:=a.args.length) tok rfl rfl rfl (by simp)) rfl ?_
 refine Qg [] Qw Qf1 (Qg [(43,_)] Qw Qls ?_)
 refine AOL.g (y:=.int .i64 _) _ [(44,_)] rfl (EntL.all ⟨Ent.self _ _,trivial⟩) (fun hG=>P_len_sl (n:=b.args.length) tok rfl rfl rfl (by simp)) rfl ?_
 refine AOL.g (y:=.bool _) _ [(42,_),(45,_)] rfl (EntL.all ⟨Ent.self _ _,Ent.self _ _,trivial⟩) (fun hG=>P_neq rfl rfl) rfl ?_
 refine Qp Qpo (Qnn (Qif (fun hc1=>?_) fun hc1=>?_))
 ·
  have hh:headS a b=true:=by simpa [headS] using hc1
  refine Qsr (Qp Qab (Qnn (Qrt ?_)))
  refine Qr (.bool _) ?_
  rw [sameS_eq,if_pos hh];rfl
 ·
  have hh:headS a b=false:=by simpa [headS] using hc1
  have hlen:=len_of_head hh
  refine Qst (AW.seq (Qsr (Qp Qai (Qnn (AW.block ?_)))))
  refine AW.loopS (fun (p:Nat)=>(⟨[(2,.ptr (cE a)),(3,.ptr (cE b)),(5,.int .i64 (p:Int))],H,67⟩:St)) (fun (p:Nat)=>p≤a.args.length∧sameL a.args b.args=sameL (a.args.drop p) (b.args.drop p)) (fun (p:Nat)=>a.args.length-p) (0) ?_ (GS.weaken ⟨rfl,rfl,rfl,trivial⟩ (.refl _)) ?_
  · exact ⟨Nat.zero_le _,rfl⟩
  ·
   rintro p hR
   refine AW.seq (Qsr (Qp Qmi (Qp Qf1 (Qp Qls ?_))))
   refine Qp (P_len_sl (n:=a.args.length) tok rfl rfl rfl (by simp)) ?_
   refine Qp Qclt (Qnn (Qif (fun hc2=>?_) fun hc2=>?_))
   ·
    obtain ⟨x,hx⟩:=get_lt hc2
    have hlt:=get_lt' hx
    have hm:=List.mem_of_getElem? hx
    obtain ⟨y,hy⟩:∃y,b.args[p]? = some y:=⟨_,List.getElem?_eq_getElem (by omega)⟩
    refine Qst (AW.seq (AW.block (AW.seq ?_)))
    refine AW.draw mixed (fun _=>True) trivial (by kernel_rfl) ?_
    refine Qn 0 rfl Qf1 (Qn 1 rfl Qls (Qn 2 rfl Qmi ?_))
    refine Qn 3 rfl (P_indexAddr (c:=[.int .i64 _,_,.int .i64 _,.int .i64 _,.int .i64 _,.int .i64 _,.int .i64 _,.str _]) tok rfl rfl rfl rfl rfl rfl (by omega) (encE_at hx)) ?_
    refine Qn 4 rfl Qle (Qn 5 rfl Qf1 (Qn 6 rfl Qls (Qn 7 rfl Qmi ?_)))
    refine Qn 8 rfl (P_indexAddr (c:=[.int .i64 _,_,.int .i64 _,.int .i64 _,.int .i64 _,.int .i64 _,.int .i64 _,.str _]) tok rfl rfl rfl rfl rfl rfl (by omega) (encE_at hy)) ?_
    refine Qn 9 rfl Qle ?_
    refine Qn 10 rfl (Qc rfl (ih x hm y (by have:=size_arg hm;omega))) ?_
    refine Qn 11 rfl Qnt ?_
    refine Canon.done _ _ (by kernel_rfl) ?_
    refine thenN (Qif (fun hc3=>?_) fun hc3=>?_)
    ·
     refine Qsr (Qp Qab (Qnn (AW.ret (blkR (thenR (thenR (blkR (thenR ?_))))))))
     refine Qr (.bool _) ?_
     rw [sameS_eq,if_neg (by simp [hh]),hR.2,drop_cons hx,drop_cons hy];show _=AV.bool (if (!sameS x y)=true then false else _);rw [if_pos hc3];rfl
    ·
     refine AW.skip (blkN (thenN (AW.region (Qp Qmi (Qp Qad (Qp Qai (Qnn ?_)))))))
     refine ⟨p+1,?_,?_,GS.weaken ⟨rfl,rfl,rfl,trivial⟩ (.refl _)⟩
     · exact ⟨hlt,by rw [hR.2,drop_cons hx,drop_cons hy,sameL];simp [hc3]⟩
     · omega
   ·
    have hd:=get_end hc2
    refine AW.exit ?_
    refine thenE (thenE (blkHit (thenN (Qsr (Qp Qab (Qnn (AW.ret ?_)))))))
    refine Qr (.bool _) ?_
    rw [sameS_eq,if_neg (by simp [hh]),hR.2,hd];rfl
end Go.Proofs.YtkddpedfbicbeaaGreatDoor
