/-
  Several texts in one: W24, W13, W2. No condition.
-/
import Derived.Test.YtkddpedfbicbeaaGreatDoorK01
import Derived.Test.YtkddpedfbicbeaaGreatDoorK04
import Derived.KernelRfl
import Derived.Test.YtkddpedfbicbeaaGreatDoorW1
set_option linter.unusedVariables false
set_option linter.unusedSimpArgs false
namespace Go.Proofs.YtkddpedfbicbeaaGreatDoor
open Go Go.Aw
set_option maxHeartbeats 800000
set_option maxRecDepth 20000

theorem place_hit {ns:List (List UInt8)}{k:Nat}{n:List UInt8}(h:ns[k]? = some n)(hn:(ns.take k).contains n=false):placeS ns n=(k:Int):=by
 have h1:=place_lt h
 rw [hn] at h1
 have hm:n∈ns:=List.mem_of_getElem? h
 have hc:ns.contains n=true:=by simpa using hm
 have h3:ns.idxOf n≤k:=by
  refine Nat.le_of_not_lt fun hlt=>?_
  have hk:k<ns.length:=get_lt' h
  have h4:=List.not_of_lt_findIdx (p:=fun x=>x==n) (xs:=ns) (i:=k) hlt
  have h5:ns[k]=n:=by rw [List.getElem?_eq_getElem hk] at h;exact Option.some.inj h
  simp only [h5] at h4
  simp at h4
 unfold placeS at h1 ⊢
 rw [if_pos hc] at h1 ⊢
 simp at h1
 omega
theorem place_none {ns:List (List UInt8)}{n:List UInt8}(h:ns.contains n=false):placeS ns n = -1:=by unfold placeS;rw [if_neg (by simp only [h];decide)]
theorem contains_next {ns:List (List UInt8)}{k:Nat}{m n:List UInt8}(h:ns[k]? = some m)(hn:(ns.take k).contains n=false)(hne:(m==n)=false):(ns.take (k+1)).contains n=false:=by
 rw [take_get h]
 have h1:m≠n:=by simpa using hne
 simp at hn ⊢
 exact ⟨hn,fun e=>h1 e.symm⟩
def scOK (s:Sc):Prop:=s.name.length≤1048576∧s.fields.length≤1048576∧∀f∈s.fields,f.name.length≤1048576
theorem fields_step {seen:List (List UInt8)}{a:Fi}{r:List Fi}(h:fieldE seen a=0):fieldsS seen (a::r)=fieldsS (seen ++ [a.name]) r:=by rw [fieldsS,if_neg (by rw [h];decide)]
theorem fields_stop {seen:List (List UInt8)}{a:Fi}{r:List Fi}(h:fieldE seen a≠0):fieldsS seen (a::r)=fieldE seen a:=by rw [fieldsS,if_pos (by simpa using h)]
theorem types_step {seen:List (List UInt8)}{a:Sc}{r:List Sc}(h:typeE seen a=0):typesS seen (a::r)=typesS (seen ++ [a.name]) r:=by rw [typesS,if_neg (by rw [h];decide)]
theorem types_stop {seen:List (List UInt8)}{a:Sc}{r:List Sc}(h:typeE seen a≠0):typesS seen (a::r)=typeE seen a:=by rw [typesS,if_pos (by simpa using h)]
theorem kind_out (k:Int):(k != 0&&k != 1&&k != 2)=(decide (k<0)||decide (3≤k)):=by
 rw [Bool.eq_iff_iff];simp;omega
theorem fname_no (s:List UInt8):(!nameS s||s==timeB) = !fnameS s:=by
 unfold fnameS;cases nameS s <;> cases (s==timeB) <;> rfl

theorem c105 (s:Sc)(hl:s.fields.length≤1048576)(n:List UInt8):APure Tryz.prog 114 [.agg (cSc s),.str n] (.int .i64 (placeS (s.fields.map (·.name)) n)):=by
 refine APure.body (n:=22) tok Tryz.func114 rfl rfl rfl fun H=>?_
 refine Qsr (Qp (Qbx [.str _,_]) (Qp Qai (Qnn (AW.seq (Qsr (Qp Qai (Qnn (AW.block ?_))))))))
 refine AW.loopS (fun (p:Nat)=>(⟨[(1,.str n),(2,.ptr (cSc s)),(5,.int .i64 (p:Int))],H,22⟩:St)) (fun (p:Nat)=>p≤s.fields.length∧((s.fields.map (·.name)).take p).contains n=false) (fun (p:Nat)=>s.fields.length-p) (0) ?_ (GS.weaken ⟨rfl,rfl,rfl,trivial⟩ (.refl _)) ?_
 · exact ⟨Nat.zero_le _,by simp⟩
 ·
  rintro p hR
  refine AW.seq (Qsr (Qp Qmi (Qp (Qf [_]) (Qp Qls ?_))))
  refine Qp (P_len_sl (n:=s.fields.length) tok rfl rfl rfl (by simp)) ?_
  refine Qp Qclt (Qnn (Qif (fun hc1=>?_) fun hc1=>?_))
  ·
   obtain ⟨a,ha⟩:=get_lt hc1
   have hlt:=get_lt' ha
   have hm:=List.mem_of_getElem? ha
   have hna:(s.fields.map (·.name))[p]? = some a.name:=by simp [ha]
   refine Qst (AW.seq (AW.block (Qsr (Qp (Qf [_]) (Qp Qls (Qp Qmi ?_))))))
   refine Qp (P_indexAddr (c:=[.str _,.int .i64 _]) tok rfl rfl rfl rfl rfl rfl (by omega) (map_at ha)) ?_
   refine Qp (Qf [.str _,.int .i64 _]) (Qp Qlt (Qp Qmt ?_))
   refine Qp (P_eql_str rfl rfl) ?_
   refine Qnn (Qif (fun hc2=>?_) fun hc2=>?_)
   ·
    refine Qsr (Qp Qmi (Qp Qai (Qnn (AW.ret (blkR (thenR (thenR (blkR (thenR ?_)))))))))
    refine Qr (.int .i64 _) ?_
    have e:a.name=n:=by simpa using hc2
    rw [e] at hna
    rw [place_hit hna hR.2];rfl
   ·
    refine AW.skip (blkN (thenN (AW.region (Qp Qmi (Qp Qad (Qp Qai (Qnn ?_)))))))
    refine ⟨p+1,?_,?_,GS.weaken ⟨rfl,rfl,rfl,trivial⟩ (.refl _)⟩
    · exact ⟨hlt,contains_next hna hR.2 hc2⟩
    · omega
  ·
   have hte:=take_end hc1
   refine AW.exit ?_
   refine thenE (thenE (blkHit (thenN (Qsr (Qp Qai (Qnn (AW.ret ?_)))))))
   refine Qr (.int .i64 _) ?_
   have h2:=hR.2
   rw [←List.map_take,hte] at h2
   rw [place_none h2];rfl
theorem c88 (l:List Sc)(hl:l.length≤1048576)(n:List UInt8):APure Tryz.prog 73 [.sl 2 (l.map cSc),.str n] (.int .i64 (placeS (l.map (·.name)) n)):=by
 refine APure.body (n:=20) tok Tryz.func73 rfl rfl rfl fun H=>?_
 refine Qsr (Qp Qai (Qnn (AW.seq (Qsr (Qp Qai (Qnn (AW.block ?_)))))))
 refine AW.loopS (fun (p:Nat)=>(⟨[(0,.sl 2 (l.map cSc)),(1,.str n),(5,.int .i64 (p:Int))],H,20⟩:St)) (fun (p:Nat)=>p≤l.length∧((l.map (·.name)).take p).contains n=false) (fun (p:Nat)=>l.length-p) (0) ?_ (GS.weaken ⟨rfl,rfl,rfl,trivial⟩ (.refl _)) ?_
 · exact ⟨Nat.zero_le _,by simp⟩
 ·
  rintro p hR
  refine AW.seq (Qsr (Qp Qmi (Qp Qms ?_)))
  refine Qp (P_len_sl (n:=l.length) tok rfl rfl rfl (by simp)) ?_
  refine Qp Qclt (Qnn (Qif (fun hc1=>?_) fun hc1=>?_))
  ·
   obtain ⟨a,ha⟩:=get_lt hc1
   have hlt:=get_lt' ha
   have hm:=List.mem_of_getElem? ha
   have hna:(l.map (·.name))[p]? = some a.name:=by simp [ha]
   refine Qst (AW.seq (AW.block (Qsr (Qp Qms (Qp Qmi ?_)))))
   refine Qp (P_indexAddr (c:=[.str _,_]) tok rfl rfl rfl rfl rfl rfl (by omega) (map_at ha)) ?_
   refine Qp (Qf [.str _,_]) (Qp Qlt (Qp Qmt ?_))
   refine Qp (P_eql_str rfl rfl) ?_
   refine Qnn (Qif (fun hc2=>?_) fun hc2=>?_)
   ·
    refine Qsr (Qp Qmi (Qp Qai (Qnn (AW.ret (blkR (thenR (thenR (blkR (thenR ?_)))))))))
    refine Qr (.int .i64 _) ?_
    have e:a.name=n:=by simpa using hc2
    rw [e] at hna
    rw [place_hit hna hR.2];rfl
   ·
    refine AW.skip (blkN (thenN (AW.region (Qp Qmi (Qp Qad (Qp Qai (Qnn ?_)))))))
    refine ⟨p+1,?_,?_,GS.weaken ⟨rfl,rfl,rfl,trivial⟩ (.refl _)⟩
    · exact ⟨hlt,contains_next hna hR.2 hc2⟩
    · omega
  ·
   have hte:=take_end hc1
   refine AW.exit ?_
   refine thenE (thenE (blkHit (thenN (Qsr (Qp Qai (Qnn (AW.ret ?_)))))))
   refine Qr (.int .i64 _) ?_
   have h2:=hR.2
   rw [←List.map_take,hte] at h2
   rw [place_none h2];rfl
theorem c85 (s:Sc)(hs:scOK s):APure Tryz.prog 155 [.agg (cSc s)] (.int .i64 (schS s)):=by
 refine APure.body (n:=45) tok Tryz.func155 rfl rfl rfl fun H=>?_
 refine Qsr (Qp (Qbx [.str _,_]) (Qp Qai (Qnn (AW.seq (Qsr (Qp (Qf [.str _,_]) (Qp Qlt ?_)))))))
 refine Qp (Qc rfl (c102 _ hs.1)) ?_
 refine Qp Qnt (Qnn (Qif (fun hc1=>?_) fun hc1=>?_))
 ·
  refine Qsr (Qp Qai (Qnn (Qrt ?_)))
  refine Qr (.int .i64 _) ?_
  rw [show schS s=8 by unfold schS;rw [if_pos (by simpa using hc1)]];rfl
 ·
  refine Qst (AW.seq (Qsr (Qp (Qf [_]) (Qp Qls ?_))))
  refine Qp (P_len_sl (n:=s.fields.length) tok rfl rfl rfl (by simp)) ?_
  refine Qp Qcgt (Qnn (Qif (fun hc2=>?_) fun hc2=>?_))
  ·
   refine Qsr (Qp Qai (Qnn (Qrt ?_)))
   refine Qr (.int .i64 _) ?_
   rw [show schS s=5 by unfold schS;rw [if_neg (by simpa using hc1),if_pos (by simpa using hc2)]];rfl
  ·
   refine Qst (Qsr ?_)
   refine Qe (E_makeSMap) ?_
   rintro _ _ ⟨b14,rfl,rfl⟩
   refine Qp Qav (Qnn (AW.seq (Qsr (Qp (Qf [_]) (Qp Qls ?_)))))
   refine Qp (P_len_sl (n:=s.fields.length) tok rfl rfl rfl (by simp)) ?_
   refine Qp Qmi (Qnn (AW.block ?_))
   have hfl:=hs.2.1
   refine AW.loopS (fun (p:Nat×List (List UInt8))=>(⟨[(3,.val (.map (some b14))),(16,.sl 2 (s.fields.map cFi)),(17,.int .i64 s.fields.length),(18,.int .i64 (p.1:Int))],.smap b14 (setS p.2)::H,45⟩:St)) (fun (p:Nat×List (List UInt8))=>p.1≤s.fields.length∧fieldsS [] s.fields=fieldsS p.2 (s.fields.drop p.1)) (fun (p:Nat×List (List UInt8))=>s.fields.length-p.1) ((0,[])) ?_ (GS.weaken ⟨rfl,rfl,rfl,rfl,trivial⟩ (.refl _)) ?_
   · exact ⟨Nat.zero_le _,rfl⟩
   ·
    rintro p hR
    refine Qsr (Qp Qclt (Qnn (AW.seq (Qif (fun hc3=>?_) fun hc3=>?_))))
    ·
     obtain ⟨a,ha⟩:=get_lt hc3
     have hlt:=get_lt' ha
     have hm:=List.mem_of_getElem? ha
     refine Qst (AW.seq (AW.block (Qsr ?_)))
     refine Qp (P_indexAddr (c:=[.str _,.int .i64 _]) tok rfl rfl rfl rfl rfl rfl (by omega) (map_at ha)) ?_
     refine Qp (Qlg [.str _,.int .i64 _]) ?_
     refine Qe (E_alloc (l:=[.str [],.int .i64 0]) (by kernel_rfl)) ?_
     rintro _ _ ⟨b5,rfl,rfl⟩
     refine Qe (E_store (k:=0) (v:=.agg _) (cs':=[.str _,.int .i64 _]) (H2:=_::_::_) tok rfl rfl rfl rfl (rfl) rfl rfl rfl rfl) ?_
     rintro _ _ ⟨rfl,rfl⟩
     refine AOL.ghost (GS.freeze (t:=5) 0 rfl rfl) ?_
     refine Qnn (AW.seq (AW.block (Qsr (Qp (Qf [.str _,.int .i64 _]) (Qp Qlt ?_)))))
     refine Qp (Qc rfl (c103 _ (hs.2.2 a hm))) ?_
     refine Qp Qnt (Qp Qab (Qnn (Qif (fun hc4=>?_) fun hc4=>?_)))
     ·
      have hb4:(!fnameS a.name)=true:=hc4
      refine Qsr (Qp Qai (Qnn (AW.ret (blkR (thenR (blkR (thenR (thenR (blkR ?_)))))))))
      refine thenR ?_
      refine ⟨.inr rfl,[.int .i64 _],.cons (.tmp _ _ rfl) <| .nil,.cons _ (.refl _),?_⟩
      have he:fieldE p.2 a=8:=by
       unfold fieldE;rw [if_pos hb4]
      rw [show schS s=fieldE p.2 a by unfold schS;rw [if_neg (by simpa using hc1),if_neg (by simpa using hc2),hR.2,drop_cons ha,fields_stop (by rw [he];decide)],he];rfl
     ·
      have hb4:¬(!fnameS a.name)=true:=by simpa using hc4
      refine Qsr (Qp Qmv (Qp (Qf [.str _,.int .i64 _]) (Qp Qlt ?_)))
      refine AOL.pk (P_setLook (i:=0) (ks:=p.2) tok rfl rfl rfl rfl rfl (by kernel_rfl) rfl rfl rfl) rfl rfl ?_
      refine Qp Qab (Qnn (Qif (fun hc5=>?_) fun hc5=>?_))
      ·
       have hb5:p.2.contains a.name=true:=hc5
       refine Qsr (Qp Qai (Qnn (AW.ret (blkR (thenR (blkR (thenR (thenR (blkR ?_)))))))))
       refine thenR ?_
       refine ⟨.inr rfl,[.int .i64 _],.cons (.tmp _ _ rfl) <| .nil,.cons _ (.refl _),?_⟩
       have he:fieldE p.2 a=7:=by
        unfold fieldE;rw [if_neg hb4,if_pos hb5]
       rw [show schS s=fieldE p.2 a by unfold schS;rw [if_neg (by simpa using hc1),if_neg (by simpa using hc2),hR.2,drop_cons ha,fields_stop (by rw [he];decide)],he];rfl
      ·
       have hb5:¬p.2.contains a.name=true:=by simpa using hc5
       refine Qsr (Qp (Qf [.int .i64 _]) (Qp Qli (Qp Qclt (Qp Qmb (Qg [] Qw (Qf [.int .i64 _]) (Qg [(37,_)] Qw Qli (Qg [(38,_)] Qw Qcgq (Qp Qpo (Qp Qab ?_)))))))))
       refine Qnn (Qif (fun hc6=>?_) fun hc6=>?_)
       ·
        have hb6:=hc6
        refine Qsr (Qp Qai (Qnn (AW.ret (blkR (thenR (blkR (thenR (thenR (blkR ?_)))))))))
        refine thenR ?_
        refine ⟨.inr rfl,[.int .i64 _],.cons (.tmp _ _ rfl) <| .nil,.cons _ (.refl _),?_⟩
        have he:fieldE p.2 a=1:=by
         unfold fieldE;rw [if_neg hb4,if_neg hb5,if_pos hb6]
        rw [show schS s=fieldE p.2 a by unfold schS;rw [if_neg (by simpa using hc1),if_neg (by simpa using hc2),hR.2,drop_cons ha,fields_stop (by rw [he];decide)],he];rfl
       ·
        have hb6:=Bool.eq_false_iff.mp hc6
        have he0:fieldE p.2 a=0:=by unfold fieldE;rw [if_neg hb4,if_neg hb5,if_neg hb6]
        refine AW.skip (blkN (thenN (AW.region (Qp Qmv (Qp (Qf [.str _,.int .i64 _]) (Qp Qlt ?_))))))
        refine Qe (E_setAdd (i:=0) (H2:=_::_) tok rfl rfl rfl rfl rfl rfl rfl rfl (by simpa using hb5) rfl) ?_
        rintro _ _ ⟨rfl,rfl⟩
        refine AOL.nil (blkN (thenN (AW.region (Qp Qad (Qp Qmi (Qnn ?_))))))
        refine ⟨(p.1+1,p.2 ++ [a.name]),?_,?_,GS.weaken ⟨rfl,rfl,rfl,rfl,trivial⟩ (.refl _)⟩
        · exact ⟨hlt,by rw [hR.2,drop_cons ha,fields_step he0]⟩
        · first | omega | (simp only;omega)
    ·
     have hd:=get_end hc3
     refine AW.exit ?_
     refine thenE (thenE (blkHit (thenN (Qsr (Qp Qai (Qnn (AW.ret ?_)))))))
     refine ⟨.inr rfl,[.int .i64 _],.cons (.tmp _ _ rfl) <| .nil,.cons _ (.refl _),?_⟩
     rw [show schS s=0 by unfold schS;rw [if_neg (by simpa using hc1),if_neg (by simpa using hc2),hR.2,hd];rfl];rfl
theorem c87 (s:Sc)(hs:scOK s):APure Tryz.prog 72 [.agg (cSc s)] (.int .i64 (schS s)):=by
 refine APure.body (n:=53) tok Tryz.func72 rfl rfl rfl fun H=>?_
 refine Qsr (Qp (Qbx [.str _,_]) (Qp Qai (Qnn (AW.seq (Qsr (Qp (Qf [.str _,_]) (Qp Qlt ?_)))))))
 refine Qp (Qc rfl (c104 _ hs.1)) ?_
 refine Qp Qnt (Qnn (Qif (fun hc1=>?_) fun hc1=>?_))
 ·
  refine Qsr (Qp Qai (Qnn (Qrt ?_)))
  refine Qr (.int .i64 _) ?_
  rw [show schS s=8 by unfold schS;rw [if_pos (by simpa using hc1)]];rfl
 ·
  refine Qst (AW.seq (Qsr (Qp (Qf [_]) (Qp Qls ?_))))
  refine Qp (P_len_sl (n:=s.fields.length) tok rfl rfl rfl (by simp)) ?_
  refine Qp Qcgt (Qnn (Qif (fun hc2=>?_) fun hc2=>?_))
  ·
   refine Qsr (Qp Qai (Qnn (Qrt ?_)))
   refine Qr (.int .i64 _) ?_
   rw [show schS s=5 by unfold schS;rw [if_neg (by simpa using hc1),if_pos (by simpa using hc2)]];rfl
  ·
   refine Qst (AW.seq (Qsr (Qp Qai (Qnn (AW.block ?_)))))
   have hfl:=hs.2.1
   refine AW.loopS (fun (p:Nat)=>(⟨[(1,.ptr (cSc s)),(3,.int .i64 (p:Int))],H,53⟩:St)) (fun (p:Nat)=>p≤s.fields.length∧fieldsS [] s.fields=fieldsS ((s.fields.take p).map (·.name)) (s.fields.drop p)) (fun (p:Nat)=>s.fields.length-p) (0) ?_ (GS.weaken ⟨rfl,rfl,trivial⟩ (.refl _)) ?_
   · exact ⟨Nat.zero_le _,rfl⟩
   ·
    rintro p hR
    refine AW.seq (Qsr (Qp Qmi (Qp (Qf [_]) (Qp Qls ?_))))
    refine Qp (P_len_sl (n:=s.fields.length) tok rfl rfl rfl (by simp)) ?_
    refine Qp Qclt (Qnn (Qif (fun hc3=>?_) fun hc3=>?_))
    ·
     obtain ⟨a,ha⟩:=get_lt hc3
     have hlt:=get_lt' ha
     have hm:=List.mem_of_getElem? ha
     have hna:(s.fields.map (·.name))[p]? = some a.name:=by simp [ha]
     refine Qst (AW.seq (AW.block (Qsr (Qp (Qf [_]) (Qp Qls (Qp Qmi ?_))))))
     refine Qp (P_indexAddr (c:=[.str _,.int .i64 _]) tok rfl rfl rfl rfl rfl rfl (by omega) (map_at ha)) ?_
     refine Qp (Qlg [.str _,.int .i64 _]) ?_
     refine Qe (E_alloc (l:=[.str [],.int .i64 0]) (by kernel_rfl)) ?_
     rintro _ _ ⟨b4,rfl,rfl⟩
     refine Qe (E_store (k:=0) (v:=.agg _) (cs':=[.str _,.int .i64 _]) (H2:=_::_) tok rfl rfl rfl rfl (rfl) rfl rfl rfl rfl) ?_
     rintro _ _ ⟨rfl,rfl⟩
     refine AOL.ghost (GS.freeze (t:=4) 0 rfl rfl) ?_
     refine Qnn (AW.seq (Qsr (Qp (Qf [.str _,.int .i64 _]) (Qp Qlt ?_))))
     refine Qp (Qc rfl (c104 _ (hs.2.2 a hm))) ?_
     refine Qp Qnt (Qp Qmb (Qg [] Qw (Qf [.str _,.int .i64 _]) (Qg [(30,_)] Qw Qlt ?_)))
     refine AOL.g (y:=.bool _) _ [(31,_)] rfl (EntL.all ⟨Ent.self _ _,trivial⟩) (fun hG=>P_eql_str rfl rfl) rfl ?_
     refine Qp Qpo (Qnn (Qif (fun hc4=>?_) fun hc4=>?_))
     ·
      have hb4:(!fnameS a.name)=true:=by rw [←fname_no];exact hc4
      refine Qsr (Qp Qai (Qnn (Qrt (blkR (thenR (thenR (blkR (thenR ?_))))))))
      refine Qr (.int .i64 _) ?_
      have he:fieldE ((s.fields.take p).map (·.name)) a=8:=by
       unfold fieldE;rw [if_pos hb4]
      rw [show schS s=fieldE ((s.fields.take p).map (·.name)) a by unfold schS;rw [if_neg (by simpa using hc1),if_neg (by simpa using hc2),hR.2,drop_cons ha,fields_stop (by rw [he];decide)],he];rfl
     ·
      have hb4:¬(!fnameS a.name)=true:=by rw [←fname_no];exact Bool.eq_false_iff.mp hc4
      refine Qst (AW.seq (Qsr (Qp (Qlg [.str _,_]) (Qp (Qf [.str _,.int .i64 _]) (Qp Qlt ?_)))))
      refine Qp (Qc rfl (c105 s hs.2.1 _)) ?_
      refine Qp Qmi (Qp Qclt (Qnn (Qif (fun hc5=>?_) fun hc5=>?_)))
      ·
       rw [place_lt hna,←List.map_take] at hc5
       have hb5:((s.fields.take p).map (·.name)).contains a.name=true:=hc5
       refine Qsr (Qp Qai (Qnn (Qrt (blkR (thenR (thenR (blkR (thenR ?_))))))))
       refine Qr (.int .i64 _) ?_
       have he:fieldE ((s.fields.take p).map (·.name)) a=7:=by
        unfold fieldE;rw [if_neg hb4,if_pos hb5]
       rw [show schS s=fieldE ((s.fields.take p).map (·.name)) a by unfold schS;rw [if_neg (by simpa using hc1),if_neg (by simpa using hc2),hR.2,drop_cons ha,fields_stop (by rw [he];decide)],he];rfl
      ·
       rw [place_lt hna,←List.map_take] at hc5
       have hb5:¬((s.fields.take p).map (·.name)).contains a.name=true:=Bool.eq_false_iff.mp hc5
       refine Qst (Qsr (Qp (Qf [.int .i64 _]) (Qp Qli (Qp Qcne (Qp Qmb (Qg [] Qw (Qf [.int .i64 _]) (Qg [(44,_)] Qw Qli (Qg [(45,_)] Qw Qcne (Qp Qpa ?_)))))))))
       refine Qp Qmb (Qg [] Qw (Qf [.int .i64 _]) (Qg [(49,_)] Qw Qli (Qg [(50,_)] Qw Qcne (Qp Qpa (Qnn (Qif (fun hc6=>?_) fun hc6=>?_))))))
       ·
        have hb6:=(kind_out a.kind).symm.trans hc6
        refine Qsr (Qp Qai (Qnn (AW.ret (blkR (thenR (thenR (blkR (thenR ?_))))))))
        refine Qr (.int .i64 _) ?_
        have he:fieldE ((s.fields.take p).map (·.name)) a=1:=by
         unfold fieldE;rw [if_neg hb4,if_neg hb5,if_pos hb6]
        rw [show schS s=fieldE ((s.fields.take p).map (·.name)) a by unfold schS;rw [if_neg (by simpa using hc1),if_neg (by simpa using hc2),hR.2,drop_cons ha,fields_stop (by rw [he];decide)],he];rfl
       ·
        have hb6:=Bool.eq_false_iff.mp ((kind_out a.kind).symm.trans hc6)
        have he0:fieldE ((s.fields.take p).map (·.name)) a=0:=by unfold fieldE;rw [if_neg hb4,if_neg hb5,if_neg hb6]
        refine AW.skip (blkN (thenN (AW.region (Qp Qmi (Qp Qad (Qp Qai (Qnn ?_)))))))
        refine ⟨p+1,?_,?_,GS.weaken ⟨rfl,rfl,trivial⟩ (.refl _)⟩
        · exact ⟨hlt,by rw [hR.2,drop_cons ha,fields_step he0,names_take ha]⟩
        · omega
    ·
     have hd:=get_end hc3
     refine AW.exit ?_
     refine thenE (thenE (blkHit (thenN (Qsr (Qp Qai (Qnn (AW.ret ?_)))))))
     refine Qr (.int .i64 _) ?_
     rw [show schS s=0 by unfold schS;rw [if_neg (by simpa using hc1),if_neg (by simpa using hc2),hR.2,hd];rfl];rfl
theorem c57 (l:List Sc)(hl:l.length≤1048576)(hs:∀s∈l,scOK s):APure Tryz.prog 132 [.sl 2 (l.map cSc)] (.int .i64 (allTS l)):=by
 refine APure.body (n:=30) tok Tryz.func132 rfl rfl rfl fun H=>?_
 refine Qsr (Qp Qai (Qnn (AW.seq (Qsr (Qp Qms ?_)))))
 refine Qp (P_len_sl (n:=l.length) tok rfl rfl rfl (by simp)) ?_
 refine Qp Qcgt (Qnn (Qif (fun hc1=>?_) fun hc1=>?_))
 ·
  refine Qsr (Qp Qai (Qnn (Qrt ?_)))
  refine Qr (.int .i64 _) ?_
  rw [show allTS l=5 by unfold allTS;rw [if_pos (by simpa using hc1)]];rfl
 ·
  refine Qst (Qsr ?_)
  refine Qe (E_makeSMap) ?_
  rintro _ _ ⟨b10,rfl,rfl⟩
  refine Qp Qav (Qnn (AW.seq (Qsr (Qp Qms ?_))))
  refine Qp (P_len_sl (n:=l.length) tok rfl rfl rfl (by simp)) ?_
  refine Qp Qmi (Qnn (AW.block ?_))
  refine AW.loopS (fun (p:Nat×List (List UInt8))=>(⟨[(3,.val (.map (some b10))),(11,.sl 2 (l.map cSc)),(12,.int .i64 l.length),(13,.int .i64 (p.1:Int))],.smap b10 (setS p.2)::H,30⟩:St)) (fun (p:Nat×List (List UInt8))=>p.1≤l.length∧typesS [] l=typesS p.2 (l.drop p.1)) (fun (p:Nat×List (List UInt8))=>l.length-p.1) ((0,[])) ?_ (GS.weaken ⟨rfl,rfl,rfl,rfl,trivial⟩ (.refl _)) ?_
  · exact ⟨Nat.zero_le _,rfl⟩
  ·
   rintro p hR
   refine Qsr (Qp Qclt (Qnn (AW.seq (Qif (fun hc2=>?_) fun hc2=>?_))))
   ·
    obtain ⟨a,ha⟩:=get_lt hc2
    have hlt:=get_lt' ha
    have hm:=List.mem_of_getElem? ha
    refine Qst (AW.seq (AW.block (Qsr ?_)))
    refine Qp (P_indexAddr (c:=[.str _,_]) tok rfl rfl rfl rfl rfl rfl (by omega) (map_at ha)) ?_
    refine Qp (Qlg [.str _,_]) ?_
    refine Qe (E_alloc (l:=[.str [],.sl 2 []]) (by kernel_rfl)) ?_
    rintro _ _ ⟨b5,rfl,rfl⟩
    refine Qe (E_store (k:=0) (v:=.agg _) (cs':=[.str _,_]) (H2:=_::_::_) tok rfl rfl rfl rfl (rfl) rfl rfl rfl rfl) ?_
    rintro _ _ ⟨rfl,rfl⟩
    refine AOL.ghost (GS.freeze (t:=5) 0 rfl rfl) ?_
    refine Qnn (AW.seq (Qsr (Qp (Qlg [.str _,_]) ?_)))
    refine Qp (Qc rfl (c85 a (hs a hm))) ?_
    refine Qp Qai (Qns (Qp Qmi (Qp Qcne (Qnn (Qif (fun hc3=>?_) fun hc3=>?_)))))
    ·
     refine Qsr (Qp Qmi (Qp Qai (Qnn (Qrt (blkR (thenR (thenR (blkR (thenR ?_)))))))))
     refine ⟨.inr rfl,[.int .i64 _],.cons (.tmp _ _ rfl) <| .nil,.cons _ (.refl _),?_⟩
     have he:typeE p.2 a=schS a:=by unfold typeE;rw [if_pos hc3]
     rw [show allTS l=typeE p.2 a by unfold allTS;rw [if_neg (by simpa using hc1),hR.2,drop_cons ha,types_stop (by rw [he];simpa using hc3)],he];rfl
    ·
     have hb3:=Bool.eq_false_iff.mp hc3
     refine Qst (AW.seq (Qsr (Qp Qmv (Qp (Qf [.str _,_]) (Qp Qlt ?_)))))
     refine AOL.pk (P_setLook (i:=0) (ks:=p.2) tok rfl rfl rfl rfl rfl (by kernel_rfl) rfl rfl rfl) rfl rfl ?_
     refine Qnn (Qif (fun hc4=>?_) fun hc4=>?_)
     ·
      have hb4:p.2.contains a.name=true:=hc4
      refine Qsr (Qp Qai (Qnn (Qrt (blkR (thenR (thenR (blkR (thenR ?_))))))))
      refine ⟨.inr rfl,[.int .i64 _],.cons (.tmp _ _ rfl) <| .nil,.cons _ (.refl _),?_⟩
      have he:typeE p.2 a=7:=by unfold typeE;rw [if_neg hb3,if_pos hb4]
      rw [show allTS l=typeE p.2 a by unfold allTS;rw [if_neg (by simpa using hc1),hR.2,drop_cons ha,types_stop (by rw [he];decide)],he];rfl
     ·
      have hb4:¬p.2.contains a.name=true:=by simpa using hc4
      have he0:typeE p.2 a=0:=by unfold typeE;rw [if_neg hb3,if_neg hb4]
      refine Qst (AW.region (Qp Qmv (Qp (Qf [.str _,_]) (Qp Qlt ?_))))
      refine Qe (E_setAdd (i:=0) (H2:=_::_) tok rfl rfl rfl rfl rfl rfl rfl rfl (by simpa using hb4) rfl) ?_
      rintro _ _ ⟨rfl,rfl⟩
      refine AOL.nil (blkN (thenN (AW.region (Qp Qad (Qp Qmi (Qnn ?_))))))
      refine ⟨(p.1+1,p.2 ++ [a.name]),?_,?_,GS.weaken ⟨rfl,rfl,rfl,rfl,trivial⟩ (.refl _)⟩
      · exact ⟨hlt,by rw [hR.2,drop_cons ha,types_step he0]⟩
      · first | omega | (simp only;omega)
   ·
    have hd:=get_end hc2
    refine AW.exit ?_
    refine thenE (thenE (blkHit (thenN (Qsr (Qp Qai (Qnn (AW.ret ?_)))))))
    refine ⟨.inr rfl,[.int .i64 _],.cons (.tmp _ _ rfl) <| .nil,.cons _ (.refl _),?_⟩
    rw [show allTS l=0 by unfold allTS;rw [if_neg (by simpa using hc1),hR.2,hd];rfl];rfl
theorem c59 (l:List Sc)(hl:l.length≤1048576)(hs:∀s∈l,scOK s):APure Tryz.prog 34 [.sl 2 (l.map cSc)] (.int .i64 (allTS l)):=by
 refine APure.body (n:=31) tok Tryz.func34 rfl rfl rfl fun H=>?_
 refine Qsr (Qp Qai (Qnn (AW.seq (Qsr (Qp Qms ?_)))))
 refine Qp (P_len_sl (n:=l.length) tok rfl rfl rfl (by simp)) ?_
 refine Qp Qcgt (Qnn (Qif (fun hc1=>?_) fun hc1=>?_))
 ·
  refine Qsr (Qp Qai (Qnn (Qrt ?_)))
  refine Qr (.int .i64 _) ?_
  rw [show allTS l=5 by unfold allTS;rw [if_pos (by simpa using hc1)]];rfl
 ·
  refine Qst (AW.seq (Qsr (Qp Qai (Qnn (AW.block ?_)))))
  refine AW.loopS (fun (p:Nat)=>(⟨[(0,.sl 2 (l.map cSc)),(3,.int .i64 (p:Int))],H,31⟩:St)) (fun (p:Nat)=>p≤l.length∧typesS [] l=typesS ((l.take p).map (·.name)) (l.drop p)) (fun (p:Nat)=>l.length-p) (0) ?_ (GS.weaken ⟨rfl,rfl,trivial⟩ (.refl _)) ?_
  · exact ⟨Nat.zero_le _,rfl⟩
  ·
   rintro p hR
   refine AW.seq (Qsr (Qp Qmi (Qp Qms ?_)))
   refine Qp (P_len_sl (n:=l.length) tok rfl rfl rfl (by simp)) ?_
   refine Qp Qclt (Qnn (Qif (fun hc2=>?_) fun hc2=>?_))
   ·
    obtain ⟨a,ha⟩:=get_lt hc2
    have hlt:=get_lt' ha
    have hm:=List.mem_of_getElem? ha
    have hna:(l.map (·.name))[p]? = some a.name:=by simp [ha]
    refine Qst (AW.seq (AW.block (AW.seq (Qsr (Qp Qms (Qp Qmi ?_))))))
    refine Qp (P_indexAddr (c:=[.str _,_]) tok rfl rfl rfl rfl rfl rfl (by omega) (map_at ha)) ?_
    refine Qp (Qlg [.str _,_]) ?_
    refine Qp (Qc rfl (c87 a (hs a hm))) ?_
    refine Qp Qai (Qns (Qp Qmi (Qp Qcne (Qnn (Qif (fun hc3=>?_) fun hc3=>?_)))))
    ·
     refine Qsr (Qp Qmi (Qp Qai (Qnn (Qrt (blkR (thenR (thenR (blkR (thenR ?_)))))))))
     refine Qr (.int .i64 _) ?_
     have he:typeE ((l.take p).map (·.name)) a=schS a:=by unfold typeE;rw [if_pos hc3]
     rw [show allTS l=typeE ((l.take p).map (·.name)) a by unfold allTS;rw [if_neg (by simpa using hc1),hR.2,drop_cons ha,types_stop (by rw [he];simpa using hc3)],he];rfl
    ·
     have hb3:=Bool.eq_false_iff.mp hc3
     refine Qst (Qsr (Qp Qms (Qp Qms (Qp Qmi ?_))))
     refine Qp (P_indexAddr (c:=[.str _,_]) tok rfl rfl rfl rfl rfl rfl (by omega) (map_at ha)) ?_
     refine Qp (Qf [.str _,_]) (Qp Qlt ?_)
     refine Qp (Qc rfl (c88 l hl _)) ?_
     refine Qp Qmi (Qp Qclt (Qnn (Qif (fun hc4=>?_) fun hc4=>?_)))
     ·
      rw [place_lt hna,←List.map_take] at hc4
      have hb4:((l.take p).map (·.name)).contains a.name=true:=hc4
      refine Qsr (Qp Qai (Qnn (AW.ret (blkR (thenR (thenR (blkR (thenR ?_))))))))
      refine Qr (.int .i64 _) ?_
      have he:typeE ((l.take p).map (·.name)) a=7:=by unfold typeE;rw [if_neg hb3,if_pos hb4]
      rw [show allTS l=typeE ((l.take p).map (·.name)) a by unfold allTS;rw [if_neg (by simpa using hc1),hR.2,drop_cons ha,types_stop (by rw [he];decide)],he];rfl
     ·
      rw [place_lt hna,←List.map_take] at hc4
      have hb4:¬((l.take p).map (·.name)).contains a.name=true:=Bool.eq_false_iff.mp hc4
      have he0:typeE ((l.take p).map (·.name)) a=0:=by unfold typeE;rw [if_neg hb3,if_neg hb4]
      refine AW.skip (blkN (thenN (AW.region (Qp Qmi (Qp Qad (Qp Qai (Qnn ?_)))))))
      refine ⟨p+1,?_,?_,GS.weaken ⟨rfl,rfl,trivial⟩ (.refl _)⟩
      · exact ⟨hlt,by rw [hR.2,drop_cons ha,types_step he0,tnames_take ha]⟩
      · omega
   ·
    have hd:=get_end hc2
    refine AW.exit ?_
    refine thenE (thenE (blkHit (thenN (Qsr (Qp Qai (Qnn (AW.ret ?_)))))))
    refine Qr (.int .i64 _) ?_
    rw [show allTS l=0 by unfold allTS;rw [if_neg (by simpa using hc1),hR.2,hd];rfl];rfl

set_option maxHeartbeats 1600000
set_option maxRecDepth 20000

theorem len_of_head {a b:Ex}(h:headS a b=false):a.args.length=b.args.length:=by
 simp [headS] at h;omega

def badS (l:List Ev):Bool:=decide (12<(l.length:Int))||l.any fun v=>decide (10<(v.values.length:Int))
def fewEnvS (vars:List (List Ev)):Bool:=!((vars.take 20).any badS)&&decide ((vars.length:Int)≤20)
def fewE (e:Ex):Bool:=decide (sizeN e≤200∧depthN e≤100)
theorem c20 (a b:Ex)(hs:sizeN a≤1048576):APure Tryz.prog 22 [.agg (cE a),.agg (cE b)] (.bool (sameS a b)):=by
 revert b hs
 induction a using Ex.ind
 rename_i a ih
 intro b hs
 have hal:=args_le a hs
 refine APure.body (n:=67) tok Tryz.func22 rfl rfl rfl fun H=>?_
 refine Qsr (Qp Qbe (Qp Qbe (Qp Qab (Qnn (AW.seq (Qsr (Qp Qf0 (Qp Qli (Qp Qf0 ?_)))))))))
 refine Qp Qli (Qp Qcne (Qp Qmb (Qg [] Qw Qf2 (Qg [(12,_)] Qw Qli (Qg [] Qw Qf2 (Qg [(14,_)] Qw Qli ?_))))))
 refine AOL.g (y:=.bool _) _ [(13,_),(15,_)] rfl (EntL.all ⟨Ent.self _ _,Ent.self _ _,trivial⟩) (fun hG=>P_neq rfl rfl) rfl ?_
 refine Qp Qpo (Qp Qmb (Qg [] Qw Qf3 (Qg [(19,_)] Qw Qli (Qg [] Qw Qf3 (Qg [(21,_)] Qw Qli ?_)))))
 refine AOL.g (y:=.bool _) _ [(20,_),(22,_)] rfl (EntL.all ⟨Ent.self _ _,Ent.self _ _,trivial⟩) (fun hG=>P_neq rfl rfl) rfl ?_
 refine Qp Qpo (Qp Qmb (Qg [] Qw Qf4 (Qg [(26,_)] Qw Qli (Qg [] Qw Qf4 (Qg [(28,_)] Qw Qli ?_)))))
 refine AOL.g (y:=.bool _) _ [(27,_),(29,_)] rfl (EntL.all ⟨Ent.self _ _,Ent.self _ _,trivial⟩) (fun hG=>P_neq rfl rfl) rfl ?_
 refine Qp Qpo (Qp Qmb (Qg [] Qw Qf5 (Qg [(33,_)] Qw (Qlg [.int .i64 _,.int .i64 _,.str _]) (Qg [] Qw Qf5 (Qg [(35,_)] Qw (Qlg [.int .i64 _,.int .i64 _,.str _]) ?_)))))
 refine AOL.g (y:=.bool _) _ [(34,_),(36,_)] rfl (EntL.all ⟨Ent.self _ _,Ent.self _ _,trivial⟩) (fun hG=>P_neq_agg tok rfl rfl rfl rfl rfl) rfl ?_
 refine Qp Qpo (Qp Qmb (Qg [] Qw Qf1 (Qg [(40,_)] Qw Qls ?_)))
 refine AOL.g (y:=.int .i64 _) _ [(41,_)] rfl (EntL.all ⟨Ent.self _ _,trivial⟩) (fun hG=>P_len_sl (n:=a.args.length) tok rfl rfl rfl (by simp)) rfl ?_
 refine Qg [] Qw Qf1 (Qg [(43,_)] Qw Qls ?_)
 refine AOL.g (y:=.int .i64 _) _ [(44,_)] rfl (EntL.all ⟨Ent.self _ _,trivial⟩) (fun hG=>P_len_sl (n:=b.args.length) tok rfl rfl rfl (by simp)) rfl ?_
 refine AOL.g (y:=.bool _) _ [(42,_),(45,_)] rfl (EntL.all ⟨Ent.self _ _,Ent.self _ _,trivial⟩) (fun hG=>P_neq rfl rfl) rfl ?_
 refine Qp Qpo (Qnn (Qif (fun hc1=>?_) fun hc1=>?_))
 ·
  have hh:headS a b=true:=by simpa [headS] using hc1
  refine Qsr (Qp Qab (Qnn (Qrt ?_)))
  refine Qr (.bool _) ?_
  rw [sameS_eq,if_pos hh];rfl
 ·
  have hh:headS a b=false:=by simpa [headS] using hc1
  have hlen:=len_of_head hh
  refine Qst (AW.seq (Qsr (Qp Qai (Qnn (AW.block ?_)))))
  refine AW.loopS (fun (p:Nat)=>(⟨[(2,.ptr (cE a)),(3,.ptr (cE b)),(5,.int .i64 (p:Int))],H,67⟩:St)) (fun (p:Nat)=>p≤a.args.length∧sameL a.args b.args=sameL (a.args.drop p) (b.args.drop p)) (fun (p:Nat)=>a.args.length-p) (0) ?_ (GS.weaken ⟨rfl,rfl,rfl,trivial⟩ (.refl _)) ?_
  · exact ⟨Nat.zero_le _,rfl⟩
  ·
   rintro p hR
   refine AW.seq (Qsr (Qp Qmi (Qp Qf1 (Qp Qls ?_))))
   refine Qp (P_len_sl (n:=a.args.length) tok rfl rfl rfl (by simp)) ?_
   refine Qp Qclt (Qnn (Qif (fun hc2=>?_) fun hc2=>?_))
   ·
    obtain ⟨x,hx⟩:=get_lt hc2
    have hlt:=get_lt' hx
    have hm:=List.mem_of_getElem? hx
    obtain ⟨y,hy⟩:∃y,b.args[p]? = some y:=⟨_,List.getElem?_eq_getElem (by omega)⟩
    refine Qst (AW.seq (AW.block (AW.seq ?_)))
    refine AW.draw mixed (fun _=>True) trivial (by kernel_rfl) ?_
    refine Qn 0 rfl Qf1 (Qn 1 rfl Qls (Qn 2 rfl Qmi ?_))
    refine Qn 3 rfl (P_indexAddr (c:=[.int .i64 _,_,.int .i64 _,.int .i64 _,.int .i64 _,.int .i64 _,.int .i64 _,.str _]) tok rfl rfl rfl rfl rfl rfl (by omega) (encE_at hx)) ?_
    refine Qn 4 rfl Qle (Qn 5 rfl Qf1 (Qn 6 rfl Qls (Qn 7 rfl Qmi ?_)))
    refine Qn 8 rfl (P_indexAddr (c:=[.int .i64 _,_,.int .i64 _,.int .i64 _,.int .i64 _,.int .i64 _,.int .i64 _,.str _]) tok rfl rfl rfl rfl rfl rfl (by omega) (encE_at hy)) ?_
    refine Qn 9 rfl Qle ?_
    refine Qn 10 rfl (Qc rfl (ih x hm y (by have:=size_arg hm;omega))) ?_
    refine Qn 11 rfl Qnt ?_
    refine Canon.done _ _ (by kernel_rfl) ?_
    refine thenN (Qif (fun hc3=>?_) fun hc3=>?_)
    ·
     refine Qsr (Qp Qab (Qnn (AW.ret (blkR (thenR (thenR (blkR (thenR ?_))))))))
     refine Qr (.bool _) ?_
     rw [sameS_eq,if_neg (by simp [hh]),hR.2,drop_cons hx,drop_cons hy];show _=AV.bool (if (!sameS x y)=true then false else _);rw [if_pos hc3];rfl
    ·
     refine AW.skip (blkN (thenN (AW.region (Qp Qmi (Qp Qad (Qp Qai (Qnn ?_)))))))
     refine ⟨p+1,?_,?_,GS.weaken ⟨rfl,rfl,rfl,trivial⟩ (.refl _)⟩
     · exact ⟨hlt,by rw [hR.2,drop_cons hx,drop_cons hy,sameL];simp [hc3]⟩
     · omega
   ·
    have hd:=get_end hc2
    refine AW.exit ?_
    refine thenE (thenE (blkHit (thenN (Qsr (Qp Qab (Qnn (AW.ret ?_)))))))
    refine Qr (.bool _) ?_
    rw [sameS_eq,if_neg (by simp [hh]),hR.2,hd];rfl
set_option maxHeartbeats 400000
set_option maxRecDepth 20000

theorem c127  : APure Tryz.prog 200 [] (.agg (cV v0)):=by
 refine APure.body (n:=2) tok Tryz.func200 rfl rfl rfl fun H=>?_
 refine Qsr ?_
 refine Qe (E_alloc (l:=[.int .i64 0,.int .i64 0,.str []]) (by kernel_rfl)) ?_
 rintro _ _ ⟨b0,rfl,rfl⟩
 refine Qns (Qp (Qbd [.int .i64 _,.int .i64 _,.str _]) ?_)
 refine Qe (E_store (k:=0) (v:=.agg _) (cs':=[.int .i64 _,.int .i64 _,.str _]) (H2:=_::_) tok rfl rfl rfl rfl (rfl) rfl rfl rfl rfl) ?_
 rintro _ _ ⟨rfl,rfl⟩
 refine Qnn (AW.ret ?_)
 refine ⟨.inr rfl,[.agg [.int .i64 _,.int .i64 _,.str _]],.cons (.box _ _ _ 0 _ _ _ _ rfl rfl rfl rfl rfl rfl) <| .nil,.cons _ (.refl _),?_⟩
 rfl
theorem c128 (v w:Vl):APure Tryz.prog 201 [.ptr (cV v),.ptr (cV w)] (.agg (cV (combS 1 v w))):=by
 refine APure.body (n:=9) tok Tryz.func201 rfl rfl rfl fun H=>?_
 refine Qsr ?_
 refine Qe (E_alloc (l:=[.int .i64 0,.int .i64 0,.str []]) (by kernel_rfl)) ?_
 rintro _ _ ⟨b2,rfl,rfl⟩
 refine Qns (Qp Qf6 (Qp Qli (Qp Qf6 (Qp Qli ?_))))
 refine Qp (P_addw rfl rfl) ?_
 refine Qp (Qbd [.int .i64 _,.int .i64 _,.str _]) ?_
 refine Qe (E_store (k:=0) (v:=.agg _) (cs':=[.int .i64 _,.int .i64 _,.str _]) (H2:=_::_) tok rfl rfl rfl rfl (rfl) rfl rfl rfl rfl) ?_
 rintro _ _ ⟨rfl,rfl⟩
 refine Qnn (AW.ret ?_)
 refine ⟨.inr rfl,[.agg [.int .i64 _,.int .i64 _,.str _]],.cons (.box _ _ _ 0 _ _ _ _ rfl rfl rfl rfl rfl rfl) <| .nil,.cons _ (.refl _),?_⟩
 rfl
theorem c129 (v w:Vl):APure Tryz.prog 202 [.ptr (cV v),.ptr (cV w)] (.agg (cV (combS 2 v w))):=by
 refine APure.body (n:=9) tok Tryz.func202 rfl rfl rfl fun H=>?_
 refine Qsr ?_
 refine Qe (E_alloc (l:=[.int .i64 0,.int .i64 0,.str []]) (by kernel_rfl)) ?_
 rintro _ _ ⟨b2,rfl,rfl⟩
 refine Qns (Qp Qf6 (Qp Qli (Qp Qf6 (Qp Qli ?_))))
 refine Qp (P_min rfl rfl) ?_
 refine Qp (Qbd [.int .i64 _,.int .i64 _,.str _]) ?_
 refine Qe (E_store (k:=0) (v:=.agg _) (cs':=[.int .i64 _,.int .i64 _,.str _]) (H2:=_::_) tok rfl rfl rfl rfl (rfl) rfl rfl rfl rfl) ?_
 rintro _ _ ⟨rfl,rfl⟩
 refine Qnn (AW.ret ?_)
 refine ⟨.inr rfl,[.agg [.int .i64 _,.int .i64 _,.str _]],.cons (.box _ _ _ 0 _ _ _ _ rfl rfl rfl rfl rfl rfl) <| .nil,.cons _ (.refl _),?_⟩
 rfl
theorem c130 (v w:Vl):APure Tryz.prog 203 [.ptr (cV v),.ptr (cV w)] (.agg (cV (combS 3 v w))):=by
 refine APure.body (n:=9) tok Tryz.func203 rfl rfl rfl fun H=>?_
 refine Qsr ?_
 refine Qe (E_alloc (l:=[.int .i64 0,.int .i64 0,.str []]) (by kernel_rfl)) ?_
 rintro _ _ ⟨b2,rfl,rfl⟩
 refine Qns (Qp Qf6 (Qp Qli (Qp Qf6 (Qp Qli ?_))))
 refine Qp (P_max rfl rfl) ?_
 refine Qp (Qbd [.int .i64 _,.int .i64 _,.str _]) ?_
 refine Qe (E_store (k:=0) (v:=.agg _) (cs':=[.int .i64 _,.int .i64 _,.str _]) (H2:=_::_) tok rfl rfl rfl rfl (rfl) rfl rfl rfl rfl) ?_
 rintro _ _ ⟨rfl,rfl⟩
 refine Qnn (AW.ret ?_)
 refine ⟨.inr rfl,[.agg [.int .i64 _,.int .i64 _,.str _]],.cons (.box _ _ _ 0 _ _ _ _ rfl rfl rfl rfl rfl rfl) <| .nil,.cons _ (.refl _),?_⟩
 rfl
theorem c131 (v:Vl):APure Tryz.prog 204 [.ptr (cV v)] (.agg (cV v)):=by
 refine APure.body (n:=3) tok Tryz.func204 rfl rfl rfl fun H=>?_
 refine Qsr ?_
 refine Qe (E_alloc (l:=[.int .i64 0,.int .i64 0,.str []]) (by kernel_rfl)) ?_
 rintro _ _ ⟨b1,rfl,rfl⟩
 refine Qns (Qp (Qlg [.int .i64 _,.int .i64 _,.str _]) ?_)
 refine Qe (E_store (k:=0) (v:=.agg _) (cs':=[.int .i64 _,.int .i64 _,.str _]) (H2:=_::_) tok rfl rfl rfl rfl (rfl) rfl rfl rfl rfl) ?_
 rintro _ _ ⟨rfl,rfl⟩
 refine Qnn (AW.ret ?_)
 refine ⟨.inr rfl,[.agg [.int .i64 _,.int .i64 _,.str _]],.cons (.box _ _ _ 0 _ _ _ _ rfl rfl rfl rfl rfl rfl) <| .nil,.cons _ (.refl _),?_⟩
 rfl
theorem c132 (v:Vl):APure Tryz.prog 205 [.ptr (cV v)] (.agg (cV v)):=by
 refine APure.body (n:=3) tok Tryz.func205 rfl rfl rfl fun H=>?_
 refine Qsr ?_
 refine Qe (E_alloc (l:=[.int .i64 0,.int .i64 0,.str []]) (by kernel_rfl)) ?_
 rintro _ _ ⟨b1,rfl,rfl⟩
 refine Qns (Qp (Qlg [.int .i64 _,.int .i64 _,.str _]) ?_)
 refine Qe (E_store (k:=0) (v:=.agg _) (cs':=[.int .i64 _,.int .i64 _,.str _]) (H2:=_::_) tok rfl rfl rfl rfl (rfl) rfl rfl rfl rfl) ?_
 rintro _ _ ⟨rfl,rfl⟩
 refine Qnn (AW.ret ?_)
 refine ⟨.inr rfl,[.agg [.int .i64 _,.int .i64 _,.str _]],.cons (.box _ _ _ 0 _ _ _ _ rfl rfl rfl rfl rfl rfl) <| .nil,.cons _ (.refl _),?_⟩
 rfl
theorem c125_0 (v w:Vl):APure Tryz.prog 192 [.int .i64 0,.agg (cV v),.agg (cV w)] (.agg (cV (combS 0 v w))):=by
 refine APure.body (n:=16) tok Tryz.func192 rfl rfl rfl fun H=>?_
 refine Qsr (Qp (Qbx [.int .i64 _,.int .i64 _,.str _]) (Qp (Qbx [.int .i64 _,.int .i64 _,.str _]) ?_))
 refine Qe (E_alloc (l:=[.int .i64 0,.int .i64 0,.str []]) (by kernel_rfl)) ?_
 rintro _ _ ⟨b6,rfl,rfl⟩
 refine Qns ?_
 refine Qp (P_makeFunc (l:=[]) (l':=[.ptr _,.ptr _]) rfl rfl) ?_
 refine Qp (P_makeFunc (l:=[]) (l':=[.ptr _,.ptr _]) rfl rfl) ?_
 refine Qp (P_makeFunc (l:=[]) (l':=[.ptr _,.ptr _]) rfl rfl) ?_
 refine Qp (P_makeFunc (l:=[]) (l':=[.ptr _]) rfl rfl) ?_
 refine Qp (P_makeFunc (l:=[]) (l':=[.ptr _]) rfl rfl) ?_
 refine Qp (P_buildArr (l:=[_,_,_,_,_,_]) tok rfl rfl rfl rfl) ?_
 refine Qp Qmi ?_
 refine Qp (P_index_agg (c:=_) tok rfl rfl rfl rfl rfl rfl rfl (by omega) (by omega) (rfl)) ?_
 refine Qp (P_call (by kernel_rfl) rfl rfl rfl (c127)) ?_
 refine Qe (E_store (k:=0) (v:=.agg _) (cs':=[.int .i64 _,.int .i64 _,.str _]) (H2:=_::_) tok rfl rfl rfl rfl (rfl) rfl rfl rfl rfl) ?_
 rintro _ _ ⟨rfl,rfl⟩
 refine Qnn (AW.ret ?_)
 refine ⟨.inr rfl,[.agg [.int .i64 _,.int .i64 _,.str _]],.cons (.box _ _ _ 0 _ _ _ _ rfl rfl rfl rfl rfl rfl) <| .nil,.cons _ (.refl _),?_⟩
 rfl
theorem c125_1 (v w:Vl):APure Tryz.prog 192 [.int .i64 1,.agg (cV v),.agg (cV w)] (.agg (cV (combS 1 v w))):=by
 refine APure.body (n:=16) tok Tryz.func192 rfl rfl rfl fun H=>?_
 refine Qsr (Qp (Qbx [.int .i64 _,.int .i64 _,.str _]) (Qp (Qbx [.int .i64 _,.int .i64 _,.str _]) ?_))
 refine Qe (E_alloc (l:=[.int .i64 0,.int .i64 0,.str []]) (by kernel_rfl)) ?_
 rintro _ _ ⟨b6,rfl,rfl⟩
 refine Qns ?_
 refine Qp (P_makeFunc (l:=[]) (l':=[.ptr _,.ptr _]) rfl rfl) ?_
 refine Qp (P_makeFunc (l:=[]) (l':=[.ptr _,.ptr _]) rfl rfl) ?_
 refine Qp (P_makeFunc (l:=[]) (l':=[.ptr _,.ptr _]) rfl rfl) ?_
 refine Qp (P_makeFunc (l:=[]) (l':=[.ptr _]) rfl rfl) ?_
 refine Qp (P_makeFunc (l:=[]) (l':=[.ptr _]) rfl rfl) ?_
 refine Qp (P_buildArr (l:=[_,_,_,_,_,_]) tok rfl rfl rfl rfl) ?_
 refine Qp Qmi ?_
 refine Qp (P_index_agg (c:=_) tok rfl rfl rfl rfl rfl rfl rfl (by omega) (by omega) (rfl)) ?_
 refine Qp (P_call (by kernel_rfl) rfl rfl rfl (c128 v w)) ?_
 refine Qe (E_store (k:=0) (v:=.agg _) (cs':=[.int .i64 _,.int .i64 _,.str _]) (H2:=_::_) tok rfl rfl rfl rfl (rfl) rfl rfl rfl rfl) ?_
 rintro _ _ ⟨rfl,rfl⟩
 refine Qnn (AW.ret ?_)
 refine ⟨.inr rfl,[.agg [.int .i64 _,.int .i64 _,.str _]],.cons (.box _ _ _ 0 _ _ _ _ rfl rfl rfl rfl rfl rfl) <| .nil,.cons _ (.refl _),?_⟩
 rfl
theorem c125_2 (v w:Vl):APure Tryz.prog 192 [.int .i64 2,.agg (cV v),.agg (cV w)] (.agg (cV (combS 2 v w))):=by
 refine APure.body (n:=16) tok Tryz.func192 rfl rfl rfl fun H=>?_
 refine Qsr (Qp (Qbx [.int .i64 _,.int .i64 _,.str _]) (Qp (Qbx [.int .i64 _,.int .i64 _,.str _]) ?_))
 refine Qe (E_alloc (l:=[.int .i64 0,.int .i64 0,.str []]) (by kernel_rfl)) ?_
 rintro _ _ ⟨b6,rfl,rfl⟩
 refine Qns ?_
 refine Qp (P_makeFunc (l:=[]) (l':=[.ptr _,.ptr _]) rfl rfl) ?_
 refine Qp (P_makeFunc (l:=[]) (l':=[.ptr _,.ptr _]) rfl rfl) ?_
 refine Qp (P_makeFunc (l:=[]) (l':=[.ptr _,.ptr _]) rfl rfl) ?_
 refine Qp (P_makeFunc (l:=[]) (l':=[.ptr _]) rfl rfl) ?_
 refine Qp (P_makeFunc (l:=[]) (l':=[.ptr _]) rfl rfl) ?_
 refine Qp (P_buildArr (l:=[_,_,_,_,_,_]) tok rfl rfl rfl rfl) ?_
 refine Qp Qmi ?_
 refine Qp (P_index_agg (c:=_) tok rfl rfl rfl rfl rfl rfl rfl (by omega) (by omega) (rfl)) ?_
 refine Qp (P_call (by kernel_rfl) rfl rfl rfl (c129 v w)) ?_
 refine Qe (E_store (k:=0) (v:=.agg _) (cs':=[.int .i64 _,.int .i64 _,.str _]) (H2:=_::_) tok rfl rfl rfl rfl (rfl) rfl rfl rfl rfl) ?_
 rintro _ _ ⟨rfl,rfl⟩
 refine Qnn (AW.ret ?_)
 refine ⟨.inr rfl,[.agg [.int .i64 _,.int .i64 _,.str _]],.cons (.box _ _ _ 0 _ _ _ _ rfl rfl rfl rfl rfl rfl) <| .nil,.cons _ (.refl _),?_⟩
 rfl
theorem c125_3 (v w:Vl):APure Tryz.prog 192 [.int .i64 3,.agg (cV v),.agg (cV w)] (.agg (cV (combS 3 v w))):=by
 refine APure.body (n:=16) tok Tryz.func192 rfl rfl rfl fun H=>?_
 refine Qsr (Qp (Qbx [.int .i64 _,.int .i64 _,.str _]) (Qp (Qbx [.int .i64 _,.int .i64 _,.str _]) ?_))
 refine Qe (E_alloc (l:=[.int .i64 0,.int .i64 0,.str []]) (by kernel_rfl)) ?_
 rintro _ _ ⟨b6,rfl,rfl⟩
 refine Qns ?_
 refine Qp (P_makeFunc (l:=[]) (l':=[.ptr _,.ptr _]) rfl rfl) ?_
 refine Qp (P_makeFunc (l:=[]) (l':=[.ptr _,.ptr _]) rfl rfl) ?_
 refine Qp (P_makeFunc (l:=[]) (l':=[.ptr _,.ptr _]) rfl rfl) ?_
 refine Qp (P_makeFunc (l:=[]) (l':=[.ptr _]) rfl rfl) ?_
 refine Qp (P_makeFunc (l:=[]) (l':=[.ptr _]) rfl rfl) ?_
 refine Qp (P_buildArr (l:=[_,_,_,_,_,_]) tok rfl rfl rfl rfl) ?_
 refine Qp Qmi ?_
 refine Qp (P_index_agg (c:=_) tok rfl rfl rfl rfl rfl rfl rfl (by omega) (by omega) (rfl)) ?_
 refine Qp (P_call (by kernel_rfl) rfl rfl rfl (c130 v w)) ?_
 refine Qe (E_store (k:=0) (v:=.agg _) (cs':=[.int .i64 _,.int .i64 _,.str _]) (H2:=_::_) tok rfl rfl rfl rfl (rfl) rfl rfl rfl rfl) ?_
 rintro _ _ ⟨rfl,rfl⟩
 refine Qnn (AW.ret ?_)
 refine ⟨.inr rfl,[.agg [.int .i64 _,.int .i64 _,.str _]],.cons (.box _ _ _ 0 _ _ _ _ rfl rfl rfl rfl rfl rfl) <| .nil,.cons _ (.refl _),?_⟩
 rfl
theorem c125_4 (v w:Vl):APure Tryz.prog 192 [.int .i64 4,.agg (cV v),.agg (cV w)] (.agg (cV (combS 4 v w))):=by
 refine APure.body (n:=16) tok Tryz.func192 rfl rfl rfl fun H=>?_
 refine Qsr (Qp (Qbx [.int .i64 _,.int .i64 _,.str _]) (Qp (Qbx [.int .i64 _,.int .i64 _,.str _]) ?_))
 refine Qe (E_alloc (l:=[.int .i64 0,.int .i64 0,.str []]) (by kernel_rfl)) ?_
 rintro _ _ ⟨b6,rfl,rfl⟩
 refine Qns ?_
 refine Qp (P_makeFunc (l:=[]) (l':=[.ptr _,.ptr _]) rfl rfl) ?_
 refine Qp (P_makeFunc (l:=[]) (l':=[.ptr _,.ptr _]) rfl rfl) ?_
 refine Qp (P_makeFunc (l:=[]) (l':=[.ptr _,.ptr _]) rfl rfl) ?_
 refine Qp (P_makeFunc (l:=[]) (l':=[.ptr _]) rfl rfl) ?_
 refine Qp (P_makeFunc (l:=[]) (l':=[.ptr _]) rfl rfl) ?_
 refine Qp (P_buildArr (l:=[_,_,_,_,_,_]) tok rfl rfl rfl rfl) ?_
 refine Qp Qmi ?_
 refine Qp (P_index_agg (c:=_) tok rfl rfl rfl rfl rfl rfl rfl (by omega) (by omega) (rfl)) ?_
 refine Qp (P_call (by kernel_rfl) rfl rfl rfl (c131 v)) ?_
 refine Qe (E_store (k:=0) (v:=.agg _) (cs':=[.int .i64 _,.int .i64 _,.str _]) (H2:=_::_) tok rfl rfl rfl rfl (rfl) rfl rfl rfl rfl) ?_
 rintro _ _ ⟨rfl,rfl⟩
 refine Qnn (AW.ret ?_)
 refine ⟨.inr rfl,[.agg [.int .i64 _,.int .i64 _,.str _]],.cons (.box _ _ _ 0 _ _ _ _ rfl rfl rfl rfl rfl rfl) <| .nil,.cons _ (.refl _),?_⟩
 rfl
theorem c125_5 (v w:Vl):APure Tryz.prog 192 [.int .i64 5,.agg (cV v),.agg (cV w)] (.agg (cV (combS 5 v w))):=by
 refine APure.body (n:=16) tok Tryz.func192 rfl rfl rfl fun H=>?_
 refine Qsr (Qp (Qbx [.int .i64 _,.int .i64 _,.str _]) (Qp (Qbx [.int .i64 _,.int .i64 _,.str _]) ?_))
 refine Qe (E_alloc (l:=[.int .i64 0,.int .i64 0,.str []]) (by kernel_rfl)) ?_
 rintro _ _ ⟨b6,rfl,rfl⟩
 refine Qns ?_
 refine Qp (P_makeFunc (l:=[]) (l':=[.ptr _,.ptr _]) rfl rfl) ?_
 refine Qp (P_makeFunc (l:=[]) (l':=[.ptr _,.ptr _]) rfl rfl) ?_
 refine Qp (P_makeFunc (l:=[]) (l':=[.ptr _,.ptr _]) rfl rfl) ?_
 refine Qp (P_makeFunc (l:=[]) (l':=[.ptr _]) rfl rfl) ?_
 refine Qp (P_makeFunc (l:=[]) (l':=[.ptr _]) rfl rfl) ?_
 refine Qp (P_buildArr (l:=[_,_,_,_,_,_]) tok rfl rfl rfl rfl) ?_
 refine Qp Qmi ?_
 refine Qp (P_index_agg (c:=_) tok rfl rfl rfl rfl rfl rfl rfl (by omega) (by omega) (rfl)) ?_
 refine Qp (P_call (by kernel_rfl) rfl rfl rfl (c132 w)) ?_
 refine Qe (E_store (k:=0) (v:=.agg _) (cs':=[.int .i64 _,.int .i64 _,.str _]) (H2:=_::_) tok rfl rfl rfl rfl (rfl) rfl rfl rfl rfl) ?_
 rintro _ _ ⟨rfl,rfl⟩
 refine Qnn (AW.ret ?_)
 refine ⟨.inr rfl,[.agg [.int .i64 _,.int .i64 _,.str _]],.cons (.box _ _ _ 0 _ _ _ _ rfl rfl rfl rfl rfl rfl) <| .nil,.cons _ (.refl _),?_⟩
 rfl
theorem c125 (k:Int)(v w:Vl)(h:knownS k=true):APure Tryz.prog 192 [.int .i64 k,.agg (cV v),.agg (cV w)] (.agg (cV (combS k v w))):=by
 simp only [knownS,Bool.and_eq_true,decide_eq_true_eq] at h
 have:k=0∨k=1∨k=2∨k=3∨k=4∨k=5:=by omega
 rcases this with rfl | rfl | rfl | rfl | rfl | rfl
 · exact c125_0 v w
 · exact c125_1 v w
 · exact c125_2 v w
 · exact c125_3 v w
 · exact c125_4 v w
 · exact c125_5 v w
theorem c118 (a c:Ac)(h:knownS a.kind=true):APure Tryz.prog 183 [.agg (cAc a),.agg (cAc c)] (.agg (cAc (mergedS a c))):=by
  refine APure.body (n:=30) tok Tryz.func183 rfl rfl rfl fun H=>?_
  refine AW.seq (AW.region (Qp (Qbx [.int .i64 _,.int .i64 _,.int .i64 _,.int .i64 _,.str _]) (Qp (Qbx [.int .i64 _,.int .i64 _,.int .i64 _,.int .i64 _,.str _]) ?_)))
  refine Qe (E_alloc (l:=[.int .i64 0,.int .i64 0,.int .i64 0,.int .i64 0,.str []]) (by kernel_rfl)) ?_
  rintro _ _ ⟨b4,rfl,rfl⟩
  refine AOL.nil (thenN (AW.seq (AW.block (AW.seq (AW.region (Qp Qf4 (Qp Qli (Qp Qceq (Qp Qab ?_)))))))))
  refine AOL.nil (thenN (Qif (fun hc1=>?_) fun hc1=>?_))
  · skip
    refine AW.seq (AW.region (Qp (Qlg [.int .i64 _,.int .i64 _,.int .i64 _,.int .i64 _,.str _]) ?_))
    refine Qe (E_store (k:=0) (v:=.agg _) (cs':=[.int .i64 _,.int .i64 _,.int .i64 _,.int .i64 _,.str _]) (H2:=_::_) tok rfl rfl rfl rfl (rfl) rfl rfl rfl rfl) ?_
    rintro _ _ ⟨rfl,rfl⟩
    refine AOL.nil (thenN (AW.ret (blkR (thenR ?_))))
    refine ⟨.inr rfl,[.agg [.int .i64 _,.int .i64 _,.int .i64 _,.int .i64 _,.str _]],.cons (.box _ _ _ 0 _ _ _ _ rfl rfl rfl rfl rfl rfl) <| .nil,.cons _ (.refl _),?_⟩
    try simp only [str0,Bool.and_true] at *
    first
      | (simp only [resOf,mergedS,cAc,cV];(first | rw [if_pos hc1] | skip);first | done | rfl)
      | (try simp only [Bool.not_eq_true',Bool.not_eq_false'] at *
         first
         | (simp only [resOf,mergedS,cAc,cV, *,Bool.false_eq_true,↓reduceIte,Bool.true_or,Bool.or_true,Bool.false_or,Bool.or_false,Bool.true_and,Bool.and_true,Bool.false_and,Bool.and_false,Bool.not_true,Bool.not_false];done)
         | (simp [resOf,mergedS,cAc,cV, *];done)
         | (simp_all [resOf,mergedS,cAc,cV];done))
      | skip
  · skip
    refine AW.seq (AW.region (Qp Qf4 (Qp Qli (Qp Qceq (Qp Qab (AOL.nil (thenN (Qif (fun hc2=>?_) fun hc2=>?_))))))))
    · skip
      refine AW.seq (AW.region (Qp (Qlg [.int .i64 _,.int .i64 _,.int .i64 _,.int .i64 _,.str _]) ?_))
      refine Qe (E_store (k:=0) (v:=.agg _) (cs':=[.int .i64 _,.int .i64 _,.int .i64 _,.int .i64 _,.str _]) (H2:=_::_) tok rfl rfl rfl rfl (rfl) rfl rfl rfl rfl) ?_
      rintro _ _ ⟨rfl,rfl⟩
      refine AOL.nil (thenN (AW.ret (blkR (thenR ?_))))
      refine ⟨.inr rfl,[.agg [.int .i64 _,.int .i64 _,.int .i64 _,.int .i64 _,.str _]],.cons (.box _ _ _ 0 _ _ _ _ rfl rfl rfl rfl rfl rfl) <| .nil,.cons _ (.refl _),?_⟩
      try simp only [str0,Bool.and_true] at *
      first
        | (simp only [resOf,mergedS,cAc,cV];(first | rw [if_neg (Bool.eq_false_iff.mp hc1)] | skip);(first | rw [if_pos hc2] | skip);first | done | rfl)
        | (try simp only [Bool.not_eq_true',Bool.not_eq_false'] at *
           first
           | (simp only [resOf,mergedS,cAc,cV, *,Bool.false_eq_true,↓reduceIte,Bool.true_or,Bool.or_true,Bool.false_or,Bool.or_false,Bool.true_and,Bool.and_true,Bool.false_and,Bool.and_false,Bool.not_true,Bool.not_false];done)
           | (simp [resOf,mergedS,cAc,cV, *];done)
           | (simp_all [resOf,mergedS,cAc,cV];done))
        | skip
    · skip
      refine AW.skip (blkN (thenN (AW.seq ?_)))
      refine AW.draw mixed (fun _=>True) trivial (by kernel_rfl) ?_
      refine Qn 0 rfl Qf3 (Qn 1 rfl Qli (Qn 2 rfl Qf4 (Qn 3 rfl Qli (Qn 4 rfl Qf4 (Qn 5 rfl Qli ?_)))))
      refine Qn 6 rfl (P_addw rfl rfl) ?_
      refine Qn 7 rfl Qf3 (Qn 8 rfl Qli (Qn 9 rfl Qf5 (Qn 10 rfl (Qlg [.int .i64 _,.int .i64 _,.str _]) (Qn 11 rfl Qf5 (Qn 12 rfl (Qlg [.int .i64 _,.int .i64 _,.str _]) ?_)))))
      refine Qn 13 rfl (Qc rfl (c125 a.kind a.val c.val h)) ?_
      refine Qn 14 rfl (Qbd [.int .i64 _,.int .i64 _,.int .i64 _,.int .i64 _,.str _]) ?_
      refine Canon.eff _ _ 15 _ _ rfl (by kernel_rfl) rfl rfl (E_store (k:=0) (v:=.agg _) (cs':=[.int .i64 _,.int .i64 _,.int .i64 _,.int .i64 _,.str _]) (H2:=_::_) tok rfl rfl rfl rfl (rfl) rfl rfl rfl rfl) (fun _ _ _=>trivial) ?_
      rintro _ _ ⟨rfl,rfl⟩
      refine Canon.done _ _ (by kernel_rfl) ?_
      refine thenN (AW.ret ?_)
      refine ⟨.inr rfl,[.agg [.int .i64 _,.int .i64 _,.int .i64 _,.int .i64 _,.str _]],.cons (.box _ _ _ 0 _ _ _ _ rfl rfl rfl rfl rfl rfl) <| .nil,.cons _ (.refl _),?_⟩
      try simp only [str0,Bool.and_true] at *
      first
        | (simp only [resOf,mergedS,cAc,cV];(first | rw [if_neg (Bool.eq_false_iff.mp hc1)] | skip);(first | rw [if_neg (Bool.eq_false_iff.mp hc2)] | skip);first | done | rfl)
        | (try simp only [Bool.not_eq_true',Bool.not_eq_false'] at *
           first
           | (simp only [resOf,mergedS,cAc,cV, *,Bool.false_eq_true,↓reduceIte,Bool.true_or,Bool.or_true,Bool.false_or,Bool.or_false,Bool.true_and,Bool.and_true,Bool.false_and,Bool.and_false,Bool.not_true,Bool.not_false];done)
           | (simp [resOf,mergedS,cAc,cV, *];done)
           | (simp_all [resOf,mergedS,cAc,cV];done))
        | skip
theorem c126 (a:Ac):APure Tryz.prog 193 [.agg (cAc a)] (.int .i64 (acheckS a)):=by
  refine APure.body (n:=77) tok Tryz.func193 rfl rfl rfl fun H=>?_
  refine AW.seq (AW.region (Qp (Qbx [.int .i64 _,.int .i64 _,.int .i64 _,.int .i64 _,.str _]) (Qp Qai (AOL.nil (thenN (AW.seq (AW.block (AW.seq (AW.region ?_)))))))))
  refine Qp Qf3 (Qp Qli ?_)
  refine Qp (Qc rfl (c114 a.kind)) ?_
  refine Qp Qnt (Qp Qab (AOL.nil (thenN (Qif (fun hc1=>?_) fun hc1=>?_))))
  · skip
    refine AW.seq (AW.region (Qp Qai (AOL.nil (thenN (AW.ret (blkR (thenR ?_)))))))
    refine Qr (.int .i64 _) ?_
    try simp only [str0,Bool.and_true] at *
    first
      | (simp only [resOf,acheckS];(first | rw [if_pos hc1] | skip);first | done | rfl)
      | (try simp only [Bool.not_eq_true',Bool.not_eq_false'] at *
         first
         | (simp only [resOf,acheckS,isV0, *,Bool.false_eq_true,↓reduceIte,Bool.true_or,Bool.or_true,Bool.false_or,Bool.or_false,Bool.true_and,Bool.and_true,Bool.false_and,Bool.and_false,Bool.not_true,Bool.not_false];done)
         | (simp [resOf,acheckS,isV0, *];done)
         | (simp_all [resOf,acheckS,isV0];done))
      | skip
  · skip
    refine AW.seq (AW.region (Qp Qf4 (Qp Qli (Qp Qclt (Qp Qmb (Qg [] Qw Qf4 (Qg [(15,_)] Qw Qli (Qg [(16,_)] Qw Qcgt (Qp Qpo ?_)))))))))
    refine Qp Qab (AOL.nil (thenN (Qif (fun hc2=>?_) fun hc2=>?_)))
    · skip
      refine AW.seq (AW.region (Qp Qai (AOL.nil (thenN (AW.ret (blkR (thenR ?_)))))))
      refine Qr (.int .i64 _) ?_
      try simp only [str0,Bool.and_true] at *
      first
        | (simp only [resOf,acheckS];(first | rw [if_neg (Bool.eq_false_iff.mp hc1)] | skip);(first | rw [if_pos hc2] | skip);first | done | rfl)
        | (try simp only [Bool.not_eq_true',Bool.not_eq_false'] at *
           first
           | (simp only [resOf,acheckS,isV0, *,Bool.false_eq_true,↓reduceIte,Bool.true_or,Bool.or_true,Bool.false_or,Bool.or_false,Bool.true_and,Bool.and_true,Bool.false_and,Bool.and_false,Bool.not_true,Bool.not_false];done)
           | (simp [resOf,acheckS,isV0, *];done)
           | (simp_all [resOf,acheckS,isV0];done))
        | skip
    · skip
      refine AW.skip (blkN (thenN (AW.seq (AW.region (Qp Qab (AOL.nil (thenN (AW.seq (AW.block ?_)))))))))
      refine AW.seq (AW.region (Qp Qf4 (Qp Qli (Qp Qceq (Qp Qmb (Qg [] Qw Qf3 (Qg [(35,_)] Qw Qli (Qg [(36,_)] Qw Qceq (Qp Qpo ?_)))))))))
      refine Qp Qab (AOL.nil (thenN (Qif (fun hc3=>?_) fun hc3=>?_)))
      · skip
        refine AW.region (Qp Qf5 (Qp (Qlg [.int .i64 _,.int .i64 _,.str _]) (Qp (Qbd [.int .i64 _,.int .i64 _,.str _]) ?_)))
        refine Qp (P_eql_agg tok rfl rfl rfl rfl rfl) ?_
        refine Qp Qab (AOL.nil (blkN (thenN (AW.seq (AW.seq (AW.region (Qp Qmb (Qp Qnt (AOL.nil ?_)))))))))
        refine thenN (Qif (fun hc4=>?_) fun hc4=>?_)
        · skip
          refine AW.seq (AW.region (Qp Qai (AOL.nil (thenN (Qrt ?_)))))
          refine Qr (.int .i64 _) ?_
          try simp only [str0,Bool.and_true] at *
          first
            | (simp only [resOf,acheckS];(first | rw [if_neg (Bool.eq_false_iff.mp hc1)] | skip);(first | rw [if_neg (Bool.eq_false_iff.mp hc2)] | skip);(first | rw [if_pos hc3] | skip);(first | rw [if_pos hc4] | skip);first | done | rfl)
            | (try simp only [Bool.not_eq_true',Bool.not_eq_false'] at *
               first
               | (simp only [resOf,acheckS,isV0, *,Bool.false_eq_true,↓reduceIte,Bool.true_or,Bool.or_true,Bool.false_or,Bool.or_false,Bool.true_and,Bool.and_true,Bool.false_and,Bool.and_false,Bool.not_true,Bool.not_false];done)
               | (simp [resOf,acheckS,isV0, *];done)
               | (simp_all [resOf,acheckS,isV0];done))
            | skip
        · skip
          refine Qst (AW.seq (AW.region (Qp Qai (AOL.nil (thenN (AW.ret ?_))))))
          refine Qr (.int .i64 _) ?_
          try simp only [str0,Bool.and_true] at *
          first
            | (simp only [resOf,acheckS];(first | rw [if_neg (Bool.eq_false_iff.mp hc1)] | skip);(first | rw [if_neg (Bool.eq_false_iff.mp hc2)] | skip);(first | rw [if_pos hc3] | skip);(first | rw [if_neg (Bool.eq_false_iff.mp hc4)] | skip);first | done | rfl)
            | (try simp only [Bool.not_eq_true',Bool.not_eq_false'] at *
               first
               | (simp only [resOf,acheckS,isV0, *,Bool.false_eq_true,↓reduceIte,Bool.true_or,Bool.or_true,Bool.false_or,Bool.or_false,Bool.true_and,Bool.and_true,Bool.false_and,Bool.and_false,Bool.not_true,Bool.not_false];done)
               | (simp [resOf,acheckS,isV0, *];done)
               | (simp_all [resOf,acheckS,isV0];done))
            | skip
      · skip
        refine AW.seq (AW.region (Qp Qf3 (Qp Qli (Qp Qceq (Qp Qab (AOL.nil (thenN (Qif (fun hc5=>?_) fun hc5=>?_))))))))
        · skip
          refine AW.seq (AW.region (Qp Qf4 (Qp Qli ?_)))
          refine Qp (P_mul rfl rfl rfl (by have j0:=hc2;simp only [Bool.or_eq_false_iff,Bool.and_eq_true,decide_eq_false_iff_not,decide_eq_true_eq] at j0;constructor <;> omega)) ?_
          refine Qp Qai (AOL.nil (thenN (AW.region (Qp Qf5 (Qp Qf5 (Qp Qli (Qp Qceq (Qp Qmb (Qg [] Qw Qf5 ?_)))))))))
          refine Qg [(55,_)] Qw Qf7 (Qg [(56,_)] Qw Qlt ?_)
          refine AOL.g (y:=.bool _) _ [(57,_)] rfl (EntL.all ⟨Ent.self _ _,trivial⟩) (fun hG=>P_eql_str rfl rfl) rfl ?_
          refine Qp Qpa (Qp Qmb (Qg [] Qw Qf5 (Qg [(61,_)] Qw Qf6 (Qg [(62,_)] Qw Qli (Qg [] Qw Qmi ?_)))))
          refine AOL.g (y:=.int .i64 _) _ [(64,_)] rfl (EntL.all ⟨Ent.self _ _,trivial⟩) (fun hG=>P_neg rfl rfl (by have j0:=hc2;simp only [Bool.or_eq_false_iff,Bool.and_eq_true,decide_eq_false_iff_not,decide_eq_true_eq] at j0;constructor <;> omega)) rfl ?_
          refine AOL.g (y:=.bool _) _ [(63,_),(65,_)] rfl (EntL.all ⟨Ent.self _ _,Ent.self _ _,trivial⟩) (fun hG=>P_geq rfl rfl) rfl ?_
          refine Qp Qpa (Qp Qmb (Qg [] Qw Qf5 (Qg [(69,_)] Qw Qf6 (Qg [(70,_)] Qw Qli (Qg [] Qw Qmi ?_)))))
          refine AOL.g (y:=.bool _) _ [(71,_),(72,_)] rfl (EntL.all ⟨Ent.self _ _,Ent.self _ _,trivial⟩) (fun hG=>P_leq rfl rfl) rfl ?_
          refine Qp Qpa (Qp Qab (AOL.nil (blkN (thenN (AW.seq (AW.seq (AW.region (Qp Qmb (Qp Qnt ?_)))))))))
          refine AOL.nil (thenN (Qif (fun hc6=>?_) fun hc6=>?_))
          · skip
            refine AW.seq (AW.region (Qp Qai (AOL.nil (thenN (Qrt ?_)))))
            refine Qr (.int .i64 _) ?_
            try simp only [str0,Bool.and_true] at *
            first
              | (simp only [resOf,acheckS];(first | rw [if_neg (Bool.eq_false_iff.mp hc1)] | skip);(first | rw [if_neg (Bool.eq_false_iff.mp hc2)] | skip);(first | rw [if_neg (Bool.eq_false_iff.mp hc3)] | skip);(first | rw [if_pos hc5] | skip);(first | rw [if_pos hc6] | skip);first | done | rfl)
              | (try simp only [Bool.not_eq_true',Bool.not_eq_false'] at *
                 first
                 | (simp only [resOf,acheckS,isV0, *,Bool.false_eq_true,↓reduceIte,Bool.true_or,Bool.or_true,Bool.false_or,Bool.or_false,Bool.true_and,Bool.and_true,Bool.false_and,Bool.and_false,Bool.not_true,Bool.not_false];done)
                 | (simp [resOf,acheckS,isV0, *];done)
                 | (simp_all [resOf,acheckS,isV0];done))
              | skip
          · skip
            refine Qst (AW.seq (AW.region (Qp Qai (AOL.nil (thenN (AW.ret ?_))))))
            refine Qr (.int .i64 _) ?_
            try simp only [str0,Bool.and_true] at *
            first
              | (simp only [resOf,acheckS];(first | rw [if_neg (Bool.eq_false_iff.mp hc1)] | skip);(first | rw [if_neg (Bool.eq_false_iff.mp hc2)] | skip);(first | rw [if_neg (Bool.eq_false_iff.mp hc3)] | skip);(first | rw [if_pos hc5] | skip);(first | rw [if_neg (Bool.eq_false_iff.mp hc6)] | skip);first | done | rfl)
              | (try simp only [Bool.not_eq_true',Bool.not_eq_false'] at *
                 first
                 | (simp only [resOf,acheckS,isV0, *,Bool.false_eq_true,↓reduceIte,Bool.true_or,Bool.or_true,Bool.false_or,Bool.or_false,Bool.true_and,Bool.and_true,Bool.false_and,Bool.and_false,Bool.not_true,Bool.not_false];done)
                 | (simp [resOf,acheckS,isV0, *];done)
                 | (simp_all [resOf,acheckS,isV0];done))
              | skip
        · skip
          refine AW.region (Qp Qf5 (Qp (Qlg [.int .i64 _,.int .i64 _,.str _]) ?_))
          refine Qp (Qc rfl (c94 a.val)) ?_
          refine Qp Qceq (Qp Qmb (Qg [] Qw Qf3 (Qg [(24,_)] Qw Qli (Qg [] Qw Qf5 (Qg [(26,_)] Qw (Qlg [.int .i64 _,.int .i64 _,.str _]) ?_)))))
          refine AOL.g (y:=.bool _) _ [(25,_),(27,_)] rfl (EntL.all ⟨Ent.self _ _,Ent.self _ _,trivial⟩) (fun hG=>P_callf (by kernel_rfl) rfl rfl (c124 a.kind a.val)) rfl ?_
          refine Qp Qpa (Qp Qab (AOL.nil (blkN (thenN (AW.seq (AW.seq (AW.region (Qp Qmb (Qp Qnt ?_)))))))))
          refine AOL.nil (thenN (Qif (fun hc7=>?_) fun hc7=>?_))
          · skip
            refine AW.seq (AW.region (Qp Qai (AOL.nil (thenN (Qrt ?_)))))
            refine Qr (.int .i64 _) ?_
            try simp only [str0,Bool.and_true] at *
            first
              | (simp only [resOf,acheckS];(first | rw [if_neg (Bool.eq_false_iff.mp hc1)] | skip);(first | rw [if_neg (Bool.eq_false_iff.mp hc2)] | skip);(first | rw [if_neg (Bool.eq_false_iff.mp hc3)] | skip);(first | rw [if_neg (Bool.eq_false_iff.mp hc5)] | skip);(first | rw [if_pos hc7] | skip);first | done | rfl)
              | (try simp only [Bool.not_eq_true',Bool.not_eq_false'] at *
                 first
                 | (simp only [resOf,acheckS,isV0, *,Bool.false_eq_true,↓reduceIte,Bool.true_or,Bool.or_true,Bool.false_or,Bool.or_false,Bool.true_and,Bool.and_true,Bool.false_and,Bool.and_false,Bool.not_true,Bool.not_false];done)
                 | (simp [resOf,acheckS,isV0, *];done)
                 | (simp_all [resOf,acheckS,isV0];done))
              | skip
          · skip
            refine Qst (AW.seq (AW.region (Qp Qai (AOL.nil (thenN (AW.ret ?_))))))
            refine Qr (.int .i64 _) ?_
            try simp only [str0,Bool.and_true] at *
            first
              | (simp only [resOf,acheckS];(first | rw [if_neg (Bool.eq_false_iff.mp hc1)] | skip);(first | rw [if_neg (Bool.eq_false_iff.mp hc2)] | skip);(first | rw [if_neg (Bool.eq_false_iff.mp hc3)] | skip);(first | rw [if_neg (Bool.eq_false_iff.mp hc5)] | skip);(first | rw [if_neg (Bool.eq_false_iff.mp hc7)] | skip);first | done | rfl)
              | (try simp only [Bool.not_eq_true',Bool.not_eq_false'] at *
                 first
                 | (simp only [resOf,acheckS,isV0, *,Bool.false_eq_true,↓reduceIte,Bool.true_or,Bool.or_true,Bool.false_or,Bool.or_false,Bool.true_and,Bool.and_true,Bool.false_and,Bool.and_false,Bool.not_true,Bool.not_false];done)
                 | (simp [resOf,acheckS,isV0, *];done)
                 | (simp_all [resOf,acheckS,isV0];done))
              | skip

end Go.Proofs.YtkddpedfbicbeaaGreatDoor
