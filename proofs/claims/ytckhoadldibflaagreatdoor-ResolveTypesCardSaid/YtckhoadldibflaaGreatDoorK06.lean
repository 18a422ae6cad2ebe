/-
  Several texts in one: W5, W6. No condition.
-/
import Derived.Test.YtckhoadldibflaaGreatDoorK01
import Derived.Test.YtckhoadldibflaaGreatDoorK05
import Derived.KernelRfl
set_option linter.unusedVariables false
set_option linter.unusedSimpArgs false
namespace Go.Proofs.YtckhoadldibflaaGreatDoor
open Go Go.Aw
set_option maxHeartbeats 400000
set_option maxRecDepth 20000

theorem jW (k:Nat)(h:k<17):Hz[k]? = some (.str (Zp.getD k [])):=by
 have e:Hz=Zp.map AV.str:=rfl
 rw [e,List.getElem?_map]
 have h':k<Zp.length:=h
 simp [List.getD_eq_getElem?_getD,List.getElem?_eq_getElem h']
theorem gV {s:Aq}{k:Nat}(h:k<17)(hc:Lib.hasPrefix s (Zp.getD k [])=false):E4 s (Zp.drop k)=E4 s (Zp.drop (k+1)):=by
 have h':k<Zp.length:=h
 rw [List.drop_eq_getElem_cons h']
 have e:Zp.getD k []=Zp[k]:=by simp [List.getD_eq_getElem?_getD,List.getElem?_eq_getElem h']
 rw [e] at hc
 rw [E4,iN hc]
theorem fX {s:Aq}{k:Nat}(h:k<17)(hc:Lib.hasPrefix s (Zp.getD k [])=true):E4 s (Zp.drop k)=fA 3 (Zp.getD k []) (Zp.getD k []).length:=by
 have h':k<Zp.length:=h
 rw [List.drop_eq_getElem_cons h']
 have e:Zp.getD k []=Zp[k]:=by simp [List.getD_eq_getElem?_getD,List.getElem?_eq_getElem h']
 rw [e] at hc ⊢
 rw [E4,if_pos hc]

theorem c25 (s:Aq)(hl:s.length≤1048576):Ap Tryz.prog 294 [.str s] (.tuple [.str (N1 s).1,.int .i64 (N1 s).2]):=by
 refine Ap.body (n:=49) tok Tryz.func294 rfl rfl rfl fun H=>?_
 refine Ad (Qp Db (Qp A0 (Aa (AW.seq (Ad (Qp Dh ?_))))))
 refine Qp (Bx tok rfl rfl rfl rfl) ?_
 refine Qp D2 (Aa (Au (fun hc1=>?_) fun hc1=>?_))
 ·
  refine Ad (Qp Db (Qp A0 (Aa (Cx ?_))))
  refine L1 (.str _) (Iq _) ?_
  simp only [Ae,N1]
  (first | rw [if_pos hc1] | skip)
  first | done | rfl
 ·
  refine Bl (Ad ?_)
  refine Qe (Fy (es:=[[.int .u8 _]]) tok rfl rfl rfl rfl rfl rfl rfl rfl rfl) ?_
  rintro _ _ ⟨v10,rfl,rfl⟩
  refine Qp (A6 (v:=.row _ _ _) rfl) ?_
  refine Aa (AW.seq (Ad (Qp A0 (Aa (AW.block ?_)))))
  refine AW.Aat (fun (p:Nat×List (List AV)×Value)=>(⟨[(0,.str s),(4,.row p.2.2 1 p.2.1),(5,.int .i64 (p.1:Int))],.row p.2.2 p.2.1.length 5 1::H,49⟩:St)) (fun (p:Nat×List (List AV)×Value)=>p.1≤s.length∧p.2.1=B1 ([34]++C6 (s.take p.1))) (fun (p:Nat×List (List AV)×Value)=>s.length-p.1) ((0,_,v10)) ?_ (GS.weaken ⟨rfl,rfl,rfl,trivial⟩ (.refl _)) ?_
  · exact ⟨Nat.zero_le _,rfl⟩
  ·
   rintro p hR
   have hroom:=Z2 (by simp at hc1;omega) hR.2
   have hsc:∀c∈p.2.1,Ba c=true:=by rw [hR.2];exact Ux _
   refine AW.seq (Ad (Qp A4 (Qp Dh ?_)))
   refine Qp (Bx tok rfl rfl rfl rfl) ?_
   refine Qp B7 (Aa (Au (fun hc2=>?_) fun hc2=>?_))
   ·
    have hk:p.1<s.length:=by simp at hc2;omega
    refine Bl (AW.seq (AW.block (Ad (Qp Dh (Qp A4 ?_)))))
    refine Qp (Bs tok rfl rfl rfl rfl (by omega) (D6 (i:=p.1) hk)) ?_
    refine Qp (A6 (v:=.int .u8 _) rfl) ?_
    refine By ?_
    refine Qp (A1 (v:=.int .u8 _) rfl) ?_
    refine Qp (Qc rfl (c46 _)) ?_
    refine Aa (Au (fun hc3=>?_) fun hc3=>?_)
    ·
     refine AW.region ?_
     refine Qp (A1 (v:=.row _ _ _) rfl) ?_
     refine Qp (A1 (v:=.int .u8 _) rfl) ?_
     refine Qp (Am (es:=[[.int .u8 _]]) tok rfl rfl rfl rfl rfl rfl rfl rfl rfl) ?_
     refine Qe (Ci (k:=0) tok rfl rfl rfl rfl rfl rfl rfl rfl (D7 rfl) (hsc) (by simp;omega) (by simp [maxLen];omega)) ?_
     rintro _ _ ⟨v25,rfl,rfl⟩
     refine Qp (A6 (v:=.row _ _ _) rfl) ?_
     refine AOL.nil (Bc (Af (AW.region (Qp A4 (Qp Ei (Qp A0 (Aa ?_)))))))
     refine ⟨(p.1+1,p.2.1++B1 [bt s p.1],v25),?_,?_,GS.weaken ⟨rfl,rfl,rfl,trivial⟩ (.refl _)⟩
     · exact ⟨hk,Md hk hR.2 (by unfold I1;rw [if_pos hc3])⟩
     · simp only;omega
    ·
     refine Ad ?_
     refine Qp (A1 (v:=.int .u8 _) rfl) ?_
     refine Qp Av (Qp Bq ?_)
     refine AOL.Aap (y:=.int .u8 _) _ [] rfl (iB.all trivial) (fun hG=>A1 (v:=.int .u8 _) rfl) rfl ?_
     refine Qg [(29,_)] Qw Av (Qp Cy (Aa (Au (fun hc4=>?_) fun hc4=>?_)))
     ·
      refine AW.region ?_
      refine Qp (A1 (v:=.row _ _ _) rfl) ?_
      refine Qp (A1 (v:=.int .u8 _) rfl) ?_
      refine Qp (Am (es:=[[.int .u8 _],[.int .u8 _]]) tok rfl rfl rfl rfl rfl rfl rfl rfl rfl) ?_
      refine Qe (Ci (k:=0) tok rfl rfl rfl rfl rfl rfl rfl rfl (nI _ _) (hsc) (by simp;omega) (by simp [maxLen];omega)) ?_
      rintro _ _ ⟨v35,rfl,rfl⟩
      refine Qp (A6 (v:=.row _ _ _) rfl) ?_
      refine AOL.nil (Bc (Af (AW.region (Qp A4 (Qp Ei (Qp A0 (Aa ?_)))))))
      refine ⟨(p.1+1,p.2.1++B1 [92,bt s p.1],v35),?_,?_,GS.weaken ⟨rfl,rfl,rfl,trivial⟩ (.refl _)⟩
      · exact ⟨hk,Md hk hR.2 (by unfold I1;rw [iN hc3,if_pos hc4])⟩
      · simp only;omega
     ·
      refine AW.draw mixed (fun _=>True) trivial (by kernel_rfl) ?_
      refine Qn 0 rfl (A1 (v:=.row _ _ _) rfl) ?_
      refine Qn 1 rfl (A1 (v:=.int .u8 _) rfl) ?_
      refine Qn 2 rfl (cJ rfl rfl (by omega)) ?_
      refine Qn 3 rfl (Bs tok rfl rfl rfl rfl ((Xo _).1) ((Xo _).2)) ?_
      refine Qn 4 rfl (A1 (v:=.int .u8 _) rfl) ?_
      refine Qn 5 rfl (pB rfl rfl (by omega)) ?_
      refine Qn 6 rfl (Bs tok rfl rfl rfl rfl ((Xv _).1) ((Xv _).2)) ?_
      refine Qn 7 rfl (Am (es:=[[.int .u8 _],[.int .u8 _],[.int .u8 _],[.int .u8 _]]) tok rfl rfl rfl rfl rfl rfl rfl rfl rfl) ?_
      refine Hs.eff _ _ 8 _ _ rfl (by kernel_rfl) rfl rfl (Ci (k:=0) tok rfl rfl rfl rfl rfl rfl rfl rfl (eQ _ _ _ _) (hsc) (by simp;omega) (by simp [maxLen];omega)) (fun _ _ _=>trivial) ?_
      rintro _ _ ⟨v44,rfl,rfl⟩
      refine Qn 9 rfl (A6 (v:=.row _ _ _) rfl) ?_
      refine Hs.done _ _ (by kernel_rfl) ?_
      refine Bc (Af (AW.region (Qp A4 (Qp Ei (Qp A0 (Aa ?_))))))
      refine ⟨(p.1+1,p.2.1++B1 [92,120,bt Nk ((bt s p.1).toNat / 16),bt Nk ((bt s p.1).toNat % 16)],v44),?_,?_,GS.weaken ⟨rfl,rfl,rfl,trivial⟩ (.refl _)⟩
      · exact ⟨hk,Md hk hR.2 (by unfold I1;rw [iN hc3,iN hc4])⟩
      · simp only;omega
   ·
    have hk:p.1=s.length:=by simp at hc2;have:=hR.1;omega
    have hfin:p.2.1 ++ [[.int .u8 34]]=B1 ([34]++C6 s ++ [34]):=by rw [hR.2,hk,List.take_length,Gg ([34]++C6 s) [34]];rfl
    have hfl:([34]++C6 s ++ [34]).length≤maxLen:=by have h1:=Ln s;simp at hc1;simp [maxLen];omega
    refine AW.exit ?_
    refine A7 (A7 (Bp (Af (Ad ?_))))
    refine Qp (A1 (v:=.row _ _ _) rfl) ?_
    refine Qp (Am (es:=[[.int .u8 _]]) tok rfl rfl rfl rfl rfl rfl rfl rfl rfl) ?_
    refine Qe (Ci (k:=0) tok rfl rfl rfl rfl rfl rfl rfl rfl (D7 rfl) (hsc) (by simp;omega) (by simp [maxLen];omega)) ?_
    rintro _ _ ⟨v47,rfl,rfl⟩
    refine Qp (N0 (s:=[34]++C6 s ++ [34]) tok rfl rfl rfl rfl rfl rfl rfl (hfl) (bL hfin)) ?_
    refine Qp Db (Qp A0 (Aa (AW.ret ?_)))
    refine ⟨.inr rfl,[.str _,Iq _],.cons (.tmp _ _ rfl) <| .cons (.tmp _ _ rfl) <| .nil,.cons _ (.refl _),?_⟩
    simp only [Ae,N1]
    (first | rw [iN hc1] | skip);(first | rw [iN hc2] | skip)
    first | done | rfl
theorem c54 (s:Aq)(hl:s.length≤1048576)(h0:0<s.length):Ap Tryz.prog 276 [.str s] (.agg (cFo (J4 s))):=by
 refine Ap.body (n:=20) tok Tryz.func276 rfl rfl rfl fun H=>?_
 refine Ad ?_
 refine Qe (An (l:=[.int .i64 0,.str [],.int .i64 0,.int .i64 0,.int .i64 0,.int .i64 0]) (by kernel_rfl)) ?_
 rintro _ _ ⟨b2,rfl,rfl⟩
 refine Aa (AW.seq (Ad (Qp Dh ?_)))
 refine Qp (Bs tok rfl rfl rfl rfl (by omega) (D6 (i:=0) h0)) ?_
 refine Qp (Qc rfl (c43 _)) ?_
 refine Qp Fz (Aa (Au (fun hc1=>?_) fun hc1=>?_))
 ·
  refine Ad (Qp (Ea [Iq _,.str _,Iq _,Iq _,Iq _,Iq _]) ?_)
  refine B0 0 [Iq _,.str _,Iq _,Iq _,Iq _,Iq _] (_::_) ?_
  refine Aa (Cx ?_)
  refine ⟨.inr rfl,[.agg [Iq _,.str _,Iq _,Iq _,Iq _,Iq _]],.cons (.box _ _ _ 0 _ _ _ _ rfl rfl rfl rfl rfl rfl) <| .nil,.cons _ (.refl _),?_⟩
  simp only [Ae,J4]
  (first | rw [if_pos hc1] | skip)
  first | done | rfl
 ·
  refine Bl (Ad (Qp Dh ?_))
  refine Qp (Qc rfl (c38 s hl 302 Hg (by kernel_rfl) c69)) ?_
  refine Qp A0 (Aa (AW.seq (Ad (Qp A4 (Qp D2 (Aa (Au (fun hc2=>?_) fun hc2=>?_)))))))
  ·
   refine Ad (Qp (Ea [Iq _,.str _,Iq _,Iq _,Iq _,Iq _]) ?_)
   refine B0 0 [Iq _,.str _,Iq _,Iq _,Iq _,Iq _] (_::_) ?_
   refine Aa (Cx ?_)
   refine ⟨.inr rfl,[.agg [Iq _,.str _,Iq _,Iq _,Iq _,Iq _]],.cons (.box _ _ _ 0 _ _ _ _ rfl rfl rfl rfl rfl rfl) <| .nil,.cons _ (.refl _),?_⟩
   simp only [Ae,J4]
   (first | rw [iN hc1] | skip);(first | rw [if_pos hc2] | skip)
   first | done | rfl
  ·
   refine Bl (Ad (Qp Dh (Qp A4 ?_)))
   refine Qp (G5 (l:=0) (h:=C3 Hg s) tok rfl rfl rfl (rfl) (⟨_,rfl⟩) (Nat.zero_le _) (Kz _ _) (List.drop_zero)) ?_
   refine Qp (Ea [Iq _,.str _,Iq _]) (Qp A4 (Qp (Ea [Iq _,.str _,Iq _,Iq _,Iq _,Iq _]) ?_))
   refine B0 0 [Iq _,.str _,Iq _,Iq _,Iq _,Iq _] (_::_) ?_
   refine Aa (AW.ret ?_)
   refine ⟨.inr rfl,[.agg [Iq _,.str _,Iq _,Iq _,Iq _,Iq _]],.cons (.box _ _ _ 0 _ _ _ _ rfl rfl rfl rfl rfl rfl) <| .nil,.cons _ (.refl _),?_⟩
   simp only [Ae,J4]
   (first | rw [iN hc1] | skip);(first | rw [iN hc2] | skip)
   first | done | rfl
theorem c55 (s:Aq)(hl:s.length≤1048576)(h0:0<s.length):Ap Tryz.prog 277 [.str s] (.agg (cFo (Fh s))):=by
 refine Ap.body (n:=40) tok Tryz.func277 rfl rfl rfl fun H=>?_
 refine Ad ?_
 refine Qe (An (l:=[.int .i64 0,.str [],.int .i64 0,.int .i64 0,.int .i64 0,.int .i64 0]) (by kernel_rfl)) ?_
 rintro _ _ ⟨b2,rfl,rfl⟩
 refine By (Qp Dh ?_)
 refine Qp (Qc rfl (c38 s hl 141 C1 (by kernel_rfl) c39)) ?_
 refine Qp A0 (Aa (AW.seq (Ad (Qp A4 (Qp Av (Aa (Au (fun hc1=>?_) fun hc1=>?_)))))))
 ·
  refine Ad (Qp (Ea [Iq _,.str _,Iq _,Iq _,Iq _,Iq _]) ?_)
  refine B0 0 [Iq _,.str _,Iq _,Iq _,Iq _,Iq _] (_::_) ?_
  refine Aa (Cx ?_)
  refine ⟨.inr rfl,[.agg [Iq _,.str _,Iq _,Iq _,Iq _,Iq _]],.cons (.box _ _ _ 0 _ _ _ _ rfl rfl rfl rfl rfl rfl) <| .nil,.cons _ (.refl _),?_⟩
  simp only [Ae,Fh]
  (first | rw [if_pos hc1] | skip)
  first | done | rfl
 ·
  refine Bl (AW.seq (Ad (Qp Dh (Qp A4 ?_))))
  refine Qp (G5 (l:=0) (h:=C3 C1 s) tok rfl rfl rfl (rfl) (⟨_,rfl⟩) (Nat.zero_le _) (Kz _ _) (List.drop_zero)) ?_
  refine Qp (Qc rfl (c18 (s.take (C3 C1 s)) (by rw [List.length_take];omega))) ?_
  refine Qp L0 (Qp Jw (Qp Jw (Qp A0 (Qp A0 (By (Qp A4 (Qp B9 (Aa (Au (fun hc2=>?_) fun hc2=>?_)))))))))
  ·
   refine Ad (Qp A4 (Qp (Ea [Iq _,.str _,Iq _,Iq _,Iq _,Iq _]) ?_))
   refine B0 0 [Iq _,.str _,Iq _,Iq _,Iq _,Iq _] (_::_) ?_
   refine Aa (Cx ?_)
   refine ⟨.inr rfl,[.agg [Iq _,.str _,Iq _,Iq _,Iq _,Iq _]],.cons (.box _ _ _ 0 _ _ _ _ rfl rfl rfl rfl rfl rfl) <| .nil,.cons _ (.refl _),?_⟩
   simp only [Ae,Fh]
   (first | rw [iN hc1] | skip);(first | rw [if_pos hc2] | skip)
   first | done | rfl
  ·
   refine Bl (AW.seq (Ad (Qp A4 (Qp Dh ?_))))
   refine Qp (Bx tok rfl rfl rfl rfl) ?_
   refine Qp B7 (Qp Bq (Qg [] Qw Dh (Qg [] Qw A4 ?_)))
   refine AOL.Aap (y:=.int .u8 _) _ [(27,_),(28,_)] rfl (iB.all ⟨Ent.Aao _ _,Ent.Aao _ _,trivial⟩) (fun hG=>Bs tok rfl rfl rfl rfl (by omega) (D6 (i:=C3 C1 s) (by have h9:=g1 hG;simp at h9;exact h9))) rfl ?_
   refine Qg [(29,_)] Qw (Qc rfl (c43 _)) ?_
   refine Qp Et (Aa (Au (fun hc3=>?_) fun hc3=>?_))
   ·
    refine Ad (Qp A4 (Qp (Ea [Iq _,.str _,Iq _,Iq _,Iq _,Iq _]) ?_))
    refine B0 0 [Iq _,.str _,Iq _,Iq _,Iq _,Iq _] (_::_) ?_
    refine Aa (Cx ?_)
    refine ⟨.inr rfl,[.agg [Iq _,.str _,Iq _,Iq _,Iq _,Iq _]],.cons (.box _ _ _ 0 _ _ _ _ rfl rfl rfl rfl rfl rfl) <| .nil,.cons _ (.refl _),?_⟩
    simp only [Ae,Fh]
    (first | rw [iN hc1] | skip);(first | rw [iN hc2] | skip);(first | rw [if_pos hc3] | skip)
    first | done | rfl
   ·
    refine Bl (Ad (Qp Dh (Qp A4 ?_)))
    refine Qp (G5 (l:=0) (h:=C3 C1 s) tok rfl rfl rfl (rfl) (⟨_,rfl⟩) (Nat.zero_le _) (Kz _ _) (List.drop_zero)) ?_
    refine Qp (Ea [Iq _,.str _,Iq _]) (Qp A4 (Qp (Ea [Iq _,.str _,Iq _,Iq _,Iq _,Iq _]) ?_))
    refine B0 0 [Iq _,.str _,Iq _,Iq _,Iq _,Iq _] (_::_) ?_
    refine Aa (AW.ret ?_)
    refine ⟨.inr rfl,[.agg [Iq _,.str _,Iq _,Iq _,Iq _,Iq _]],.cons (.box _ _ _ 0 _ _ _ _ rfl rfl rfl rfl rfl rfl) <| .nil,.cons _ (.refl _),?_⟩
    simp only [Ae,Fh]
    (first | rw [iN hc1] | skip);(first | rw [iN hc2] | skip);(first | rw [iN hc3] | skip)
    first | done | rfl
theorem c57 (s:Aq):Ap Tryz.prog 279 [.str s] (.agg (cFo (Ru s))):=by
 refine Ap.body (n:=19) tok Tryz.func279 rfl rfl rfl fun H=>?_
 refine Ad ?_
 refine Qe (An (l:=[.int .i64 0,.str [],.int .i64 0,.int .i64 0,.int .i64 0,.int .i64 0]) (by kernel_rfl)) ?_
 rintro _ _ ⟨b2,rfl,rfl⟩
 refine Aa (AW.seq (Ad ?_))
 refine Qp (Rn (l:=Hz) tok (⟨_,by simp [globals],fun _ h=>h⟩) rfl rfl rfl rfl) ?_
 refine Qp A4 (Aa (AW.block ?_))
 refine AW.Aat (fun (k:Nat)=>(⟨[(0,.str s),(2,.val (.pointer (some ⟨b2,0,none⟩))),(5,.agg Hz),(6,.int .i64 (k:Int))],.box b2 256 [.int .i64 0,.str [],.int .i64 0,.int .i64 0,.int .i64 0,.int .i64 0]::H,19⟩:St)) (fun (k:Nat)=>k≤17∧Ru s=E4 s (Zp.drop k)) (fun (k:Nat)=>17-k) (0) ?_ (GS.weaken ⟨rfl,rfl,rfl,rfl,trivial⟩ (.refl _)) ?_
 · exact ⟨Nat.zero_le _,rfl⟩
 ·
  rintro k hR
  refine Ad (Qp B7 (Aa (AW.seq (Au (fun hc1=>?_) fun hc1=>?_))))
  ·
   have hk:k<17:=by simp at hc1;omega
   refine Bl (AW.seq (AW.block (Ad ?_)))
   refine Qp (Ze (c:=.str (Zp.getD k [])) tok rfl rfl rfl rfl rfl rfl rfl (by omega) (by omega) (jW k hk)) ?_
   refine Qp Db (By (Qp Dh (Qp Dh ?_)))
   refine Qp (Qc rfl (k28 _ _)) ?_
   refine Aa (Au (fun hc2=>?_) fun hc2=>?_)
   ·
    refine Ad (Qp Dh (Qp (Ea [Iq _,.str _,Iq _]) (Qp Dh ?_)))
    refine Qp (Bx tok rfl rfl rfl rfl) ?_
    refine Qp (Ea [Iq _,.str _,Iq _,Iq _,Iq _,Iq _]) ?_
    refine B0 0 [Iq _,.str _,Iq _,Iq _,Iq _,Iq _] (_::_) ?_
    refine Aa (AW.ret (Ao (Ai (Ai (Ao (Ai ?_))))))
    refine ⟨.inr rfl,[.agg [Iq _,.str _,Iq _,Iq _,Iq _,Iq _]],.cons (.box _ _ _ 0 _ _ _ _ rfl rfl rfl rfl rfl rfl) <| .nil,.cons _ (.refl _),?_⟩
    have h9:=hR.2.trans (fX hk hc2)
    rw [h9];rfl
   ·
    refine AW.skip (Bc (Af (AW.region (Qp Ei (Qp A4 (Aa ?_))))))
    refine ⟨k+1,?_,?_,GS.weaken ⟨rfl,rfl,rfl,rfl,trivial⟩ (.refl _)⟩
    · exact ⟨hk,hR.2.trans (gV hk hc2)⟩
    · omega
  ·
   have hk:k=17:=by simp at hc1;have:=hR.1;omega
   refine AW.exit ?_
   refine A7 (A7 (Bp (Af (Ad (Qp (Ea [Iq _,.str _,Iq _,Iq _,Iq _,Iq _]) ?_)))))
   refine B0 0 [Iq _,.str _,Iq _,Iq _,Iq _,Iq _] (_::_) ?_
   refine Aa (AW.ret ?_)
   refine ⟨.inr rfl,[.agg [Iq _,.str _,Iq _,Iq _,Iq _,Iq _]],.cons (.box _ _ _ 0 _ _ _ _ rfl rfl rfl rfl rfl rfl) <| .nil,.cons _ (.refl _),?_⟩
   have h9:Ru s=Lv 0 4:=by rw [hR.2,hk];rfl
   rw [h9];rfl

set_option maxHeartbeats 800000
set_option maxRecDepth 100000

theorem Jm {s:Aq}{n i:Nat}{b:Aq}(h:0<n):Gw s n i b =
  if decide ((i:Int)<(s.length:Int)) then
   if (((bt s i).toNat:Int)==34) then
    if decide (64<(b.length:Int)) then Lv 0 13 else fA 2 b ((i:Int)+1)
   else if (((bt s i).toNat:Int)==92) then
    if ((Io (s.drop i)).2==0) then Lv i 4 else Gw s (n-1) (i+(Io (s.drop i)).2.toNat) (b ++ [(Io (s.drop i)).1])
   else if (decide (((bt s i).toNat:Int)<32)||decide (126<((bt s i).toNat:Int))) then Lv i 4
   else Gw s (n-1) (i+1) (b ++ [bt s i])
  else Lv s.length 4:=by
 cases n with
 | zero=>omega
 | succ n=>rfl
theorem cY (t:Aq):0≤(Io t).2∧(Io t).2≤t.length:=by
 unfold Io
 split
 · rename_i h;simp at h;simp;omega
 ·
  split
  ·
   rename_i h;simp at h
   split <;> simp;omega
  · simp
theorem dI (b:Aq)(c:UInt8):B1 (b ++ [c])=B1 b ++ [[AV.int .u8 (c.toNat:Int)]]:=Gg b [c]
theorem Zd {es:List (List AV)}{b:Aq}(h:es=B1 b)(c:UInt8):es ++ [[AV.int .u8 (c.toNat:Int)]]=B1 (b ++ [c]):=by rw [h,dI]
theorem Zs {b:Aq}{n m:Nat}(h:b.length≤n)(hm:n<m)(c:UInt8):(b ++ [c]).length≤m:=by simp;omega
def recL:List (List AV):=[[.fn (.func 276) [] []],[.fn (.func 277) [] []],[.fn (.func 278) [] []]]
def jA:Nat→Aq→Fo
 | 0,s=>J4 s
 | 1,s=>Fh s
 | _,s=>Ix s
theorem qR (k:Nat)(h:k<3):recL[k]? = some [.fn (.func (276+k)) [] []]:=by
 match k,h with
 | 0,_=>rfl
 | 1,_=>rfl
 | 2,_=>rfl
theorem yI (k:Nat)(h:k<3):Oo Tryz.prog (276+k)=true:=by
 match k,h with
 | 0,_=>exact (by kernel_rfl:Oo Tryz.prog 276=true)
 | 1,_=>exact (by kernel_rfl:Oo Tryz.prog 277=true)
 | 2,_=>exact (by kernel_rfl:Oo Tryz.prog 278=true)
theorem kO {s:Aq}{k:Nat}(h:k<3)(hk:∀j,j<k→Lx (jA j s)=false)(hc:Lx (jA k s)=true):Cw s=jA k s:=by
 unfold Cw
 match k,h with
 | 0,_=>rw [if_pos (show Lx (J4 s)=true from hc)];rfl
 | 1,_=>rw [if_neg (Bool.eq_false_iff.mp (show Lx (J4 s)=false from hk 0 (by omega))),if_pos (show Lx (Fh s)=true from hc)];rfl
 | 2,_=>rw [if_neg (Bool.eq_false_iff.mp (show Lx (J4 s)=false from hk 0 (by omega))),if_neg (Bool.eq_false_iff.mp (show Lx (Fh s)=false from hk 1 (by omega))),if_pos (show Lx (Ix s)=true from hc)];rfl
theorem gB {s:Aq}(hk:∀j,j<3→Lx (jA j s)=false):Cw s=Ru s:=by
 unfold Cw
 rw [if_neg (Bool.eq_false_iff.mp (show Lx (J4 s)=false from hk 0 (by omega))),if_neg (Bool.eq_false_iff.mp (show Lx (Fh s)=false from hk 1 (by omega))),if_neg (Bool.eq_false_iff.mp (show Lx (Ix s)=false from hk 2 (by omega)))]

theorem c56 (s:Aq)(hl:s.length≤1048576)(h0:0<s.length):Ap Tryz.prog 278 [.str s] (.agg (cFo (Ix s))):=by
 refine Ap.body (n:=71) tok Tryz.func278 rfl rfl rfl fun H=>?_
 refine Ad ?_
 refine Qe (An (l:=[.int .i64 0,.str [],.int .i64 0,.int .i64 0,.int .i64 0,.int .i64 0]) (by kernel_rfl)) ?_
 rintro _ _ ⟨b2,rfl,rfl⟩
 refine Aa (AW.seq (Ad (Qp Dh ?_)))
 refine Qp (Bs tok rfl rfl rfl rfl (by omega) (D6 (i:=0) h0)) ?_
 refine Qp B9 (Aa (Au (fun hc1=>?_) fun hc1=>?_))
 ·
  refine Ad (Qp (Ea [Iq _,.str _,Iq _,Iq _,Iq _,Iq _]) ?_)
  refine B0 0 [Iq _,.str _,Iq _,Iq _,Iq _,Iq _] (_::_) ?_
  refine Aa (Cx ?_)
  refine ⟨.inr rfl,[.agg [Iq _,.str _,Iq _,Iq _,Iq _,Iq _]],.cons (.box _ _ _ 0 _ _ _ _ rfl rfl rfl rfl rfl rfl) <| .nil,.cons _ (.refl _),?_⟩
  simp only [Ae,Ix]
  (first | rw [if_pos hc1] | skip)
  first | done | rfl
 ·
  refine Bl (Ad (Qp N8 ?_))
  refine AOL.ghost (GS.row (t:=3) 5 1 rfl) ?_
  refine Aa (AW.seq (Ad (Qp A0 (Aa (AW.block ?_)))))
  refine AW.Aat (fun (p:Nat×Nat×Aq×List (List AV)×Value)=>(⟨[(0,.str s),(2,.val (.pointer (some ⟨b2,0,none⟩))),(3,.row p.2.2.2.2 1 p.2.2.2.1),(4,.int .i64 (p.2.1:Int))],.row p.2.2.2.2 p.2.2.2.1.length 5 1 :: .box b2 256 [.int .i64 0,.str [],.int .i64 0,.int .i64 0,.int .i64 0,.int .i64 0]::H,71⟩:St)) (fun (p:Nat×Nat×Aq×List (List AV)×Value)=>p.2.1≤s.length∧s.length<p.1+p.2.1∧p.2.2.2.1=B1 p.2.2.1∧p.2.2.1.length≤p.2.1∧Gw s (s.length+1) 1 []=Gw s p.1 p.2.1 p.2.2.1) (fun (p:Nat×Nat×Aq×List (List AV)×Value)=>p.1) ((s.length+1,1,[],[],.slice none 0 0)) ?_ (GS.weaken ⟨rfl,rfl,rfl,rfl,trivial⟩ (.refl _)) ?_
  · exact ⟨h0,by simp only;omega,rfl,Nat.zero_le _,rfl⟩
  ·
   rintro p hR
   have hle:p.2.1≤s.length:=hR.1
   have hfu:s.length<p.1+p.2.1:=hR.2.1
   have hes:p.2.2.2.1=B1 p.2.2.1:=hR.2.2.1
   have hbl:p.2.2.1.length≤p.2.1:=hR.2.2.2.1
   have hn:0<p.1:=by omega
   have hsc:∀c∈p.2.2.2.1,Ba c=true:=by rw [hes];exact Ux _
   have hel:p.2.2.2.1.length≤s.length:=by rw [hes,H9];omega
   refine AW.seq (Ad (Qp A4 (Qp Dh ?_)))
   refine Qp (Bx tok rfl rfl rfl rfl) ?_
   refine Qp B7 (Aa (Au (fun hc2=>?_) fun hc2=>?_))
   ·
    have hi:p.2.1<s.length:=by simp at hc2;omega
    have hel2:=cY (s.drop p.2.1)
    rw [List.length_drop] at hel2
    refine Bl (AW.block (Ad (Qp Dh (Qp A4 ?_))))
    refine Qp (Bs tok rfl rfl rfl rfl (by omega) (D6 (i:=p.2.1) hi)) ?_
    refine Qp (A6 (v:=.int .u8 _) rfl) ?_
    refine Aa (AW.block (Ad ?_))
    refine Qp (A1 (v:=.int .u8 _) rfl) ?_
    refine Qp Av (Qp A3 (Aa (Au (fun hc3=>?_) fun hc3=>?_)))
    ·
     refine AW.seq (Ad ?_)
     refine Qp (A1 (v:=.row _ _ _) rfl) ?_
     refine Qp (Dx (n:=p.2.2.1.length) tok rfl rfl rfl (by rw [hes,H9])) ?_
     refine Qp D2 (Aa (Au (fun hc4=>?_) fun hc4=>?_))
     ·
      refine Ad (Qp (Ea [Iq _,.str _,Iq _,Iq _,Iq _,Iq _]) ?_)
      refine B0 1 [Iq _,.str _,Iq _,Iq _,Iq _,Iq _] (_::_::_) ?_
      refine Aa (Cx (Ao (Ao (Ai (Ao (Ai ?_))))))
      refine ⟨.inr rfl,[.agg [Iq _,.str _,Iq _,Iq _,Iq _,Iq _]],.cons (.box _ _ _ 1 _ _ _ _ rfl rfl rfl rfl rfl rfl) <| .nil,.cons _ (.cons _ (.refl _)),?_⟩
      have h9:Ix s=Lv 0 13:=by
       unfold Ix
       rw [iN hc1,hR.2.2.2.2,Jm hn,if_pos hc2,if_pos hc3,if_pos hc4]
      rw [h9];first | done | rfl
     ·
      refine Bl (Ad ?_)
      refine Qp (A1 (v:=.row _ _ _) rfl) ?_
      refine Qp (N0 (s:=p.2.2.1) tok rfl rfl rfl rfl rfl rfl rfl (by simp [maxLen];omega) (bL hes)) ?_
      refine Qp (Ea [Iq _,.str _,Iq _]) (Qp A4 (Qp Ei (Qp (Ea [Iq _,.str _,Iq _,Iq _,Iq _,Iq _]) ?_)))
      refine B0 1 [Iq _,.str _,Iq _,Iq _,Iq _,Iq _] (_::_::_) ?_
      refine Aa (AW.ret (Ao (Ao (Ai (Ao (Ai ?_))))))
      refine ⟨.inr rfl,[.agg [Iq _,.str _,Iq _,Iq _,Iq _,Iq _]],.cons (.box _ _ _ 1 _ _ _ _ rfl rfl rfl rfl rfl rfl) <| .nil,.cons _ (.cons _ (.refl _)),?_⟩
      have h9:Ix s=fA 2 p.2.2.1 ((p.2.1:Int)+1):=by
       unfold Ix
       rw [iN hc1,hR.2.2.2.2,Jm hn,if_pos hc2,if_pos hc3,iN hc4]
      rw [h9];first | done | rfl
    ·
     refine Ad ?_
     refine Qp (A1 (v:=.int .u8 _) rfl) ?_
     refine Qp Av (Qp A3 (Aa (Au (fun hc5=>?_) fun hc5=>?_)))
     ·
      refine Ad (Qp Dh (Qp A4 ?_))
      refine Qp (G5 (l:=p.2.1) (h:=s.length) tok rfl rfl rfl (⟨_,rfl⟩) (rfl) (hle) (Nat.le_refl _) (congrArg (List.drop _) List.take_length)) ?_
      refine Qp (Qc rfl (c70 (s.drop p.2.1) (by rw [List.length_drop];omega))) ?_
      refine Qp L0 ?_
      refine Qp (Cc (v:=.int .u8 _) rfl rfl) ?_
      refine Qp Jw ?_
      refine Qp (A6 (v:=.int .u8 _) rfl) ?_
      refine Qp A0 (Aa (AW.seq (Ad (Qp A4 (Qp Av (Aa (Au (fun hc6=>?_) fun hc6=>?_)))))))
      ·
       refine Ad (Qp A4 (Qp (Ea [Iq _,.str _,Iq _,Iq _,Iq _,Iq _]) ?_))
       refine B0 1 [Iq _,.str _,Iq _,Iq _,Iq _,Iq _] (_::_::_) ?_
       refine Aa (Cx (Ao (Ao (Ai (Ao (Ai ?_))))))
       refine ⟨.inr rfl,[.agg [Iq _,.str _,Iq _,Iq _,Iq _,Iq _]],.cons (.box _ _ _ 1 _ _ _ _ rfl rfl rfl rfl rfl rfl) <| .nil,.cons _ (.cons _ (.refl _)),?_⟩
       have h9:Ix s=Lv p.2.1 4:=by
        unfold Ix
        rw [iN hc1,hR.2.2.2.2,Jm hn,if_pos hc2,iN hc3,if_pos hc5,if_pos hc6]
       rw [h9];first | done | rfl
      ·
       have hne:(Io (s.drop p.2.1)).2≠0:=by simpa using hc6
       refine Bl (Ad ?_)
       refine Qp (A1 (v:=.row _ _ _) rfl) ?_
       refine Qp (A1 (v:=.int .u8 _) rfl) ?_
       refine Qp (Am (es:=[[.int .u8 _]]) tok rfl rfl rfl rfl rfl rfl rfl rfl rfl) ?_
       refine Qe (Ci (k:=0) tok rfl rfl rfl rfl rfl rfl rfl rfl (D7 rfl) (hsc) (by simp;omega) (by simp [maxLen];omega)) ?_
       rintro _ _ ⟨v55,rfl,rfl⟩
       refine Qp (A6 (v:=.row _ _ _) rfl) ?_
       refine Aa (AW.region (Qp A4 (Qp A4 (Qp Ei (Qp A0 (AOL.nil (Bc (Bc (Af ?_)))))))))
       refine ⟨(p.1-1,p.2.1+(Io (s.drop p.2.1)).2.toNat,p.2.2.1 ++ [(Io (s.drop p.2.1)).1],p.2.2.2.1 ++ [[.int .u8 ((Io (s.drop p.2.1)).1.toNat:Int)]],v55),?_,?_,GS.weaken ⟨rfl,rfl,rfl,congrArg (AV.int .i64) (by simp only;omega),trivial⟩ (.refl _)⟩
       · exact ⟨by simp only;omega,by simp only;omega,Zd hes _,Zs hbl (by simp only;omega) _,hR.2.2.2.2.trans (by rw [Jm hn,if_pos hc2,iN hc3,if_pos hc5,iN hc6])⟩
       · simp only;omega
     ·
      refine Ad ?_
      refine Qp (A1 (v:=.int .u8 _) rfl) ?_
      refine Qp B7 (Qp Bq ?_)
      refine AOL.Aap (y:=.int .u8 _) _ [] rfl (iB.all trivial) (fun hG=>A1 (v:=.int .u8 _) rfl) rfl ?_
      refine Qg [(63,_)] Qw D2 (Qp Cy (Qp A3 (Aa (Au (fun hc7=>?_) fun hc7=>?_))))
      ·
       refine Ad (Qp A4 (Qp (Ea [Iq _,.str _,Iq _,Iq _,Iq _,Iq _]) ?_))
       refine B0 1 [Iq _,.str _,Iq _,Iq _,Iq _,Iq _] (_::_::_) ?_
       refine Aa (AW.ret (Ao (Ao (Ai (Ao (Ai ?_))))))
       refine ⟨.inr rfl,[.agg [Iq _,.str _,Iq _,Iq _,Iq _,Iq _]],.cons (.box _ _ _ 1 _ _ _ _ rfl rfl rfl rfl rfl rfl) <| .nil,.cons _ (.cons _ (.refl _)),?_⟩
       have h9:Ix s=Lv p.2.1 4:=by
        unfold Ix
        rw [iN hc1,hR.2.2.2.2,Jm hn,if_pos hc2,iN hc3,iN hc5,if_pos hc7]
       rw [h9];first | done | rfl
      ·
       refine Ad ?_
       refine Qp (A1 (v:=.row _ _ _) rfl) ?_
       refine Qp (A1 (v:=.int .u8 _) rfl) ?_
       refine Qp (Am (es:=[[.int .u8 _]]) tok rfl rfl rfl rfl rfl rfl rfl rfl rfl) ?_
       refine Qe (Ci (k:=0) tok rfl rfl rfl rfl rfl rfl rfl rfl (D7 rfl) (hsc) (by simp;omega) (by simp [maxLen];omega)) ?_
       rintro _ _ ⟨v22,rfl,rfl⟩
       refine Qp (A6 (v:=.row _ _ _) rfl) ?_
       refine Aa (AW.region (Qp A4 (Qp Ei (Qp A0 (AOL.nil (Bc (Bc (Af ?_))))))))
       refine ⟨(p.1-1,p.2.1+1,p.2.2.1 ++ [bt s p.2.1],p.2.2.2.1 ++ [[.int .u8 ((bt s p.2.1).toNat:Int)]],v22),?_,?_,GS.weaken ⟨rfl,rfl,rfl,rfl,trivial⟩ (.refl _)⟩
       · exact ⟨by simp only;omega,by simp only;omega,Zd hes _,Zs hbl (by simp only;omega) _,hR.2.2.2.2.trans (by rw [Jm hn,if_pos hc2,iN hc3,iN hc5,iN hc7])⟩
       · simp only;omega
   ·
    refine AW.exit ?_
    refine A7 (A7 (Bp (Af (Ad (Qp Dh ?_)))))
    refine Qp (Bx tok rfl rfl rfl rfl) ?_
    refine Qp (Ea [Iq _,.str _,Iq _,Iq _,Iq _,Iq _]) ?_
    refine B0 1 [Iq _,.str _,Iq _,Iq _,Iq _,Iq _] (_::_::_) ?_
    refine Aa (AW.ret ?_)
    refine ⟨.inr rfl,[.agg [Iq _,.str _,Iq _,Iq _,Iq _,Iq _]],.cons (.box _ _ _ 1 _ _ _ _ rfl rfl rfl rfl rfl rfl) <| .nil,.cons _ (.cons _ (.refl _)),?_⟩
    have h9:Ix s=Lv s.length 4:=by
     unfold Ix
     rw [iN hc1,hR.2.2.2.2,Jm hn,iN hc2]
    rw [h9];first | done | rfl
theorem nA (s:Aq)(hl:s.length≤1048576)(h0:0<s.length)(k:Nat)(h:k<3):Ap Tryz.prog (276+k) [.str s] (.agg (cFo (jA k s))):=by
 match k,h with
 | 0,_=>exact c54 s hl h0
 | 1,_=>exact c55 s hl h0
 | 2,_=>exact c56 s hl h0

theorem c33 (s:Aq)(hl:s.length≤1048576)(h0:0<s.length):Ap Tryz.prog 222 [.str s] (.agg (cFo (Cw s))):=by
 refine Ap.body (n:=27) tok Tryz.func222 rfl rfl rfl fun H=>?_
 refine Ad ?_
 refine Qe (An (l:=[.int .i64 0,.str [],.int .i64 0,.int .i64 0,.int .i64 0,.int .i64 0]) (by kernel_rfl)) ?_
 rintro _ _ ⟨b2,rfl,rfl⟩
 refine Aa (AW.seq (Ad ?_))
 refine Qp (Am (es:=[[_],[_],[_]]) tok rfl rfl rfl rfl rfl rfl rfl rfl rfl) ?_
 refine Qp (Ax tok rfl rfl rfl rfl) ?_
 refine Qp A4 (Aa (AW.block ?_))
 refine AW.Aat (fun (k:Nat)=>(⟨[(0,.str s),(2,.val (.pointer (some ⟨b2,0,none⟩))),(6,.sl 1 recL),(7,.int .i64 3),(8,.int .i64 (k:Int))],.box b2 256 [.int .i64 0,.str [],.int .i64 0,.int .i64 0,.int .i64 0,.int .i64 0]::H,27⟩:St)) (fun (k:Nat)=>k≤3∧∀j,j<k→Lx (jA j s)=false) (fun (k:Nat)=>3-k) (0) ?_ (GS.weaken ⟨rfl,rfl,rfl,rfl,rfl,trivial⟩ (.refl _)) ?_
 · exact ⟨Nat.zero_le _,fun j hj=>absurd hj (Nat.not_lt_zero _)⟩
 ·
  rintro k hR
  refine Ad (Qp B7 (Aa (AW.seq (Au (fun hc1=>?_) fun hc1=>?_))))
  ·
   have hk:k<3:=by simp at hc1;omega
   refine Bl (AW.seq (AW.block (Ad ?_)))
   refine Qp (Ag (c:=[.fn (.func (276+k)) [] []]) tok rfl rfl rfl rfl rfl rfl (by omega) (qR k hk)) ?_
   refine Qp (De (c:=.fn _ _ _) tok rfl rfl rfl) ?_
   refine Qp (A6 (v:=.fn _ _ _) rfl) ?_
   refine By ?_
   refine Qp (A1 (v:=.fn _ _ _) rfl) ?_
   refine Qp Dh ?_
   refine Qp (Lj (yI k hk) rfl rfl rfl (nA s hl h0 k hk)) ?_
   refine Qe (An (l:=[.int .i64 0,.str [],.int .i64 0,.int .i64 0,.int .i64 0,.int .i64 0]) (by kernel_rfl)) ?_
   rintro _ _ ⟨b5,rfl,rfl⟩
   refine B0 0 [Iq _,.str _,Iq _,Iq _,Iq _,Iq _] (_::_::_) ?_
   refine AOL.ghost (GS.freeze (t:=5) 0 rfl rfl) ?_
   refine By (Qp (Qf [Iq _,Iq _,Iq _]) (Qp Bt (Qp D2 (Qp Bq (Qg [] Qw (Qf [Iq _]) (Qg [(19,_)] Qw Bt (Qg [(20,_)] Qw B9 (Qp Cy (Aa (Au (fun hc2=>?_) fun hc2=>?_))))))))))
   ·
    refine Ad (Qp (B2 [Iq _,.str _,Iq _,Iq _,Iq _,Iq _]) ?_)
    refine B0 0 [Iq _,.str _,Iq _,Iq _,Iq _,Iq _] (_::_) ?_
    refine Aa (AW.ret (Ao (Ai (Ai (Ao (Ai ?_))))))
    refine ⟨.inr rfl,[.agg [Iq _,.str _,Iq _,Iq _,Iq _,Iq _]],.cons (.box _ _ _ 0 _ _ _ _ rfl rfl rfl rfl rfl rfl) <| .nil,.cons _ (.refl _),?_⟩
    rw [kO hk hR.2 hc2];first | done | rfl
   ·
    refine AW.skip (Bc (Af (AW.region (Qp Ei (Qp A4 (Aa ?_))))))
    refine ⟨k+1,?_,?_,GS.weaken ⟨rfl,rfl,rfl,rfl,rfl,trivial⟩ (.refl _)⟩
    · exact ⟨hk,fun j hj=>by rcases Nat.lt_succ_iff_lt_or_eq.1 hj with h | rfl;exact hR.2 j h;exact hc2⟩
    · omega
  ·
   have hk:k=3:=by simp at hc1;have:=hR.1;omega
   refine AW.exit ?_
   refine A7 (A7 (Bp (Af (Ad (Qp Dh ?_)))))
   refine Qp (Qc rfl (c57 s)) ?_
   refine B0 0 [Iq _,.str _,Iq _,Iq _,Iq _,Iq _] (_::_) ?_
   refine Aa (AW.ret ?_)
   refine ⟨.inr rfl,[.agg [Iq _,.str _,Iq _,Iq _,Iq _,Iq _]],.cons (.box _ _ _ 0 _ _ _ _ rfl rfl rfl rfl rfl rfl) <| .nil,.cons _ (.refl _),?_⟩
   have h9:Cw s=Ru s:=by subst hk;exact gB hR.2
   rw [h9];first | done | rfl

end Go.Proofs.YtckhoadldibflaaGreatDoor
