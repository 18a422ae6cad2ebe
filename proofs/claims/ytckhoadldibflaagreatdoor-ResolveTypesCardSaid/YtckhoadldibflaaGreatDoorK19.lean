/-
  Several texts in one: R7w, EW1. No condition.
-/
import Derived.Test.YtckhoadldibflaaGreatDoorK01
import Derived.Test.YtckhoadldibflaaGreatDoorK14
import Derived.Test.YtckhoadldibflaaGreatDoorK18
import Derived.KernelRfl
import Derived.Test.YtckhoadldibflaaGreatDoorK03
import Derived.Test.YtckhoadldibflaaGreatDoorTab
set_option linter.unusedVariables false
set_option linter.unusedSimpArgs false
namespace Go.Proofs.YtckhoadldibflaaGreatDoor
open Go Go.Aw
set_option maxHeartbeats 3200000
set_option maxRecDepth 20000

theorem nT (H:List HO)(n:Nat)(h0:0<n)(hn:n≤1048576):Bw Tryz.prog 167 H [.sl 1 [[.int .i64 (-1)]],.int .i64 (n:Int)] (fun r H'=>∃b,r = .val (.slice (some ⟨b,0,none⟩) n n)∧H' = .box b 3 (bI (aL n))::H):=by
 have hmx:1048576≤maxLen:=by decide
 refine Bw.body (n:=48) tok Tryz.func167 rfl rfl rfl ?_
 refine Ad ?_
 refine Qp (Bk (z:=1) rfl) ?_
 refine Aa (AW.seq (Ad (Qp A4 (Qp B7 (Aa (Au (fun hc1=>?_) fun hc1=>?_))))))
 ·
  have:=of_decide_eq_true hc1
  omega
 ·
  refine Bl (Ad (Qp K4 ?_))
  refine Qp (Ax (n:=1) tok rfl rfl rfl (rfl)) ?_
  refine Qp (N5 (m:=1) tok rfl rfl rfl rfl rfl (rfl)) ?_
  refine Qp A4 ?_
  refine Qp (N5 (m:=(n:Int)) tok rfl rfl rfl rfl rfl (zA hn)) ?_
  refine Qp (Qc rfl (kMul1 n hn)) ?_
  refine Qp L0 ?_
  refine Qp (Cc (v:=.int .u64 _) rfl rfl) ?_
  refine Qp (Cc (v:=.int .u64 _) rfl rfl) ?_
  refine Qp (A6 (v:=.int .u64 _) rfl) ?_
  refine Qp (A6 (v:=.int .u64 _) rfl) ?_
  refine Aa (AW.seq (Ad ?_))
  refine Qp (A1 (v:=.int .u64 _) rfl) ?_
  refine Qp D2 (Qp Bq ?_)
  refine AOL.Aap (y:=.int .u64 _) _ [] rfl (iB.all trivial) (fun hG=>A1 (v:=.int .u64 _) rfl) rfl ?_
  refine Qg [(24,_)] Qw D2 (Qp Cy (Aa (Au (fun hc2=>?_) fun hc2=>?_)))
  ·
   exact absurd hc2 (by simp;omega)
  ·
   refine Bl (Ad ?_)
   refine Qp (A1 (v:=.int .u64 _) rfl) ?_
   refine Qp (N5 (m:=(n:Int)) tok rfl rfl rfl rfl rfl (i64_in hn)) ?_
   refine Qe (aB (n:=n) tok rfl rfl rfl rfl rfl rfl rfl (by show 8*n≤_;omega) (by omega)) ?_
   rintro _ _ ⟨b30,rfl,rfl⟩
   refine Qp N8 ?_
   refine AOL.ghost (GS.cells 0 rfl ((rM n).trans (congrArg bI (show List.replicate n 0=Je n 0 by simp [Je])))) ?_
   refine By (Qp Br (Qp K4 ?_))
   refine Qe (lZ (k:=0) (m:=1) (cs':=bI (Je n 1)) (H2:=_::_) tok rfl rfl rfl rfl rfl rfl rfl (by simp) (D7 rfl) (Nat.min_eq_left (by show 1≤n;omega)) (by rw [Ut,Us (by omega)];omega) (cO h0) rfl) ?_
   rintro _ _ ⟨rfl,rfl⟩
   refine Qp A0 (Aa (AW.seq (AW.block ?_)))
   refine AW.Aat (fun (k:Nat)=>(⟨[(7,.val (.slice (some ⟨b30,0,none⟩) n n)),(8,.int .i64 (k:Int))],.box b30 3 (bI (Je n k))::H,48⟩:St)) (fun (k:Nat)=>1≤k∧k≤n) (fun (k:Nat)=>n-k) (1) ?_ (GS.weaken ⟨rfl,rfl,trivial⟩ (.refl _)) ?_
   · exact ⟨Nat.le_refl _,h0⟩
   ·
    rintro k hR
    refine AW.seq (Ad (Qp A4 (Qp Br ?_)))
    refine Qp (hJ tok rfl rfl rfl) ?_
    refine Qp B7 (Aa (Au (fun hc3=>?_) fun hc3=>?_))
    ·
     have hlt:k<n:=by have:=of_decide_eq_true hc3;omega
     refine Bl (AW.block ?_)
     refine AW.draw mixed (fun _=>True) trivial (by kernel_rfl) ?_
     refine Qn 0 rfl A4 (Qn 1 rfl Br (Qn 2 rfl A4 ?_))
     refine Qn 3 rfl (Sd (l:=k) (h:=n) (o':=k) tok rfl rfl rfl rfl rfl (⟨_,rfl⟩) (rfl) (by omega) (by omega) (by omega) (by omega) (by simp)) ?_
     refine Qn 4 rfl Br (Qn 5 rfl A4 ?_)
     refine Qn 6 rfl (Sd (l:=0) (h:=k) (o':=0) tok rfl rfl rfl rfl rfl (rfl) (⟨_,rfl⟩) (by omega) (by omega) (by omega) (by omega) (rfl)) ?_
     refine Hs.eff _ _ 7 _ _ rfl (by kernel_rfl) rfl rfl (gE (k:=0) (m:=min k (n-k)) (cs':=bI (Je n (k+min k (n-k)))) (H2:=_::_) tok rfl rfl rfl rfl rfl rfl rfl (bI_sc _) (by first | rfl | (simp only [Nat.sub_zero];done) | (simp only [Nat.sub_zero];rfl)) (by rw [Ut,Us hR.2];omega) (by rw [Ut,Us hR.2];omega) (gK (by omega) (by omega)) rfl) (fun _ _ _=>trivial) ?_
     rintro _ _ ⟨rfl,rfl⟩
     refine Qn 8 rfl Ei (Qn 9 rfl A0 ?_)
     refine Hs.done _ _ (by kernel_rfl) ?_
     refine Bc (Af ?_)
     refine ⟨k+min k (n-k),?_,?_,GS.weaken ⟨rfl,rfl,trivial⟩ (.refl _)⟩
     · omega
     · omega
    ·
     have hkn:k=n:=by have:=of_decide_eq_false hc3;omega
     refine AW.exit ?_
     refine A7 (A7 (Bp (Af (Ad (Qp Br (Qp N8 (Aa (AW.ret ?_))))))))
     refine ⟨.inr rfl,[.val _],.cons (.tmp _ _ rfl) <| .nil,_,.refl _,?_⟩
     exact ⟨b30,rfl,congrArg (fun l=>HO.box b30 3 (bI l)::H) ((congrArg (Je n) hkn).trans (iG n))⟩
theorem zN (T:List e8Sc)(V:List Va)(s:Nx)(bp:Nat)(hrv:RvOK T V)(n:Aq)(hT:0<T.length):Bd Tryz.prog 97 bp 159 (Qi T V s) (Qi T V s) [.val (.pointer (some ⟨bp,0,none⟩)),.str n] (.tuple [.sl 1 ((bB T V n).1.map cI),.bool (bB T V n).2]):=by
 intro H
 have htl:=hrv.tl
 have hvl:=hrv.vl
 refine Bw.body (n:=47) tok Tryz.func97 rfl rfl rfl ?_
 refine Ad ?_
 refine Qp (Bk (z:=1) rfl) ?_
 refine Qp A3 (By ?_)
 refine Qp (Am (es:=[[Iq _]]) tok rfl rfl rfl rfl rfl rfl rfl rfl rfl) ?_
 refine Qp Br ?_
 refine Qp (Ak rfl) ?_
 refine Qp Cb ?_
 refine AOL.Aaq (Aj (k:=0) (c:=.sl _ _) tok rfl rfl rfl rfl) rfl rfl ?_
 refine Qp (Ax (n:=T.length) tok rfl rfl rfl (by simp)) ?_
 refine Qe (Al (by kernel_rfl) rfl rfl (nT _ T.length hT hrv.tl)) ?_
 rintro _ _ ⟨b15,rfl,rfl⟩
 refine Qp N8 (Aa (AW.seq (Ad (Qp Br ?_))))
 refine Qp (Ak rfl) ?_
 refine Qp Cb ?_
 refine AOL.Aaq (Aj (k:=1) (c:=.sl _ _) tok rfl rfl rfl rfl) rfl rfl ?_
 refine Qp (Ax (n:=V.length) tok rfl rfl rfl (by simp)) ?_
 refine Qp A4 (Aa (AW.block ?_))
 refine AW.Aat (fun (q:Nat×List Int)=>(⟨[(0,.val (.pointer (some ⟨bp,0,none⟩))),(1,.str n),(6,.val (.slice (some ⟨b15,0,none⟩) T.length T.length)),(19,.sl 2 (V.map O1)),(20,.int .i64 V.length),(21,.int .i64 (q.1:Int))],.box b15 3 (bI q.2) :: .box bp 159 (Qi T V s)::H,47⟩:St)) (fun (q:Nat×List Int)=>q.1≤V.length∧q.2.length=T.length∧bB T V n=Xn T n (V.drop q.1) q.2) (fun (q:Nat×List Int)=>V.length-q.1) ((0,aL T.length)) ?_ (GS.weaken ⟨rfl,rfl,rfl,rfl,rfl,rfl,trivial⟩ (.refl _)) ?_
 · exact ⟨Nat.zero_le _,by simp [aL],rfl⟩
 ·
  rintro q hR
  refine Ad (Qp B7 (Aa (AW.seq (Au (fun hc1=>?_) fun hc1=>?_))))
  ·
   obtain ⟨a,ha⟩:=Dl hc1
   have hlt:=Cm ha
   have hm:=List.mem_of_getElem? ha
   have hvt:=hrv.ty a hm
   refine (Ye hrv hm).elim fun sc hsc=>?_
   have hfl:=hrv.fl sc (List.mem_of_getElem? hsc)
   have hb:a.type.toNat<q.2.length:=by have:=hR.2.1;omega
   refine Bl (AW.seq (AW.block (Ad ?_)))
   refine Qp (Ag (c:=[.str _,Iq _]) tok rfl rfl rfl rfl rfl rfl (by omega) (Ff ha)) ?_
   refine Qp (B2 [.str _,Iq _]) ?_
   refine Qe (An (l:=[.str [],.int .i64 0]) (by kernel_rfl)) ?_
   rintro _ _ ⟨b8,rfl,rfl⟩
   refine B0 0 [.str _,Iq _] (_::_::_::_) ?_
   refine AOL.ghost (GS.freeze (t:=8) 0 rfl rfl) ?_
   refine Aa (AW.seq ?_)
   refine AW.draw mixed (fun H'=>_∈H') (List.mem_of_getElem? (i:=1) rfl) (by kernel_rfl) ?_
   refine Qn 0 rfl Br (Qn 1 rfl (Qf [Iq _]) (Qn 2 rfl Bt (Qn 3 rfl Br ?_)))
   refine Qn 4 rfl (Ak rfl) ?_
   refine Qn 5 rfl Cb ?_
   refine Qn 6 rfl (OpP.Aas (fun k=>Aj (k:=k) (c:=.sl _ _) tok rfl rfl rfl rfl) (fun _ h=>h)) ?_
   refine Qn 7 rfl (Qf [Iq _]) (Qn 8 rfl Bt ?_)
   refine Qn 9 rfl (Ag (c:=[.str _,_]) tok rfl rfl rfl rfl rfl rfl (hvt.1) (Ff hsc)) ?_
   refine Qn 10 rfl (B2 [.str _,_]) (Qn 11 rfl Dh ?_)
   refine Qn 12 rfl (Qc rfl (J7 sc hfl n)) ?_
   refine Qn 13 rfl (D9 (o':=a.type.toNat) tok rfl rfl rfl rfl rfl (hvt.1) (hvt.2) (off0 _)) ?_
   refine Hs.last _ _ 14 _ _ rfl (by kernel_rfl) rfl rfl (Be (k:=0) (v:=Iq _) (cs':=bI (q.2.set a.type.toNat (Ho sc n))) (H2:=_::_::_) tok rfl rfl rfl rfl rfl rfl (qP hb) (lP hb) rfl) (by kernel_rfl) ?_
   rintro _ _ ⟨rfl,rfl⟩
   refine Af (Ad (Qp Br (Qp (Qf [Iq _]) (Qp Bt ?_))))
   refine Qp (D9 (o':=a.type.toNat) tok rfl rfl rfl rfl rfl (hvt.1) (hvt.2) (off0 _)) ?_
   refine AOL.Aaq (Aj (k:=0) (c:=.int .i64 (Ho sc n)) tok rfl rfl rfl (iP hb)) rfl rfl ?_
   refine Qp B7 (Aa (Au (fun hc2=>?_) fun hc2=>?_))
   ·
    refine Ad ?_
    refine Qp (Bk (z:=1) rfl) ?_
    refine Qp A3 (Aa (AW.ret (Ao (Ai (Ai (Ao (Ai ?_)))))))
    refine ⟨.inr rfl,[.sl _ _,.bool _],.cons (.tmp _ _ rfl) <| .cons (.tmp _ _ rfl) <| .nil,_,.cons _ (.refl _),?_⟩
    exact ⟨Eq.trans rfl (congrArg (fun q:List Int×Bool=>AV.tuple [.sl 1 (q.1.map cI),.bool q.2]) (hR.2.2.trans (rZ ha hsc hc2))).symm,rfl⟩
   ·
    refine AW.skip (Bc (Af (AW.region (Qp Ei (Qp A4 (Aa ?_))))))
    refine ⟨(q.1+1,q.2.set a.type.toNat (Ho sc n)),?_,?_,GS.weaken ⟨rfl,rfl,rfl,rfl,rfl,rfl,trivial⟩ (.refl _)⟩
    · exact ⟨hlt,by simp only [List.length_set];exact hR.2.1,hR.2.2.trans (xG ha hsc hc2)⟩
    · simp only;omega
  ·
   have hde:=Hd hc1
   have hall:=hR.2.2
   rw [hde] at hall
   refine AW.exit ?_
   refine A7 (A7 (Bp (Af (Ad ?_))))
   refine AOL.ghost (GS.freezeSl (t:=6) (z:=1) (es:=q.2.map cI) 0 rfl rfl (tW _) (by rw [List.length_map];exact hR.2.1.symm) (Nat.le_refl _) (by unfold maxLen;omega) (lS (fun _=>rfl) _) sS) ?_
   refine Qp K4 (Qp U8 (Qp A3 (Aa (AW.ret ?_))))
   refine ⟨.inr rfl,[.sl _ _,.bool _],.cons (.tmp _ _ rfl) <| .cons (.tmp _ _ rfl) <| .nil,_,.refl _,?_⟩
   exact ⟨Eq.trans rfl (congrArg (fun q:List Int×Bool=>AV.tuple [.sl 1 (q.1.map cI),.bool q.2]) ((hall.trans (by rw [Xn]):bB T V n=(q.2,true)))).symm,rfl⟩

set_option maxHeartbeats 400000
set_option maxRecDepth 20000

theorem e8c52 (op:Int):Ap Tryz.prog 117 [.int .i64 op] (.tuple [.bool (Gi op).1,.bool (Gi op).2]):=by
 refine Ap.body (n:=11) tok Tryz.func117 rfl rfl rfl fun H=>?_
 refine Ad (Qp A3 (Qp A3 (Aa (AW.seq (Ad (Qp A4 (Aa (AW.block (AW.seq ?_)))))))))
 refine Ad (Qp Av (Qp A3 (Aa (Au (fun hc1=>?_) fun hc1=>?_))))
 ·
  refine Bl (Au (fun hc2=>?_) fun hc2=>?_)
  ·
   refine Ad (Qp A3 (Qp A3 (Aa (AW.ret (Ao (Ai ?_))))))
   refine L1 (.bool _) (.bool _) ?_
   simp_all [Ae,Gi]
  ·
   refine AW.seq (Ad (Qp Av (Qp A3 (Aa (Au (fun hc3=>?_) fun hc3=>?_)))))
   ·
    refine Bl (Au (fun hc4=>?_) fun hc4=>?_)
    ·
     refine Ad (Qp A3 (Qp A3 (Aa (AW.ret (Ao (Ai ?_))))))
     refine L1 (.bool _) (.bool _) ?_
     simp_all [Ae,Gi]
    ·
     refine AW.skip (Bc (Af (Ad (Qp A3 (Qp A3 (Aa (AW.ret ?_)))))))
     refine L1 (.bool _) (.bool _) ?_
     simp_all [Ae,Gi]
   ·
    refine AW.region (Qp Av (Qp A3 (Aa (Au (fun hc5=>?_) fun hc5=>?_))))
    ·
     refine Ad (Qp A3 (Qp A3 (Aa (AW.ret (Ao (Ai ?_))))))
     refine L1 (.bool _) (.bool _) ?_
     simp_all [Ae,Gi]
    ·
     refine AW.skip (Bc (Af (Ad (Qp A3 (Qp A3 (Aa (AW.ret ?_)))))))
     refine L1 (.bool _) (.bool _) ?_
     simp_all [Ae,Gi]
 ·
  refine AW.region (Qp Av (Qp A3 (Aa (Au (fun hc6=>?_) fun hc6=>?_))))
  ·
   refine Ad (Qp A3 (Qp A3 (Aa (AW.ret (Ao (Ai ?_))))))
   refine L1 (.bool _) (.bool _) ?_
   simp_all [Ae,Gi]
  ·
   refine AW.seq (Ad (Qp Av (Qp A3 (Aa (Au (fun hc7=>?_) fun hc7=>?_)))))
   ·
    refine Bl (Au (fun hc8=>?_) fun hc8=>?_)
    ·
     refine Ad (Qp A3 (Qp A3 (Aa (AW.ret (Ao (Ai ?_))))))
     refine L1 (.bool _) (.bool _) ?_
     simp_all [Ae,Gi]
    ·
     refine AW.skip (Bc (Af (Ad (Qp A3 (Qp A3 (Aa (AW.ret ?_)))))))
     refine L1 (.bool _) (.bool _) ?_
     simp_all [Ae,Gi]
   ·
    refine AW.region (Qp Av (Qp A3 (Aa (Au (fun hc9=>?_) fun hc9=>?_))))
    ·
     refine Ad (Qp A3 (Qp A3 (Aa (AW.ret (Ao (Ai ?_))))))
     refine L1 (.bool _) (.bool _) ?_
     simp_all [Ae,Gi]
    ·
     refine AW.skip (Bc (Af (Ad (Qp A3 (Qp A3 (Aa (AW.ret ?_)))))))
     refine L1 (.bool _) (.bool _) ?_
     simp_all [Ae,Gi]
theorem c81 (op:Int):Ap Tryz.prog 116 [.int .i64 op] (.tuple [.int .i64 (Mz op),.bool (decide (0≤op∧op≤12))]):=by
 refine Ap.body (n:=17) tok Tryz.func116 rfl rfl rfl fun H=>?_
 refine Ad (Qp A0 (Qp A3 (Aa (AW.seq (AW.block (Ad (Qp A4 (Qp B7 (Qp Bq ?_)))))))))
 refine Qg [] Qw A4 (Qg [(8,_)] Qw D2 (Qp Cy (Qp A3 (Aa (Au (fun hc1=>?_) fun hc1=>?_)))))
 ·
  refine Ad (Qp A0 (Qp A3 (Aa (AW.ret (Ao (Ai ?_))))))
  refine L1 (Iq _) (.bool _) ?_
  simp only [Bool.or_eq_true,Bool.or_eq_false_iff,decide_eq_true_eq,decide_eq_false_iff_not,beq_iff_eq,beq_eq_false_iff_ne] at *
  simp only [Ae,Mz,AV.tuple.injEq,List.cons.injEq,AV.int.injEq,AV.bool.injEq,true_and,and_true]
  refine ⟨?_,?_⟩
  ·
   repeat' split
   all_goals omega
  · simp <;> omega
 ·
  refine Ad (Qp A4 (Qp B7 (Qp A3 (Aa (Au (fun hc2=>?_) fun hc2=>?_)))))
  ·
   refine Ad (Qp A0 (Qp A3 (Aa (AW.ret (Ao (Ai ?_))))))
   refine L1 (Iq _) (.bool _) ?_
   simp only [Bool.or_eq_true,Bool.or_eq_false_iff,decide_eq_true_eq,decide_eq_false_iff_not,beq_iff_eq,beq_eq_false_iff_ne] at *
   simp only [Ae,Mz,AV.tuple.injEq,List.cons.injEq,AV.int.injEq,AV.bool.injEq,true_and,and_true]
   refine ⟨?_,?_⟩
   ·
    repeat' split
    all_goals omega
   · simp <;> omega
  ·
   refine Ad (Qp A4 (Qp Av (Qp A3 (Aa (Au (fun hc3=>?_) fun hc3=>?_)))))
   ·
    refine Ad (Qp A0 (Qp A3 (Aa (AW.ret (Ao (Ai ?_))))))
    refine L1 (Iq _) (.bool _) ?_
    simp only [Bool.or_eq_true,Bool.or_eq_false_iff,decide_eq_true_eq,decide_eq_false_iff_not,beq_iff_eq,beq_eq_false_iff_ne] at *
    simp only [Ae,Mz,AV.tuple.injEq,List.cons.injEq,AV.int.injEq,AV.bool.injEq,true_and,and_true]
    refine ⟨?_,?_⟩
    ·
     repeat' split
     all_goals omega
    · simp <;> omega
   ·
    refine AW.skip (Bc (Af (Ad (Qp A0 (Qp A3 (Aa (AW.ret ?_)))))))
    refine L1 (Iq _) (.bool _) ?_
    simp only [Bool.or_eq_true,Bool.or_eq_false_iff,decide_eq_true_eq,decide_eq_false_iff_not,beq_iff_eq,beq_eq_false_iff_ne] at *
    simp only [Ae,Mz,AV.tuple.injEq,List.cons.injEq,AV.int.injEq,AV.bool.injEq,true_and,and_true]
    refine ⟨?_,?_⟩
    ·
     repeat' split
     all_goals omega
    · simp <;> omega
theorem pU (v:Vl):Ap Tryz.prog 255 [.agg (cV v)] (.int .i64 (E0 v)):=by
  refine Ap.body (n:=36) tok Tryz.func255 rfl rfl rfl fun H=>?_
  refine AW.seq (AW.region (Qp (Eu [Iq _,Iq _,.str _]) (Qp A0 (AOL.nil (Af (AW.seq (AW.block (AW.seq (AW.region ?_)))))))))
  refine Qp gQ (Qp Bt (Qp Av (Qp Bq (Qg [] Qw Qf6 (Qg [(8,_)] Qw Bt (Qg [(9,_)] Qw B7 (Qg [(10,_)] Qw Bq (Qg [] Qw Qf6 (Qg [(12,_)] Qw Bt ?_)))))))))
  refine Qg [(13,_)] Qw D2 (Qg [(11,_),(14,_)] Qw Cy (Qp Et (Qp A3 (AOL.nil (Af (Au (fun hc1=>?_) fun hc1=>?_))))))
  · skip
    refine AW.seq (AW.region (Qp A0 (AOL.nil (Af (AW.ret (Ao (Ai ?_)))))))
    refine Qr (Iq _) ?_
    try simp only [G6,Bool.and_true] at *
    first
      | (simp only [Ae,E0];(first | rw [if_pos hc1] | skip);first | done | rfl)
      | (try simp only [Bool.not_eq_true',Bool.not_eq_false'] at *
         first
         | (simp only [Ae,E0, *,Bool.false_eq_true,↓reduceIte,Bool.true_or,Bool.or_true,Bool.false_or,Bool.or_false,Bool.true_and,Bool.and_true,Bool.false_and,Bool.and_false,Bool.not_true,Bool.not_false];done)
         | (simp [Ae,E0, *];done)
         | (simp_all [Ae,E0];done))
      | skip
  · skip
    refine AW.seq (AW.region (Qp gQ (Qp Bt (Qp Av (Qp Bq (Qg [] Qw Qf6 (Qg [(22,_)] Qw Bt (Qg [(23,_)] Qw B9 (Qp Et ?_)))))))))
    refine Qp Bq (Qg [] Qw Qf6 (Qg [(27,_)] Qw Bt (Qg [(28,_)] Qw B9 (Qp Et (Qp A3 (AOL.nil (Af (Au (fun hc2=>?_) fun hc2=>?_))))))))
    · skip
      refine AW.seq (AW.region (Qp A0 (AOL.nil (Af (AW.ret (Ao (Ai ?_)))))))
      refine Qr (Iq _) ?_
      try simp only [G6,Bool.and_true] at *
      first
        | (simp only [Ae,E0];(first | rw [iN hc1] | skip);(first | rw [if_pos hc2] | skip);first | done | rfl)
        | (try simp only [Bool.not_eq_true',Bool.not_eq_false'] at *
           first
           | (simp only [Ae,E0, *,Bool.false_eq_true,↓reduceIte,Bool.true_or,Bool.or_true,Bool.false_or,Bool.or_false,Bool.true_and,Bool.and_true,Bool.false_and,Bool.and_false,Bool.not_true,Bool.not_false];done)
           | (simp [Ae,E0, *];done)
           | (simp_all [Ae,E0];done))
        | skip
    · skip
      refine AW.seq (AW.region (Qp Qf7 (Qp Df ?_)))
      refine Qp (Bx tok rfl rfl rfl rfl) ?_
      refine Qp D2 (Qp A3 (AOL.nil (Af (Au (fun hc3=>?_) fun hc3=>?_))))
      · skip
        refine AW.seq (AW.region (Qp A0 (AOL.nil (Af (AW.ret (Ao (Ai ?_)))))))
        refine Qr (Iq _) ?_
        try simp only [G6,Bool.and_true] at *
        first
          | (simp only [Ae,E0];(first | rw [iN hc1] | skip);(first | rw [iN hc2] | skip);(first | rw [if_pos hc3] | skip);first | done | rfl)
          | (try simp only [Bool.not_eq_true',Bool.not_eq_false'] at *
             first
             | (simp only [Ae,E0, *,Bool.false_eq_true,↓reduceIte,Bool.true_or,Bool.or_true,Bool.false_or,Bool.or_false,Bool.true_and,Bool.and_true,Bool.false_and,Bool.and_false,Bool.not_true,Bool.not_false];done)
             | (simp [Ae,E0, *];done)
             | (simp_all [Ae,E0];done))
          | skip
      · skip
        refine AW.skip (Bc (Af (AW.seq (AW.region (Qp A0 (AOL.nil (Af (AW.ret ?_))))))))
        refine Qr (Iq _) ?_
        try simp only [G6,Bool.and_true] at *
        first
          | (simp only [Ae,E0];(first | rw [iN hc1] | skip);(first | rw [iN hc2] | skip);(first | rw [iN hc3] | skip);first | done | rfl)
          | (try simp only [Bool.not_eq_true',Bool.not_eq_false'] at *
             first
             | (simp only [Ae,E0, *,Bool.false_eq_true,↓reduceIte,Bool.true_or,Bool.or_true,Bool.false_or,Bool.or_false,Bool.true_and,Bool.and_true,Bool.false_and,Bool.and_false,Bool.not_true,Bool.not_false];done)
             | (simp [Ae,E0, *];done)
             | (simp_all [Ae,E0];done))
          | skip
theorem c94 (v:Vl):Ap Tryz.prog 189 [.agg (cV v)] (.int .i64 (Bh v)):=by
  refine Ap.body (n:=18) tok Tryz.func189 rfl rfl rfl fun H=>?_
  refine AW.seq (AW.region (Qp (Eu [Iq _,Iq _,.str _]) (Qp A0 (AOL.nil (Af (AW.seq (AW.seq (AW.region (Qp gQ ?_)))))))))
  refine Qp Bt (AOL.nil (Af (AW.block (AW.seq (AW.seq (AW.region (Qp Av (Qp A3 (AOL.nil ?_)))))))))
  refine Af (Au (fun hc1=>?_) fun hc1=>?_)
  · skip
    refine Bl (Au (fun hc2=>?_) fun hc2=>?_)
    · skip
      refine AW.seq (AW.region (Qp Qf7 (Qp Df ?_)))
      refine Qp (Cr rfl rfl) ?_
      refine AOL.nil (Af (Au (fun hc3=>?_) fun hc3=>?_))
      · skip
        refine AW.seq (AW.region (Qp A0 (AOL.nil (Af (AW.ret (Ao (Ai ?_)))))))
        refine Qr (Iq _) ?_
        try simp only [G6,Bool.and_true] at *
        first
          | (simp only [Ae,Bh];(first | rw [if_pos hc1] | skip);(first | rw [if_pos hc2] | skip);(first | rw [if_pos hc3] | skip);first | done | rfl)
          | (try simp only [Bool.not_eq_true',Bool.not_eq_false'] at *
             first
             | (simp only [Ae,Bh, *,Bool.false_eq_true,↓reduceIte,Bool.true_or,Bool.or_true,Bool.false_or,Bool.or_false,Bool.true_and,Bool.and_true,Bool.false_and,Bool.and_false,Bool.not_true,Bool.not_false];done)
             | (simp [Ae,Bh, *];done)
             | (simp_all [Ae,Bh];done))
          | skip
      · skip
        refine AW.skip (Bc (Af (AW.seq (AW.region (Qp (B2 [Iq _,Iq _,.str _]) ?_)))))
        refine Qp (Qc rfl (pU v)) ?_
        refine Qp A0 (AOL.nil (Af (AW.ret ?_)))
        refine Qr (Iq _) ?_
        try simp only [G6,Bool.and_true] at *
        first
          | (simp only [Ae,Bh];(first | rw [if_pos hc1] | skip);(first | rw [if_pos hc2] | skip);(first | rw [iN hc3] | skip);first | done | rfl)
          | (try simp only [Bool.not_eq_true',Bool.not_eq_false'] at *
             first
             | (simp only [Ae,Bh, *,Bool.false_eq_true,↓reduceIte,Bool.true_or,Bool.or_true,Bool.false_or,Bool.or_false,Bool.true_and,Bool.and_true,Bool.false_and,Bool.and_false,Bool.not_true,Bool.not_false];done)
             | (simp [Ae,Bh, *];done)
             | (simp_all [Ae,Bh];done))
          | skip
    · skip
      refine AW.seq (AW.region (Qp Av (Qp A3 (AOL.nil (Af (Au (fun hc4=>?_) fun hc4=>?_))))))
      · skip
        refine AW.seq (AW.region (Qp Qf6 (Qp Bt (Qp B9 (AOL.nil (Af (Au (fun hc5=>?_) fun hc5=>?_)))))))
        · skip
          refine AW.seq (AW.region (Qp A0 (AOL.nil (Af (AW.ret (Ao (Ai ?_)))))))
          refine Qr (Iq _) ?_
          try simp only [G6,Bool.and_true] at *
          first
            | (simp only [Ae,Bh];(first | rw [if_pos hc1] | skip);(first | rw [iN hc2] | skip);(first | rw [if_pos hc4] | skip);(first | rw [if_pos hc5] | skip);first | done | rfl)
            | (try simp only [Bool.not_eq_true',Bool.not_eq_false'] at *
               first
               | (simp only [Ae,Bh, *,Bool.false_eq_true,↓reduceIte,Bool.true_or,Bool.or_true,Bool.false_or,Bool.or_false,Bool.true_and,Bool.and_true,Bool.false_and,Bool.and_false,Bool.not_true,Bool.not_false];done)
               | (simp [Ae,Bh, *];done)
               | (simp_all [Ae,Bh];done))
            | skip
        · skip
          refine AW.skip (Bc (Af (AW.seq (AW.region (Qp (B2 [Iq _,Iq _,.str _]) ?_)))))
          refine Qp (Qc rfl (pU v)) ?_
          refine Qp A0 (AOL.nil (Af (AW.ret ?_)))
          refine Qr (Iq _) ?_
          try simp only [G6,Bool.and_true] at *
          first
            | (simp only [Ae,Bh];(first | rw [if_pos hc1] | skip);(first | rw [iN hc2] | skip);(first | rw [if_pos hc4] | skip);(first | rw [iN hc5] | skip);first | done | rfl)
            | (try simp only [Bool.not_eq_true',Bool.not_eq_false'] at *
               first
               | (simp only [Ae,Bh, *,Bool.false_eq_true,↓reduceIte,Bool.true_or,Bool.or_true,Bool.false_or,Bool.or_false,Bool.true_and,Bool.and_true,Bool.false_and,Bool.and_false,Bool.not_true,Bool.not_false];done)
               | (simp [Ae,Bh, *];done)
               | (simp_all [Ae,Bh];done))
            | skip
      · skip
        refine AW.seq (AW.region (Qp A0 (AOL.nil (Af (AW.ret (Ao (Ai ?_)))))))
        refine Qr (Iq _) ?_
        try simp only [G6,Bool.and_true] at *
        first
          | (simp only [Ae,Bh];(first | rw [if_pos hc1] | skip);(first | rw [iN hc2] | skip);(first | rw [iN hc4] | skip);first | done | rfl)
          | (try simp only [Bool.not_eq_true',Bool.not_eq_false'] at *
             first
             | (simp only [Ae,Bh, *,Bool.false_eq_true,↓reduceIte,Bool.true_or,Bool.or_true,Bool.false_or,Bool.or_false,Bool.true_and,Bool.and_true,Bool.false_and,Bool.and_false,Bool.not_true,Bool.not_false];done)
             | (simp [Ae,Bh, *];done)
             | (simp_all [Ae,Bh];done))
          | skip
  · skip
    refine AW.region (Qp Av (Qp A3 (AOL.nil (Af (Au (fun hc6=>?_) fun hc6=>?_)))))
    · skip
      refine AW.seq (AW.region (Qp Qf7 (Qp Df ?_)))
      refine Qp (Cr rfl rfl) ?_
      refine AOL.nil (Af (Au (fun hc7=>?_) fun hc7=>?_))
      · skip
        refine AW.seq (AW.region (Qp A0 (AOL.nil (Af (AW.ret (Ao (Ai ?_)))))))
        refine Qr (Iq _) ?_
        try simp only [G6,Bool.and_true] at *
        first
          | (simp only [Ae,Bh];(first | rw [iN hc1] | skip);(first | rw [if_pos hc6] | skip);(first | rw [if_pos hc7] | skip);first | done | rfl)
          | (try simp only [Bool.not_eq_true',Bool.not_eq_false'] at *
             first
             | (simp only [Ae,Bh, *,Bool.false_eq_true,↓reduceIte,Bool.true_or,Bool.or_true,Bool.false_or,Bool.or_false,Bool.true_and,Bool.and_true,Bool.false_and,Bool.and_false,Bool.not_true,Bool.not_false];done)
             | (simp [Ae,Bh, *];done)
             | (simp_all [Ae,Bh];done))
          | skip
      · skip
        refine AW.skip (Bc (Af (AW.seq (AW.region (Qp (B2 [Iq _,Iq _,.str _]) ?_)))))
        refine Qp (Qc rfl (pU v)) ?_
        refine Qp A0 (AOL.nil (Af (AW.ret ?_)))
        refine Qr (Iq _) ?_
        try simp only [G6,Bool.and_true] at *
        first
          | (simp only [Ae,Bh];(first | rw [iN hc1] | skip);(first | rw [if_pos hc6] | skip);(first | rw [iN hc7] | skip);first | done | rfl)
          | (try simp only [Bool.not_eq_true',Bool.not_eq_false'] at *
             first
             | (simp only [Ae,Bh, *,Bool.false_eq_true,↓reduceIte,Bool.true_or,Bool.or_true,Bool.false_or,Bool.or_false,Bool.true_and,Bool.and_true,Bool.false_and,Bool.and_false,Bool.not_true,Bool.not_false];done)
             | (simp [Ae,Bh, *];done)
             | (simp_all [Ae,Bh];done))
          | skip
    · skip
      refine AW.seq (AW.region (Qp Av (Qp A3 (AOL.nil (Af (Au (fun hc8=>?_) fun hc8=>?_))))))
      · skip
        refine AW.seq (AW.region (Qp Qf6 (Qp Bt (Qp B9 (AOL.nil (Af (Au (fun hc9=>?_) fun hc9=>?_)))))))
        · skip
          refine AW.seq (AW.region (Qp A0 (AOL.nil (Af (AW.ret (Ao (Ai ?_)))))))
          refine Qr (Iq _) ?_
          try simp only [G6,Bool.and_true] at *
          first
            | (simp only [Ae,Bh];(first | rw [iN hc1] | skip);(first | rw [iN hc6] | skip);(first | rw [if_pos hc8] | skip);(first | rw [if_pos hc9] | skip);first | done | rfl)
            | (try simp only [Bool.not_eq_true',Bool.not_eq_false'] at *
               first
               | (simp only [Ae,Bh, *,Bool.false_eq_true,↓reduceIte,Bool.true_or,Bool.or_true,Bool.false_or,Bool.or_false,Bool.true_and,Bool.and_true,Bool.false_and,Bool.and_false,Bool.not_true,Bool.not_false];done)
               | (simp [Ae,Bh, *];done)
               | (simp_all [Ae,Bh];done))
            | skip
        · skip
          refine AW.skip (Bc (Af (AW.seq (AW.region (Qp (B2 [Iq _,Iq _,.str _]) ?_)))))
          refine Qp (Qc rfl (pU v)) ?_
          refine Qp A0 (AOL.nil (Af (AW.ret ?_)))
          refine Qr (Iq _) ?_
          try simp only [G6,Bool.and_true] at *
          first
            | (simp only [Ae,Bh];(first | rw [iN hc1] | skip);(first | rw [iN hc6] | skip);(first | rw [if_pos hc8] | skip);(first | rw [iN hc9] | skip);first | done | rfl)
            | (try simp only [Bool.not_eq_true',Bool.not_eq_false'] at *
               first
               | (simp only [Ae,Bh, *,Bool.false_eq_true,↓reduceIte,Bool.true_or,Bool.or_true,Bool.false_or,Bool.or_false,Bool.true_and,Bool.and_true,Bool.false_and,Bool.and_false,Bool.not_true,Bool.not_false];done)
               | (simp [Ae,Bh, *];done)
               | (simp_all [Ae,Bh];done))
            | skip
      · skip
        refine AW.seq (AW.region (Qp A0 (AOL.nil (Af (AW.ret (Ao (Ai ?_)))))))
        refine Qr (Iq _) ?_
        try simp only [G6,Bool.and_true] at *
        first
          | (simp only [Ae,Bh];(first | rw [iN hc1] | skip);(first | rw [iN hc6] | skip);(first | rw [iN hc8] | skip);first | done | rfl)
          | (try simp only [Bool.not_eq_true',Bool.not_eq_false'] at *
             first
             | (simp only [Ae,Bh, *,Bool.false_eq_true,↓reduceIte,Bool.true_or,Bool.or_true,Bool.false_or,Bool.or_false,Bool.true_and,Bool.and_true,Bool.false_and,Bool.and_false,Bool.not_true,Bool.not_false];done)
             | (simp [Ae,Bh, *];done)
             | (simp_all [Ae,Bh];done))
          | skip
theorem c99 (k:Int)(v:Vl):Ap Tryz.prog 190 [.int .i64 k,.agg (cV v)] (.bool (Ll k v)):=by
  refine Ap.body (n:=16) tok Tryz.func190 rfl rfl rfl fun H=>?_
  refine AW.seq (AW.region (Qp (Eu [Iq _,Iq _,.str _]) (Qp A3 (AOL.nil (Af (AW.seq (AW.region (Qp gQ (Qp Bt ?_)))))))))
  refine Qp Av (Qp Bq (Qg [] Qw A4 (Qg [(9,_)] Qw Av (Qp Cy (Qp Bq (Qg [] Qw A4 (Qg [(13,_)] Qw Av (Qp Cy (Qp A3 ?_)))))))))
  refine AOL.nil (Af (AW.ret ?_))
  refine Qr (.bool _) ?_
  try simp only [G6,Bool.and_true] at *
  first
    | (simp only [Ae,Ll];skip;first | done | rfl)
    | (try simp only [Bool.not_eq_true',Bool.not_eq_false'] at *
       first
       | (simp only [Ae,Ll, *,Bool.false_eq_true,↓reduceIte,Bool.true_or,Bool.or_true,Bool.false_or,Bool.or_false,Bool.true_and,Bool.and_true,Bool.false_and,Bool.and_false,Bool.not_true,Bool.not_false];done)
       | (simp [Ae,Ll, *];done)
       | (simp_all [Ae,Ll];done))
    | skip

end Go.Proofs.YtckhoadldibflaaGreatDoor
