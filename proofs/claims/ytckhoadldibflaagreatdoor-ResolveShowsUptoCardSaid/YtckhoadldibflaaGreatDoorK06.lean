/-
  Several texts in one: R7w, EW1, EW4, EW13, EW23, EW24, EW18, R8w. No condition.
-/
import Derived.Test.YtckhoadldibflaaGreatDoorK01
import Derived.Test.YtckhoadldibflaaGreatDoorK04
import Derived.Test.YtckhoadldibflaaGreatDoorK05
import Derived.KernelRfl
import Derived.Test.YtckhoadldibflaaGreatDoorTab
import Derived.Test.YtckhoadldibflaaGreatDoorK02
set_option linter.unusedVariables false
set_option linter.unusedSimpArgs false
set_option maxHeartbeats 6400000
set_option maxRecDepth 20000
namespace Go.Proofs.YtckhoadldibflaaGreatDoor
open Go Go.Aw
theorem qZ (H:List HO)(n:Nat)(h0:0<n)(hn:n<=1048576):Cj Tryz.prog 167 H [.sl 1 [[.int .i64 (-1)]],.int .i64 (n:Int)] (fun r H'=>∃b,r = .val (.slice (some ⟨b,0,none⟩) n n)/\H' = .box b 3 (bI (Yj n))::H):=by
 have hmx:1048576<=maxLen:=by decide
 refine Is 48 Tryz.func167 rfl ?_;refine Aa (Qp (Cm (z:=1) rfl) (Aq (Ba (Qp Ai (Qp Bt (Ap (fun hc1=>?_) fun hc1=>?_))))))
 .
  have:=Do hc1;omega
 refine A5 (Aa (Qp Ez (Qp (Da 1 rfl rfl (rfl)) (Qp (Vw (m:=1) tok rfl rfl rfl rfl rfl (rfl)) (Qp Ai (Qp (Vw (m:=(n:Int)) tok rfl rfl rfl rfl rfl (u64_in hn)) (Qp (Qc rfl (kMul1 n hn)) (Qp Ml (Qp (Cq (v:=.int .u64 _) rfl rfl) (Qp (Cq (v:=.int .u64 _) rfl rfl) (Qp (Bb (v:=.int .u64 _) rfl) (Qp (Bb (v:=.int .u64 _) rfl) (Aq (Ba (Qp (A0 (v:=.int .u64 _) rfl) (Qp De (Qp A8 (Qg [] Qw (A0 (v:=.int .u64 _) rfl) (Qg [(24,_)] Qw De (Qp Cr (Ap (fun hc2=>?_) fun hc2=>A5 (Aa (Qp (A0 (v:=.int .u64 _) rfl) (Qp (Vw (m:=(n:Int)) tok rfl rfl rfl rfl rfl (i64_in hn)) ?_))))))))))))))))))))))))
 . exact absurd hc2 (by simp;omega)
 refine Qe (aZ (n:=n) tok rfl rfl rfl rfl rfl rfl rfl (by show 8*n<=_;omega) (by omega)) ?_;rintro _ _ ⟨b30,rfl,rfl⟩;refine Qp Qh ?_;refine AOL.ghost (GS.cells 0 rfl ((vH n).trans (congrArg bI (show List.replicate n 0=Kq n 0 by simp [Kq])))) ?_;refine B2 (Qp Ce (Qp Ez ?_));refine Rt (E_copySl (k:=0) (m:=1) (cs':=bI (Kq n 1)) (H2:=_::_) tok rfl rfl rfl rfl rfl rfl rfl (by simp) (Dl rfl) (Nat.min_eq_left (by show 1<=n;omega)) (by rw [dX,T7 (by omega)];omega) (uC h0) rfl) ?_;refine Qp Ah (Re (AW.block ?_));refine AW.Aan (fun (k:Nat)=>(⟨[(7,.val (.slice (some ⟨b30,0,none⟩) n n)),(8,.int .i64 (k:Int))],.box b30 3 (bI (Kq n k))::H,48⟩:St)) (fun k=>1<=k/\k<=n) (fun k=>n-k) (1) ?_ Bx ?_
 . exact ⟨B6 _,h0⟩
 rintro k hR;refine Ba (Qp Ai (Qp Ce (Qp (iL tok rfl rfl rfl) (Qp Bt (Ap (fun hc3=>?_) fun hc3=>?_)))))
 .
  have hlt:k<n:=by have:=Do hc3;omega
  refine A5 (AW.block ?_);refine Id ?_;refine Qn 0 rfl Ai (Qn 1 rfl Ce (Qn 2 rfl Ai ?_));refine Qn 3 rfl (bE (l:=k) (h:=n) (o':=k) tok rfl rfl rfl rfl rfl (⟨_,rfl⟩) (rfl) (by omega) (by omega) (by omega) (by omega) (by simp)) ?_;refine Qn 4 rfl Ce (Qn 5 rfl Ai ?_);refine Qn 6 rfl (bE (l:=0) (h:=k) (o':=0) tok rfl rfl rfl rfl rfl (rfl) (⟨_,rfl⟩) (by omega) (by omega) (by omega) (by omega) (rfl)) ?_;refine Ma 7 rfl (yK (k:=0) (m:=min k (n-k)) (cs':=bI (Kq n (k+min k (n-k)))) (H2:=_::_) tok rfl rfl rfl rfl rfl rfl rfl (bI_sc _) (by first | rfl | (simp only [Nat.sub_zero];done) | (simp only [Nat.sub_zero];rfl)) (by rw [dX,T7 hR.2];omega) (by rw [dX,T7 hR.2];omega) (Aad (by omega) (by omega)) rfl) ?_;refine Qn 8 rfl Dt (Qn 9 rfl Ah ?_);refine Fs ?_;refine Gv (A2 ?_);refine ⟨k+min k (n-k),?_,?_,Bx⟩
  . omega
  omega
 have hkn:k=n:=by have:=Di hc3;omega
 refine AW.exit ?_;refine Bn (Ri (Aa (Qp Ce (Qp Qh (Rb ?_)))));refine ⟨.inr rfl,[.val _],Ze,_,S0,?_⟩;exact ⟨b30,rfl,congrArg (fun l=>HO.box b30 3 (bI l)::H) ((congrArg (Kq n) hkn).trans (kD n))⟩
abbrev nR (q:List Int×Bool):AV:=AV.tuple [.sl 1 (q.1.map cI),.bool q.2]
theorem rf_key (T:List e8Sc)(V:List Va)(s:Nx)(bp:Nat)(hrv:RvOK T V)(n:Av)(hT:0<T.length):By Tryz.prog 97 bp 159 (Zj T V s) (Zj T V s) [.val (.pointer (some ⟨bp,0,none⟩)),.str n] (.tuple [.sl 1 ((Oz T V n).1.map cI),.bool (Oz T V n).2]):=by
 intro H;have htl:=hrv.tl;have hvl:=hrv.vl;refine Is 47 Tryz.func97 rfl ?_;refine Aa (Qp (Cm (z:=1) rfl) (Qp Ao (B2 (Qp (G0 ([[Iq _]]) rfl) (Qp Ce (Qp (Af rfl) (Qp Co (Sw 0 (.sl _ _) rfl ?_))))))));refine Qp (Da T.length rfl rfl (by simp)) ?_;refine Qe (Dr rfl (qZ _ T.length hT hrv.tl)) ?_;rintro _ _ ⟨b15,rfl,rfl⟩;refine Qp Qh (Aq (Ba (Qp Ce (Qp (Af rfl) (Qp Co (Sw 1 (.sl _ _) rfl ?_))))));refine Qp (Da V.length rfl rfl (by simp)) ?_;refine Qp Ai (Aq (AW.block ?_));refine AW.Aan (fun (q:Nat×List Int)=>(⟨[(0,.val (.pointer (some ⟨bp,0,none⟩))),(1,.str n),(6,.val (.slice (some ⟨b15,0,none⟩) T.length T.length)),(19,.sl 2 (V.map Ox)),(20,.int .i64 V.length),(21,.int .i64 (q.1:Int))],.box b15 3 (bI q.2) :: .box bp 159 (Zj T V s)::H,47⟩:St)) (fun q=>q.1<=V.length/\q.2.length=T.length/\Oz T V n=Wg T n (V.drop q.1) q.2) (fun q=>V.length-q.1) ((0,Yj T.length)) ?_ Bx ?_
 . exact ⟨A3 _,by simp [Yj],rfl⟩
 rintro q hR;refine Aa (Qp Bt (Re (E9 (fun hc1=>?_) fun hc1=>?_)))
 .
  obtain ⟨a,ha⟩:=B3 hc1;have hlt:=Bf ha;have hm:=An ha;have hvt:=hrv.ty a hm;refine (aT hrv hm).elim fun sc hsc=>?_
  have hfl:=hrv.fl sc (An hsc);have hb:a.type.toNat<q.2.length:=by have:=hR.2.1;omega
  refine A5 (AW.seq (AW.block (Aa ?_)));refine Qp (Cp E4 rfl rfl (by omega) (Bp ha)) ?_;refine Qp (B1 E4) (Dx gjy fun b8=>?_);refine Bw 0 E4 (_::_::_::_) ?_;refine Ji 8 0 rfl ?_;refine Re (N3 1 rfl (Qn 0 rfl Ce (Qn 1 rfl (Qf [Iq _]) (Qn 2 rfl Be (Qn 3 rfl Ce (Qn 4 rfl (Af rfl) (Qn 5 rfl Co (Qn 6 rfl (Kn (.sl _ _) rfl) ?_))))))));refine Qn 7 rfl (Qf [Iq _]) (Qn 8 rfl Be (Qn 9 rfl (Cp Jl rfl rfl (hvt.1) (Bp hsc)) (Qn 10 rfl (B1 Jl) (Qn 11 rfl D3 (Qn 12 rfl (Qc rfl (Mu sc hfl n)) (Qn 13 rfl (Dg (o':=a.type.toNat) tok rfl rfl rfl rfl rfl (hvt.1) (hvt.2) (tU _)) ?_))))));refine bH 14 rfl (Nj (k:=0) (v:=Iq _) (cs':=bI (q.2.set a.type.toNat (Hz sc n))) (H2:=_::_::_) tok rfl rfl rfl rfl rfl rfl (cS hb) (dY hb) rfl) ?_;rintro _ _ ⟨rfl,rfl⟩;refine A2 (Aa (Qp Ce (Qp (Qf [Iq _]) (Qp Be (Qp (Dg (o':=a.type.toNat) tok rfl rfl rfl rfl rfl (hvt.1) (hvt.2) (tU _)) (AOL.Aas (Cl (k:=0) (c:=.int .i64 (Hz sc n)) tok rfl rfl rfl (Zi hb)) rfl rfl (Qp Bt (Ap (fun hc2=>Aa (Qp (Cm (z:=1) rfl) (Qp Ao (Ra (Au (Cn (Au ?_))))))) fun hc2=>Rf (AW.region (Qp Dt (Qp Ai (Aq ?_))))))))))))
  .
   refine ⟨.inr rfl,[.sl _ _,.bool _],Zf,_,S1,?_⟩;exact ⟨Ye nR (hR.2.2.trans (lO ha hsc hc2)),rfl⟩
  refine ⟨(q.1+1,q.2.set a.type.toNat (Hz sc n)),?_,?_,Bx⟩
  . exact ⟨hlt,by simp only [List.length_set];exact hR.2.1,hR.2.2.trans (tH ha hsc hc2)⟩
  simp only;omega
 have hde:=Ek hc1;have hall:=hR.2.2;rw [hde] at hall;refine AW.exit ?_;refine Bn (Ri (Aa ?_));refine AOL.ghost (GS.freezeSl (t:=6) (z:=1) (es:=q.2.map cI) 0 rfl rfl (kU _) (by rw [B7];exact hR.2.1.symm) (B6 _) (by unfold maxLen;omega) (fX (fun _=>rfl) _) mN) ?_;refine Qp Ez (Qp Xk (Qp Ao (Rb ?_)));refine ⟨.inr rfl,[.sl _ _,.bool _],Zf,_,S0,?_⟩;exact ⟨Ye nR ((hall.trans (by rw [Wg]):Oz T V n=(q.2,true))),rfl⟩
theorem e8c52 (op:Int):Ak Tryz.prog 117 [.int .i64 op] (.tuple [.bool (Gz op).1,.bool (Gz op).2]):=by
 refine Cw 11 Tryz.func117 rfl fun H=>?_
 refine Aa (Qp Ao (Qp Ao (Aq (Ba (Qp Ai (Aq (AW.block (AW.seq ?_))))))));refine Aa (Qp Aj (Qp Ao (Ap (fun hc1=>A5 (E9 (fun hc2=>Aa (Qp Ao (Qp Ao (Ra (Ku (.bool _) (.bool _) ?_))))) fun hc2=>Ba (Qp Aj (Qp Ao (Ap (fun hc3=>A5 (E9 (fun hc4=>Aa (Qp Ao (Qp Ao (Ra (Ku (.bool _) (.bool _) ?_))))) fun hc4=>Rf (Aa (Qp Ao (Qp Ao (Rb (Ku (.bool _) (.bool _) ?_))))))) fun hc3=>?_))))) fun hc1=>?_)))
 . simp_all [Ad,Gz]
 . simp_all [Ad,Gz]
 . simp_all [Ad,Gz]
 .
  refine AW.region (Qp Aj (Qp Ao (Ap (fun hc5=>Aa (Qp Ao (Qp Ao (Ra (Ku (.bool _) (.bool _) ?_))))) fun hc5=>Rf (Aa (Qp Ao (Qp Ao (Rb (Ku (.bool _) (.bool _) ?_))))))))
  . simp_all [Ad,Gz]
  simp_all [Ad,Gz]
 refine AW.region (Qp Aj (Qp Ao (Ap (fun hc6=>Aa (Qp Ao (Qp Ao (Ra (Ku (.bool _) (.bool _) ?_))))) fun hc6=>Ba (Qp Aj (Qp Ao (Ap (fun hc7=>A5 (E9 (fun hc8=>Aa (Qp Ao (Qp Ao (Ra (Ku (.bool _) (.bool _) ?_))))) fun hc8=>Rf (Aa (Qp Ao (Qp Ao (Rb (Ku (.bool _) (.bool _) ?_))))))) fun hc7=>?_))))))
 . simp_all [Ad,Gz]
 . simp_all [Ad,Gz]
 . simp_all [Ad,Gz]
 refine AW.region (Qp Aj (Qp Ao (Ap (fun hc9=>Aa (Qp Ao (Qp Ao (Ra (Ku (.bool _) (.bool _) ?_))))) fun hc9=>Rf (Aa (Qp Ao (Qp Ao (Rb (Ku (.bool _) (.bool _) ?_))))))))
 . simp_all [Ad,Gz]
 simp_all [Ad,Gz]
theorem c84 (op:Int):Ak Tryz.prog 257 [.int .i64 op] (.tuple [.bool (Gz op).1,.bool (Gz op).2]):=by
 refine Cw 21 Tryz.func257 rfl fun H=>?_
 refine Aa (Qp Ao (Qp Ao (B2 (Qp Ai (Qp Aj (Qp A8 (Qg [] Qw Ai (Qg [(8,_)] Qw Aj (Qp Cr ?_)))))))));refine Qp Ao (B2 (Qp A8 (Qp A8 (Qg [] Qw Ai (Qg [(13,_)] Qw Aj (Qp Cr (Qp A8 (Qg [] Qw Ai (Qg [(17,_)] Qw Aj (Qp Cr (Qp A8 (Qp Ao (Qp Ao (Rb (Ku (.bool _) (.bool _) ?_)))))))))))))));by_cases h1:op=1 <;> by_cases h2:op=2 <;> by_cases h3:op=3 <;> by_cases h4:op=4 <;> simp_all [Gz,Ad]
theorem c81 (op:Int):Ak Tryz.prog 116 [.int .i64 op] (.tuple [.int .i64 (Iy op),.bool (decide (0<=op/\op<=12))]):=by
 refine Cw 17 Tryz.func116 rfl fun H=>?_
 refine Aa (Qp Ah (Qp Ao (Re (AW.block (Aa (Qp Ai (Qp Bt (Qp A8 (Qg [] Qw Ai (Qg [(8,_)] Qw De (Qp Cr (Qp Ao (Ap (fun hc1=>Aa (Qp Ah (Qp Ao (Ra (Ku (Iq _) (.bool _) ?_))))) fun hc1=>?_)))))))))))))
 .
  simp only [Ff,En,Dp,Ih,beq_iff_eq,F0] at *;simp only [Ad,Iy,AV.tuple.injEq,List.cons.injEq,AV.int.injEq,AV.bool.injEq,true_and,and_true];refine ⟨?_,?_⟩
  .
   repeat' split
   all_goals omega
  simp <;> omega
 refine Aa (Qp Ai (Qp Bt (Qp Ao (Ap (fun hc2=>Aa (Qp Ah (Qp Ao (Ra (Ku (Iq _) (.bool _) ?_))))) fun hc2=>Aa (Qp Ai (Qp Aj (Qp Ao (Ap (fun hc3=>Aa (Qp Ah (Qp Ao (Ra (Ku (Iq _) (.bool _) ?_))))) fun hc3=>Rf (Aa (Qp Ah (Qp Ao (Rb (Ku (Iq _) (.bool _) ?_)))))))))))))
 .
  simp only [Ff,En,Dp,Ih,beq_iff_eq,F0] at *;simp only [Ad,Iy,AV.tuple.injEq,List.cons.injEq,AV.int.injEq,AV.bool.injEq,true_and,and_true];refine ⟨?_,?_⟩
  .
   repeat' split
   all_goals omega
  simp <;> omega
 .
  simp only [Ff,En,Dp,Ih,beq_iff_eq,F0] at *;simp only [Ad,Iy,AV.tuple.injEq,List.cons.injEq,AV.int.injEq,AV.bool.injEq,true_and,and_true];refine ⟨?_,?_⟩
  .
   repeat' split
   all_goals omega
  simp <;> omega
 simp only [Ff,En,Dp,Ih,beq_iff_eq,F0] at *;simp only [Ad,Iy,AV.tuple.injEq,List.cons.injEq,AV.int.injEq,AV.bool.injEq,true_and,and_true];refine ⟨?_,?_⟩
 .
  repeat' split
  all_goals omega
 simp <;> omega
theorem c100 (op:Int):Ak Tryz.prog 256 [.int .i64 op] (.int .i64 (if 0<=op/\op<=12 then Iy op else -1)):=by
 refine Cw 20 Tryz.func256 rfl fun H=>?_
 refine Aa (Qp Ah (Aq (Ba (Qp Ai (Aq (AW.block ?_))))));refine AW.Aar (fun (_:Unit)=>(⟨[(0,.int .i64 op),(3,.int .i64 op),(4,.bool (op==0||op==1||op==2||op==3||op==4))],H,20⟩:St)) (fun _=>True) ?_ ?_
 .
  refine Aa (Qp Aj (Qp Ao (Ap (fun hc1=>A5 ?_) fun hc1=>Aa (Qp Aj (Qp Ao (Ap (fun hc2=>A5 ?_) fun hc2=>Aa (Qp Aj (Qp Ao (Ap (fun hc3=>A5 ?_) fun hc3=>Aa (Qp Aj (Qp Ao (Ap (fun hc4=>A5 ?_) fun hc4=>AW.region (Qp Aj (Qp Ao (Aq ?_)))))))))))))))
  .
   refine ⟨(),?_,GS.weaken ⟨rfl,rfl,congrArg AV.bool (by simp [*]),trivial⟩ (.refl _)⟩
   trivial
  .
   refine ⟨(),?_,GS.weaken ⟨rfl,rfl,congrArg AV.bool (by simp [*]),trivial⟩ (.refl _)⟩
   trivial
  .
   refine ⟨(),?_,GS.weaken ⟨rfl,rfl,congrArg AV.bool (by simp [*]),trivial⟩ (.refl _)⟩
   trivial
  .
   refine ⟨(),?_,GS.weaken ⟨rfl,rfl,congrArg AV.bool (by simp [*]),trivial⟩ (.refl _)⟩
   trivial
  refine ⟨(),?_,GS.weaken ⟨rfl,rfl,congrArg AV.bool (by simp [*]),trivial⟩ (.refl _)⟩
  trivial
 rintro _ _;refine E9 (fun hc5=>Aa (Qp Ah (Ra (Qr (Iq _) ?_)))) fun hc5=>Aa (Qp Aj (Qp Ao (Ap (fun hc6=>Aa (Qp Ah (Ra (Qr (Iq _) ?_)))) fun hc6=>?_)))
 .
  simp only [Ff,En,beq_iff_eq,F0] at *;simp only [Ad,Iy,AV.int.injEq,true_and]
  repeat' split
  all_goals omega
 .
  simp only [Ff,En,beq_iff_eq,F0] at *;simp only [Ad,Iy,AV.int.injEq,true_and]
  repeat' split
  all_goals omega
 refine AW.Aar (fun (_:Unit)=>(⟨[(12,.bool (op==5||op==6||op==7||op==8||op==9||op==10||op==11))],H,20⟩:St)) (fun _=>True) ?_ ?_
 .
  refine Aa (Qp Aj (Qp Ao (Ap (fun hc7=>A5 ?_) fun hc7=>Aa (Qp Aj (Qp Ao (Ap (fun hc8=>A5 ?_) fun hc8=>?_))))))
  .
   refine ⟨(),?_,GS.weaken ⟨congrArg AV.bool (by simp [*]),trivial⟩ (.refl _)⟩
   trivial
  .
   refine ⟨(),?_,GS.weaken ⟨congrArg AV.bool (by simp [*]),trivial⟩ (.refl _)⟩
   trivial
  refine Aa (Qp Aj (Qp Ao (Ap (fun hc9=>A5 ?_) fun hc9=>Aa (Qp Aj (Qp Ao (Ap (fun hc10=>A5 ?_) fun hc10=>Aa (Qp Aj (Qp Ao (Ap (fun hc11=>A5 ?_) fun hc11=>Aa (Qp Aj (Qp Ao (Ap (fun hc12=>A5 ?_) fun hc12=>AW.region (Qp Aj (Qp Ao (Aq ?_)))))))))))))))
  .
   refine ⟨(),?_,GS.weaken ⟨congrArg AV.bool (by simp [*]),trivial⟩ (.refl _)⟩
   trivial
  .
   refine ⟨(),?_,GS.weaken ⟨congrArg AV.bool (by simp [*]),trivial⟩ (.refl _)⟩
   trivial
  .
   refine ⟨(),?_,GS.weaken ⟨congrArg AV.bool (by simp [*]),trivial⟩ (.refl _)⟩
   trivial
  .
   refine ⟨(),?_,GS.weaken ⟨congrArg AV.bool (by simp [*]),trivial⟩ (.refl _)⟩
   trivial
  refine ⟨(),?_,GS.weaken ⟨congrArg AV.bool (by simp [*]),trivial⟩ (.refl _)⟩
  trivial
 rintro _ _;refine E9 (fun hc13=>Aa (Qp Ah (Ra (Qr (Iq _) ?_)))) fun hc13=>Rf (Aa (Qp Ah (Rb (Qr (Iq _) ?_))))
 .
  simp only [Ff,En,beq_iff_eq,F0] at *;simp only [Ad,Iy,AV.int.injEq,true_and]
  repeat' split
  all_goals omega
 simp only [Ff,En,beq_iff_eq,F0] at *;simp only [Ad,Iy,AV.int.injEq,true_and]
 repeat' split
 all_goals omega
theorem c107 (v:Vl):Ak Tryz.prog 255 [.agg (cV v)] (.int .i64 (P4 v)):=by
 refine Cw 36 Tryz.func255 rfl fun H=>?_
 refine Aa (Qp (Eh Mf) (Qp Ah (Re (AW.block (Aa (Qp Vy (Qp Be (Qp Aj ?_))))))));refine Qp A8 (Qg [] Qw yN (Qg [(8,_)] Qw Be (Qg [(9,_)] Qw Bt (Qg [(10,_)] Qw A8 (Qg [] Qw yN (Qg [(12,_)] Qw Be (Qg [(13,_)] Qw De (Qg [(11,_),(14,_)] Qw Cr (Qp Ej ?_)))))))));refine Qp Ao (Ap (fun hc1=>Aa (Qp Ah (Ra (Qr (Iq _) ?_)))) fun hc1=>Aa (Qp Vy (Qp Be (Qp Aj (Qp A8 (Qg [] Qw yN (Qg [(22,_)] Qw Be (Qg [(23,_)] Qw Bq (Qp Ej (Qp A8 ?_))))))))))
 .
  try simp only [Fq,Cc] at *
  (simp only [Ad,P4];rw [if_pos hc1];done)
 refine Qg [] Qw yN (Qg [(27,_)] Qw Be (Qg [(28,_)] Qw Bq (Qp Ej (Qp Ao (Ap (fun hc2=>Aa (Qp Ah (Ra (Qr (Iq _) ?_)))) fun hc2=>?_)))))
 .
  try simp only [Fq,Cc] at *
  (simp only [Ad,P4];rw [iN hc1];rw [if_pos hc2];done)
 refine Aa (Qp Qf7 (Qp Dk (Qp (Ck tok rfl rfl rfl rfl) (Qp De (Qp Ao (Ap (fun hc3=>Aa (Qp Ah (Ra (Qr (Iq _) ?_)))) fun hc3=>Rf (Aa (Qp Ah (Rb (Qr (Iq _) ?_))))))))))
 .
  try simp only [Fq,Cc] at *
  (simp only [Ad,P4];rw [iN hc1];rw [iN hc2];rw [if_pos hc3];done)
 try simp only [Fq,Cc] at *
 (simp only [Ad,P4];rw [iN hc1];rw [iN hc2];rw [iN hc3];done)
theorem c94 (v:Vl):Ak Tryz.prog 189 [.agg (cV v)] (.int .i64 (C4 v)):=by
  refine Cw 18 Tryz.func189 rfl fun H=>?_
  refine AW.seq (AW.region (Qp (Eh Mf) (Qp Ah (AOL.nil (A2 (AW.seq (AW.seq (AW.region (Qp Vy (Qp Be (AOL.nil (A2 (AW.block (AW.seq (AW.seq (AW.region (Qp Aj (Qp Ao (AOL.nil (A2 (E9 (fun hc1=>?_) fun hc1=>?_)))))))))))))))))))))
  . skip
    refine A5 (E9 (fun hc2=>?_) fun hc2=>?_)
    . skip
      refine AW.seq (AW.region (Qp Qf7 (Qp Dk ?_)));refine Qp (Dq rfl rfl) ?_;refine AOL.nil (A2 (E9 (fun hc3=>?_) fun hc3=>?_))
      . skip
        refine AW.seq (AW.region (Qp Ah (AOL.nil (A2 (AW.ret (Cn (Au ?_)))))));refine Qr (Iq _) ?_
        try simp only [Fq,Cc] at *
        try simp only [Bk,Bs] at *
        simp only [Ad,C4, *,Al,↓reduceIte,I7,Hu,Fz,Hf,Ee,Cc,Jq,Gx,Bc,Bv]
      . skip
        refine Rf (AW.seq (AW.region (Qp (B1 Mf) ?_)));refine Qp (Qc rfl (c107 v)) ?_;refine Qp Ah (AOL.nil (A2 (AW.ret ?_)));refine Qr (Iq _) ?_
        try simp only [Fq,Cc] at *
        try simp only [Bk,Bs] at *
        simp only [Ad,C4, *,Al,↓reduceIte,I7,Hu,Fz,Hf,Ee,Cc,Jq,Gx,Bc,Bv]
    . skip
      refine AW.seq (AW.region (Qp Aj (Qp Ao (AOL.nil (A2 (E9 (fun hc4=>?_) fun hc4=>?_))))))
      . skip
        refine AW.seq (AW.region (Qp yN (Qp Be (Qp Bq (AOL.nil (A2 (E9 (fun hc5=>?_) fun hc5=>?_)))))))
        . skip
          refine AW.seq (AW.region (Qp Ah (AOL.nil (A2 (AW.ret (Cn (Au ?_)))))));refine Qr (Iq _) ?_
          try simp only [Fq,Cc] at *
          (try simp only [Bk,Bs] at *
           (simp_all [Ad,C4];done))
        . skip
          refine Rf (AW.seq (AW.region (Qp (B1 Mf) ?_)));refine Qp (Qc rfl (c107 v)) ?_;refine Qp Ah (AOL.nil (A2 (AW.ret ?_)));refine Qr (Iq _) ?_
          try simp only [Fq,Cc] at *
          (try simp only [Bk,Bs] at *
           (simp_all [Ad,C4];done))
      . skip
        refine AW.seq (AW.region (Qp Ah (AOL.nil (A2 (AW.ret (Cn (Au ?_)))))));refine Qr (Iq _) ?_
        try simp only [Fq,Cc] at *
        (try simp only [Bk,Bs] at *
         (simp_all [Ad,C4];done))
  . skip
    refine AW.region (Qp Aj (Qp Ao (AOL.nil (A2 (E9 (fun hc6=>?_) fun hc6=>?_)))))
    . skip
      refine AW.seq (AW.region (Qp Qf7 (Qp Dk ?_)));refine Qp (Dq rfl rfl) ?_;refine AOL.nil (A2 (E9 (fun hc7=>?_) fun hc7=>?_))
      . skip
        refine AW.seq (AW.region (Qp Ah (AOL.nil (A2 (AW.ret (Cn (Au ?_)))))));refine Qr (Iq _) ?_
        try simp only [Fq,Cc] at *
        try simp only [Bk,Bs] at *
        simp only [Ad,C4, *,Al,↓reduceIte,I7,Hu,Fz,Hf,Ee,Cc,Jq,Gx,Bc,Bv]
      . skip
        refine Rf (AW.seq (AW.region (Qp (B1 Mf) ?_)));refine Qp (Qc rfl (c107 v)) ?_;refine Qp Ah (AOL.nil (A2 (AW.ret ?_)));refine Qr (Iq _) ?_
        try simp only [Fq,Cc] at *
        try simp only [Bk,Bs] at *
        simp only [Ad,C4, *,Al,↓reduceIte,I7,Hu,Fz,Hf,Ee,Cc,Jq,Gx,Bc,Bv]
    . skip
      refine AW.seq (AW.region (Qp Aj (Qp Ao (AOL.nil (A2 (E9 (fun hc8=>?_) fun hc8=>?_))))))
      . skip
        refine AW.seq (AW.region (Qp yN (Qp Be (Qp Bq (AOL.nil (A2 (E9 (fun hc9=>?_) fun hc9=>?_)))))))
        . skip
          refine AW.seq (AW.region (Qp Ah (AOL.nil (A2 (AW.ret (Cn (Au ?_)))))));refine Qr (Iq _) ?_
          try simp only [Fq,Cc] at *
          try simp only [Bk,Bs] at *
          simp only [Ad,C4, *,Al,↓reduceIte,I7,Hu,Fz,Hf,Ee,Cc,Jq,Gx,Bc,Bv]
        . skip
          refine Rf (AW.seq (AW.region (Qp (B1 Mf) ?_)));refine Qp (Qc rfl (c107 v)) ?_;refine Qp Ah (AOL.nil (A2 (AW.ret ?_)));refine Qr (Iq _) ?_
          try simp only [Fq,Cc] at *
          try simp only [Bk,Bs] at *
          simp only [Ad,C4, *,Al,↓reduceIte,I7,Hu,Fz,Hf,Ee,Cc,Jq,Gx,Bc,Bv]
      . skip
        refine AW.seq (AW.region (Qp Ah (AOL.nil (A2 (AW.ret (Cn (Au ?_)))))));refine Qr (Iq _) ?_
        try simp only [Fq,Cc] at *
        try simp only [Bk,Bs] at *
        simp only [Ad,C4, *,Al,↓reduceIte,I7,Hu,Fz,Hf,Ee,Cc,Jq,Gx,Bc,Bv]
theorem c79 (v:Vl):Ak Tryz.prog 258 [.agg (cV v)] (.int .i64 (C4 v)):=by
 refine Cw 47 Tryz.func258 rfl fun H=>?_
 refine Aa (Qp (Eh Mf) (Qp Ah (Aq (Ba (Qp Vy (Qp Be (Qp Bt (Qp A8 ?_))))))));refine Qg [] Qw Vy (Qg [(7,_)] Qw Be (Qg [(8,_)] Qw De (Qp Cr (Ap (fun hc1=>Aa (Qp Ah (Rc (Qr (Iq _) ?_)))) fun hc1=>A5 (Ba (Qp Vy (Qp Be (Qp Aj (Ap (fun hc2=>?_) fun hc2=>?_)))))))))
 .
  rw [<-J7]
  try simp only [Fq,Cc] at *
  (simp only [Ad,K7];rw [if_pos hc1];done)
 .
  refine Ba (Qp yN (Qp Be (Qp Bq (Ap (fun hc3=>Aa (Qp Ah (Rc (Au (Qr (Iq _) ?_))))) fun hc3=>A5 (Ba (Qp Qf7 (Qp Dk (Qp (Ck tok rfl rfl rfl rfl) (Qp De (Ap (fun hc4=>Aa (Qp Ah (Rc (Au (Qr (Iq _) ?_))))) fun hc4=>A5 (Aa (Qp Ah (Rc (Qr (Iq _) ?_))))))))))))))
  .
   rw [<-J7]
   try simp only [Fq,Cc] at *
   (simp only [Ad,K7];rw [iN hc1];rw [if_pos hc2];rw [if_pos hc3];done)
  .
   rw [<-J7]
   try simp only [Fq,Cc] at *
   (simp only [Ad,K7];rw [iN hc1];rw [if_pos hc2];rw [iN hc3];rw [if_pos hc4];done)
  rw [<-J7]
  try simp only [Fq,Cc] at *
  (simp only [Ad,K7];rw [iN hc1];rw [if_pos hc2];rw [iN hc3];rw [iN hc4];done)
 refine A5 (Ba (Qp Qf7 (Qp Dk (Qp (Dq rfl rfl) (Ap (fun hc5=>Aa (Qp Ah (Rc (Qr (Iq _) ?_)))) fun hc5=>A5 (Ba (Qp Vy (Qp Be (Qp Aj (Qp A8 (Qg [] Qw yN (Qg [(28,_)] Qw Be (Qg [(29,_)] Qw Bt ?_)))))))))))))
 .
  rw [<-J7]
  try simp only [Fq,Cc] at *
  (simp only [Ad,K7];rw [iN hc1];rw [iN hc2];rw [if_pos hc5];done)
 refine Qg [(30,_)] Qw A8 (Qg [] Qw yN (Qg [(32,_)] Qw Be (Qg [(33,_)] Qw De (Qg [(31,_),(34,_)] Qw Cr (Qp Ej (Qp A8 (Qg [] Qw yN (Qg [(38,_)] Qw Be (Qg [(39,_)] Qw Bt ?_)))))))));refine Qp Cr (Qp A8 (Qg [] Qw yN (Qg [(43,_)] Qw Be (Qg [(44,_)] Qw De (Qp Cr (Ap (fun hc6=>Aa (Qp Ah (Rc (Qr (Iq _) ?_)))) fun hc6=>A5 (Aa (Qp Ah (Rb (Qr (Iq _) ?_))))))))))
 .
  rw [<-J7]
  try simp only [Fq,Cc] at *
  (simp only [Ad,K7];rw [iN hc1];rw [iN hc2];rw [iN hc5];rw [if_pos hc6];done)
 rw [<-J7]
 try simp only [Fq,Cc] at *
 (simp only [Ad,K7];rw [iN hc1];rw [iN hc2];rw [iN hc5];rw [iN hc6];done)
theorem c101 (k:Int)(v:Vl):Ak Tryz.prog 259 [.int .i64 k,.agg (cV v)] (.bool (Pb k v)):=by
 refine Cw 20 Tryz.func259 rfl fun H=>?_
 refine Aa (Qp (Eh Mf) (Qp Ao (B2 (Qp Vy (Qp Be (Qp Aj (Qp A8 (Qg [] Qw Ai (Qg [(9,_)] Qw Aj ?_)))))))));refine Qp Cr (Qp A8 (Qg [] Qw Ai (Qg [(13,_)] Qw Aj (Qp Cr (Qp A8 (Qg [] Qw Ai (Qg [(17,_)] Qw Aj (Qp Cr (Qp Ao (Rb (Qr (.bool _) ?_)))))))))))
 try simp only [Fq,Cc] at *
 (simp only [Ad,Pb];done)
theorem c99 (k:Int)(v:Vl):Ak Tryz.prog 190 [.int .i64 k,.agg (cV v)] (.bool (Rr k v)):=by
 refine Cw 16 Tryz.func190 rfl fun H=>?_
 refine Aa (Qp (Eh Mf) (Qp Ao (B2 (Qp Vy (Qp Be (Qp Aj (Qp A8 (Qg [] Qw Ai (Qg [(9,_)] Qw Aj (Qp Cr (Qp A8 (Qg [] Qw Ai (Qg [(13,_)] Qw Aj (Qp Cr (Qp Ao (Rb (Qr (.bool _) ?_)))))))))))))))))
 try simp only [Fq,Cc] at *
 (simp only [Ad,Rr];done)
theorem c82 (e:Ex):Ak Tryz.prog 118 [.agg (cE e)] (.int .i64 (N8 e)):=by
 refine Cw 32 Tryz.func118 rfl fun H=>?_
 refine Aa (Qp iM (Qp Ah (Aq (Ba (Qp Vy (Qp (B1 Mf) ?_))))));refine Qp (Qc rfl (c94 e.val)) (Qp Ah (B2 (Qp Ai (Qp Bq (Ap (fun hc1=>Aa (Qp Ai (Qp Ah (Rc (Qr (Iq _) ?_))))) fun hc1=>A5 (Ba (Qp Pj (Qp Be (Qp Aj (Qp A8 (Qg [] Qw gZ (Qg [(14,_)] Qw Be (Qg [] Qw Vy ?_)))))))))))))
 .
  try simp only [Fq,Cc] at *
  (simp only [Ad,N8];rw [if_pos hc1];done)
 refine Qg [(16,_)] Qw (B1 Mf) (Qg [(15,_),(17,_)] Yw (Qc rfl (c99 e.kind e.val)) (Qg [(18,_)] Qw E7 (Qg [(19,_)] Qw A8 (Qg [] Qw gZ (Qg [(21,_)] Qw Be (Qg [(22,_)] Qw Aj (Qg [(23,_)] Qw A8 (Qg [] Qw Vy (Qg [(25,_)] Qw (B1 Mf) (Qg [] Qw (D0 Mf) ?_))))))))));refine Qg [(26,_),(27,_)] Yw (H8 tok rfl rfl rfl rfl rfl) (Qg [(24,_),(28,_)] Qw Ej (Qg [(20,_),(29,_)] Qw Cr (Qp Ej (Ap (fun hc2=>Aa (Qp Ah (Rc (Qr (Iq _) ?_)))) fun hc2=>A5 (Aa (Qp Ah (Rb (Qr (Iq _) ?_))))))))
 .
  try simp only [Fq,Cc] at *
  (simp only [Ad,N8];rw [iN hc1];rw [if_pos hc2];done)
 try simp only [Fq,Cc] at *
 (simp only [Ad,N8];rw [iN hc1];rw [iN hc2];done)
theorem c47 (e:Ex):Ak Tryz.prog 68 [.agg (cE e)] (.int .i64 (Gt e)):=by
 refine Cw 114 Tryz.func68 rfl fun H=>?_
 refine Aa (Qp iM (Qp Ah (B2 (Qp Pj (Qp Be (Qp (Qc rfl (c81 e.op)) (Qp Ml (Qp Km (Qp bG (Qp Ah (Qp Ao (Aq (Ba (Qp A8 (Qp E7 (Ap (fun hc1=>Aa (Qp Ah (Rc (Qr (Iq _) ?_)))) fun hc1=>A5 (Ba (Qp Y7 (Qp Cg ?_)))))))))))))))))))
 .
  try simp only [Fq,Cc] at *
  (simp only [Ad,Gt,Ga];rw [if_pos hc1];done)
 refine Qp (Da e.args.length rfl rfl (by simp)) ?_;refine Qp Ai (Qp Bq (Ap (fun hc2=>Aa (Qp Ah (Rc (Qr (Iq _) ?_)))) fun hc2=>A5 (Aa (Qp Pj (Qp Be (Qp (Qc rfl (e8c52 e.op)) (Qp Ml (Qp bG (Qp bG (Qp Ao (Qp Ao (Aq (Ba (Qp A8 (Qp A8 ?_)))))))))))))))
 .
  try simp only [Fq,Cc] at *
  (simp only [Ad,Gt,Ga];rw [iN hc1];rw [if_pos hc2];done)
 refine Qg [] Qw bF (Qg [(31,_)] Qw Be (Qg [(32,_)] Qw Bt (Qg [(33,_)] Qw A8 (Qg [] Qw bF (Qg [(35,_)] Qw Be (Qg [(36,_)] Qw Fc (Qg [(34,_),(37,_)] Qw Cr (Qp Ej (Qp A8 ?_)))))))));refine Qg [] Qw A8 (Qg [(41,_)] Qw A8 (Qg [] Qw kS (Qg [(43,_)] Qw Be (Qg [(44,_)] Qw Bt (Qg [(45,_)] Qw A8 (Qg [] Qw kS (Qg [(47,_)] Qw Be (Qg [(48,_)] Qw Fc (Qg [(46,_),(49,_)] Qw Cr ?_)))))))));refine Qg [(42,_),(50,_)] Qw Ej (Qp Cr (Ap (fun hc3=>Aa (Qp Ah (Rc (Qr (Iq _) ?_)))) fun hc3=>A5 (Aa (Qp Pj (Qp Be (Qp Aj (Qp Ao (Aq (Ba (Qp A8 ?_))))))))))
 .
  try simp only [Fq,Cc] at *
  (simp only [Ad,Gt,Ga];rw [iN hc1];rw [iN hc2];rw [if_pos hc3];done)
 refine Qp A8 (Qg [] Qw gZ (Qg [(58,_)] Qw Be (Qg [(59,_)] Qw Bt (Qg [(60,_)] Qw A8 (Qg [] Qw gZ (Qg [(62,_)] Qw Be (Qg [(63,_)] Qw De (Qg [(61,_),(64,_)] Qw Cr (Qp Ej ?_)))))))));refine Ap (fun hc4=>Aa (Qp Ah (Rc (Qr (Iq _) ?_)))) fun hc4=>A5 (Aa (Qp A8 (Qp A8 (Qg [] Qw Pj (Qg [(69,_)] Qw Be (Qg [(70,_)] Qw Aj (Qp Cr (Qp Ao (Aq ?_)))))))))
 .
  try simp only [Fq,Cc] at *
  (simp only [Ad,Gt,Ga];rw [iN hc1];rw [iN hc2];rw [iN hc3];rw [if_pos hc4];done)
 refine Ba (Qp A8 (Ap (fun hc5=>?_) fun hc5=>A5 (Ba (Qp A8 (Qp E7 (Qp A8 (Qg [] Qw bF (Qg [(82,_)] Qw Be (Qg [(83,_)] Qw Bq (Qp Ej ?_))))))))))
 .
  refine Aa (Qp Kt (Qp (Qc rfl (c82 e)) (Qp Ah (B2 (Qp Ai (Qp Bq (Ap (fun hc6=>Aa (Qp Ai (Qp Ah (Rc (Qr (Iq _) ?_))))) fun hc6=>A5 (Ba (Qp A8 (Qp E7 (Qp A8 (Qg [] Qw bF (Qg [(82,_)] Qw Be (Qg [(83,_)] Qw Bq (Qp Ej ?_)))))))))))))))
  .
   try simp only [Fq,Cc] at *
   (simp only [Ad,Gt,Ga];rw [iN hc1];rw [iN hc2];rw [iN hc3];rw [iN hc4];rw [if_pos hc5];rw [if_pos hc6];done)
  refine Qp A8 (Qg [] Qw A8 (Qg [(87,_)] Qw E7 (Qg [(88,_)] Qw A8 (Qg [] Qw kS (Qg [(90,_)] Qw Be (Qg [(91,_)] Qw Bq (Qg [(89,_),(92,_)] Qw Ej (Qp Cr (Qp A8 ?_)))))))));refine Qg [] Qw A8 (Qg [(96,_)] Qw E7 (Qg [(97,_)] Qw A8 (Qg [] Qw gZ (Qg [(99,_)] Qw Be (Qg [(100,_)] Qw Bq (Qg [(98,_),(101,_)] Qw Ej (Qp Cr (Qp A8 (Qg [] Qw A8 ?_)))))))));refine Qg [(105,_)] Qw E7 (Qg [(106,_)] Qw A8 (Qg [] Qw Vy (Qg [(108,_)] Qw (B1 Mf) (Qg [] Qw (D0 Mf) (Qg [(109,_),(110,_)] Yw (H8 tok rfl rfl rfl rfl rfl) (Qg [(107,_),(111,_)] Qw Ej (Qp Cr (Ap (fun hc7=>Aa (Qp Ah (Rc (Qr (Iq _) ?_)))) fun hc7=>A5 (Aa (Qp Ah (Rb (Qr (Iq _) ?_))))))))))))
  .
   try simp only [Fq,Cc] at *
   (simp only [Ad,Gt,Ga];rw [iN hc1];rw [iN hc2];rw [iN hc3];rw [iN hc4];rw [if_pos hc5];rw [iN hc6];rw [if_pos hc7];done)
  try simp only [Fq,Cc] at *
  (simp only [Ad,Gt,Ga];rw [iN hc1];rw [iN hc2];rw [iN hc3];rw [iN hc4];rw [if_pos hc5];rw [iN hc6];rw [iN hc7];done)
 refine Qp A8 (Qg [] Qw A8 (Qg [(87,_)] Qw E7 (Qg [(88,_)] Qw A8 (Qg [] Qw kS (Qg [(90,_)] Qw Be (Qg [(91,_)] Qw Bq (Qg [(89,_),(92,_)] Qw Ej (Qp Cr (Qp A8 ?_)))))))));refine Qg [] Qw A8 (Qg [(96,_)] Qw E7 (Qg [(97,_)] Qw A8 (Qg [] Qw gZ (Qg [(99,_)] Qw Be (Qg [(100,_)] Qw Bq (Qg [(98,_),(101,_)] Qw Ej (Qp Cr (Qp A8 (Qg [] Qw A8 ?_)))))))));refine Qg [(105,_)] Qw E7 (Qg [(106,_)] Qw A8 (Qg [] Qw Vy (Qg [(108,_)] Qw (B1 Mf) (Qg [] Qw (D0 Mf) (Qg [(109,_),(110,_)] Yw (H8 tok rfl rfl rfl rfl rfl) (Qg [(107,_),(111,_)] Qw Ej (Qp Cr (Ap (fun hc8=>Aa (Qp Ah (Rc (Qr (Iq _) ?_)))) fun hc8=>A5 (Aa (Qp Ah (Rb (Qr (Iq _) ?_))))))))))))
 .
  try simp only [Fq,Cc] at *
  (simp only [Ad,Gt,Ga];rw [iN hc1];rw [iN hc2];rw [iN hc3];rw [iN hc4];rw [iN hc5];rw [if_pos hc8];done)
 try simp only [Fq,Cc] at *
 (simp only [Ad,Gt,Ga];rw [iN hc1];rw [iN hc2];rw [iN hc3];rw [iN hc4];rw [iN hc5];rw [iN hc8];done)
theorem c83 (e:Ex):Ak Tryz.prog 197 [.agg (cE e)] (.int .i64 (Gt e)):=by
 refine Cw 131 Tryz.func197 rfl fun H=>?_
 refine Aa (Qp iM (Qp Ah (B2 (Qp Pj (Qp Be (Qp (Qc rfl (c100 e.op)) (Qp Ah (Aq (Ba (Qp Ai (Qp Bt (Ap (fun hc1=>Aa (Qp Ah (Rc (Qr (Iq _) ?_)))) fun hc1=>A5 (Ba (Qp Y7 (Qp Cg ?_)))))))))))))))
 .
  rw [<-I1]
  try simp only [Fq,Cc] at *
  (simp only [Ad,Lw,Ga];rw [if_pos hc1];done)
 refine Qp (Da e.args.length rfl rfl (by simp)) ?_;refine Qp Ai (Qp Bq (Ap (fun hc2=>Aa (Qp Ah (Rc (Qr (Iq _) ?_)))) fun hc2=>A5 (Aa (Qp Pj (Qp Be (Qp (Qc rfl (c84 e.op)) (Qp Ml (Qp bG (Qp bG (Qp Ao (Qp Ao (Aq (Ba (Qp A8 (Qp A8 ?_)))))))))))))))
 .
  rw [<-I1]
  try simp only [Fq,Cc] at *
  (simp only [Ad,Lw,Ga];rw [iN hc1];rw [if_pos hc2];done)
 refine Qg [] Qw bF (Qg [(27,_)] Qw Be (Qg [(28,_)] Qw Bt (Qg [(29,_)] Qw A8 (Qg [] Qw bF (Qg [(31,_)] Qw Be (Qg [(32,_)] Qw Fc (Qg [(30,_),(33,_)] Qw Cr (Qp Ej (Qp A8 ?_)))))))));refine Qg [] Qw A8 (Qg [(37,_)] Qw A8 (Qg [] Qw kS (Qg [(39,_)] Qw Be (Qg [(40,_)] Qw Bt (Qg [(41,_)] Qw A8 (Qg [] Qw kS (Qg [(43,_)] Qw Be (Qg [(44,_)] Qw Fc (Qg [(42,_),(45,_)] Qw Cr ?_)))))))));refine Qg [(38,_),(46,_)] Qw Ej (Qp Cr (Ap (fun hc3=>Aa (Qp Ah (Rc (Qr (Iq _) ?_)))) fun hc3=>A5 (Aa (Qp Pj (Qp Be (Qp Aj (Qp Ao (Aq (Ba (Qp A8 ?_))))))))))
 .
  rw [<-I1]
  try simp only [Fq,Cc] at *
  (simp only [Ad,Lw,Ga];rw [iN hc1];rw [iN hc2];rw [if_pos hc3];done)
 refine Qp A8 (Qg [] Qw gZ (Qg [(54,_)] Qw Be (Qg [(55,_)] Qw Bt (Qg [(56,_)] Qw A8 (Qg [] Qw gZ (Qg [(58,_)] Qw Be (Qg [(59,_)] Qw De (Qg [(57,_),(60,_)] Qw Cr (Qp Ej ?_)))))))));refine Ap (fun hc4=>Aa (Qp Ah (Rc (Qr (Iq _) ?_)))) fun hc4=>A5 (Aa (Qp A8 (Qp A8 (Qg [] Qw Pj (Qg [(65,_)] Qw Be (Qg [(66,_)] Qw Aj (Qp Cr (Qp Ao (Aq ?_)))))))))
 .
  rw [<-I1]
  try simp only [Fq,Cc] at *
  (simp only [Ad,Lw,Ga];rw [iN hc1];rw [iN hc2];rw [iN hc3];rw [if_pos hc4];done)
 refine Ba (Qp A8 (Ap (fun hc5=>?_) fun hc5=>A5 (Ba (Qp A8 (Qp A8 (Qg [] Qw gZ (Qg [(78,_)] Qw Be (Qg [] Qw Vy (Qg [(80,_)] Qw (B1 Mf) ?_)))))))))
 .
  refine Aa (Qp Vy (Qp (B1 Mf) (Qp (Qc rfl (c79 e.val)) (Qp Ah (B2 (Qp Ai (Qp Bq (Ap (fun hc6=>Aa (Qp Ai (Qp Ah (Rc (Qr (Iq _) ?_))))) fun hc6=>A5 (Ba (Qp A8 (Qp A8 (Qg [] Qw gZ (Qg [(78,_)] Qw Be (Qg [] Qw Vy (Qg [(80,_)] Qw (B1 Mf) ?_)))))))))))))))
  .
   rw [<-I1]
   try simp only [Fq,Cc] at *
   (simp only [Ad,Lw,Ga];rw [iN hc1];rw [iN hc2];rw [iN hc3];rw [iN hc4];rw [if_pos hc5];rw [if_pos hc6];done)
  refine Qg [(79,_),(81,_)] Yw (Qc rfl (c101 e.kind e.val)) (Qg [(82,_)] Qw E7 (Qg [(83,_)] Qw A8 (Qg [] Qw gZ (Qg [(85,_)] Qw Be (Qg [(86,_)] Qw Aj (Qg [(87,_)] Qw A8 (Qg [] Qw Vy (Qg [(89,_)] Qw (B1 Mf) (Qg [] Qw (D0 Mf) ?_)))))))));refine Qg [(90,_),(91,_)] Yw (H8 tok rfl rfl rfl rfl rfl) (Qg [(88,_),(92,_)] Qw Ej (Qg [(84,_),(93,_)] Qw Cr (Qp Ej (Ap (fun hc7=>Aa (Qp Ah (Rc (Qr (Iq _) ?_)))) fun hc7=>A5 (Ba (Qp A8 (Qp E7 (Qp A8 (Qg [] Qw bF (Qg [(99,_)] Qw Be (Qg [(100,_)] Qw Bq (Qp Ej ?_))))))))))))
  .
   rw [<-I1]
   try simp only [Fq,Cc] at *
   (simp only [Ad,Lw,Ga];rw [iN hc1];rw [iN hc2];rw [iN hc3];rw [iN hc4];rw [if_pos hc5];rw [iN hc6];rw [if_pos hc7];done)
  refine Qp A8 (Qg [] Qw A8 (Qg [(104,_)] Qw E7 (Qg [(105,_)] Qw A8 (Qg [] Qw kS (Qg [(107,_)] Qw Be (Qg [(108,_)] Qw Bq (Qg [(106,_),(109,_)] Qw Ej (Qp Cr (Qp A8 ?_)))))))));refine Qg [] Qw A8 (Qg [(113,_)] Qw E7 (Qg [(114,_)] Qw A8 (Qg [] Qw gZ (Qg [(116,_)] Qw Be (Qg [(117,_)] Qw Bq (Qg [(115,_),(118,_)] Qw Ej (Qp Cr (Qp A8 (Qg [] Qw A8 ?_)))))))));refine Qg [(122,_)] Qw E7 (Qg [(123,_)] Qw A8 (Qg [] Qw Vy (Qg [(125,_)] Qw (B1 Mf) (Qg [] Qw (D0 Mf) (Qg [(126,_),(127,_)] Yw (H8 tok rfl rfl rfl rfl rfl) (Qg [(124,_),(128,_)] Qw Ej (Qp Cr (Ap (fun hc8=>Aa (Qp Ah (Rc (Qr (Iq _) ?_)))) fun hc8=>A5 (Aa (Qp Ah (Rb (Qr (Iq _) ?_))))))))))))
  .
   rw [<-I1]
   try simp only [Fq,Cc] at *
   (simp only [Ad,Lw,Ga];rw [iN hc1];rw [iN hc2];rw [iN hc3];rw [iN hc4];rw [if_pos hc5];rw [iN hc6];rw [iN hc7];rw [if_pos hc8];done)
  rw [<-I1]
  try simp only [Fq,Cc] at *
  (simp only [Ad,Lw,Ga];rw [iN hc1];rw [iN hc2];rw [iN hc3];rw [iN hc4];rw [if_pos hc5];rw [iN hc6];rw [iN hc7];rw [iN hc8];done)
 refine Qg [(79,_),(81,_)] Yw (Qc rfl (c101 e.kind e.val)) (Qg [(82,_)] Qw E7 (Qg [(83,_)] Qw A8 (Qg [] Qw gZ (Qg [(85,_)] Qw Be (Qg [(86,_)] Qw Aj (Qg [(87,_)] Qw A8 (Qg [] Qw Vy (Qg [(89,_)] Qw (B1 Mf) (Qg [] Qw (D0 Mf) ?_)))))))));refine Qg [(90,_),(91,_)] Yw (H8 tok rfl rfl rfl rfl rfl) (Qg [(88,_),(92,_)] Qw Ej (Qg [(84,_),(93,_)] Qw Cr (Qp Ej (Ap (fun hc9=>Aa (Qp Ah (Rc (Qr (Iq _) ?_)))) fun hc9=>A5 (Ba (Qp A8 (Qp E7 (Qp A8 (Qg [] Qw bF (Qg [(99,_)] Qw Be (Qg [(100,_)] Qw Bq (Qp Ej ?_))))))))))))
 .
  rw [<-I1]
  try simp only [Fq,Cc] at *
  (simp only [Ad,Lw,Ga];rw [iN hc1];rw [iN hc2];rw [iN hc3];rw [iN hc4];rw [iN hc5];rw [if_pos hc9];done)
 refine Qp A8 (Qg [] Qw A8 (Qg [(104,_)] Qw E7 (Qg [(105,_)] Qw A8 (Qg [] Qw kS (Qg [(107,_)] Qw Be (Qg [(108,_)] Qw Bq (Qg [(106,_),(109,_)] Qw Ej (Qp Cr (Qp A8 ?_)))))))));refine Qg [] Qw A8 (Qg [(113,_)] Qw E7 (Qg [(114,_)] Qw A8 (Qg [] Qw gZ (Qg [(116,_)] Qw Be (Qg [(117,_)] Qw Bq (Qg [(115,_),(118,_)] Qw Ej (Qp Cr (Qp A8 (Qg [] Qw A8 ?_)))))))));refine Qg [(122,_)] Qw E7 (Qg [(123,_)] Qw A8 (Qg [] Qw Vy (Qg [(125,_)] Qw (B1 Mf) (Qg [] Qw (D0 Mf) (Qg [(126,_),(127,_)] Yw (H8 tok rfl rfl rfl rfl rfl) (Qg [(124,_),(128,_)] Qw Ej (Qp Cr (Ap (fun hc10=>Aa (Qp Ah (Rc (Qr (Iq _) ?_)))) fun hc10=>A5 (Aa (Qp Ah (Rb (Qr (Iq _) ?_))))))))))))
 .
  rw [<-I1]
  try simp only [Fq,Cc] at *
  (simp only [Ad,Lw,Ga];rw [iN hc1];rw [iN hc2];rw [iN hc3];rw [iN hc4];rw [iN hc5];rw [iN hc9];rw [if_pos hc10];done)
 rw [<-I1]
 try simp only [Fq,Cc] at *
 (simp only [Ad,Lw,Ga];rw [iN hc1];rw [iN hc2];rw [iN hc3];rw [iN hc4];rw [iN hc5];rw [iN hc9];rw [iN hc10];done)
theorem e8c23 (e:Ex)(hs:Bz e<=1048576):Ak Tryz.prog 66 [.agg (cE e)] (.tuple [.int .i64 (Bz e),.int .i64 (Ea e)]):=by
 revert hs
 induction e using Ex.ind
 rename_i e ih;intro hs;refine Cw 32 Tryz.func66 rfl fun H=>?_
 refine Aa (Qp iM (Qp Ah (Qp Ah (B2 (Qp Ah (Qp Ah (Aq (Ba (Qp Y7 (Qp Cg ?_))))))))));refine Qp (Da e.args.length rfl rfl (by simp)) ?_;refine Qp Ai (Aq (AW.block (AW.sllen 11 rfl fun hlen=>?_)));simp only [B7,maxLen] at hlen;refine AW.Aan (fun (p:Nat×Nat×Nat)=>(⟨[(4,.int .i64 (p.2.1:Int)),(5,.int .i64 (p.2.2:Int)),(11,.sl 8 (e.args.map F5)),(12,.int .i64 e.args.length),(13,.int .i64 (p.1:Int))],H,32⟩:St)) (fun p=>p.1<=e.args.length/\Bz e=p.2.1+((e.args.drop p.1).map Bz).sum/\Ea e=max p.2.2 (((e.args.drop p.1).map Ea).foldr max 0)+1/\p.2.2<=1048576) (fun p=>e.args.length-p.1) ((0,1,0)) ?_ Bx ?_
 . exact ⟨A3 _,by simpa using Gb e,by simpa using Zn e,A3 _⟩
 rintro p hR;refine Aa (Qp Bt (Re (E9 (fun hc1=>?_) fun hc1=>?_)))
 .
  obtain ⟨a,ha⟩:=B3 hc1;have hlt:=Bf ha;have hm:=An ha;have hsa:=Gu hm;have hda:=Me a;have h1:=rK p.2.1 ha;have h2:=Ts p.2.2 ha;refine A5 (AW.seq (AW.block (Aa ?_)));refine Qp (Cp Hh rfl rfl (by omega) (Nn ha)) ?_;refine Qp Kt (Dx yY fun b7=>?_);refine Bw 0 Hh (_::_) ?_;refine Ji 7 0 rfl ?_;refine B2 (Qp Kt ?_);refine Qp (Qc rfl (ih a hm (by have:=Gu hm;omega))) ?_;refine Qp Ml (Qp Km (Qp Km (Qp Ah (Qp Ah (Aq (AW.region (Qp Ai (Qp Ai (Qp Dt (Qp Ai (Qp Ai (Qp (bD rfl rfl) (Qp Ah (Qp Ah (Rk (AW.region (Qp Dt (Qp Ai (Aq ?_)))))))))))))))))));refine ⟨(p.1+1,p.2.1+Bz a,max p.2.2 (Ea a)),?_,?_,GS.weaken ⟨rfl,congrArg (AV.int .i64) (by simp only;omega),rfl,rfl,rfl,trivial⟩ (.refl _)⟩
  . simp only;exact ⟨hlt,by omega,by omega,by omega⟩
  omega
 have hd:=Ek hc1;refine AW.exit ?_;refine Bn (Ri (Aa (Qp Ai (Qp Ai ?_))));refine Qp (vD rfl rfl rfl (by have:=Me e;constructor <;> omega)) ?_;refine Qp Ah (Qp Ah (Rb (Ku (Iq _) (Iq _) ?_)));rw [hd] at hR;simp only [Ca,List.sum_nil,List.foldr_nil] at hR;simp only [Ad,AV.tuple.injEq,List.cons.injEq,AV.int.injEq,true_and,and_true];omega
theorem c48 (L:Nat)(e:Ex)(hs:Bz e<=1048576):Ak Tryz.prog 121 [.agg (cE e),.int .i64 (L:Int)] (.int .i64 (Ho L e)):=by
 revert hs
 induction e using Ex.ind
 rename_i e ih;intro hs;refine Cw 29 Tryz.func121 rfl fun H=>?_
 refine Aa (Qp iM (Qp Ah (B2 (Qp Ah (Aq (Ba (Qp Ah (Aq (AW.block ?_)))))))));refine AW.Aan (fun (p:Nat×Nat)=>(⟨[(1,.int .i64 (L:Int)),(2,.ptr (cE e)),(5,.int .i64 (p.2:Int)),(6,.int .i64 (p.1:Int))],H,29⟩:St)) (fun p=>p.1<=e.args.length/\Ho L e=Gr L (e.args.drop p.1) p.2/\p.2+((e.args.drop p.1).map Bz).sum<=Bz e/\e.args.length<=1048576) (fun p=>e.args.length-p.1) ((0,1)) ?_ Bx ?_
 . exact ⟨A3 _,by simpa using iW L e,by simpa using Nat.le_of_eq (Gb e).symm,Mb e hs⟩
 rintro p hR;refine Ba (Qp Ai (Qp Y7 (Qp Cg ?_)));refine Qp (Da e.args.length rfl rfl (by simp)) ?_;refine Qp Bt (Qp A8 (Qg [] Qw Ai (Qg [] Qw Ai (Qg [(13,_),(14,_)] Yw Mk (Qp Ej (Ap (fun hc1=>?_) fun hc1=>AW.exit ?_))))))
 .
  simp only [Cz] at hc1;obtain ⟨a,ha⟩:=B3 hc1.1;have hlt:=Bf ha;have hm:=An ha;have hsa:=Gu hm;have hle:p.2<=L:=by simpa using hc1.2
  have h1:=rK p.2 ha;have h2:=eG L a;have h3:=hR.2.1;rw [Bd ha,Gr,if_pos hle] at h3;refine A5 (AW.seq (AW.block (AW.region (Qp Ai (Qp Y7 (Qp Cg (Qp Ai ?_)))))));refine Qp (Cp Hh rfl rfl (by omega) (Nn ha)) ?_;refine Qp Kt (Qp Ai ?_);refine Qp (Qc rfl (ih a hm (by have:=Gu hm;omega))) ?_;refine Qp Dt (Qp Ah (Rk (AW.region (Qp Ai (Qp Dt (Qp Ah (Aq ?_)))))));refine ⟨(p.1+1,p.2+Ho L a),?_,?_,Bx⟩
  . simp only;exact ⟨hlt,h3,by omega,hR.2.2.2⟩
  omega
 refine Bn (Ri (Aa (Qp Ai (Qp Ah (Rb ?_)))));refine Qr (Iq _) ?_;simp only [Ad,AV.int.injEq,true_and];rw [hR.2.1];simp only [Bool.and_eq_false_iff] at hc1;rcases hc1 with hc1 | hc1
 . rw [Ek hc1,Gr]
 rw [lA (by simpa using hc1)]
theorem c49 (e:Ex)(hs:Bz e<=1048576):Ak Tryz.prog 122 [.agg (cE e)] (.int .i64 (Ea e)):=by
 revert hs
 induction e using Ex.ind
 rename_i e ih;intro hs;refine Cw 22 Tryz.func122 rfl fun H=>?_
 refine Aa (Qp iM (Qp Ah (B2 (Qp Ah (Aq (Ba (Qp Ah (Aq (AW.block ?_)))))))));refine AW.Aan (fun (p:Nat×Nat)=>(⟨[(1,.ptr (cE e)),(3,.int .i64 (p.2:Int)),(4,.int .i64 (p.1:Int))],H,22⟩:St)) (fun p=>p.1<=e.args.length/\Ea e=max p.2 (((e.args.drop p.1).map Ea).foldr max 0)+1/\p.2<=1048576/\e.args.length<=1048576) (fun p=>e.args.length-p.1) ((0,0)) ?_ Bx ?_
 . exact ⟨A3 _,by simpa using Zn e,A3 _,Mb e hs⟩
 rintro p hR;refine Ba (Qp Ai (Qp Y7 (Qp Cg ?_)));refine Qp (Da e.args.length rfl rfl (by simp)) ?_;refine Qp Bt (Ap (fun hc1=>?_) fun hc1=>?_)
 .
  obtain ⟨a,ha⟩:=B3 hc1;have hlt:=Bf ha;have hm:=An ha;have hsa:=Gu hm;have hda:=Me a;have h2:=Ts p.2 ha;refine A5 (AW.seq (AW.block (AW.region (Qp Ai (Qp Y7 (Qp Cg (Qp Ai ?_)))))));refine Qp (Cp Hh rfl rfl (by omega) (Nn ha)) ?_;refine Qp Kt ?_;refine Qp (Qc rfl (ih a hm (by have:=Gu hm;omega))) ?_;refine Qp (bD rfl rfl) (Qp Ah (Rk (AW.region (Qp Ai (Qp Dt (Qp Ah (Aq ?_)))))));refine ⟨(p.1+1,max p.2 (Ea a)),?_,?_,GS.weaken ⟨rfl,congrArg (AV.int .i64) (by simp only;omega),rfl,trivial⟩ (.refl _)⟩
  . simp only;exact ⟨hlt,by omega,by omega,hR.2.2.2⟩
  omega
 have hd:=Ek hc1;refine AW.exit ?_;refine Bn (Ri (Aa (Qp Ai ?_)));refine Qp (vD rfl rfl rfl (by have:=Me e;constructor <;> omega)) ?_;refine Qp Ah (Rb (Qr (Iq _) ?_));rw [hd] at hR;simp only [Ca,List.foldr_nil] at hR;simp only [Ad,AV.int.injEq,true_and];omega
theorem c50 (e:Ex)(hs:Bz e<=1048576):Ak Tryz.prog 138 [.agg (cE e)] (.int .i64 (C0 e)):=by
 revert hs
 induction e using Ex.ind
 rename_i e ih;intro hs;refine Cw 27 Tryz.func138 rfl fun H=>?_
 refine Aa (Qp iM (Qp Ah (Aq (Ba (Qp Kt (Qp (Qc rfl (c83 e)) (Qp Ah (B2 (Qp Ai (Qp Bq (Ap (fun hc1=>Aa (Qp Ai (Qp Ah (Rc (Qr (Iq _) ?_))))) fun hc1=>?_)))))))))))
 .
  simp only [Ad,AV.int.injEq,true_and];rw [Z9,if_pos hc1]
 have hn:C0 e=Ch C0 e.args:=by rw [Z9,if_neg (by simpa using hc1)]
 refine A5 (Ba (Qp Ah (Aq (AW.block ?_))));have hlen:=Mb e hs;refine AW.Aan (fun (p:Nat)=>(⟨[(1,.ptr (cE e)),(4,.int .i64 (p:Int))],H,27⟩:St)) (fun p=>p<=e.args.length/\C0 e=Ch C0 (e.args.drop p)) (fun p=>e.args.length-p) (0) ?_ Bx ?_
 . exact ⟨A3 _,by simpa using hn⟩
 rintro p hR;refine Ba (Qp Ai (Qp Y7 (Qp Cg ?_)));refine Qp (Da e.args.length rfl rfl (by simp)) ?_;refine Qp Bt (Ap (fun hc2=>?_) fun hc2=>?_)
 .
  obtain ⟨a,ha⟩:=B3 hc2;have hlt:=Bf ha;have hm:=An ha;refine A5 (AW.seq (AW.block (Aa (Qp Y7 (Qp Cg (Qp Ai ?_))))));refine Qp (Cp Hh rfl rfl (by omega) (Nn ha)) ?_;refine Qp Kt ?_;refine Qp (Qc rfl (ih a hm (by have:=Gu hm;omega))) ?_;refine Qp Ah (B2 (Qp Ai (Qp Bq (Ap (fun hc3=>Aa (Qp Ai (Qp Ah (Ra (Au (Cn (Au (Qr (Iq _) ?_)))))))) fun hc3=>Rf (AW.region (Qp Ai (Qp Dt (Qp Ah (Aq ?_)))))))))
  .
   simp only [Ad,AV.int.injEq,true_and];rw [hR.2,Bd ha,Ch,if_pos hc3]
  refine ⟨p+1,?_,?_,Bx⟩
  . exact ⟨hlt,by rw [hR.2,Bd ha,Ch,if_neg (by simpa using hc3)]⟩
  omega
 have hd:=Ek hc2;refine AW.exit ?_;refine Bn (Ri (Aa (Qp Ah (Rb ?_))));refine Qr (Iq _) ?_;simp only [Ad,AV.int.injEq,true_and];rw [hR.2,hd];rfl
theorem e8c46 (f:Nat)(hfn:U3 Tryz.prog f=true)(cap:List AV)(fs:Ex->Int)(Pr:Ex->Prop)(hp:∀a,Pr a->∀b∈a.args,Pr b)(hf:∀a,Pr a->Ak Tryz.prog f (.agg (cE a)::cap) (.int .i64 (fs a)))(e:Ex)(he:Pr e):Ak Tryz.prog 67 [.agg (cE e),.fn (.func f) [] cap] (.int .i64 (J8 fs e)):=by
 revert he
 induction e using Ex.ind
 rename_i e ih;intro he;refine Cw 29 Tryz.func67 rfl fun H=>?_
 refine Aa (Qp iM (Qp Ah (Aq (Ba (Qp (A0 (v:=.fn _ _ _) rfl) (Qp Kt (Qp (Pi hfn rfl rfl rfl (hf e he)) (Qp Ah (B2 (Qp Ai (Qp Bq (Ap (fun hc1=>Aa (Qp Ai (Qp Ah (Rc (Qr (Iq _) ?_))))) fun hc1=>?_))))))))))))
 .
  simp only [Ad,AV.int.injEq,true_and];rw [aV,if_pos hc1]
 have hn:J8 fs e=Ch (J8 fs) e.args:=by rw [aV,if_neg (by simpa using hc1)]
 refine A5 (Ba (Qp Y7 (Qp Cg ?_)));refine Qp (Da e.args.length rfl rfl (by simp)) ?_;refine Qp Ai (Aq (AW.block (AW.sllen 16 rfl fun hlen=>?_)));simp only [B7,maxLen] at hlen;refine AW.Aan (fun (p:Nat)=>(⟨[(1,.fn (.func f) [] cap),(16,.sl 8 (e.args.map F5)),(17,.int .i64 e.args.length),(18,.int .i64 (p:Int))],H,29⟩:St)) (fun p=>p<=e.args.length/\J8 fs e=Ch (J8 fs) (e.args.drop p)) (fun p=>e.args.length-p) (0) ?_ Bx ?_
 . exact ⟨A3 _,by simpa using hn⟩
 rintro p hR;refine Aa (Qp Bt (Re (E9 (fun hc2=>?_) fun hc2=>?_)))
 .
  obtain ⟨a,ha⟩:=B3 hc2;have hlt:=Bf ha;have hm:=An ha;refine A5 (AW.seq (AW.block (Aa ?_)));refine Qp (Cp Hh rfl rfl (by omega) (Nn ha)) ?_;refine Qp Kt (Dx yY fun b7=>?_);refine Bw 0 Hh (_::_) ?_;refine Ji 7 0 rfl ?_;refine B2 (Qp Kt (Qp (A0 (v:=.fn _ _ _) rfl) (Qp (Qc rfl (ih a hm (hp e he a hm))) (Qp Ah (B2 (Qp Ai (Qp Bq (Ap (fun hc3=>Aa (Qp Ai (Qp Ah (Ra (Au (Cn (Au (Qr (Iq _) ?_)))))))) fun hc3=>Rf (AW.region (Qp Dt (Qp Ai (Aq ?_))))))))))))
  .
   simp only [Ad,AV.int.injEq,true_and];rw [hR.2,Bd ha,Ch,if_pos hc3]
  refine ⟨p+1,?_,?_,Bx⟩
  . exact ⟨hlt,by rw [hR.2,Bd ha,Ch,if_neg (by simpa using hc3)]⟩
  omega
 have hd:=Ek hc2;refine AW.exit ?_;refine Bn (Ri (Aa (Qp Ah (Rb ?_))));refine Qr (Iq _) ?_;simp only [Ad,AV.int.injEq,true_and];rw [hR.2,hd];rfl
theorem e8c21 (e:Ex)(hs:Bz e<=1048576):Ak Tryz.prog 26 [.agg (cE e)] (.int .i64 (C2 e)):=by
 refine Cw 18 Tryz.func26 rfl fun H=>?_
 refine Aa (Qp iM (Qp Ah (B2 (Qp Kt (Qp (Qc rfl (e8c23 e hs)) (Qp Ml (Qp Km (Qp Km (Qp Ah (Qp Ah (Re (AW.block (Aa (Qp Ai ?_))))))))))))));refine Qp De (Qp Ao (Ap (fun hc1=>Aa (Qp Ah (Ra (Qr (Iq _) ?_)))) fun hc1=>Aa (Qp Ai (Qp De (Qp Ao (Ap (fun hc2=>Aa (Qp Ah (Ra (Qr (Iq _) ?_)))) fun hc2=>Rf (Aa (Qp Kt ?_))))))))
 .
  try simp only [Fq,Cc] at *
  (simp only [Ad,C2];rw [if_pos hc1];done)
 .
  try simp only [Fq,Cc] at *
  (simp only [Ad,C2];rw [iN hc1];rw [if_pos hc2];done)
 refine Qp (Qc rfl (e8c46 68 (by kernel_rfl) [] Gt (fun _=>True) (fun _ _ _ _=>trivial) (fun a _=>c47 a) e trivial)) ?_;refine Qp Ah (Rb (Qr (Iq _) ?_))
 try simp only [Fq,Cc] at *
 (simp only [Ad,C2];rw [iN hc1];rw [iN hc2];done)
theorem e8c25 (e:Ex)(hs:Bz e<=1048576):Ak Tryz.prog 78 [.agg (cE e)] (.int .i64 (C2 e)):=by
 refine Cw 11 Tryz.func78 rfl fun H=>?_
 refine Aa (Qp iM (Qp Ah (Aq (Ba (Qp Kt (Qp (Qc rfl (c48 64 e hs)) (Qp De (Ap (fun hc1=>?_) fun hc1=>?_))))))))
 .
  have hct:decide (64<(Bz e:Int))=true:=by have:=eF 64 e;simp at hc1 ⊢;omega
  refine Aa (Qp Ah (Rc (Qr (Iq _) ?_)))
  try simp only [Fq,Cc] at *
  try simp only [Bk,Bs] at *
  simp only [Ad,C2, *,Al,↓reduceIte,I7,Hu,Fz,Hf,Ee,Cc,Jq,Gx,Bc,Bv]
 have hct:decide (64<(Bz e:Int))=false:=by have:=eF 64 e;simp at hc1 ⊢;omega
 refine A5 (Ba (Qp Kt (Qp (Qc rfl (c49 e hs)) (Qp De (Ap (fun hc2=>Aa (Qp Ah (Rc (Qr (Iq _) ?_)))) fun hc2=>A5 (Aa (Qp Kt (Qp (Qc rfl (c50 e hs)) (Qp Ah (Rb (Qr (Iq _) ?_)))))))))))
 .
  try simp only [Fq,Cc] at *
  try simp only [Bk,Bs] at *
  simp only [Ad,C2, *,Al,↓reduceIte,I7,Hu,Fz,Hf,Ee,Cc,Jq,Gx,Bc,Bv]
 try simp only [Fq,Cc] at *
 try simp only [Bk,Bs] at *
 simp only [Ad,C2, *,Al,↓reduceIte,I7,Hu,Fz,Hf,Ee,Cc,Jq,Gx,Bc,Bv]
theorem c34 (e:Ex)(hs:Bz e<=1048576):Ak Tryz.prog 71 [.agg (cE e)] (.bool (decide (Bz e<=200/\Ea e<=100))):=by
 refine Cw 11 Tryz.func71 rfl fun H=>?_
 refine Aa (Qp iM (Qp Ao (B2 (Qp Kt (Qp (Qc rfl (c48 200 e hs)) (Qp Mk (Qp A8 (Qg [] Qw Kt (Qg [(7,_)] Qw (Qc rfl (c49 e hs)) (Qg [(8,_)] Qw Mk (Qp Ej (Qp Ao (Rb (Qr (.bool _) ?_))))))))))))));have:=eF 200 e;show AV.bool _=AV.bool _
 congr 1
 rw [Sq];simp;omega
theorem bW {a b:Ex}(h:N9 a b=false):a.args.length=b.args.length:=by
 simp [N9] at h;omega
def badS (l:List Ev):Bool:=decide (12<(l.length:Int))||l.any fun v=>decide (10<(v.values.length:Int))
def fewEnvS (vars:List (List Ev)):Bool:=!((vars.take 20).any badS)&&decide ((vars.length:Int)<=20)
def fewE (e:Ex):Bool:=decide (Bz e<=200/\Ea e<=100)
theorem nY (a b:Ex)(hs:Bz a<=1048576):Ak Tryz.prog 42 [.agg (cE a),.agg (cE b)] (.bool (F4 a b)):=by
 revert b hs
 induction a using Ex.ind
 rename_i a ih;intro b hs;have hal:=Mb a hs;refine Cw 67 Tryz.func42 rfl fun H=>?_
 refine Aa (Qp iM (Qp iM (Qp Ao (Aq (Ba (Qp Pj (Qp Be (Qp Pj (Qp Be (Qp Bq (Qp A8 (Qg [] Qw bF (Qg [(12,_)] Qw Be (Qg [] Qw bF (Qg [(14,_)] Qw Be ?_)))))))))))))));refine Qg [(13,_),(15,_)] Yw Bq (Qp Cr (Qp A8 (Qg [] Qw kS (Qg [(19,_)] Qw Be (Qg [] Qw kS (Qg [(21,_)] Qw Be (Qg [(20,_),(22,_)] Yw Bq (Qp Cr (Qp A8 (Qg [] Qw gZ (Qg [(26,_)] Qw Be (Qg [] Qw gZ (Qg [(28,_)] Qw Be ?_)))))))))))));refine Qg [(27,_),(29,_)] Yw Bq (Qp Cr (Qp A8 (Qg [] Qw Vy (Qg [(33,_)] Qw (B1 Mf) (Qg [] Qw Vy (Qg [(35,_)] Qw (B1 Mf) (Qg [(34,_),(36,_)] Yw (H8 tok rfl rfl rfl rfl rfl) (Qp Cr (Qp A8 (Qg [] Qw Y7 (Qg [(40,_)] Qw Cg ?_)))))))))));refine Yh [(41,_)] Qw (fun hG=>Da a.args.length rfl rfl (by simp)) ?_;refine Qg [] Qw Y7 (Qg [(43,_)] Qw Cg ?_);refine Yh [(44,_)] Qw (fun hG=>Da b.args.length rfl rfl (by simp)) ?_;refine Qg [(42,_),(45,_)] Yw Bq (Qp Cr (Ap (fun hc1=>?_) fun hc1=>?_))
 .
  have hh:N9 a b=true:=by simpa [N9] using hc1
  refine Aa (Qp Ao (Rc (Qr (.bool _) ?_)));rw [Oh,if_pos hh];rfl
 have hh:N9 a b=false:=by simpa [N9] using hc1
 have hlen:=bW hh;refine A5 (Ba (Qp Ah (Aq (AW.block ?_))));refine AW.Aan (fun (p:Nat)=>(⟨[(2,.ptr (cE a)),(3,.ptr (cE b)),(5,.int .i64 (p:Int))],H,67⟩:St)) (fun p=>p<=a.args.length/\Tc a.args b.args=Tc (a.args.drop p) (b.args.drop p)) (fun p=>a.args.length-p) (0) ?_ Bx ?_
 . exact ⟨A3 _,rfl⟩
 rintro p hR;refine Ba (Qp Ai (Qp Y7 (Qp Cg ?_)));refine Qp (Da a.args.length rfl rfl (by simp)) ?_;refine Qp Bt (Ap (fun hc2=>?_) fun hc2=>?_)
 .
  obtain ⟨x,hx⟩:=B3 hc2;have hlt:=Bf hx;have hm:=An hx;obtain ⟨y,hy⟩:∃y,b.args[p]? = some y:=⟨_,List.getElem?_eq_getElem (by omega)⟩;refine A5 (AW.seq (AW.block (AW.seq ?_)));refine Id ?_;refine Qn 0 rfl Y7 (Qn 1 rfl Cg (Qn 2 rfl Ai ?_));refine Qn 3 rfl (Cp Hh rfl rfl (by omega) (Nn hx)) ?_;refine Qn 4 rfl Kt (Qn 5 rfl Y7 (Qn 6 rfl Cg (Qn 7 rfl Ai ?_)));refine Qn 8 rfl (Cp Hh rfl rfl (by omega) (Nn hy)) ?_;refine Qn 9 rfl Kt ?_;refine Qn 10 rfl (Qc rfl (ih x hm y (by have:=Gu hm;omega))) ?_;refine Qn 11 rfl E7 ?_;refine Fs ?_;refine A2 (E9 (fun hc3=>Aa (Qp Ao (Ra (Au (Cn (Au (Qr (.bool _) ?_))))))) fun hc3=>Rf (AW.region (Qp Ai (Qp Dt (Qp Ah (Aq ?_))))))
  . rw [Oh,if_neg (by simp [hh]),hR.2,Bd hx,Bd hy];show _=AV.bool (if (!F4 x y)=true then false else _);rw [if_pos hc3];rfl
  refine ⟨p+1,?_,?_,Bx⟩
  . exact ⟨hlt,by rw [hR.2,Bd hx,Bd hy,Tc];simp [hc3]⟩
  omega
 have hd:=Ek hc2;refine AW.exit ?_;refine Bn (Ri (Aa (Qp Ao (Rb ?_))));refine Qr (.bool _) ?_;rw [Oh,if_neg (by simp [hh]),hR.2,hd];rfl
theorem wB {s:List UInt8}(h:s.length≠0):s[(0:Int).toNat]? = some (s.headD 0):=by
 cases s with
 | nil=>exact absurd rfl h
 | cons a r=>rfl
theorem jR {s:List UInt8}{x:Bool}(h:M2 [((((s.length:Nat):Int)==0||x),false)]):s.length≠0:=by
 have h1:=h _ (Hv.2 rfl);intro h0;simp [h0] at h1
theorem Xp {s:List UInt8}{k:Nat}{c:UInt8}(h:s[k]? = some c):s[((k:Nat):Int).toNat]? = some c:=h
theorem U6 {s:List UInt8}(h:s.length=0\/24<s.length\/Zo ((s.headD 0).toNat)=true):Ik s=false:=by
 unfold Ik;rcases h with h | h | h
 .
  have e:(s.length==0)=true:=by simp [h]
  rw [e];rfl
 .
  have e:decide (s.length<=24)=false:=by simp;omega
  rw [e,Gx,Jq,Jq]
 rw [h,Bc,Gx,Jq]
theorem pP {s:List UInt8}(h:s.length≠0/\s.length<=24/\Zo ((s.headD 0).toNat)=false)(ha:s.all kV=true):Ik s=true:=by
 unfold Ik;have e1:(s.length==0)=false:=by rw [F0];exact h.1
 have e2:decide (s.length<=24)=true:=by simp;exact h.2.1
 rw [e1,e2,h.2.2,ha];rfl
theorem tP {s:List UInt8}(h:Z3 ((s.headD 0).toNat)=false):Ik s=false:=by
  cases s with
  | nil=>rfl
  | cons a r=>
    have h1:Z3 a.toNat=false:=h;cases hd:Zo a.toNat with
    | true=>exact U6 (.inr (.inr hd))
    | false=>
      unfold Ik;have:(a::r).all kV=false:=by rw [Jr];unfold kV;rw [h1,hd];rfl
      rw [this,Gx]
theorem pO {s:List UInt8}{c:UInt8}(hm:c∈s)(h:kV c=false):s.all kV=false:=by
 rw [nD];intro ha;rw [E3.1 ha c hm] at h;cases h
theorem Xm {s:List UInt8}{k:Nat}{c:UInt8}(hc:s[k]? = some c)(h:(s.take k).all kV=true)(hx:kV c=true):(s.take (k+1)).all kV=true:=by
 rw [Cf hc,List.all_append,h];simp [hx]
theorem let_dig {b:UInt8}(h:Z3 b.toNat=true):Zo b.toNat=false:=by
 simp [Z3,Zo] at h ⊢;omega
theorem tQ {l:List Fi}{k:Nat}{a:Fi}(h:l[k]? = some a):(l.take (k+1)).map (·.name)=(l.take k).map (·.name) ++ [a.name]:=by rw [Cf h];simp
theorem rL {l:List e8Sc}{k:Nat}{a:e8Sc}(h:l[k]? = some a):(l.take (k+1)).map (·.name)=(l.take k).map (·.name) ++ [a.name]:=by rw [Cf h];simp
theorem c111 (n:Int):Ak Tryz.prog 231 [.int .u8 n] (.bool (Zo n)):=by
 refine Cw 9 Tryz.func231 rfl fun H=>?_
 refine Aa (Qp Ao (B2 (Qp (A0 (v:=.int .u8 _) rfl) (Qp Fc (Qp A8 (Qg [] Qw (A0 (v:=.int .u8 _) rfl) (Qg [(6,_)] Qw Mk (Qp Ej (Qp Ao (Rb (Qr (.bool _) ?_)))))))))));rfl
theorem c112 (n:Int):Ak Tryz.prog 232 [.int .u8 n] (.bool (Z3 n)):=by
 refine Cw 21 Tryz.func232 rfl fun H=>?_
 refine Aa (Qp Ao (B2 (Qp (A0 (v:=.int .u8 _) rfl) (Qp Aj (Qp A8 (Qg [] Qw (A0 (v:=.int .u8 _) rfl) ?_))))));refine Qg [(6,_)] Qw Fc (Qg [(7,_)] Qw A8 (Qg [] Qw (A0 (v:=.int .u8 _) rfl) (Qg [(9,_)] Qw Mk (Qg [(8,_),(10,_)] Qw Ej (Qp Cr (Qp A8 (Qg [] Qw (A0 (v:=.int .u8 _) rfl) (Qg [(14,_)] Qw Fc (Qg [(15,_)] Qw A8 (Qg [] Qw (A0 (v:=.int .u8 _) rfl) (Qg [(17,_)] Qw Mk (Qg [(16,_),(18,_)] Qw Ej (Qp Cr (Qp Ao (Rb (Qr (.bool _) ?_))))))))))))))));rfl
theorem c113 (n:Int):Ak Tryz.prog 235 [.int .u8 n] (.bool (Z3 n)):=by
 refine Cw 21 Tryz.func235 rfl fun H=>?_
 refine Aa (Qp Ao (B2 (Qp (A0 (v:=.int .u8 _) rfl) (Qp Fc (Qp A8 ?_)))));refine Qg [] Qw (A0 (v:=.int .u8 _) rfl) (Qg [(6,_)] Qw Mk (Qp Ej (Qp A8 (Qg [] Qw (A0 (v:=.int .u8 _) rfl) (Qg [(10,_)] Qw Fc (Qg [(11,_)] Qw A8 (Qg [] Qw (A0 (v:=.int .u8 _) rfl) (Qg [(13,_)] Qw Mk (Qg [(12,_),(14,_)] Qw Ej (Qp Cr (Qp A8 (Qg [] Qw (A0 (v:=.int .u8 _) rfl) (Qg [(18,_)] Qw Aj (Qp Cr (Qp Ao (Rb (Qr (.bool _) ?_)))))))))))))))));simp only [Ad,Z3,AV.bool.injEq];cases h1:(n==95) <;> simp
theorem c102 (s:List UInt8)(hs:s.length<=1048576):Ak Tryz.prog 165 [.str s] (.bool (Ik s)):=by
 refine Cw 35 Tryz.func165 rfl fun H=>?_
 refine Aa (Qp Ao (Aq (Ba (Qp D3 (Qp (Ck (n:=s.length) tok rfl rfl rfl (rfl)) (Qp Aj (Qp A8 (Qg [] Qw D3 (Qg [(8,_)] Qw (Ck (n:=s.length) tok rfl rfl rfl (rfl)) (Qg [(9,_)] Qw De (Qp Cr (Qp A8 (Qg [] Qw D3 ?_)))))))))))));refine Yh [(13,_)] Qw (fun hG=>B8 tok rfl rfl rfl rfl (by decide) (wB (jR hG))) ?_;refine Qg [(14,_)] Qw (Qc rfl (c111 _)) (Qp Cr (Ap (fun hc1=>Aa (Qp Ao (Rc (Qr (.bool _) ?_)))) fun hc1=>?_))
 .
  simp only [Ad,AV.bool.injEq];simp only [Ff,Dp,beq_iff_eq] at hc1;rcases hc1 with (h1 | h1) | h1
  . exact (U6 (.inl (by omega))).symm
  . exact (U6 (.inr (.inl (by omega)))).symm
  exact (U6 (.inr (.inr h1))).symm
 have hn1:s.length≠0/\s.length<=24/\Zo ((s.headD 0).toNat)=false:=by
    simp only [En,Ih,F0] at hc1;exact ⟨by omega,by omega,hc1.2⟩
 refine A5 (Ba (Qp D3 (Qp (Ck (n:=s.length) tok rfl rfl rfl (rfl)) (Qp Ai (Aq (AW.block ?_))))));refine AW.Aan (fun (p:Nat)=>(⟨[(0,.str s),(18,.int .i64 s.length),(19,.int .i64 (p:Int))],H,35⟩:St)) (fun p=>p<=s.length/\(s.take p).all kV=true) (fun p=>s.length-p) (0) ?_ Bx ?_
 . exact ⟨A3 _,by simp⟩
 rintro p hR;refine Aa (Qp Bt (Re (E9 (fun hc2=>?_) fun hc2=>?_)))
 .
  obtain ⟨c,hc⟩:=B3 hc2;have hlt:=Bf hc;have hm:=An hc;refine A5 (AW.seq (AW.block (Aa (Qp Ai (Qp Ah (B2 (Qp D3 (Qp Ai ?_))))))));refine Qp (B8 tok rfl rfl rfl rfl (by omega) (Xp hc)) ?_;refine Qp (Qc rfl (c112 _)) (Qp E7 (Qp A8 (Qg [] Qw D3 (Qg [] Qw Ai ?_))));refine Yh [(28,_),(29,_)] Yw (fun hG=>B8 tok rfl rfl rfl rfl (by omega) (Xp hc)) ?_;refine Qg [(30,_)] Qw (Qc rfl (c111 _)) (Qg [(31,_)] Qw E7 (Qp Ej (Ap (fun hc3=>?_) fun hc3=>?_)))
  .
   have hch:kV c=false:=by
    unfold kV;cases hl:Z3 c.toNat <;> cases hd:Zo c.toNat <;> simp_all
   refine Aa (Qp Ao (Ra (Au (Cn (Au (Qr (.bool _) ?_))))));simp only [Ad,AV.bool.injEq]
   symm
   unfold Ik;rw [pO hm hch,Gx]
  have hch:kV c=true:=by
   unfold kV;cases hl:Z3 c.toNat <;> cases hd:Zo c.toNat <;> simp_all
  refine Rf (AW.region (Qp Dt (Qp Ai (Aq ?_))));refine ⟨p+1,?_,?_,Bx⟩
  . exact ⟨hlt,Xm hc hR.2 hch⟩
  omega
 have hte:=B9 hc2;refine AW.exit ?_;refine Bn (Ri (Aa (Qp Ao (Rb ?_))));refine Qr (.bool _) ?_;simp only [Ad,AV.bool.injEq];exact (pP hn1 (by rw [<-hte];exact hR.2)).symm
theorem c104 (s:List UInt8)(hs:s.length<=1048576):Ak Tryz.prog 175 [.str s] (.bool (Ik s)):=by
 refine Cw 41 Tryz.func175 rfl fun H=>?_
 refine Aa (Qp Ao (Aq (Ba (Qp D3 (Qp (Ck (n:=s.length) tok rfl rfl rfl (rfl)) (Qp Aj (Qp A8 (Qg [] Qw D3 (Qg [(8,_)] Qw (Ck (n:=s.length) tok rfl rfl rfl (rfl)) (Qg [(9,_)] Qw De (Qp Cr (Qp A8 (Qg [] Qw D3 ?_)))))))))))));refine Yh [(13,_)] Qw (fun hG=>B8 tok rfl rfl rfl rfl (by decide) (wB (jR hG))) ?_;refine Qg [(14,_)] Qw (Qc rfl (c113 _)) (Qg [(15,_)] Qw E7 (Qp Cr (Ap (fun hc1=>Aa (Qp Ao (Rc (Qr (.bool _) ?_)))) fun hc1=>?_)))
 .
  simp only [Ad,AV.bool.injEq];simp only [Ff,Dp,beq_iff_eq,Bk] at hc1;rcases hc1 with (h1 | h1) | h1
  . exact (U6 (.inl (by omega))).symm
  . exact (U6 (.inr (.inl (by omega)))).symm
  exact (tP h1).symm
 have hn1:s.length≠0/\s.length<=24/\Z3 ((s.headD 0).toNat)=true:=by
    simp only [En,Ih,F0,Bs] at hc1;exact ⟨by omega,by omega,hc1.2⟩
 refine A5 (Ba (Qp Ah (Aq (AW.block ?_))));refine AW.Aan (fun (p:Nat)=>(⟨[(0,.str s),(3,.int .i64 (p:Int))],H,41⟩:St)) (fun p=>p<=s.length/\(s.take p).all kV=true) (fun p=>s.length-p) (0) ?_ Bx ?_
 . exact ⟨A3 _,by simp⟩
 rintro p hR;refine Ba (Qp Ai (Qp D3 (Qp (Ck (n:=s.length) tok rfl rfl rfl (rfl)) (Qp Bt (Ap (fun hc2=>?_) fun hc2=>?_)))))
 .
  obtain ⟨c,hc⟩:=B3 hc2;have hlt:=Bf hc;have hm:=An hc;refine A5 (AW.seq (AW.block (Aa (Qp D3 (Qp Ai ?_)))));refine Qp (B8 tok rfl rfl rfl rfl (by omega) (Xp hc)) ?_;refine Qp (Qc rfl (c113 _)) (Qp E7 (Qp A8 (Qg [] Qw D3 (Qg [] Qw Ai ?_))));refine Yh [(30,_),(31,_)] Yw (fun hG=>B8 tok rfl rfl rfl rfl (by omega) (Xp hc)) ?_;refine Qg [(32,_)] Qw Bt (Qg [(33,_)] Qw A8 (Qg [] Qw D3 (Qg [] Qw Ai ?_)));refine Yh [(35,_),(36,_)] Yw (fun hG=>B8 tok rfl rfl rfl rfl (by omega) (Xp hc)) ?_;refine Qg [(37,_)] Qw De (Qg [(34,_),(38,_)] Qw Cr (Qp Ej (Ap (fun hc3=>?_) fun hc3=>?_)))
  .
   have hch:kV c=false:=by
    unfold kV Zo;cases hl:Z3 c.toNat <;> simp_all <;> omega
   refine Aa (Qp Ao (Ra (Au (Cn (Au (Qr (.bool _) ?_))))));simp only [Ad,AV.bool.injEq]
   symm
   unfold Ik;rw [pO hm hch,Gx]
  have hch:kV c=true:=by
   unfold kV Zo;cases hl:Z3 c.toNat <;> simp_all <;> omega
  refine Rf (AW.region (Qp Ai (Qp Dt (Qp Ah (Aq ?_)))));refine ⟨p+1,?_,?_,Bx⟩
  . exact ⟨hlt,Xm hc hR.2 hch⟩
  omega
 have hte:=B9 hc2;refine AW.exit ?_;refine Bn (Ri (Aa (Qp Ao (Rb ?_))));refine Qr (.bool _) ?_;simp only [Ad,AV.bool.injEq];exact (pP ⟨hn1.1,hn1.2.1,let_dig hn1.2.2⟩ (by rw [<-hte];exact hR.2)).symm
theorem c103 (s:List UInt8)(hs:s.length<=1048576):Ak Tryz.prog 166 [.str s] (.bool (Tr s)):=by
 refine Cw 9 Tryz.func166 rfl fun H=>?_
 refine Aa (Qp Ao (B2 (Qp D3 (Qp (Qc rfl (c102 s hs)) (Qp A8 (Qg [] Qw D3 (Qg [(6,_)] Qw (Dq rfl rfl) (Qp Ej (Qp Ao (Rb (Qr (.bool _) ?_)))))))))));rfl
theorem Vc {ns:List (List UInt8)}{k:Nat}{n:List UInt8}(h:ns[k]? = some n)(hn:(ns.take k).contains n=false):Ha ns n=(k:Int):=by
 have h1:=T4 h;rw [hn] at h1;have hm:n∈ns:=An h;have hc:ns.contains n=true:=by simpa using hm
 have h3:ns.idxOf n<=k:=by
  refine Nat.le_of_not_lt fun hlt=>?_
  have hk:k<ns.length:=Bf h;have h4:=List.not_of_lt_findIdx (p:=fun x=>x==n) (xs:=ns) (i:=k) hlt;have h5:ns[k]=n:=by rw [List.getElem?_eq_getElem hk] at h;exact Option.some.inj h
  simp only [h5] at h4;simp at h4
 unfold Ha at h1 ⊢;rw [if_pos hc] at h1 ⊢;simp at h1;omega
theorem Sf {ns:List (List UInt8)}{n:List UInt8}(h:ns.contains n=false):Ha ns n = -1:=by unfold Ha;rw [if_neg (by simp only [h];decide)]
theorem Md {ns:List (List UInt8)}{k:Nat}{m n:List UInt8}(h:ns[k]? = some m)(hn:(ns.take k).contains n=false)(hne:(m==n)=false):(ns.take (k+1)).contains n=false:=by
 rw [Cf h];have h1:m≠n:=by simpa using hne
 simp at hn ⊢;exact ⟨hn,fun e=>h1 e.symm⟩
def Ly (s:e8Sc):Prop:=s.name.length<=1048576/\s.fields.length<=1048576/\∀f∈s.fields,f.name.length<=1048576
theorem bQ {seen:List (List UInt8)}{a:Fi}{r:List Fi}(h:Fe seen a=0):K2 seen (a::r)=K2 (seen ++ [a.name]) r:=by rw [K2,if_neg (by rw [h];decide)]
theorem Kf {seen:List (List UInt8)}{a:Fi}{r:List Fi}(h:Fe seen a≠0):K2 seen (a::r)=Fe seen a:=by rw [K2,if_pos (by simpa using h)]
theorem gM {seen:List (List UInt8)}{a:e8Sc}{r:List e8Sc}(h:Ip seen a=0):L4 seen (a::r)=L4 (seen ++ [a.name]) r:=by rw [L4,if_neg (by rw [h];decide)]
theorem Sn {seen:List (List UInt8)}{a:e8Sc}{r:List e8Sc}(h:Ip seen a≠0):L4 seen (a::r)=Ip seen a:=by rw [L4,if_pos (by simpa using h)]
theorem oW (k:Int):(k != 0&&k != 1&&k != 2)=(decide (k<0)||decide (3<=k)):=by
 rw [Sq];simp;omega
theorem oK (s:List UInt8):(!Ik s||s==timeB) = !Tr s:=by
 unfold Tr;cases Ik s <;> cases (s==timeB) <;> rfl
theorem c105 (s:e8Sc)(hl:s.fields.length<=1048576)(n:List UInt8):Ak Tryz.prog 176 [.agg (Js s),.str n] (.int .i64 (Ha (s.fields.map (·.name)) n)):=by
 refine Cw 22 Tryz.func176 rfl fun H=>?_
 refine Aa (Qp (Eh Jl) (Qp Ah (Aq (Ba (Qp Ah (Aq (AW.block ?_)))))));refine AW.Aan (fun (p:Nat)=>(⟨[(1,.str n),(2,.ptr (Js s)),(5,.int .i64 (p:Int))],H,22⟩:St)) (fun p=>p<=s.fields.length/\((s.fields.map (·.name)).take p).contains n=false) (fun p=>s.fields.length-p) (0) ?_ Bx ?_
 . exact ⟨A3 _,by simp⟩
 rintro p hR;refine Ba (Qp Ai (Qp (Qf [_]) (Qp Cg ?_)));refine Qp (Da s.fields.length rfl rfl (by simp)) ?_;refine Qp Bt (Ap (fun hc1=>?_) fun hc1=>?_)
 .
  obtain ⟨a,ha⟩:=B3 hc1;have hlt:=Bf ha;have hm:=An ha;have hna:(s.fields.map (·.name))[p]? = some a.name:=by simp [ha]
  refine A5 (AW.seq (AW.block (Aa (Qp (Qf [_]) (Qp Cg (Qp Ai ?_))))));refine Qp (Cp E4 rfl rfl (by omega) (Bp ha)) ?_;refine Qp (Qf E4) (Qp Dk (Qp D3 (Qp (A9 rfl rfl) (Ap (fun hc2=>Aa (Qp Ai (Qp Ah (Ra (Au (Cn (Au (Qr (Iq _) ?_)))))))) fun hc2=>Rf (AW.region (Qp Ai (Qp Dt (Qp Ah (Aq ?_)))))))))
  .
   have e:a.name=n:=by simpa using hc2
   rw [e] at hna;rw [Vc hna hR.2];rfl
  refine ⟨p+1,?_,?_,Bx⟩
  . exact ⟨hlt,Md hna hR.2 hc2⟩
  omega
 have hte:=B9 hc1;refine AW.exit ?_;refine Bn (Ri (Aa (Qp Ah (Rb ?_))));refine Qr (Iq _) ?_;have h2:=hR.2;rw [<-Nc,hte] at h2;rw [Sf h2];rfl
theorem c88 (l:List e8Sc)(hl:l.length<=1048576)(n:List UInt8):Ak Tryz.prog 103 [.sl 2 (l.map Js),.str n] (.int .i64 (Ha (l.map (·.name)) n)):=by
 refine Cw 20 Tryz.func103 rfl fun H=>?_
 refine Aa (Qp Ah (Aq (Ba (Qp Ah (Aq (AW.block ?_))))));refine AW.Aan (fun (p:Nat)=>(⟨[(0,.sl 2 (l.map Js)),(1,.str n),(5,.int .i64 (p:Int))],H,20⟩:St)) (fun p=>p<=l.length/\((l.map (·.name)).take p).contains n=false) (fun p=>l.length-p) (0) ?_ Bx ?_
 . exact ⟨A3 _,by simp⟩
 rintro p hR;refine Ba (Qp Ai (Qp Ez ?_));refine Qp (Da l.length rfl rfl (by simp)) ?_;refine Qp Bt (Ap (fun hc1=>?_) fun hc1=>?_)
 .
  obtain ⟨a,ha⟩:=B3 hc1;have hlt:=Bf ha;have hm:=An ha;have hna:(l.map (·.name))[p]? = some a.name:=by simp [ha]
  refine A5 (AW.seq (AW.block (Aa (Qp Ez (Qp Ai ?_)))));refine Qp (Cp Jl rfl rfl (by omega) (Bp ha)) ?_;refine Qp (Qf Jl) (Qp Dk (Qp D3 (Qp (A9 rfl rfl) (Ap (fun hc2=>Aa (Qp Ai (Qp Ah (Ra (Au (Cn (Au (Qr (Iq _) ?_)))))))) fun hc2=>Rf (AW.region (Qp Ai (Qp Dt (Qp Ah (Aq ?_)))))))))
  .
   have e:a.name=n:=by simpa using hc2
   rw [e] at hna;rw [Vc hna hR.2];rfl
  refine ⟨p+1,?_,?_,Bx⟩
  . exact ⟨hlt,Md hna hR.2 hc2⟩
  omega
 have hte:=B9 hc1;refine AW.exit ?_;refine Bn (Ri (Aa (Qp Ah (Rb ?_))));refine Qr (Iq _) ?_;have h2:=hR.2;rw [<-Nc,hte] at h2;rw [Sf h2];rfl
theorem c85 (s:e8Sc)(hs:Ly s):Ak Tryz.prog 92 [.agg (Js s)] (.int .i64 (Iu s)):=by
 refine Cw 45 Tryz.func92 rfl fun H=>?_
 refine Aa (Qp (Eh Jl) (Qp Ah (Aq (Ba (Qp (Qf Jl) (Qp Dk (Qp (Qc rfl (c102 _ hs.1)) (Qp E7 (Ap (fun hc1=>Aa (Qp Ah (Rc (Qr (Iq _) ?_)))) fun hc1=>A5 (Ba (Qp (Qf [_]) (Qp Cg ?_))))))))))))
 . rw [show Iu s=8 by unfold Iu;rw [if_pos (by simpa using hc1)]];rfl
 refine Qp (Da s.fields.length rfl rfl (by simp)) ?_;refine Qp De (Ap (fun hc2=>Aa (Qp Ah (Rc (Qr (Iq _) ?_)))) fun hc2=>A5 (Aa (Qe (Lk) ?_)))
 . rw [show Iu s=5 by unfold Iu;rw [if_neg (by simpa using hc1),if_pos (by simpa using hc2)]];rfl
 rintro _ _ ⟨b14,rfl,rfl⟩;refine Qp Qh (Aq (Ba (Qp (Qf [_]) (Qp Cg ?_))));refine Qp (Da s.fields.length rfl rfl (by simp)) ?_;refine Qp Ai (Aq (AW.block ?_));have hfl:=hs.2.1;refine AW.Aan (fun (p:Nat×List (List UInt8))=>(⟨[(3,.val (.map (some b14))),(16,.sl 2 (s.fields.map vM)),(17,.int .i64 s.fields.length),(18,.int .i64 (p.1:Int))],.smap b14 (Yz p.2)::H,45⟩:St)) (fun p=>p.1<=s.fields.length/\K2 [] s.fields=K2 p.2 (s.fields.drop p.1)) (fun p=>s.fields.length-p.1) ((0,[])) ?_ Bx ?_
 . exact ⟨A3 _,rfl⟩
 rintro p hR;refine Aa (Qp Bt (Re (E9 (fun hc3=>?_) fun hc3=>?_)))
 .
  obtain ⟨a,ha⟩:=B3 hc3;have hlt:=Bf ha;have hm:=An ha;refine A5 (AW.seq (AW.block (Aa ?_)));refine Qp (Cp E4 rfl rfl (by omega) (Bp ha)) ?_;refine Qp (B1 E4) (Dx gjy fun b5=>?_);refine Bw 0 E4 (_::_::_) ?_;refine Ji 5 0 rfl ?_;refine Re (AW.block (Aa (Qp (Qf E4) (Qp Dk (Qp (Qc rfl (c103 _ (hs.2.2 a hm))) (Qp E7 (Qp Ao (Ap (fun hc4=>?_) fun hc4=>?_))))))))
  .
   have hb4:(!Tr a.name)=true:=hc4;refine Aa (Qp Ah (Ra (Rj (Au ?_))));refine Yx [Iq _] Ze S1 ?_
   have he:Fe p.2 a=8:=by
    unfold Fe;rw [if_pos hb4]
   rw [show Iu s=Fe p.2 a by unfold Iu;rw [if_neg (by simpa using hc1),if_neg (by simpa using hc2),hR.2,Bd ha,Kf (by rw [he];decide)],he];rfl
  have hb4:¬(!Tr a.name)=true:=by simpa using hc4
  refine Aa (Qp Ce (Qp (Qf E4) (Qp Dk ?_)));refine AOL.Aas (Uq (i:=0) (ks:=p.2) tok rfl rfl rfl rfl rfl (by kernel_rfl) rfl rfl rfl) rfl rfl ?_;refine Qp Ao (Ap (fun hc5=>?_) fun hc5=>?_)
  .
   have hb5:p.2.contains a.name=true:=hc5;refine Aa (Qp Ah (Ra (Rj (Au ?_))));refine Yx [Iq _] Ze S1 ?_
   have he:Fe p.2 a=7:=by
    unfold Fe;rw [if_neg hb4,if_pos hb5]
   rw [show Iu s=Fe p.2 a by unfold Iu;rw [if_neg (by simpa using hc1),if_neg (by simpa using hc2),hR.2,Bd ha,Kf (by rw [he];decide)],he];rfl
  have hb5:¬p.2.contains a.name=true:=by simpa using hc5
  refine Aa (Qp (Qf [Iq _]) (Qp Be (Qp Bt (Qp A8 (Qg [] Qw (Qf [Iq _]) (Qg [(37,_)] Qw Be (Qg [(38,_)] Qw Fc (Qp Cr (Qp Ao (Ap (fun hc6=>?_) fun hc6=>?_))))))))))
  .
   have hb6:=hc6;refine Aa (Qp Ah (Ra (Rj (Au ?_))));refine Yx [Iq _] Ze S1 ?_
   have he:Fe p.2 a=1:=by
    unfold Fe;rw [if_neg hb4,if_neg hb5,if_pos hb6]
   rw [show Iu s=Fe p.2 a by unfold Iu;rw [if_neg (by simpa using hc1),if_neg (by simpa using hc2),hR.2,Bd ha,Kf (by rw [he];decide)],he];rfl
  have hb6:=nD.mp hc6;have he0:Fe p.2 a=0:=by unfold Fe;rw [if_neg hb4,if_neg hb5,if_neg hb6]
  refine Rf (AW.region (Qp Ce (Qp (Qf E4) (Qp Dk ?_))));refine Rt (Xh (i:=0) (H2:=_::_) tok rfl rfl rfl rfl rfl rfl rfl rfl (by simpa using hb5) rfl) ?_;refine Rk (AW.region (Qp Dt (Qp Ai (Aq ?_))));refine ⟨(p.1+1,p.2 ++ [a.name]),?_,?_,Bx⟩
  . exact ⟨hlt,by rw [hR.2,Bd ha,bQ he0]⟩
  omega
 have hd:=Ek hc3;refine AW.exit ?_;refine Bn (Ri (Aa (Qp Ah (Rb ?_))));refine Yx [Iq _] Ze S1 ?_;rw [show Iu s=0 by unfold Iu;rw [if_neg (by simpa using hc1),if_neg (by simpa using hc2),hR.2,hd];rfl];rfl
theorem c87 (s:e8Sc)(hs:Ly s):Ak Tryz.prog 102 [.agg (Js s)] (.int .i64 (Iu s)):=by
 refine Cw 53 Tryz.func102 rfl fun H=>?_
 refine Aa (Qp (Eh Jl) (Qp Ah (Aq (Ba (Qp (Qf Jl) (Qp Dk (Qp (Qc rfl (c104 _ hs.1)) (Qp E7 (Ap (fun hc1=>Aa (Qp Ah (Rc (Qr (Iq _) ?_)))) fun hc1=>A5 (Ba (Qp (Qf [_]) (Qp Cg ?_))))))))))))
 . rw [show Iu s=8 by unfold Iu;rw [if_pos (by simpa using hc1)]];rfl
 refine Qp (Da s.fields.length rfl rfl (by simp)) ?_;refine Qp De (Ap (fun hc2=>Aa (Qp Ah (Rc (Qr (Iq _) ?_)))) fun hc2=>A5 (Ba (Qp Ah (Aq (AW.block ?_)))))
 . rw [show Iu s=5 by unfold Iu;rw [if_neg (by simpa using hc1),if_pos (by simpa using hc2)]];rfl
 have hfl:=hs.2.1;refine AW.Aan (fun (p:Nat)=>(⟨[(1,.ptr (Js s)),(3,.int .i64 (p:Int))],H,53⟩:St)) (fun p=>p<=s.fields.length/\K2 [] s.fields=K2 ((s.fields.take p).map (·.name)) (s.fields.drop p)) (fun p=>s.fields.length-p) (0) ?_ Bx ?_
 . exact ⟨A3 _,rfl⟩
 rintro p hR;refine Ba (Qp Ai (Qp (Qf [_]) (Qp Cg ?_)));refine Qp (Da s.fields.length rfl rfl (by simp)) ?_;refine Qp Bt (Ap (fun hc3=>?_) fun hc3=>?_)
 .
  obtain ⟨a,ha⟩:=B3 hc3;have hlt:=Bf ha;have hm:=An ha;have hna:(s.fields.map (·.name))[p]? = some a.name:=by simp [ha]
  refine A5 (AW.seq (AW.block (Aa (Qp (Qf [_]) (Qp Cg (Qp Ai ?_))))));refine Qp (Cp E4 rfl rfl (by omega) (Bp ha)) ?_;refine Qp (B1 E4) (Dx gjy fun b4=>?_);refine Bw 0 E4 (_::_) ?_;refine Ji 4 0 rfl ?_;refine Aq (Ba (Qp (Qf E4) (Qp Dk (Qp (Qc rfl (c104 _ (hs.2.2 a hm))) (Qp E7 (Qp A8 (Qg [] Qw (Qf E4) (Qg [(30,_)] Qw Dk (Qg [(31,_)] Qw (A9 rfl rfl) (Qp Cr (Ap (fun hc4=>?_) fun hc4=>?_)))))))))))
  .
   have hb4:(!Tr a.name)=true:=by rw [<-oK];exact hc4
   refine Aa (Qp Ah (Rc (Rj (Au (Qr (Iq _) ?_)))))
   have he:Fe ((s.fields.take p).map (·.name)) a=8:=by
    unfold Fe;rw [if_pos hb4]
   rw [show Iu s=Fe ((s.fields.take p).map (·.name)) a by unfold Iu;rw [if_neg (by simpa using hc1),if_neg (by simpa using hc2),hR.2,Bd ha,Kf (by rw [he];decide)],he];rfl
  have hb4:¬(!Tr a.name)=true:=by rw [<-oK];exact nD.mp hc4
  refine A5 (Ba (Qp (B1 Jl) (Qp (Qf E4) (Qp Dk (Qp (Qc rfl (c105 s hs.2.1 _)) (Qp Ai (Qp Bt (Ap (fun hc5=>?_) fun hc5=>?_))))))))
  .
   rw [T4 hna,<-Nc] at hc5;have hb5:((s.fields.take p).map (·.name)).contains a.name=true:=hc5;refine Aa (Qp Ah (Rc (Rj (Au (Qr (Iq _) ?_)))))
   have he:Fe ((s.fields.take p).map (·.name)) a=7:=by
    unfold Fe;rw [if_neg hb4,if_pos hb5]
   rw [show Iu s=Fe ((s.fields.take p).map (·.name)) a by unfold Iu;rw [if_neg (by simpa using hc1),if_neg (by simpa using hc2),hR.2,Bd ha,Kf (by rw [he];decide)],he];rfl
  rw [T4 hna,<-Nc] at hc5;have hb5:¬((s.fields.take p).map (·.name)).contains a.name=true:=nD.mp hc5;refine A5 (Aa (Qp (Qf [Iq _]) (Qp Be (Qp Bq (Qp A8 (Qg [] Qw (Qf [Iq _]) (Qg [(44,_)] Qw Be (Qg [(45,_)] Qw Bq (Qp Ej (Qp A8 (Qg [] Qw (Qf [Iq _]) (Qg [(49,_)] Qw Be (Qg [(50,_)] Qw Bq (Qp Ej (Ap (fun hc6=>?_) fun hc6=>?_)))))))))))))))
  .
   have hb6:=(oW a.kind).symm.trans hc6;refine Aa (Qp Ah (Ra (Au (Cn (Au (Qr (Iq _) ?_))))))
   have he:Fe ((s.fields.take p).map (·.name)) a=1:=by
    unfold Fe;rw [if_neg hb4,if_neg hb5,if_pos hb6]
   rw [show Iu s=Fe ((s.fields.take p).map (·.name)) a by unfold Iu;rw [if_neg (by simpa using hc1),if_neg (by simpa using hc2),hR.2,Bd ha,Kf (by rw [he];decide)],he];rfl
  have hb6:=nD.mp ((oW a.kind).symm.trans hc6);have he0:Fe ((s.fields.take p).map (·.name)) a=0:=by unfold Fe;rw [if_neg hb4,if_neg hb5,if_neg hb6]
  refine Rf (AW.region (Qp Ai (Qp Dt (Qp Ah (Aq ?_)))));refine ⟨p+1,?_,?_,Bx⟩
  . exact ⟨hlt,by rw [hR.2,Bd ha,bQ he0,tQ ha]⟩
  omega
 have hd:=Ek hc3;refine AW.exit ?_;refine Bn (Ri (Aa (Qp Ah (Rb ?_))));refine Qr (Iq _) ?_;rw [show Iu s=0 by unfold Iu;rw [if_neg (by simpa using hc1),if_neg (by simpa using hc2),hR.2,hd];rfl];rfl
theorem e8c57 (l:List e8Sc)(hl:l.length<=1048576)(hs:∀s∈l,Ly s):Ak Tryz.prog 44 [.sl 2 (l.map Js)] (.int .i64 (C7 l)):=by
 refine Cw 30 Tryz.func44 rfl fun H=>?_
 refine Aa (Qp Ah (Aq (Ba (Qp Ez ?_))));refine Qp (Da l.length rfl rfl (by simp)) ?_;refine Qp De (Ap (fun hc1=>Aa (Qp Ah (Rc (Qr (Iq _) ?_)))) fun hc1=>A5 (Aa (Qe (Lk) ?_)))
 . rw [show C7 l=5 by unfold C7;rw [if_pos (by simpa using hc1)]];rfl
 rintro _ _ ⟨b10,rfl,rfl⟩;refine Qp Qh (Aq (Ba (Qp Ez ?_)));refine Qp (Da l.length rfl rfl (by simp)) ?_;refine Qp Ai (Aq (AW.block ?_));refine AW.Aan (fun (p:Nat×List (List UInt8))=>(⟨[(3,.val (.map (some b10))),(11,.sl 2 (l.map Js)),(12,.int .i64 l.length),(13,.int .i64 (p.1:Int))],.smap b10 (Yz p.2)::H,30⟩:St)) (fun p=>p.1<=l.length/\L4 [] l=L4 p.2 (l.drop p.1)) (fun p=>l.length-p.1) ((0,[])) ?_ Bx ?_
 . exact ⟨A3 _,rfl⟩
 rintro p hR;refine Aa (Qp Bt (Re (E9 (fun hc2=>?_) fun hc2=>?_)))
 .
  obtain ⟨a,ha⟩:=B3 hc2;have hlt:=Bf ha;have hm:=An ha;refine A5 (AW.seq (AW.block (Aa ?_)));refine Qp (Cp Jl rfl rfl (by omega) (Bp ha)) ?_;refine Qp (B1 Jl) (Dx [.str [],.sl 2 []] fun b5=>?_);refine Bw 0 Jl (_::_::_) ?_;refine Ji 5 0 rfl ?_;refine Aq (Ba (Qp (B1 Jl) (Qp (Qc rfl (c85 a (hs a hm))) (Qp Ah (B2 (Qp Ai (Qp Bq (Ap (fun hc3=>Aa (Qp Ai (Qp Ah (Rc (Rj (Au ?_)))))) fun hc3=>?_))))))))
  .
   refine Yx [Iq _] Ze S1 ?_;have he:Ip p.2 a=Iu a:=by unfold Ip;rw [if_pos hc3]
   rw [show C7 l=Ip p.2 a by unfold C7;rw [if_neg (by simpa using hc1),hR.2,Bd ha,Sn (by rw [he];simpa using hc3)],he];rfl
  have hb3:=nD.mp hc3;refine A5 (Ba (Qp Ce (Qp (Qf Jl) (Qp Dk ?_))));refine AOL.Aas (Uq (i:=0) (ks:=p.2) tok rfl rfl rfl rfl rfl (by kernel_rfl) rfl rfl rfl) rfl rfl ?_;refine Ap (fun hc4=>?_) fun hc4=>?_
  .
   have hb4:p.2.contains a.name=true:=hc4;refine Aa (Qp Ah (Rc (Rj (Au ?_))));refine Yx [Iq _] Ze S1 ?_;have he:Ip p.2 a=7:=by unfold Ip;rw [if_neg hb3,if_pos hb4]
   rw [show C7 l=Ip p.2 a by unfold C7;rw [if_neg (by simpa using hc1),hR.2,Bd ha,Sn (by rw [he];decide)],he];rfl
  have hb4:¬p.2.contains a.name=true:=by simpa using hc4
  have he0:Ip p.2 a=0:=by unfold Ip;rw [if_neg hb3,if_neg hb4]
  refine A5 (AW.region (Qp Ce (Qp (Qf Jl) (Qp Dk ?_))));refine Rt (Xh (i:=0) (H2:=_::_) tok rfl rfl rfl rfl rfl rfl rfl rfl (by simpa using hb4) rfl) ?_;refine Rk (AW.region (Qp Dt (Qp Ai (Aq ?_))));refine ⟨(p.1+1,p.2 ++ [a.name]),?_,?_,Bx⟩
  . exact ⟨hlt,by rw [hR.2,Bd ha,gM he0]⟩
  omega
 have hd:=Ek hc2;refine AW.exit ?_;refine Bn (Ri (Aa (Qp Ah (Rb ?_))));refine Yx [Iq _] Ze S1 ?_;rw [show C7 l=0 by unfold C7;rw [if_neg (by simpa using hc1),hR.2,hd];rfl];rfl
theorem c59 (l:List e8Sc)(hl:l.length<=1048576)(hs:∀s∈l,Ly s):Ak Tryz.prog 47 [.sl 2 (l.map Js)] (.int .i64 (C7 l)):=by
 refine Cw 31 Tryz.func47 rfl fun H=>?_
 refine Aa (Qp Ah (Aq (Ba (Qp Ez ?_))));refine Qp (Da l.length rfl rfl (by simp)) ?_;refine Qp De (Ap (fun hc1=>Aa (Qp Ah (Rc (Qr (Iq _) ?_)))) fun hc1=>A5 (Ba (Qp Ah (Aq (AW.block ?_)))))
 . rw [show C7 l=5 by unfold C7;rw [if_pos (by simpa using hc1)]];rfl
 refine AW.Aan (fun (p:Nat)=>(⟨[(0,.sl 2 (l.map Js)),(3,.int .i64 (p:Int))],H,31⟩:St)) (fun p=>p<=l.length/\L4 [] l=L4 ((l.take p).map (·.name)) (l.drop p)) (fun p=>l.length-p) (0) ?_ Bx ?_
 . exact ⟨A3 _,rfl⟩
 rintro p hR;refine Ba (Qp Ai (Qp Ez ?_));refine Qp (Da l.length rfl rfl (by simp)) ?_;refine Qp Bt (Ap (fun hc2=>?_) fun hc2=>?_)
 .
  obtain ⟨a,ha⟩:=B3 hc2;have hlt:=Bf ha;have hm:=An ha;have hna:(l.map (·.name))[p]? = some a.name:=by simp [ha]
  refine A5 (AW.seq (AW.block (Ba (Qp Ez (Qp Ai ?_)))));refine Qp (Cp Jl rfl rfl (by omega) (Bp ha)) ?_;refine Qp (B1 Jl) (Qp (Qc rfl (c87 a (hs a hm))) (Qp Ah (B2 (Qp Ai (Qp Bq (Ap (fun hc3=>Aa (Qp Ai (Qp Ah (Rc (Rj (Au (Qr (Iq _) ?_))))))) fun hc3=>?_))))))
  .
   have he:Ip ((l.take p).map (·.name)) a=Iu a:=by unfold Ip;rw [if_pos hc3]
   rw [show C7 l=Ip ((l.take p).map (·.name)) a by unfold C7;rw [if_neg (by simpa using hc1),hR.2,Bd ha,Sn (by rw [he];simpa using hc3)],he];rfl
  have hb3:=nD.mp hc3;refine A5 (Aa (Qp Ez (Qp Ez (Qp Ai ?_))));refine Qp (Cp Jl rfl rfl (by omega) (Bp ha)) ?_;refine Qp (Qf Jl) (Qp Dk (Qp (Qc rfl (c88 l hl _)) (Qp Ai (Qp Bt (Ap (fun hc4=>?_) fun hc4=>?_)))))
  .
   rw [T4 hna,<-Nc] at hc4;have hb4:((l.take p).map (·.name)).contains a.name=true:=hc4;refine Aa (Qp Ah (Ra (Au (Cn (Au (Qr (Iq _) ?_))))));have he:Ip ((l.take p).map (·.name)) a=7:=by unfold Ip;rw [if_neg hb3,if_pos hb4]
   rw [show C7 l=Ip ((l.take p).map (·.name)) a by unfold C7;rw [if_neg (by simpa using hc1),hR.2,Bd ha,Sn (by rw [he];decide)],he];rfl
  rw [T4 hna,<-Nc] at hc4;have hb4:¬((l.take p).map (·.name)).contains a.name=true:=nD.mp hc4;have he0:Ip ((l.take p).map (·.name)) a=0:=by unfold Ip;rw [if_neg hb3,if_neg hb4]
  refine Rf (AW.region (Qp Ai (Qp Dt (Qp Ah (Aq ?_)))));refine ⟨p+1,?_,?_,Bx⟩
  . exact ⟨hlt,by rw [hR.2,Bd ha,gM he0,rL ha]⟩
  omega
 have hd:=Ek hc2;refine AW.exit ?_;refine Bn (Ri (Aa (Qp Ah (Rb ?_))));refine Qr (Iq _) ?_;rw [show C7 l=0 by unfold C7;rw [if_neg (by simpa using hc1),hR.2,hd];rfl];rfl
def cTo (to:List Int):List (List AV):=to.map fun k=>[AV.int .i64 k]
def QR (to:List Int)(e:Ex):Prop:=C0 e=0/\J8 (mJ to) e=0
theorem e8c22 (a b:Ex)(hs:Bz a<=1048576):Ak Tryz.prog 194 [.agg (cE a),.agg (cE b)] (.bool (F4 a b)):=by
 revert b hs
 induction a using Ex.ind
 rename_i a ih;intro b hs;have hal:=Mb a hs;refine Cw 67 Tryz.func194 rfl fun H=>?_
 refine Aa (Qp iM (Qp iM (Qp Ao (Aq (Ba (Qp Pj (Qp Be (Qp Pj (Qp Be (Qp Bq (Qp A8 (Qg [] Qw bF (Qg [(12,_)] Qw Be (Qg [] Qw bF (Qg [(14,_)] Qw Be ?_)))))))))))))));refine Qg [(13,_),(15,_)] Yw Bq (Qp Cr (Qp A8 (Qg [] Qw kS (Qg [(19,_)] Qw Be (Qg [] Qw kS (Qg [(21,_)] Qw Be (Qg [(20,_),(22,_)] Yw Bq (Qp Cr (Qp A8 (Qg [] Qw gZ (Qg [(26,_)] Qw Be (Qg [] Qw gZ (Qg [(28,_)] Qw Be ?_)))))))))))));refine Qg [(27,_),(29,_)] Yw Bq (Qp Cr (Qp A8 (Qg [] Qw Vy (Qg [(33,_)] Qw (B1 Mf) (Qg [] Qw Vy (Qg [(35,_)] Qw (B1 Mf) (Qg [(34,_),(36,_)] Yw (H8 tok rfl rfl rfl rfl rfl) (Qp Cr (Qp A8 (Qg [] Qw Y7 (Qg [(40,_)] Qw Cg ?_)))))))))));refine Yh [(41,_)] Qw (fun hG=>Da a.args.length rfl rfl (by simp)) ?_;refine Qg [] Qw Y7 (Qg [(43,_)] Qw Cg ?_);refine Yh [(44,_)] Qw (fun hG=>Da b.args.length rfl rfl (by simp)) ?_;refine Qg [(42,_),(45,_)] Yw Bq (Qp Cr (Ap (fun hc1=>?_) fun hc1=>?_))
 .
  have hh:N9 a b=true:=by simpa [N9] using hc1
  refine Aa (Qp Ao (Rc (Qr (.bool _) ?_)));rw [Oh,if_pos hh];rfl
 have hh:N9 a b=false:=by simpa [N9] using hc1
 have hlen:=bW hh;refine A5 (Ba (Qp Y7 (Qp Cg ?_)));refine Qp (Da a.args.length rfl rfl (by simp)) ?_;refine Qp Ai (Aq (AW.block ?_));refine AW.Aan (fun (p:Nat)=>(⟨[(2,.ptr (cE a)),(3,.ptr (cE b)),(50,.int .i64 a.args.length),(51,.int .i64 (p:Int))],H,67⟩:St)) (fun p=>p<=a.args.length/\Tc a.args b.args=Tc (a.args.drop p) (b.args.drop p)) (fun p=>a.args.length-p) (0) ?_ Bx ?_
 . exact ⟨A3 _,rfl⟩
 rintro p hR;refine Aa (Qp Bt (Re (E9 (fun hc2=>?_) fun hc2=>?_)))
 .
  obtain ⟨x,hx⟩:=B3 hc2;have hlt:=Bf hx;have hm:=An hx;obtain ⟨y,hy⟩:∃y,b.args[p]? = some y:=⟨_,List.getElem?_eq_getElem (by omega)⟩;refine A5 (AW.seq (AW.block (Aa (Qp Ai (Qp Ah (Re ?_))))));refine Id ?_;refine Qn 0 rfl Y7 (Qn 1 rfl Cg (Qn 2 rfl Ai ?_));refine Qn 3 rfl (Cp Hh rfl rfl (by omega) (Nn hx)) ?_;refine Qn 4 rfl Kt (Qn 5 rfl Y7 (Qn 6 rfl Cg (Qn 7 rfl Ai ?_)));refine Qn 8 rfl (Cp Hh rfl rfl (by omega) (Nn hy)) ?_;refine Qn 9 rfl Kt ?_;refine Qn 10 rfl (Qc rfl (ih x hm y (by have:=Gu hm;omega))) ?_;refine Qn 11 rfl E7 ?_;refine Fs ?_;refine A2 (E9 (fun hc3=>Aa (Qp Ao (Ra (Au (Cn (Au (Qr (.bool _) ?_))))))) fun hc3=>Rf (AW.region (Qp Dt (Qp Ai (Aq ?_)))))
  . rw [Oh,if_neg (by simp [hh]),hR.2,Bd hx,Bd hy];show _=AV.bool (if (!F4 x y)=true then false else _);rw [if_pos hc3];rfl
  refine ⟨p+1,?_,?_,Bx⟩
  . exact ⟨hlt,by rw [hR.2,Bd hx,Bd hy,Tc];simp [hc3]⟩
  omega
 have hd:=Ek hc2;refine AW.exit ?_;refine Bn (Ri (Aa (Qp Ao (Rb ?_))));refine Qr (.bool _) ?_;rw [Oh,if_neg (by simp [hh]),hR.2,hd];rfl
theorem xY {p a:Pt}{k:Nat}(h:p.args[k]? = some a):((p.args.take k).map Gy).sum+Gy a+1<=Gy p:=by
 rw [J5 p];have h2:=mI p.args (k+1);rw [Cf h,Em,List.sum_append,P9,List.sum_singleton] at h2;omega
theorem pG (a b:Nat):max (a:Int) (b:Int)=((max a b:Nat):Int):=by omega
theorem op_range {p:Pt}(h:(decide (p.op<0)||decide (11<=p.op))=false):0<=p.op/\p.op<11:=by
 rw [En] at h;have h1:=Di h.1;have h2:=Di h.2;omega
theorem Ve (u:Bool)(n m:Int):Ak Tryz.prog 295 [.bool u,.int .i64 n,.int .i64 m] (.bool (wth u n m)):=by
 refine Cw 18 Tryz.func295 rfl fun H=>?_
 refine Aa (Qp Ao (B2 (Qp A8 (Qp E7 (Qp A8 (Qg [] Qw Ai (Qg [(10,_)] Qw Fc (Qg [(11,_)] Qw A8 (Qg [] Qw Ai (Qg [] Qw Ai (Qg [(13,_),(14,_)] Yw Mk (Qg [(12,_),(15,_)] Qw Ej (Qp Cr (Qp Ao (Rb (Qr (.bool _) ?_))))))))))))))));rfl
theorem Ki (u:Bool)(n:Int):Ak Tryz.prog 296 [.bool u,.int .i64 n] (.bool (unu u n)):=by
 refine Cw 10 Tryz.func296 rfl fun H=>?_
 refine Aa (Qp Ao (B2 (Qp A8 (Qp A8 (Qg [] Qw Ai (Qg [(7,_)] Qw Aj (Qp Cr (Qp Ao (Aq (AW.ret (Qr (.bool _) ?_)))))))))));rfl
theorem rp_check (p:Pt)(hc:Bz p.cond<=1048576)(hl:p.args.length<=1048576):Ak Tryz.prog 254 [.agg (cPt p)] (.int .i64 (bN p)):=by
 refine Cw 113 Tryz.func254 rfl fun H=>?_
 refine Aa (Qp (Eh Cy) (Qp Ah (Aq (Ba (Qp (Qf Cy) (Qp Be (Qp Bt (Qp A8 (Qg [] Qw (Qf Cy) (Qg [(9,_)] Qw Be (Qg [(10,_)] Qw Fc (Qp Cr (Ap (fun hc1=>Aa (Qp Ah (Rc (Qr (Iq _) ?_)))) fun hc1=>A5 (AW.seq ?_))))))))))))))
 . exact Ye (AV.int .i64) (ck_1 hc1)
 have hop:=op_range hc1;refine (shp_at hop.1 hop.2).elim fun rest hrest=>?_
 refine AW.region (Qp (Qf Cy) (Qp Be ?_));refine Qp (Qd (cs':=cShp (Jg p.op)++rest) tok ⟨_,by simp [globals],fun _ h=>h⟩ rfl rfl rfl rfl (hop.1) (hop.2) hrest rfl) ?_;refine Qp (B1 glx) (Dx [.int .i64 0,.int .i64 0,.bool false,.bool false,.bool false,.bool false] fun b3=>?_);refine Bw 0 glx (_::_) ?_;refine Ji 3 0 rfl ?_;refine Re (AW.block (Aa (Qp (Qf bS) (Qp Cg ?_))));refine Qp (Da p.args.length rfl rfl (by simp)) ?_;refine Qp (Qf glx) (Qp Be (Qp Bt (Qp A8 (Qg [] Qw (Qf bS) (Qg [(25,_)] Qw Cg ?_)))));refine Yh [(26,_)] Qw (fun hG=>Da p.args.length rfl rfl (by simp)) ?_;refine Qg [] Qw (Qf [Iq _,.bool _,.bool _,.bool _,.bool _]) (Qg [(28,_)] Qw Be (Qg [(27,_),(29,_)] Yw De (Qp Cr (Qp Ao (Ap (fun hc2=>Aa (Qp Ah (Ra (Qr (Iq _) ?_)))) fun hc2=>Aa (Qp (Qf gkz) (Qp nE (Qp (Qf giz) (Qp Be ?_)))))))))
 . exact Ye (AV.int .i64) (ck_2 hc1 hc2)
 refine Qp (Qc rfl (Ve _ _ _)) (Qp E7 (Qp A8 (Qg [] Qw (Qf gkz) (Qg [(40,_)] Qw nE (Qg [] Qw (Qf ghx) (Qg [(42,_)] Qw Be (Qg [(41,_),(43,_)] Yw (Qc rfl (Ve _ _ _)) (Qg [(44,_)] Qw E7 (Qp Cr (Qp A8 (Qg [] Qw (Qf [.bool _,.bool _]) (Qg [(48,_)] Qw nE (Qg [] Qw (Qf gjx) (Qg [(50,_)] Qw Be ?_))))))))))))));refine Qg [(49,_),(51,_)] Yw (Qc rfl (Ve _ _ _)) (Qg [(52,_)] Qw E7 (Qp Cr (Qp A8 (Qg [] Qw (Qf [.bool _]) (Qg [(56,_)] Qw nE (Qg [] Qw (Qf gky) (Qg [(58,_)] Qw Be (Qg [(57,_),(59,_)] Yw (Qc rfl (Ve _ _ _)) (Qg [(60,_)] Qw E7 (Qp Cr (Qp Ao (Ap (fun hc3=>Aa (Qp Ah (Ra (Qr (Iq _) ?_)))) fun hc3=>?_))))))))))))
 . exact Ye (AV.int .i64) (ck_3 hc1 hc2 hc3)
 refine Rf (Ba (Qp (Qf [.bool _,.bool _,.bool _]) (Qp nE (Ap (fun hc4=>Aa (Qp Pj (Qp Kt ?_))) fun hc4=>A5 (Ba (Qp (Qf [.bool _,.bool _,.bool _]) (Qp nE (Qp E7 (Qp A8 (Qg [] Qw Pj (Qg [(75,_)] Qw Kt (Qg [] Qw (D0 Hh) ?_))))))))))))
 .
  refine Qp (Qc rfl (e8c21 p.cond hc)) (Qp Ah (B2 (Qp Ai (Qp Bq (Ap (fun hc5=>Aa (Qp Ai (Qp Ah (Rc (Qr (Iq _) ?_))))) fun hc5=>A5 (Ba (Qp (Qf [.bool _,.bool _,.bool _]) (Qp nE (Qp E7 (Qp A8 (Qg [] Qw Pj (Qg [(75,_)] Qw Kt (Qg [] Qw (D0 Hh) ?_)))))))))))))
  . exact Ye (AV.int .i64) (ck_4 hc1 hc2 hc3 hc4 hc5)
  refine Qg [(76,_),(77,_)] Yw (Qc rfl (e8c22 p.cond Zs hc)) (Qg [(78,_)] Qw E7 (Qp Ej (Qp A8 (Qg [] Qw (Qf gkz) (Qg [(82,_)] Qw nE (Qg [] Qw (Qf giz) (Qg [(84,_)] Qw Be (Qg [(83,_),(85,_)] Yw (Qc rfl (Ki _ _)) ?_))))))));refine Qg [(86,_)] Qw E7 (Qp Cr (Qp A8 (Qg [] Qw (Qf gkz) (Qg [(90,_)] Qw nE (Qg [] Qw (Qf ghx) (Qg [(92,_)] Qw Be (Qg [(91,_),(93,_)] Yw (Qc rfl (Ki _ _)) (Qg [(94,_)] Qw E7 (Qp Cr (Qp A8 (Qg [] Qw (Qf [.bool _,.bool _]) (Qg [(98,_)] Qw nE (Qg [] Qw (Qf gjx) (Qg [(100,_)] Qw Be ?_))))))))))))));refine Qg [(99,_),(101,_)] Yw (Qc rfl (Ki _ _)) (Qg [(102,_)] Qw E7 (Qp Cr (Qp A8 (Qg [] Qw (Qf [.bool _]) (Qg [(106,_)] Qw nE (Qg [] Qw (Qf gky) (Qg [(108,_)] Qw Be (Qg [(107,_),(109,_)] Yw (Qc rfl (Ki _ _)) (Qg [(110,_)] Qw E7 (Qp Cr (Ap (fun hc6=>Aa (Qp Ah (Rc (Qr (Iq _) ?_)))) fun hc6=>A5 (Aa (Qp Ah (Rb (Qr (Iq _) ?_)))))))))))))))
  . exact Ye (AV.int .i64) ((ck_n hc1 hc2 hc3 (by rw [hc5];simp)).trans (if_pos hc6))
  exact Ye (AV.int .i64) ((ck_n hc1 hc2 hc3 (by rw [hc5];simp)).trans (Bl hc6))
 refine Qg [(76,_),(77,_)] Yw (Qc rfl (e8c22 p.cond Zs hc)) (Qg [(78,_)] Qw E7 (Qp Ej (Qp A8 (Qg [] Qw (Qf gkz) (Qg [(82,_)] Qw nE (Qg [] Qw (Qf giz) (Qg [(84,_)] Qw Be (Qg [(83,_),(85,_)] Yw (Qc rfl (Ki _ _)) ?_))))))));refine Qg [(86,_)] Qw E7 (Qp Cr (Qp A8 (Qg [] Qw (Qf gkz) (Qg [(90,_)] Qw nE (Qg [] Qw (Qf ghx) (Qg [(92,_)] Qw Be (Qg [(91,_),(93,_)] Yw (Qc rfl (Ki _ _)) (Qg [(94,_)] Qw E7 (Qp Cr (Qp A8 (Qg [] Qw (Qf [.bool _,.bool _]) (Qg [(98,_)] Qw nE (Qg [] Qw (Qf gjx) (Qg [(100,_)] Qw Be ?_))))))))))))));refine Qg [(99,_),(101,_)] Yw (Qc rfl (Ki _ _)) (Qg [(102,_)] Qw E7 (Qp Cr (Qp A8 (Qg [] Qw (Qf [.bool _]) (Qg [(106,_)] Qw nE (Qg [] Qw (Qf gky) (Qg [(108,_)] Qw Be (Qg [(107,_),(109,_)] Yw (Qc rfl (Ki _ _)) (Qg [(110,_)] Qw E7 (Qp Cr (Ap (fun hc7=>Aa (Qp Ah (Rc (Qr (Iq _) ?_)))) fun hc7=>A5 (Aa (Qp Ah (Rb (Qr (Iq _) ?_)))))))))))))))
 . exact Ye (AV.int .i64) ((ck_n hc1 hc2 hc3 (by rw [hc4];rfl)).trans (if_pos hc7))
 exact Ye (AV.int .i64) ((ck_n hc1 hc2 hc3 (by rw [hc4];rfl)).trans (Bl hc7))
theorem rp_Size (p:Pt)(hp:Gy p<=1048576):Ak Tryz.prog 253 [.agg (cPt p)] (.tuple [.int .i64 (Gy p:Nat),.int .i64 (eI p:Nat)]):=by
 induction p using Pt.ind
 rename_i p ih;have hal:=M8 p;refine Cw 32 Tryz.func253 rfl fun H=>?_
 refine Aa (Qp (Eh Cy) (Qp Ah (Qp Ah (B2 (Qp Ah (Qp Ah (Aq (Ba (Qp (Qf bS) (Qp Cg ?_))))))))));refine Qp (Da p.args.length rfl rfl (by simp)) ?_;refine Qp Ai (Aq (AW.block ?_));refine AW.Aan (fun (q:Nat×Nat×Nat)=>(⟨[(4,.int .i64 (q.2.1:Int)),(5,.int .i64 (q.2.2:Int)),(11,.sl 14 (p.args.map Jd)),(12,.int .i64 p.args.length),(13,.int .i64 (q.1:Int))],H,32⟩:St)) (fun q=>q.1<=p.args.length/\q.2.1=1+((p.args.take q.1).map Gy).sum/\q.2.2=Wb (p.args.take q.1)) (fun q=>p.args.length-q.1) ((0,1,0)) ?_ Bx ?_
 . exact ⟨A3 _,rfl,by rw [Ul,Wb]⟩
 rintro q hR;refine Aa (Qp Bt (Re (E9 (fun hc1=>?_) fun hc1=>?_)))
 .
  obtain ⟨a,ha⟩:=B3 hc1;have hlt:=Bf ha;have hm:=An ha;have hsm:=K6 hm;have hps:=xY (p:=p) ha;have hq1:=hR.2.1;refine A5 (AW.seq (AW.block (Aa ?_)));refine Qp (Cp Cy rfl rfl (by omega) (Jz ha)) ?_;refine Qp (B1 Cy) (Dx ghz fun b7=>?_);refine Bw 0 Cy (_::_) ?_;refine Ji 7 0 rfl ?_;refine B2 (Qp (B1 Cy) ?_);refine Qp (Qc rfl (ih a hm (by have:=K6 hm;omega))) ?_;refine Qp Ml (Qp Km (Qp Km (Qp Ah (Qp Ah (Aq (AW.region (Qp Ai (Qp Ai (Qp Dt (Qp Ai (Qp Ai (Qp (bD rfl rfl) (Qp Ah (Qp Ah (Rk (AW.region (Qp Dt (Qp Ai (Aq ?_)))))))))))))))))));refine ⟨(q.1+1,q.2.1+Gy a,max q.2.2 (eI a)),?_,?_,GS.weaken ⟨rfl,congrArg (AV.int .i64) (pG q.2.2 (eI a)),rfl,rfl,rfl,trivial⟩ (.refl _)⟩
  . exact ⟨hlt,by simp only;rw [Cf ha,hR.2.1];simp;omega,by simp only;rw [Cf ha,Zp,hR.2.2]⟩
  simp only;omega
 have hte:=B9 hc1;have h1:=hR.2.1;have h2:=hR.2.2;rw [hte] at h1 h2;have hdp:=dp_le p;have hde:=eJ p;refine AW.exit ?_;refine Bn (Ri (Aa (Qp Ai (Qp Ai (Qp Dt (Qp Ah (Qp Ah ?_)))))));refine Rb (Ku (Iq _) (Iq _) ?_);exact Eq.trans rfl (congrArg (fun q:Nat×Nat=>AV.tuple [.int .i64 (q.1:Int),.int .i64 (q.2:Int)]) (show (q.2.1,q.2.2+1)=(Gy p,eI p) by rw [h1,h2,J5,eJ];simp;omega))
theorem rp_walk (S:Type)(live:S->Bool)(step:S->Pt->S)(M1:S->Nat->Prop)(hmo:∀s n m,M1 s n->m<=n->M1 s m)(hgo:∀s q n,M1 s (n+1)->M1 (step s q) n)(Q:Pt->Prop)(HH:S->List HO)(l:Nat)(rec:Loop)(hrec:rec.params.size=1)(hobj:∀s,live s=true->∃i:Nat,(HH s)[i]? = some (HO.obj l (Obj.loop rec)))(hY:∀s q n,live s=true->Q q->M1 s (n+1)->Rh Tryz.prog l rec (HH s) [.agg (cPt q)] (fun r H'=>r = .bool (live (step s q))/\H'=HH (step s q)))(p:Pt)(hp:Gy p<=1048576)(hq:∀q∈Dd p,Q q)(s:S)(m:Nat)(hs:live s=true)(hg:M1 s (Gy p+m)):Cj Tryz.prog 188 (HH s) [.agg (cPt p),.val (.func (.yield l) #[] #[])] (fun r H'=>r = .bool (live (Tt live step s (Dd p)))/\H'=HH (Tt live step s (Dd p))):=by
 revert m
 revert s
 induction p using Pt.ind
 rename_i p ih;intro s hs m hg;have hal:=M8 p;refine Is 23 Tryz.func188 rfl ?_;refine Aa (Qp (Eh Cy) (Qp Ao (Re (AW.seq ?_))));refine AW.regionYk 2 rfl (by kernel_rfl) (by kernel_rfl) ?_;refine Qp Ce (Qp (B1 Cy) (AOL.nil ?_));have hg1:M1 s (Gy p-1+m+1):=by rw [show Gy p-1+m+1=Gy p+m by omega];exact hg
 refine ⟨l,rec,_,hobj s hs,rfl,hrec.symm,rfl,hY s p (Gy p-1+m) hs (hq p (Yg p)) hg1,?_⟩;rintro _ _ ⟨rfl,rfl⟩;refine Qp E7 (Ap (fun hc1=>Aa (Qp Ao (Rc ?_))) fun hc1=>A5 (Ba (Qp (Qf bS) (Qp Cg ?_))))
 .
  refine ⟨.inr rfl,[.bool _],Ze,_,S0,?_⟩;have hx:=goY_stop live step hs (show live (step s p)=false by simpa using hc1);exact ⟨congrArg AV.bool (by rw [hx];simpa using hc1:false=live _),congrArg HH hx.symm⟩
 refine Qp (Da p.args.length rfl rfl (by simp)) ?_;refine Qp Ai (Aq (AW.block ?_));have hg2:M1 (Tt live step (step s p) ((p.args.take 0).flatMap Dd)) (((p.args.drop 0).map Gy).sum+m):=by have h:=hgo s p (Gy p-1+m) hg1;rw [show Gy p-1=(p.args.map Gy).sum by rw [J5];rfl] at h;exact h
 refine AW.Aan (fun (k:Nat)=>(⟨[(1,.val (.func (.yield l) #[] #[])),(12,.sl 14 (p.args.map Jd)),(13,.int .i64 p.args.length),(14,.int .i64 (k:Int))],HH (Tt live step (step s p) ((p.args.take k).flatMap Dd)),23⟩:St)) (fun k=>k<=p.args.length/\live (Tt live step (step s p) ((p.args.take k).flatMap Dd))=true/\M1 (Tt live step (step s p) ((p.args.take k).flatMap Dd)) (((p.args.drop k).map Gy).sum+m)) (fun k=>p.args.length-k) (0) ?_ Bx ?_
 . exact ⟨A3 _,by simpa [Tt] using hc1,hg2⟩
 rintro k hR;refine Aa (Qp Bt (Re (E9 (fun hc2=>?_) fun hc2=>?_)))
 .
  obtain ⟨a,ha⟩:=B3 hc2;have hlt:=Bf ha;have hm:=An ha;refine A5 (AW.seq (AW.block (Aa ?_)));refine Qp (Cp Cy rfl rfl (by omega) (Jz ha)) ?_;refine Qp (B1 Cy) (Dx ghz fun b6=>?_);refine Bw 0 Cy (_::_) ?_;refine Ji 6 0 rfl ?_;refine B2 (Qp (B1 Cy) (Qp Ce ?_));refine Rt (Dr rfl (ih a hm (by have:=K6 hm;omega) (fun q h=>hq q (nd_mem hm h)) _ hR.2.1 (((p.args.drop (k+1)).map Gy).sum+m) (by have h:=hR.2.2;rw [Bd ha,Bj,Ed,Nat.add_assoc] at h;exact h))) ?_;refine Qp E7 (Ap (fun hc3=>Aa (Qp Ao (Ra (Au (Cn (Au ?_)))))) fun hc3=>Rf (AW.region (Qp Dt (Qp Ai (Aq ?_)))))
  .
   refine ⟨.inr rfl,[.bool _],Ze,_,S0,?_⟩;have hd:live (Tt live step (step s p) ((p.args.take (k+1)).flatMap Dd))=false:=by rw [eZ live step ha];simpa using hc3
   have hx:=(tA live step hs p).trans (goY_cut live step ha hd);exact ⟨congrArg AV.bool (by rw [hx,hd]:false=live _),congrArg HH ((eZ live step ha).symm.trans hx.symm)⟩
  refine ⟨k+1,?_,?_,GS.trans (GS.heq (congrArg HH (eZ live step ha).symm)) Bx⟩
  . exact ⟨hlt,by rw [eZ live step ha];simpa using hc3,by rw [eZ live step ha];exact jQ live step hmo hgo (Dd a) _ _ (by have h:=hR.2.2;rw [Bd ha,Bj,Ed,Nat.add_assoc,<-Pq] at h;exact h)⟩
  omega
 have hte:=B9 hc2;refine AW.exit ?_;refine Bn (Ri (Aa (Qp Ao (Rb ?_))));refine ⟨.inr rfl,[.bool _],Ze,_,S0,?_⟩;have hx:=tA live step hs p;have h9:=hR.2.1;rw [hte] at h9;exact ⟨congrArg AV.bool (by rw [hx,h9]:true=live _),congrArg HH ((congrArg (fun L:List Pt=>Tt live step (step s p) (L.flatMap Dd)) hte).trans hx.symm)⟩
theorem uJ (p:Pt):Ak Tryz.prog 115 [.agg (cPt p)] (.fn (.func 187) [] [.ptr (cPt p)]):=by
 refine Cw 4 Tryz.func115 rfl fun H=>?_
 refine Aa (Qp (Eh Cy) (Qp Qh (B2 (Qp (Ci (l:=[]) (l':=[.ptr _]) rfl rfl) (Qp (Bb (v:=.fn _ _ _) rfl) (Rb (Qr (.fn _ _ _) ?_)))))));rfl
theorem mL (S:Type)(live:S->Bool)(step:S->Pt->S)(M1:S->Nat->Prop)(hmo:∀s n m,M1 s n->m<=n->M1 s m)(hgo:∀s q n,M1 s (n+1)->M1 (step s q) n)(Q:Pt->Prop)(HH:S->List HO)(l:Nat)(rec:Loop)(hrec:rec.params.size=1)(hobj:∀s,live s=true->∃i:Nat,(HH s)[i]? = some (HO.obj l (Obj.loop rec)))(hY:∀s q n,live s=true->Q q->M1 s (n+1)->Rh Tryz.prog l rec (HH s) [.agg (cPt q)] (fun r H'=>r = .bool (live (step s q))/\H'=HH (step s q)))(p:Pt)(hp:Gy p<=1048576)(hq:∀q∈Dd p,Q q)(s:S)(m:Nat)(hs:live s=true)(hg:M1 s (Gy p+m)):Cj Tryz.prog 187 (HH s) [.val (.func (.yield l) #[] #[]),.ptr (cPt p)] (fun r H'=>r = .tuple []/\H'=HH (Tt live step s (Dd p))):=by
 refine Is 6 Tryz.func187 rfl ?_;refine AW.region (Qp (B1 Cy) (Qp Ce (sH (rp_walk S live step M1 hmo hgo Q HH l rec hrec hobj hY p hp hq s m hs hg) (AOL.nil ?_))));refine ⟨.inl rfl,[],.nil,_,.refl _,?_⟩;exact ⟨rfl,rfl⟩
end Go.Proofs.YtckhoadldibflaaGreatDoor
