/-
  Several texts in one: R10w, C13, W13b, W13c. No condition.
-/
import Derived.Test.YtckhoadldibflaaGreatDoorK01
import Derived.Test.YtckhoadldibflaaGreatDoorK06
import Derived.Test.YtckhoadldibflaaGreatDoorK15
import Derived.Test.YtckhoadldibflaaGreatDoorK14
import Derived.KernelRfl
import Derived.Test.YtckhoadldibflaaGreatDoorK02
import Derived.Test.YtckhoadldibflaaGreatDoorTab
import Derived.Test.YtckhoadldibflaaGreatDoorAx
import Derived.Lib.ItoaLen
import Derived.Test.YtckhoadldibflaaGreatDoorK04
set_option linter.unusedVariables false
set_option linter.unusedSimpArgs false
set_option maxHeartbeats 12800000
set_option maxRecDepth 20000
namespace Go.Proofs.YtckhoadldibflaaGreatDoor
open Go Go.Aw
abbrev Su (q:Qy×Fa):AV:=AV.tuple [.agg (cQy q.1),.agg (oJ q.2)]
theorem vI (T:List e8Sc)(hT:TsOK T)(t:Syn)(ht:QryOK t):An Tryz.prog 46 [.sl 2 (T.map Lz),.agg (cSyn t)] (.tuple [.agg (cQy (Ec T t).1),.agg (oJ (Ec T t).2)]):=by
 have hl3:=ht.len;have hkl:=dI ht.m;have hdl:(t.kids.drop 2).length<=1000000:=by rw [Ej];omega
 have hpt:=ht.pat;have hrv:=dec_rv hT (O2 (Bi t 1));have hev:=ht.evl;refine Fb 119 Tryz.func46 rfl fun H=>?_
 refine Aa (Qp (Hu Ai) (D5 ghz fun b4=>D5 lN fun b5=>B7 (Qp K7 (Qe (Dq rfl (Wb T hT.tl hT.nd _)) ?_))));rintro _ _ ⟨b6,s6,rfl,rfl⟩;refine Qp Sa ?_;refine AOL.ghost (GS.cellRow 0 2 50 2 rfl rfl rfl rfl) ?_;refine Ax (B5 (Qp (Qf Ot) (Qp Dd ?_)));refine Qp (Eh Ai rfl rfl (by decide) (Io (He (by omega)))) ?_;refine Qp (Cm Ai) (Qp (Qc rfl (rf_events (Bi t 1) ht.med1 hpt)) (Qp Bx (Qp (B9 (l:=[.val _]) (l':=[]) rfl rfl) ?_)));refine Qe (Dq rfl (Cf.front3 (R:=_::_::_) 2 1 0 rfl rfl rfl rfl (rf_eachD T [] (by decide) _ b6 s6 (O2 (Bi t 1)) hev _))) ?_;rintro _ _ ⟨v7,rfl,rfl⟩;refine D5 lN fun b7=>?_
 refine By 0 Id (_::_::_::_::_::_::_) ?_;refine Kc 7 0 rfl ?_;refine B7 (Qp (Qf [Iq _]) (Qp B6 (Qp Cb (Bh (fun hc1=>AW.seq ?_) fun hc1=>?_))))
 .
  refine Mo ?_;refine Qn 0 rfl (Fj J5) (Qn 1 rfl (Cm Id) ?_);refine Oj 2 rfl (Kt 4 (.agg _) J5 (_::_::_::_::_::_) rfl) ?_;refine Oj 3 rfl (Kt 3 (.agg _) Id (_::_::_::_::_::_) rfl) ?_;refine Ig ?_;refine Av (lW ?_);refine Yx [.agg J5,.agg Id] (.cons (Yb 4) <| .cons (Yb 3) <| .nil) S5 ?_;exact Ye Su (qr_1 hc1)
 have hTp:0<T.length:=dec_pos (ev_some _ hpt) hc1;refine B2 (AW.seq ?_);refine AW.ghost (GS.cell (H2:=_::_::_::_::_::_) 1 2 rfl rfl rfl rfl Eu) ?_;refine AW.ghost (GS.freezeSMapCell 2 1 3 rfl rfl rfl rfl rfl) ?_
 skip
 refine Rm 1 rfl (Qn 0 rfl (Qf X6) (Qn 1 rfl Gr (Qn 2 rfl Bx (Qn 3 rfl (Ad rfl) (Qn 4 rfl Cw (Qn 5 rfl (Lw (.sl _ _) rfl) ?_))))));refine Qn 6 rfl (Jz (l0:=[.str [],.sl 2 [],.sl 1 [],.int .i64 0,.sl 14 [],.int .i64 0,.int .i64 0,.int .i64 0,.int .i64 0,.int .i64 0,.sl 8 [],.int .i64 0,.int .i64 0,.int .i64 0,.int .i64 0,.int .i64 0,.str [],.val (.slice none 0 0)]) (l:=J5) tok rfl rfl (by kernel_rfl) rfl) ?_;refine Xa 7 rfl (Ke (l:=ghz) (by kernel_rfl)) (by rintro _ _ ⟨b8,rfl,rfl⟩;simp) ?_;rintro _ _ ⟨b8,rfl,rfl⟩;refine fY 8 rfl (Kt 0 (.agg _) J5 (_::_::_::_::_::_) rfl) ?_;rintro _ _ ⟨rfl,rfl⟩;refine Av ?_;refine AW.Aai (fun (w:List Int)=>(⟨[(3,.ptr (cSyn t)),(4,.val (.pointer (some ⟨b4,0,none⟩))),(5,.val (.pointer (some ⟨b5,0,none⟩))),(6,.val (.pointer (some ⟨b6,0,none⟩))),(8,.val (.pointer (some ⟨b8,0,none⟩)))],.box b8 40 (cQyW ⟨t.text,(To T t),w,pt0,[]⟩ (.val (.slice none 0 0))) :: .box b6 159 (bP T (To T t) ⟨0,0⟩) :: .box b5 94 lN :: .box b4 40 ghz::H,119⟩:St)) (fun w=>w=(yF T t (To T t)).1/\(!(yF T t (To T t)).2)=false) ?_ ?_
 .
  refine Aa (Qp (Qf Ot) (Qp Dd ?_));refine Qp (Eh Ai rfl rfl (by decide) (Io (He (by omega)))) ?_;refine Qp (Cm Ai) ?_;refine D5 I6 fun b9=>?_
  refine By 0 Ai (_::_::_::_::_::_::_) ?_;refine Kc 9 0 rfl ?_;refine B7 (Qp (Qf X6) (Qp Gr (Qp (Fh rfl rfl) (Bh (fun hc2=>Aa (Qp Bx (Qp (Qf X6) (Qp Gr ?_)))) fun hc2=>B2 ?_))))
  .
   refine AOL.Aag (Cu (k:=2) (by kernel_rfl) rfl rfl (rf_key T (To T t) ⟨0,0⟩ b6 hrv (Bi t 0).text hTp)) rfl rfl ?_;refine Qp Oz (Qp Qxs (Qp lL (Qp lK (Qp Bc (Ax (B5 (Qp Cc (Qp Ix (Bh (fun hc3=>AW.seq ?_) fun hc3=>B2 (AW.region (Qp K7 (Qp Cw ?_))))))))))))
   .
    refine Mo ?_;refine Qn 0 rfl (Fj J5) (Qn 1 rfl (Qf [Iq _]) (Qn 2 rfl B6 (Qn 3 rfl (Fj Id) ?_)));refine Oj 4 rfl (Kt 4 (.agg _) J5 (_::_::_::_::_::_) rfl) ?_;refine Oj 5 rfl (Kt 3 (.agg _) Id (_::_::_::_::_::_) rfl) ?_;refine Ig ?_;refine Av (lW (A7 ?_));refine Yx [.agg J5,.agg Id] (.cons (Yb 4) <| .cons (Yb 3) <| .nil) S5 ?_;exact Ye Su ((qr_b hc1).trans (qr_2 (by rw [pQ hc2];exact hc3)))
   refine By 0 J5 (_::_::_::_::_::_) (Ax ?_);refine ⟨(Uy T (To T t) (Bi t 0).text).1,?_,GS.weaken ⟨rfl,rfl,rfl,rfl,rfl,trivial⟩ (.cons_cons _ (.cons _ (.refl _)))⟩;exact ⟨by rw [pQ hc2],by rw [pQ hc2];exact hc3⟩
  refine ⟨[],?_,GS.weaken ⟨rfl,rfl,rfl,rfl,rfl,trivial⟩ (.cons_cons _ (.cons _ (.refl _)))⟩;exact ⟨by rw [ky_no hc2],by rw [ky_no hc2];rfl⟩
 rintro w hK;obtain ⟨hk1,hk2⟩:=hK;subst hk1;refine B5 (Qp Bx (Qp (Cm Ai) ?_));refine AOL.Aag (Cu (k:=1) (by kernel_rfl) rfl rfl (rf_walk T (To T t) ⟨0,0⟩ b6 hrv t ht.m)) rfl rfl ?_;refine D5 lN fun b12=>?_
 refine By 0 Id (_::_::_::_::_::_) ?_;refine Kc 12 0 rfl ?_;refine B7 (Qp (Qf [Iq _]) (Qp B6 (Qp Cb (Bh (fun hc4=>AW.seq ?_) fun hc4=>?_))))
 .
  refine Mo ?_;refine Qn 0 rfl (Fj J5) (Qn 1 rfl (Cm Id) ?_);refine Oj 2 rfl (Kt 3 (.agg _) J5 (_::_::_::_::_) rfl) ?_;refine Oj 3 rfl (Kt 2 (.agg _) Id (_::_::_::_::_) rfl) ?_;refine Ig ?_;refine Av (lW ?_);refine Yx [.agg J5,.agg Id] (.cons (Yb 3) <| .cons (Yb 2) <| .nil) S4 ?_;exact Ye Su ((qr_b hc1).trans ((qr_c hk2).trans (qr_3 hc4)))
 have hw0:(G4 T (To T t) t).err=0:=by simpa using hc4
 have hw1:=(Lp hw0).2 _ (Aj (He (t:=t) (k:=1) (by omega)));refine B2 (Aa (Qp Bx (Qp (Qf Ot) (Qp Dd ?_))));refine Qp (Eh Ai rfl rfl (by decide) (Io (He (by omega)))) ?_;refine Qp (Cm Ai) ?_;refine Rt (Dq rfl ((zF T (To T t) ⟨0,0⟩ b6 hrv (Bi t 1) ht.med1 hpt hw1 ⟨by decide,by decide,by have:=Wi ht.med1;simp only;omega,by have:=Wi ht.med1;simp only;omega⟩).at (k:=1) (H2:=_::_::_::_::_) rfl rfl)) ?_;refine Qp Cw ?_;refine By 0 J5 (_::_::_::_::_) (Ax (B5 (Qp Cw (Sb 0 Fq rfl (Qp (Qc rfl (vO (ptR T t (To T t)) (ptt_med ht.med1 hpt _))) (Qp Aq (B7 (Qp Ap (Qp Cb (Bh (fun hc5=>AW.seq ?_) fun hc5=>B2 (AW.seq (AW.seq ?_))))))))))))
 .
  refine Mo ?_;refine Qn 0 rfl (Fj J5) (Qn 1 rfl (Qf Ot) (Qn 2 rfl Dd ?_));refine Qn 3 rfl (Eh Ai rfl rfl (by decide) (Io (He (by omega)))) ?_;refine Qn 4 rfl (Qf [Iq _]) (Qn 5 rfl B6 (Qn 6 rfl Ap (Qn 7 rfl (Fj Id) ?_)));refine Oj 8 rfl (Kt 3 (.agg _) J5 (_::_::_::_::_) rfl) ?_;refine Oj 9 rfl (Kt 2 (.agg _) Id (_::_::_::_::_) rfl) ?_;refine Ig ?_;refine Av (lW ?_);refine Yx [.agg J5,.agg Id] (.cons (Yb 3) <| .cons (Yb 2) <| .nil) S4 ?_;exact Ye Su ((qr_b hc1).trans ((qr_c hk2).trans ((qr_d hc4).trans (qr_4 hc5))))
 refine AW.ghost (GS.cellRow 0 17 36 8 rfl rfl rfl rfl) ?_
 skip
 refine AW.region (Qp (Qf Ot) (Qp Dd ?_));refine Qp (O9 (l:=2) (h:=(t.kids.map C6).length) tok rfl rfl rfl rfl rfl (⟨_,rfl⟩) (rfl) (by rw [Bt];omega) (Br _) (((congrArg (List.drop 2) Qm).trans List.map_drop.symm))) ?_;refine Qp (E6 ((t.kids.drop 2).length) rfl rfl (by simp)) ?_;refine Qp Ap (Ax (AW.block ?_));refine AW.Aad (fun (q:Nat×List (List AV)×Value)=>(⟨[(3,.ptr (cSyn t)),(4,.val (.pointer (some ⟨b4,0,none⟩))),(5,.val (.pointer (some ⟨b5,0,none⟩))),(6,.val (.pointer (some ⟨b6,0,none⟩))),(8,.val (.pointer (some ⟨b8,0,none⟩))),(92,.sl 6 ((t.kids.drop 2).map C6)),(93,.int .i64 ((t.kids.drop 2).length:Int)),(94,.int .i64 (q.1:Int))],.row q.2.2 q.2.1.length 36 8 :: .box b8 40 (cQyW ⟨t.text,(To T t),(yF T t (To T t)).1,(Kk T (To T t) (Bi t 1) ⟨0,0⟩).1,[]⟩ (.row q.2.2 8 q.2.1)) :: .box b6 159 (bP T (To T t) (Kk T (To T t) (Bi t 1) ⟨0,0⟩).2) :: .box b5 94 lN :: .box b4 40 ghz::H,119⟩:St)) (fun q=>q.1<=(t.kids.drop 2).length/\q.2.1=(((t.kids.drop 2).take q.1).map (F1 T (To T t))).map H8/\((t.kids.drop 2).take q.1).any (fun x=>(rtF T (To T t) x).err != 0)=false) (fun q=>(t.kids.drop 2).length-q.1) ((0,[],.slice none 0 0)) ?_ C2 ?_
 . exact ⟨A9 _,rfl,rfl⟩
 rintro q hR;refine Aa (Qp Cn (Re (Hb (fun hc6=>?_) fun hc6=>?_)))
 .
  obtain ⟨a,ha⟩:=Cj hc6;have hlt:=Bz ha;have hm:=Aj ha;have hsc:∀c∈q.2.1,A0 c=true:=by rw [hR.2.1];exact scE _
  have hmk:a∈t.kids:=eD hm;have hma:=N7 ht.m hmk;have hwa:=(Lp hw0).2 a hmk;refine B2 (AW.seq (AW.block (Aa ?_)));refine Qp (Eh Ai rfl rfl (by omega) (Io ha)) ?_;refine Qp (Cm Ai) ?_;refine D5 I6 fun b15=>?_
  refine By 0 Ai (_::_::_::_::_::_::_) ?_;refine Kc 15 0 rfl ?_;refine B7 (Qp Bx (Qp (Cm Ai) ?_));refine AOL.Aag (Cu (k:=2) (by kernel_rfl) rfl rfl (qH T (To T t) (Kk T (To T t) (Bi t 1) ⟨0,0⟩).2 b6 hrv a hma hwa)) rfl rfl ?_;refine D5 ggz fun b16=>?_
  refine By 0 Ko (_::_::_::_::_::_::_) ?_;refine Kc 16 0 rfl ?_;refine Ax (B5 (Qp Rl ?_));refine Qp (Qc rfl (e8c21 (F1 T (To T t) a) (by have h:=cA (T:=T) (V:=(To T t)) a;have:=Wi hma;omega))) ?_;refine Qp Aq (B7 (Qp Ap (Qp Cb (Bh (fun hc7=>AW.seq ?_) fun hc7=>B2 (AW.region (Qp Cw (Sw 1 (.row _ _ _) rfl (Qp Rl (Qp (Jh [Ko] rfl) ?_)))))))))
  .
   refine Mo ?_;refine Qn 0 rfl (Fj J5) (Qn 1 rfl (Qf [Iq _]) (Qn 2 rfl B6 (Qn 3 rfl Ap (Qn 4 rfl (Fj Id) ?_))));refine Oj 5 rfl (Kt 4 (.agg _) J5 (_::_::_::_::_::_) rfl) ?_;refine Oj 6 rfl (Kt 3 (.agg _) Id (_::_::_::_::_::_) rfl) ?_;refine Ig ?_;refine Av (lW (Rj (A7 ?_)));refine Yx [.agg J5,.agg Id] (.cons (Yb 4) <| .cons (Yb 3) <| .nil) S5 ?_;exact Ye Su ((qr_b hc1).trans ((qr_c hk2).trans ((qr_d hc4).trans ((qr_e hc5).trans (qr_5 ha hR.2.2 hc7)))))
  refine Qe (W0 0 rfl (Et rfl) (hsc) (by have h9:=congrArg List.length hR.2.1;simp only [Bt,G2] at h9;simp;omega) (by have h9:=congrArg List.length hR.2.1;simp only [Bt,G2] at h9;simp [maxLen];omega)) ?_;rintro _ _ ⟨v114,rfl,rfl⟩;refine Qp Cw ?_;refine By 1 J5 (_::_::_::_::_::_) (Rk (AW.region (Qp Gw (Qp Ap (Ax ?_)))));refine ⟨(q.1+1,q.2.1 ++ [cE (F1 T (To T t) a)],v114),?_,?_,C2⟩
  . exact ⟨hlt,by simp only;rw [C9 ha,hR.2.1];simp [Nb],M2 hR.2.2 ha (by rw [rt_no hc7];rfl)⟩
  simp only;omega
 have hte:=Ds hc6;have hall:=hR.2.1;have hnn:=hR.2.2;rw [hte] at hall hnn;refine AW.exit ?_;refine B1 (Ri (AW.seq ?_));refine AW.ghost (GS.cell (H2:=_::_::_::_::_::_) 1 17 rfl rfl rfl rfl Eu) ?_
 skip
 refine Rm 1 rfl (Qn 0 rfl (Dp.mem (fun k=>If (k:=k) (l:=J5) tok rfl rfl rfl rfl rfl) (fun _ h=>h)) ?_);refine Qn 1 rfl (Qc rfl (Rw)) ?_;refine Xa 2 rfl (Kt 4 (.agg _) J5 (_::_::_::_::_::_) rfl) (by rintro _ _ ⟨rfl,rfl⟩;simp) ?_;rintro _ _ ⟨rfl,rfl⟩;refine fY 3 rfl (Kt 3 (.agg _) Id (_::_::_::_::_::_) rfl) ?_;rintro _ _ ⟨rfl,rfl⟩;refine Av (AW.ret ?_);refine Yx [.agg J5,.agg Id] (.cons (Yb 4) <| .cons (Yb 3) <| .nil) S5 ?_;exact Eq.trans (congrArg (fun l:List (List AV)=>AV.tuple [.agg (cQyW ⟨t.text,(To T t),(yF T t (To T t)).1,(Kk T (To T t) (Bi t 1) ⟨0,0⟩).1,[]⟩ (.sl 8 l)),.agg (oJ Oe)]) hall) (congrArg (fun q:Qy×Fa=>AV.tuple [.agg (cQy q.1),.agg (oJ q.2)]) ((qr_b hc1).trans ((qr_c hk2).trans ((qr_d hc4).trans ((qr_e hc5).trans (qr_6 hnn)))))).symm
open Go Go.Aw Go.Sort Go.Lib
theorem xJ (w:World)(k:Nat)(os:Array Obj):Go.RowKit.Below w.heap.size w (grow (w.drewN k) os):=
 ⟨rfl,rfl,rfl,by first | (simp [grow];done) | (simp [grow];omega),fun i hi=>by
  show ((w.drewN k).heap++os)[i]? = _;rw [Array.getElem?_append_left (by show i<w.heap.size;omega)];rfl⟩
theorem pow10_is {g : Gh} {w : World} (h : GlobOK g w) : Lib.TabIs Tryz.prog w "internal/strconv.uint64pow10" .u64 Lib.pow10Tab := by
 obtain ⟨_,T,fr,h2⟩:=h.tabs _ (Ft.2 rfl);have e : Tryz.prog.globalNamed "internal/strconv.uint64pow10" = some 7 := by kernel_rfl
 unfold Lib.TabIs World.var?;rw [e];show (match w.heap[7]? with | some (.cells cs _ _)=>some cs | _=>none)=_;rw [h2];rfl
theorem kItoa (n:Int)(h0 : -9223372036854775808<=n)(h1:n<=9223372036854775807):An Tryz.prog 270 [.int .i64 n] (.str (Go.Lib.itoa n)):=
 .of_calls fun g w vs hg ha=>by
  obtain ⟨v,rfl,h2⟩:=ha.inv1;have e1:=h2.inv_int;subst e1;have hl:=Go.Lib.itoa_length_le n h0 h1;refine ⟨.string ⟨(Go.Lib.itoa n).toArray⟩,fun _ _ _=>Zo (by unfold maxLen;omega),(Tryz.strconv_Itoa n h0 h1 w (pow10_is hg)).mono ?_⟩;rintro e w' ⟨rfl,k,os,rfl⟩;exact ⟨rfl,xJ w k os⟩
theorem k_check0 (b TT:Nat)(r:AV)(rest:List AV)(hl:liesAt Tryz.prog Tryz.prog.depth TT ((rest.length+2) / Tryz.prog.cellsOf TT) 0 213 1=true)(R:List HO):Cf Tryz.prog 298 (.box b TT (.val (.pointer none)::r::rest)::R) [.val (.pointer (some ⟨b,0,none⟩))] (fun x H'=>x = .tuple []/\H' = .box b TT (.val (.pointer (some ⟨b,0,none⟩))::r::rest)::R):=by
 refine Jg 20 Tryz.func298 rfl ?_;refine Aa (Qp Bx (Qp (Ad rfl) (Qp Cw (AOL.Aag (Cr (k:=0) (c:=.val (.pointer none)) tok rfl rfl rfl (rfl)) rfl rfl (Qp (gX Tryz.underlying211 rfl rfl) (Bh (fun hc1=>AW.region (Qp Bx (Qp Bx (AOL.Aag (rR (k:=0) tok Tryz.underlying211 Tryz.underlying307 rfl rfl rfl (rfl)) rfl rfl ?_)))) fun hc1=>?_))))))
 .
  refine Qp (xA Tryz.func312 (by kernel_rfl) (by kernel_rfl) (by kernel_rfl) (by kernel_rfl) rfl) ?_;refine AOL.Aag (lO (k:=0) tok Tryz.underlying307 Tryz.underlying211 rfl (rfl) (hl) rfl) rfl rfl (Qp (Ad rfl) (Qp Cw ?_));refine Rt (Tq (k:=0) (v:=.val _) (cs':=(.val (.pointer (some ⟨b,0,none⟩))::r::rest)) (H2:=_::_) tok rfl rfl rfl rfl rfl rfl (Nat.ble_eq_true_of_le (by show 0+1<=rest.length+1+1;omega)) (rfl) rfl) ?_;refine AOL.nil ?_;refine ⟨.inl rfl,[],.nil,_,.refl _,?_⟩;exact ⟨rfl,rfl⟩
 cases hc1
theorem k_check1 (b TT:Nat)(r:AV)(rest:List AV)(hl:liesAt Tryz.prog Tryz.prog.depth TT ((rest.length+2) / Tryz.prog.cellsOf TT) 0 213 1=true)(R:List HO):Cf Tryz.prog 298 (.box b TT (.val (.pointer (some ⟨b,0,none⟩))::r::rest)::R) [.val (.pointer (some ⟨b,0,none⟩))] (fun x H'=>x = .tuple []/\H' = .box b TT (.val (.pointer (some ⟨b,0,none⟩))::r::rest)::R):=by
 refine Jg 20 Tryz.func298 rfl ?_;refine Aa (Qp Bx (Qp (Ad rfl) (Qp Cw (AOL.Aag (Cr (k:=0) (c:=.val (.pointer (some ⟨b,0,none⟩))) tok rfl rfl rfl (rfl)) rfl rfl (Qp (gX Tryz.underlying211 rfl rfl) (Bh (fun hc1=>?_) fun hc1=>Aa (Qp Bx (Qp (Ad rfl) (Qp Cw (AOL.Aag (Cr (k:=0) (c:=.val (.pointer (some ⟨b,0,none⟩))) tok rfl rfl rfl (rfl)) rfl rfl (Qp Bx ?_)))))))))))
 . cases hc1
 refine Qp (P_neqPtr (z:=2) Tryz.underlying211 (by kernel_rfl) rfl rfl rfl) ?_;refine Bh (fun hc2=>?_) fun hc2=>AW.skip ?_
 . cases hc2
 refine ⟨.inl rfl,[],.nil,_,.refl _,?_⟩;exact ⟨rfl,rfl⟩
theorem k_check (b TT:Nat)(p:Option Addr)(hp:p=none\/p=some ⟨b,0,none⟩)(r:AV)(rest:List AV)(hl:liesAt Tryz.prog Tryz.prog.depth TT ((rest.length+2) / Tryz.prog.cellsOf TT) 0 213 1=true)(R:List HO) :
  Cf Tryz.prog 298 (.box b TT (.val (.pointer p)::r::rest)::R) [.val (.pointer (some ⟨b,0,none⟩))] (fun x H'=>x = .tuple []/\H' = .box b TT (.val (.pointer (some ⟨b,0,none⟩))::r::rest)::R):=by
 rcases hp with rfl | rfl
 . exact k_check0 b TT r rest hl R
 exact k_check1 b TT r rest hl R
theorem k_checkP (b TT:Nat)(p:Option Addr)(hp:p=none\/p=some ⟨b,0,none⟩)(r:AV)(rest:List AV)(hl:liesAt Tryz.prog Tryz.prog.depth TT ((rest.length+2) / Tryz.prog.cellsOf TT) 0 213 1=true) :
 Bk Tryz.prog 298 b TT (.val (.pointer p)::r::rest) (.val (.pointer (some ⟨b,0,none⟩))::r::rest) [.val (.pointer (some ⟨b,0,none⟩))] (.tuple []):=fun R=>k_check b TT p hp r rest hl R
theorem k_write (b TT:Nat)(p:Option Addr)(hp:p=none\/p=some ⟨b,0,none⟩)(v:Value)(t s:Ag)(rest:List AV)(hl:liesAt Tryz.prog Tryz.prog.depth TT ((rest.length+2) / Tryz.prog.cellsOf TT) 0 213 1=true)(hb:t.length+s.length<=140737488355328)(R:List HO):Cf Tryz.prog 268 (.row v (Hs t).length 5 1 :: .box b TT (.val (.pointer p) :: .row v 1 (Hs t)::rest)::R) [.val (.pointer (some ⟨b,0,none⟩)),.str s] (fun x H'=>∃v',x = .tuple [.int .i64 (s.length:Int),.val .nilIface]/\H' = .row v' (Hs (t++s)).length 5 1 :: .box b TT (.val (.pointer (some ⟨b,0,none⟩)) :: .row v' 1 (Hs (t++s))::rest)::R):=by
 refine Jg 19 Tryz.func268 rfl ?_;refine Aa (Qp Aq (Qp Sa (B7 (Qp Bx (wX ((k_checkP b TT p hp _ rest hl).at (k:=1) (H2:=_::_::_) rfl rfl) (B7 (Qp Bx (Qp Bx (Qp (Ad rfl) (Qp Cw (Sw 1 (.row _ _ _) rfl (Qp H7 ?_))))))))))));refine Qe (rH (k:=0) tok rfl rfl rfl rfl Tryz.underlying9 rfl rfl rfl rfl (byc_sc _) (by rw [Om];exact hb)) ?_;rintro _ _ ⟨v14,rfl,rfl⟩;refine Qp (Ad rfl) (Qp Cw ?_);refine Rt (Tq (k:=1) (v:=.row _ _ _) (cs':=(.val (.pointer (some ⟨b,0,none⟩)) :: .row v14 1 (Hs t++Hs s)::rest)) (H2:=_::_::_) tok rfl rfl rfl rfl rfl rfl (Nat.ble_eq_true_of_le (by show 1+1<=rest.length+1+1;omega)) (rfl) rfl) ?_;refine B7 (Qp H7 (Qp (Du (n:=s.length) tok rfl rfl rfl (rfl)) (Qp Aq (Qp Sa (Rb ?_)))));refine ⟨.inr rfl,[Iq _,.val _],Zf,_,S0,?_⟩;exact ⟨v14,rfl,congrArg (fun l=>HO.row v14 l.length 5 1::HO.box b TT (.val (.pointer (some ⟨b,0,none⟩)) :: .row v14 1 l::rest)::R) (byc_app t s).symm⟩
theorem k_string (b TT:Nat)(a0:AV)(v:Value)(t:Ag)(rest:List AV)(R:List HO):Cf Tryz.prog 152 (.row v (Hs t).length 5 1 :: .box b TT (a0 :: .row v 1 (Hs t)::rest)::R) [.val (.pointer (some ⟨b,0,none⟩))] (fun x H'=>x = .str t/\H' = .row (.slice none 0 0) 0 5 1 :: .box b TT (a0 :: .row v 1 (Hs t)::rest)::R):=by
 refine Jg 14 Tryz.func152 rfl ?_;refine Aa (Qp Lu (Re (Rm 1 rfl (Qn 0 rfl Bx (Qn 1 rfl (Ad rfl) (Qn 2 rfl Cw (Qn 3 rfl (Lw (.row _ _ _) rfl) (Qn 5 rfl Bx (Qn 6 rfl (Ad rfl) (Qn 7 rfl Cw (Qn 8 rfl (Lw (.row _ _ _) rfl) (Qn 9 rfl (G6 (n:=t.length) tok rfl rfl rfl (Om t)) ?_))))))))))));refine Xa 4 rfl (rM (k:=0) Tryz.underlying252 rfl rfl) (by rintro _ _ ⟨q7,hq7,rfl,rfl⟩;simp) ?_;rintro _ _ ⟨q7,hq7,rfl,rfl⟩;refine Xa 10 rfl (gS (k:=0) (kb:=1) (o:=1) Tryz.underlying252 (by kernel_rfl) rfl (rfl) hq7 rfl rfl rfl rfl) (by rintro _ _ ⟨rfl,rfl⟩;simp) ?_;rintro _ _ ⟨rfl,rfl⟩;refine Qn 11 rfl Lu ?_;refine Ig ?_;refine Av (AW.ret ?_);refine ⟨.inr rfl,[.str _],Ze,_,S0,?_⟩;exact ⟨rfl,rfl⟩
theorem k_blen (b TT:Nat)(a0:AV)(v:Value)(t:Ag)(rest:List AV)(R:List HO):Cf Tryz.prog 151 (.row v (Hs t).length 5 1 :: .box b TT (a0 :: .row v 1 (Hs t)::rest)::R) [.val (.pointer (some ⟨b,0,none⟩))] (fun x H'=>x = .int .i64 (t.length:Int)/\H' = .row v (Hs t).length 5 1 :: .box b TT (a0 :: .row v 1 (Hs t)::rest)::R):=by
 refine Jg 8 Tryz.func151 rfl ?_;refine Aa (Qp Aq (B7 (Qp Bx (Qp (Ad rfl) (Qp Cw (Sw 1 (.row _ _ _) rfl (Qp (G6 (n:=t.length) tok rfl rfl rfl (Om t)) (Qp Aq (Rb ?_)))))))));refine ⟨.inr rfl,[Iq _],Ze,_,S0,?_⟩;exact ⟨rfl,rfl⟩
theorem k_fb0 (c:Bool):An Tryz.prog 300 [.bool c] (.str (if c then K9 else Je)):=by
 refine Fb 4 Tryz.func300 rfl fun H=>?_
 refine Aa (Qp Lu (Ax (B5 (Qp Cc (Bh (fun hc1=>Aa (Qp Lu (Rc (Qr (.str _) ?_)))) fun hc1=>B2 (Aa (Qp Lu (Rb (Qr (.str _) ?_)))))))))
 .
  simp only [Ah];rw [if_pos hc1]
 simp only [Ah];rw [Bo hc1]
theorem k_fbool (c:Bool):An Tryz.prog 271 [.bool c] (.str (if c then K9 else Je)):=by
 refine Fb 5 Tryz.func271 rfl fun H=>?_
 refine Aa (Qp Lu (B7 (Qp Cc (Qp (Qc rfl (k_fb0 c)) (Qp Lu (Rb (Qr (.str _) ?_)))))));rfl
def Zv (b:Nat):List AV:=
  [.fn (.func 207) [] [.ptr [.val (.pointer (some ⟨b,0,none⟩))]],
   .fn (.func 208) [.val (.pointer (some ⟨b,0,none⟩))] [],
   .fn (.func 209) [] [.ptr [.val (.pointer (some ⟨b,0,none⟩))]],
   .fn (.func 211) [.val (.pointer (some ⟨b,0,none⟩))] [],
   .val .nilFunc,
   .fn (.func 212) [.val (.pointer (some ⟨b,0,none⟩))] [],
   .fn (.func 269) [] [.ptr [.val (.pointer (some ⟨b,0,none⟩))],.ptr [.str Yq]],
   .fn (.func 269) [] [.ptr [.val (.pointer (some ⟨b,0,none⟩))],.ptr [.str Yp]],
   .fn (.func 269) [] [.ptr [.val (.pointer (some ⟨b,0,none⟩))],.ptr [.str Yn]],
   .fn (.func 269) [] [.ptr [.val (.pointer (some ⟨b,0,none⟩))],.ptr [.str Sn]],
   .fn (.func 269) [] [.ptr [.val (.pointer (some ⟨b,0,none⟩))],.ptr [.str Ni]],
   .fn (.func 269) [] [.ptr [.val (.pointer (some ⟨b,0,none⟩))],.ptr [.str K5]],
   .fn (.func 269) [] [.ptr [.val (.pointer (some ⟨b,0,none⟩))],.ptr [.str K4]],
   .fn (.func 214) [.val (.pointer (some ⟨b,0,none⟩))] [],
   .fn (.func 215) [] [.ptr [.val (.pointer (some ⟨b,0,none⟩))]],
   .fn (.func 216) [] [.ptr [.val (.pointer (some ⟨b,0,none⟩))]],
   .fn (.func 217) [.val (.pointer (some ⟨b,0,none⟩))] [],
   .fn (.func 218) [.val (.pointer (some ⟨b,0,none⟩))] [],
   .fn (.func 219) [] [.ptr [.val (.pointer (some ⟨b,0,none⟩))]]]
def WQ (b:Nat)(o:Ag)(R:List HO):AV->List HO->Prop:=fun x H'=>∃v a,x = .tuple []/\(a=none\/a=some ⟨b,0,none⟩)/\H'=(.row v (Hs o).length 5 1 :: .box b 216 (.val (.pointer a) :: .row v 1 (Hs o)::Zv b)::R)
theorem wq {b:Nat}{o o':Ag}{v:Value}{a:Option Addr}{R:List HO}(ha:a=none\/a=some ⟨b,0,none⟩)(e:o=o'):WQ b o' R (.tuple []) (.row v (Hs o).length 5 1 :: .box b 216 (.val (.pointer a) :: .row v 1 (Hs o)::Zv b)::R):=e▸⟨v,a,rfl,ha,rfl⟩
theorem wlies0:liesAt Tryz.prog Tryz.prog.depth 216 (21 / Tryz.prog.cellsOf 216) 0 213 1=true:=by kernel_rfl
theorem wlies (b:Nat):liesAt Tryz.prog Tryz.prog.depth 216 (((Zv b).length+2) / Tryz.prog.cellsOf 216) 0 213 1=true:=wlies0
abbrev mB:Nat:=140737488355328
def sc (ws:List Ag):List (List AV):=ws.map fun s=>[.str s]
theorem sc_at {l:List Ag}{k:Nat}{x:Ag}(h:l[k]? = some x):(sc l)[k]? = some [.str x]:=by unfold sc;rw [List.getElem?_map,h];rfl
theorem mY {l:List Ag}{k:Nat}{x:Ag}(h:l[k]? = some x):(l.take (k+1)).flatten=(l.take k).flatten++x:=by
 rw [List.take_add_one,h];simp
theorem flat_le {l:List Ag}{k:Nat}{x:Ag}(h:l[k]? = some x):(l.take k).flatten.length+x.length<=l.flatten.length:=by
 have h1:=congrArg List.length (mY h);have h2:=congrArg List.length (congrArg List.flatten (Zu (k+1) l));rw [dX] at h2;simp only [Au] at h1 h2;omega
theorem Gu (b:Nat)(o:Ag)(v:Value)(a:Option Addr)(ha:a=none\/a=some ⟨b,0,none⟩)(R:List HO)(l:List Ag)(hl:l.length<=100)(hb:o.length+l.flatten.length<=mB):Cf Tryz.prog 210 (.row v (Hs o).length 5 1 :: .box b 216 (.val (.pointer a) :: .row v 1 (Hs o)::Zv b)::R) [.val (.pointer (some ⟨b,0,none⟩)),.sl 1 (sc l)] (WQ b (o++l.flatten) R):=by
 refine Jg 18 Tryz.func210 rfl ?_;refine Aa (Qp K7 ?_);refine Qp (E6 l.length rfl rfl (by simp [sc])) ?_;refine Qp Ap (Ax (AW.block ?_));refine AW.Aad (fun (p:Nat×Ag×Value×Option Addr)=>(⟨[(0,.val (.pointer (some ⟨b,0,none⟩))),(6,.sl 1 (sc l)),(7,.int .i64 l.length),(8,.int .i64 (p.1:Int))],(.row p.2.2.1 (Hs p.2.1).length 5 1 :: .box b 216 (.val (.pointer p.2.2.2) :: .row p.2.2.1 1 (Hs p.2.1)::Zv b)::R),18⟩:St)) (fun p=>p.1<=l.length/\p.2.1=o++(l.take p.1).flatten/\(p.2.2.2=none\/p.2.2.2=some ⟨b,0,none⟩)) (fun p=>l.length-p.1) ((0,o,v,a)) ?_ C2 ?_
 . exact ⟨A9 _,by simp,ha⟩
 rintro p hR;refine Aa (Qp Cn (Re (Hb (fun hc1=>?_) fun hc1=>?_)))
 .
  obtain ⟨x,hx⟩:=gt2 (l:=l) (k:=p.1) (by have:=Ey hc1;omega);have hlt:=nD hx;have hle:=flat_le hx;refine B2 (AW.seq (AW.block (Aa ?_)));refine Qp (Eh [.str _] rfl rfl (by omega) (sc_at hx)) ?_;refine Qp Gr (Qp Lu (Ax (AW.region (Qp Bx (Qp (Ad rfl) (Qp Cw (Qp H7 ?_)))))));refine Qe (Dq rfl (k_write b 216 p.2.2.2 hR.2.2 p.2.2.1 p.2.1 x (Zv b) (wlies b) (by rw [hR.2.1,Au];unfold mB at hb;omega) R)) ?_;rintro _ _ ⟨v16,rfl,rfl⟩;refine Rk (AW.region (Qp Gw (Qp Ap (Ax ?_))));refine ⟨(p.1+1,p.2.1++x,v16,some ⟨b,0,none⟩),?_,?_,C2⟩
  . exact ⟨hlt,by rw [mY hx,<-C1,<-hR.2.1],.inr rfl⟩
  simp only;omega
 have hk:l.length<=p.1:=by have:=G3 hc1;omega
 refine AW.exit ?_;refine B1 (B1 (U9 ?_));refine ⟨.inl rfl,[],.nil,_,.refl _,?_⟩;exact wq hR.2.2 (by rw [hR.2.1,List.take_of_length_le hk])
def Og:List Ag->Ag
 | []=>[]
 | x::r=>[44,32]++x++Og r
theorem jH:∀(x:Ag) (r:List Ag),D6 (x::r)=x++Og r
 | x,[]=>by simp [D6,Og]
 | x,y::r=>by rw [D6,jH y r,Og];simp
def fB (k:Nat)(ws:List Ag):Ag:=if k=0 then D6 ws else Og (ws.drop k)
theorem restC_0 {ws:List Ag}{x:Ag}(h:ws[0]? = some x):fB 0 ws=x++fB 1 ws:=by
 cases ws with
 | nil=>cases h
 | cons y r=>cases h;exact jH _ _
theorem restC_s {ws:List Ag}{k:Nat}{x:Ag}(h:ws[k]? = some x)(hk:0<k):fB k ws = [44,32]++x++fB (k+1) ws:=by
 unfold fB;obtain ⟨h1,rfl⟩:=List.getElem?_eq_some_iff.1 h;rw [if_neg (by omega),if_neg (by omega),Qz h1,Og]
theorem restC_end {ws:List Ag}{k:Nat}(h:ws.length<=k):fB k ws = []:=by
 unfold fB;split
 .
  rename_i h0;subst h0;have:ws = []:=bJ (by omega);rw [this];rfl
 rw [Q8 h];rfl
theorem wm_at {l:List Syn}{k:Nat}{x:Syn}(h:l[k]? = some x):(l.map Ae)[k]? = some (Ae x):=by rw [List.getElem?_map,h];rfl
theorem kind_at {n:Int}(h:0<=n/\n<=2):([[.str G0],[.str Ho],[.str Ha]]:List (List AV))[n.toNat]? = some [.str (Im n)]:=by
 have:n=0\/n=1\/n=2:=by omega
 rcases this with rfl | rfl | rfl <;> rfl
def Jk (b:Nat)(t:Syn):Prop:=∀(o:Ag) (v:Value) (a:Option Addr),(a=none\/a=some ⟨b,0,none⟩)->∀(R:List HO),o.length+(Ae t).length<=mB->
 Cf Tryz.prog 150 (.row v (Hs o).length 5 1 :: .box b 216 (.val (.pointer a) :: .row v 1 (Hs o)::Zv b)::R) [.val (.pointer (some ⟨b,0,none⟩)),.agg (cSyn t)] (WQ b (o++Ae t) R)
theorem qX (b:Nat)(o:Ag)(v:Value)(a:Option Addr)(ha:a=none\/a=some ⟨b,0,none⟩)(R:List HO)(l:List Syn)(hn:∀x∈l,Jk b x)(hb:o.length+(D6 (l.map Ae)).length<=mB):Cf Tryz.prog 267 (.row v (Hs o).length 5 1 :: .box b 216 (.val (.pointer a) :: .row v 1 (Hs o)::Zv b)::R) [.val (.pointer (some ⟨b,0,none⟩)),.sl 6 (l.map C6)] (WQ b (o++D6 (l.map Ae)) R):=by
 refine Jg 22 Tryz.func267 rfl ?_;refine Aa (Qp K7 ?_);refine Qp (E6 l.length rfl rfl (by simp)) ?_;refine Qp Ap (Ax (AW.block (AW.sllen 6 rfl fun hlen=>?_)));simp only [Bt,maxLen] at hlen;refine AW.Aad (fun (p:Nat×Ag×Value×Option Addr)=>(⟨[(0,.val (.pointer (some ⟨b,0,none⟩))),(6,.sl 6 (l.map C6)),(7,.int .i64 l.length),(8,.int .i64 (p.1:Int))],(.row p.2.2.1 (Hs p.2.1).length 5 1 :: .box b 216 (.val (.pointer p.2.2.2) :: .row p.2.2.1 1 (Hs p.2.1)::Zv b)::R),22⟩:St)) (fun p=>p.1<=l.length/\p.2.1++fB p.1 (l.map Ae)=o++D6 (l.map Ae)/\(p.2.2.2=none\/p.2.2.2=some ⟨b,0,none⟩)) (fun p=>l.length-p.1) ((0,o,v,a)) ?_ C2 ?_
 . exact ⟨A9 _,rfl,ha⟩
 rintro p hR;have ha:=hR.2.2;refine Aa (Qp Cn (Re (Hb (fun hc1=>?_) fun hc1=>?_)))
 .
  obtain ⟨x,hx⟩:=gt2 (l:=l) (k:=p.1) (by have:=Ey hc1;omega);have hlt:=nD hx;have hnx:=hn x (Aj hx);have hle:=congrArg List.length hR.2.1;simp only [Au] at hle;refine B2 (AW.seq (AW.block (Aa (Qp Ap ?_))));refine Qp (Eh Ai rfl rfl (by omega) (Ie hx)) ?_;refine Qp (Cm Ai) ?_;refine D5 I6 fun b5=>?_
  refine Qp Aq ?_;refine By 0 Ai (_::_::_::_) ?_;refine Kc 5 0 rfl ?_;refine Ax (B5 (Qp Ap (Qp Gx (Bh (fun hc2=>?_) fun hc2=>?_))))
  .
   have hr:=restC_s (wm_at hx) (by have:=Ey hc2;omega);rw [hr] at hle;simp only [Au,Bb,Bp] at hle;refine AW.region (Qp Bx (Qp (Jh ([[.str _]]) rfl) ?_));refine Qe (Dq rfl (Gu b _ _ _ hR.2.2 R [[44,32]] (by decide) (by simp only [Bj,Bv,A8,Bb,Bp];omega))) ?_;rintro _ _ ⟨v17,a17,rfl,ha17,rfl⟩;refine Ax (AW.region (Qp Bx (Qp (Cm Ai) ?_)));refine Qe (Dq rfl (hnx _ _ _ (by assumption) R (by (try simp only [Bj,Bv,A8,Au,Bb,Bp]);omega))) ?_;rintro _ _ ⟨v20,a20,rfl,ha20,rfl⟩;refine Rk (AW.region (Qp Gw (Qp Ap (Ax ?_))));refine ⟨(p.1+1,(p.2.1 ++ [[44,32]].flatten)++Ae x,v20,a20),?_,?_,C2⟩
   . exact ⟨hlt,by rw [<-hR.2.1,hr];simp,ha20⟩
   simp only;omega
  have h0:p.1=0:=by have:=G3 hc2;omega
  have hr:=restC_0 (ws:=l.map Ae) (by have:=wm_at hx;rwa [h0] at this);rw [h0,hr] at hle;simp only [Au] at hle;refine B2 (AW.region (Qp Bx (Qp (Cm Ai) ?_)));refine Qe (Dq rfl (hnx _ _ _ (by assumption) R (by (try simp only [Bj,Bv,A8,Au,Bb,Bp]);omega))) ?_;rintro _ _ ⟨v20,a20,rfl,ha20,rfl⟩;refine Rk (AW.region (Qp Gw (Qp Ap (Ax ?_))));refine ⟨(p.1+1,p.2.1++Ae x,v20,a20),?_,?_,C2⟩
  . exact ⟨hlt,by rw [<-hR.2.1,h0,hr];simp,ha20⟩
  simp only;omega
 have hk:(l.map Ae).length<=p.1:=by have:=G3 hc1;rw [Bt];omega
 refine AW.exit ?_;refine B1 (B1 (U9 ?_));refine ⟨.inl rfl,[],.nil,_,.refl _,?_⟩;exact wq hR.2.2 (by rw [<-hR.2.1,restC_end hk,A8])
theorem dR (b:Nat)(o:Ag)(v:Value)(a:Option Addr)(ha:a=none\/a=some ⟨b,0,none⟩)(R:List HO)(p t:Syn)(hn:Jk b t)(hb:o.length+(Hk p t (Ae t)).length<=mB):Cf Tryz.prog 220 (.row v (Hs o).length 5 1 :: .box b 216 (.val (.pointer a) :: .row v 1 (Hs o)::Zv b)::R) [.val (.pointer (some ⟨b,0,none⟩)),.agg (cSyn p),.agg (cSyn t)] (WQ b (o++Hk p t (Ae t)) R):=by
 refine Jg 24 Tryz.func220 rfl ?_;refine Aa (Qp (Hu Ai) (Qp (Hu Ai) (Ax (B5 (Qp (Qf Ai) (Qp B6 (Qp (Qf Ai) (Qp B6 (Qp (Qc rfl (wM p.kind t.kind)) (Qp Ix (Bh (fun hc1=>?_) fun hc1=>?_)))))))))))
 .
  have hcl:Dc p.kind t.kind=false:=by simpa using hc1
  have e:Hk p t (Ae t)=Ae t:=if_neg (by rw [hcl];decide);rw [e] at hb;refine Aa (Qp Bx (Qp (Cm Ai) ?_));refine Qe (Dq rfl (hn _ _ _ ha R (by have h:=hb;(try simp only [Bj,Bv,Au,Bb,Bp,A8] at h ⊢);omega))) ?_;rintro _ _ ⟨v14,a14,rfl,ha14,rfl⟩;refine Rc ?_;refine ⟨.inr rfl,[],.nil,_,.refl _,?_⟩;exact wq ha14 (by rw [e])
 have hcl:Dc p.kind t.kind=true:=by simpa using hc1
 have e:Hk p t (Ae t) = [40]++Ae t ++ [41]:=if_pos hcl;rw [e] at hb;refine B2 (Aa (Qp Bx (Qp (Jh ([[.str _]]) rfl) ?_)));refine Qe (Dq rfl (Gu b _ _ _ ha R [[40]] (Cv rfl) (by have h:=hb;(try simp only [Bj,Bv,Au,Bb,Bp,A8] at h ⊢);omega))) ?_;rintro _ _ ⟨v17,a17,rfl,ha17,rfl⟩;refine B7 (Qp Bx (Qp (Cm Ai) ?_));refine Qe (Dq rfl (hn _ _ _ ha17 R (by have h:=hb;(try simp only [Bj,Bv,Au,Bb,Bp,A8] at h ⊢);omega))) ?_;rintro _ _ ⟨v20,a20,rfl,ha20,rfl⟩;refine Ax (AW.region (Qp Bx (Qp (Jh ([[.str _]]) rfl) ?_)));refine Qe (Dq rfl (Gu b _ _ _ ha20 R [[41]] (Cv rfl) (by have h:=hb;(try simp only [Bj,Bv,Au,Bb,Bp,A8] at h ⊢);omega))) ?_;rintro _ _ ⟨v23,a23,rfl,ha23,rfl⟩;refine AOL.nil ?_;refine ⟨.inl rfl,[],.nil,_,.refl _,?_⟩;exact wq ha23 (by rw [e];simp only [Bj,Bv,A8,C1,Co,C5])
theorem w_decl (b:Nat)(o:Ag)(v:Value)(a:Option Addr)(ha:a=none\/a=some ⟨b,0,none⟩)(R:List HO)(t:Syn)(hn:∀x∈t.kids,Jk b x)(hb:o.length+([116,121,112,101,32]++t.text ++ [32,123]++(if 0<t.kids.length then [32]++D6 (t.kids.map Ae) ++ [32] else []) ++ [125,10]).length<=mB):Cf Tryz.prog 208 (.row v (Hs o).length 5 1 :: .box b 216 (.val (.pointer a) :: .row v 1 (Hs o)::Zv b)::R) [.val (.pointer (some ⟨b,0,none⟩)),.agg (cSyn t)] (WQ b (o++([116,121,112,101,32]++t.text ++ [32,123]++(if 0<t.kids.length then [32]++D6 (t.kids.map Ae) ++ [32] else []) ++ [125,10])) R):=by
 refine Jg 26 Tryz.func208 rfl ?_;refine Aa (Qp (Hu Ai) (Re ?_));have hb0:o.length+([116,121,112,101,32]++t.text ++ [32,123]).length<=mB:=by have h:=hb;simp only [Au] at h ⊢;omega
 refine AW.region (Qp Bx (Qp (Qf X6) (Qp Gr (Qp (Jh ([[.str _],[.str _],[.str _]]) rfl) ?_))));refine Qe (Dq rfl (Gu b _ _ _ ha R [[116,121,112,101,32],t.text,[32,123]] (Cv rfl) (by have h:=hb;(try simp only [Bj,Bv,Au,Bb,Bp,A8] at h ⊢);omega))) ?_;rintro _ _ ⟨v8,a8,rfl,ha8,rfl⟩;refine Ax (B5 (Qp (Qf Ot) (Qp Dd ?_)));refine Qp (E6 t.kids.length rfl rfl (by simp)) ?_;refine Qp Gx (Bh (fun hc1=>?_) fun hc1=>?_)
 .
  have hk:0<t.kids.length:=by have:=Ey hc1;omega
  have ha:=ha8;rw [if_pos hk] at hb;refine Aa (Qp Bx (Qp (Jh ([[.str _]]) rfl) ?_));refine Qe (Dq rfl (Gu b _ _ _ ha8 R [[32]] (Cv rfl) (by have h:=hb;(try simp only [Bj,Bv,Au,Bb,Bp,A8] at h ⊢);omega))) ?_;rintro _ _ ⟨v15,a15,rfl,ha15,rfl⟩;refine B7 (Qp Bx (Qp (Qf Ot) (Qp Dd ?_)));refine Qe (Dq rfl (qX b _ _ _ ha15 R t.kids hn (by have h:=hb;(try simp only [Bj,Bv,Au,Bb,Bp,A8] at h ⊢);omega))) ?_;rintro _ _ ⟨v19,a19,rfl,ha19,rfl⟩;refine Ax (AW.region (Qp Bx (Qp (Jh ([[.str _]]) rfl) ?_)));refine Qe (Dq rfl (Gu b _ _ _ ha19 R [[32]] (Cv rfl) (by have h:=hb;(try simp only [Bj,Bv,Au,Bb,Bp,A8] at h ⊢);omega))) ?_;rintro _ _ ⟨v22,a22,rfl,ha22,rfl⟩;refine Ax (AW.region (Qp Bx (Qp (Jh ([[.str _]]) rfl) ?_)));refine Qe (Dq rfl (Gu b _ _ _ ha22 R [[125,10]] (Cv rfl) (by have h:=hb;(try simp only [Bj,Bv,Au,Bb,Bp,A8] at h ⊢);omega))) ?_;rintro _ _ ⟨v25,a25,rfl,ha25,rfl⟩;refine AOL.nil ?_;refine ⟨.inl rfl,[],.nil,_,.refl _,?_⟩;exact wq ha25 (by rw [if_pos hk];simp only [Bj,Bv,A8,C1,Co,C5])
 have hk:¬0<t.kids.length:=by have:=G3 hc1;omega
 rw [if_neg hk] at hb;have ha22:=ha8;refine B2 (AW.region (Qp Bx (Qp (Jh ([[.str _]]) rfl) ?_)));refine Qe (Dq rfl (Gu b _ _ _ ha22 R [[125,10]] (Cv rfl) (by have h:=hb;(try simp only [Bj,Bv,Au,Bb,Bp,A8] at h ⊢);omega))) ?_;rintro _ _ ⟨v25,a25,rfl,ha25,rfl⟩;refine AOL.nil ?_;refine ⟨.inl rfl,[],.nil,_,.refl _,?_⟩;exact wq ha25 (by rw [if_neg hk];simp only [Bj,Bv,A8,C1,Co,C5])
theorem w_event (b:Nat)(o:Ag)(v:Value)(a:Option Addr)(ha:a=none\/a=some ⟨b,0,none⟩)(R:List HO)(t:Syn)(hn:∀x∈t.kids,Jk b x)(hb:o.length+(t.text++([32]:Ag)++t.name++(if h:0<t.kids.length then ([32,105,102,32]:Ag)++Ae t.kids[0] else [])).length<=mB):Cf Tryz.prog 212 (.row v (Hs o).length 5 1 :: .box b 216 (.val (.pointer a) :: .row v 1 (Hs o)::Zv b)::R) [.val (.pointer (some ⟨b,0,none⟩)),.agg (cSyn t)] (WQ b (o++(t.text++([32]:Ag)++t.name++(if h:0<t.kids.length then ([32,105,102,32]:Ag)++Ae t.kids[0] else []))) R):=by
 refine Jg 24 Tryz.func212 rfl ?_;refine Aa (Qp (Hu Ai) (B7 (Qp Bx (Qp (Qf X6) (Qp Gr (Qp (Qf pF) (Qp Gr (Qp (Jh ([[.str _],[.str _],[.str _]]) rfl) ?_))))))));refine Qe (Dq rfl (Gu b _ _ _ ha R [t.text,[32],t.name] (Cv rfl) (by have h:=hb;(try simp only [Bj,Bv,Au,Bb,Bp,A8] at h ⊢);omega))) ?_;rintro _ _ ⟨v10,a10,rfl,ha10,rfl⟩;refine B7 (Qp (Qf Ot) (Qp Dd ?_));refine Qp (E6 t.kids.length rfl rfl (by simp)) ?_;refine Qp Gx (Bh (fun hc1=>?_) fun hc1=>?_)
 .
  have hk:0<t.kids.length:=by have:=Ey hc1;omega
  rw [dif_pos hk] at hb;have hnx:=hn _ (List.getElem_mem hk);refine Aa (Qp Bx (Qp (Jh ([[.str _]]) rfl) ?_));refine Qe (Dq rfl (Gu b _ _ _ ha10 R [[32,105,102,32]] (Cv rfl) (by have h:=hb;(try simp only [Bj,Bv,Au,Bb,Bp,A8] at h ⊢);omega))) ?_;rintro _ _ ⟨v17,a17,rfl,ha17,rfl⟩;refine Ax (AW.region (Qp Bx (Qp (Qf Ot) (Qp Dd ?_))));refine Qp (Eh Ai rfl rfl (by decide) (Ie (List.getElem?_eq_getElem hk))) ?_;refine Qp (Cm Ai) ?_;refine Qe (Dq rfl (hnx _ _ _ ha17 R (by have h:=hb;(try simp only [Bj,Bv,Au,Bb,Bp,A8] at h ⊢);omega))) ?_;rintro _ _ ⟨v23,a23,rfl,ha23,rfl⟩;refine AOL.nil ?_;refine ⟨.inl rfl,[],.nil,_,.refl _,?_⟩;exact wq ha23 (by rw [dif_pos hk];simp only [Bj,Bv,A8,C1,Co,C5])
 have hk:¬0<t.kids.length:=by have:=G3 hc1;omega
 rw [dif_neg hk] at hb;refine AW.skip ?_;refine ⟨.inl rfl,[],.nil,_,.refl _,?_⟩;exact wq ha10 (by rw [dif_neg hk];simp only [Bj,Bv,A8,C1,Co,C5])
theorem w_constant (b:Nat)(o:Ag)(v:Value)(a:Option Addr)(ha:a=none\/a=some ⟨b,0,none⟩)(R:List HO)(t:Syn)(hi : -9223372036854775808<=t.num/\t.num<=9223372036854775807)(ht:t.text.length<=1048576)(hb:o.length+(U1 t).length<=mB):Cf Tryz.prog 214 (.row v (Hs o).length 5 1 :: .box b 216 (.val (.pointer a) :: .row v 1 (Hs o)::Zv b)::R) [.val (.pointer (some ⟨b,0,none⟩)),.agg (cSyn t)] (WQ b (o++U1 t) R):=by
 refine Jg 35 Tryz.func214 rfl ?_;refine Aa (Qp (Hu Ai) (B7 (Qp (Qf pF) (Qp Gr (Ax (AW.block (Aa (Qp (Gb rfl rfl) (Qp Bc (Bh (fun hc1=>?_) fun hc1=>Aa (Qp (Gb rfl rfl) (Qp Bc (Bh (fun hc2=>?_) fun hc2=>?_)))))))))))))
 .
  have e:U1 t=Lib.itoa t.num:=if_pos hc1;rw [e] at hb;refine AW.region (Qp Bx (Qp (Qf Zw) (Qp B6 (Qp (Qc rfl (kItoa t.num hi.1 hi.2)) (Qp (Jh ([[.str _]]) rfl) ?_)))));refine Qe (Dq rfl (Gu b _ _ _ ha R [Lib.itoa t.num] (Cv rfl) (by have h:=hb;(try simp only [Bj,Bv,Au,Bb,Bp,A8] at h ⊢);omega))) ?_;rintro _ _ ⟨v25,a25,rfl,ha25,rfl⟩;refine AOL.nil (J1 ?_);refine ⟨.inl rfl,[],.nil,_,.refl _,?_⟩;exact wq ha25 (by rw [e];simp only [Bj,Bv,A8,C1,Co,C5])
 .
  have e:U1 t=(if t.num==1 then K9 else Je):=by unfold U1;exact (Bo hc1).trans (if_pos hc2)
  rw [e] at hb;refine AW.region (Qp Bx (Qp (Qf Zw) (Qp B6 (Qp Bl (Qp (Qc rfl (k_fbool (t.num==1))) (Qp (Jh ([[.str _]]) rfl) ?_))))));refine Qe (Dq rfl (Gu b _ _ _ ha R [if t.num==1 then K9 else Je] (Cv rfl) (by have h:=hb;(try simp only [Bj,Bv,Au,Bb,Bp,A8] at h ⊢);omega))) ?_;rintro _ _ ⟨v34,a34,rfl,ha34,rfl⟩;refine AOL.nil (J1 ?_);refine ⟨.inl rfl,[],.nil,_,.refl _,?_⟩;exact wq ha34 (by rw [e];simp only [Bj,Bv,A8,C1,Co,C5])
 have e:U1 t=(Sj t.text).1:=by unfold U1;exact (Bo hc1).trans (Bo hc2)
 rw [e] at hb;refine Aa (Qp (Qf X6) (Qp Gr (Qp (Qc rfl (c24 t.text ht)) (Qp Oz (Qp xE (Qp Lv (Qp Lu (Qp Aq (Ax (AW.region (Qp Bx (Qp H7 (Qp (Jh ([[.str _]]) rfl) ?_)))))))))))));refine Qe (Dq rfl (Gu b _ _ _ ha R [(Sj t.text).1] (Cv rfl) (by have h:=hb;(try simp only [Bj,Bv,Au,Bb,Bp,A8] at h ⊢);omega))) ?_;rintro _ _ ⟨v17,a17,rfl,ha17,rfl⟩;refine AOL.nil (J1 ?_);refine ⟨.inl rfl,[],.nil,_,.refl _,?_⟩;exact wq ha17 (by rw [e];simp only [Bj,Bv,A8,C1,Co,C5])
theorem w_ref (b:Nat)(o:Ag)(v:Value)(a:Option Addr)(ha:a=none\/a=some ⟨b,0,none⟩)(R:List HO)(t:Syn)(hb:o.length+(t.text++([46]:Ag)++t.name).length<=mB):Cf Tryz.prog 215 (.row v (Hs o).length 5 1 :: .box b 216 (.val (.pointer a) :: .row v 1 (Hs o)::Zv b)::R) [.agg (cSyn t),.ptr [.val (.pointer (some ⟨b,0,none⟩))]] (WQ b (o++(t.text++([46]:Ag)++t.name)) R):=by
 refine Jg 10 Tryz.func215 rfl ?_;refine Aa (Qp (Hu Ai) (Ax (AW.region (Qp Lh (Qp (Qf X6) (Qp Gr (Qp (Qf pF) (Qp Gr (Qp (Jh ([[.str _],[.str _],[.str _]]) rfl) ?_)))))))));refine Qe (Dq rfl (Gu b _ _ _ ha R [t.text,[46],t.name] (Cv rfl) (by have h:=hb;(try simp only [Bj,Bv,Au,Bb,Bp,A8] at h ⊢);omega))) ?_;rintro _ _ ⟨v9,a9,rfl,ha9,rfl⟩;refine AOL.nil ?_;refine ⟨.inl rfl,[],.nil,_,.refl _,?_⟩;exact wq ha9 (by simp only [Bj,Bv,A8,C1,Co,C5])
theorem w_count (b:Nat)(o:Ag)(v:Value)(a:Option Addr)(ha:a=none\/a=some ⟨b,0,none⟩)(R:List HO)(t:Syn)(hb:o.length+(([99,111,117,110,116,40]:Ag)++t.text++([41]:Ag)).length<=mB):Cf Tryz.prog 216 (.row v (Hs o).length 5 1 :: .box b 216 (.val (.pointer a) :: .row v 1 (Hs o)::Zv b)::R) [.agg (cSyn t),.ptr [.val (.pointer (some ⟨b,0,none⟩))]] (WQ b (o++(([99,111,117,110,116,40]:Ag)++t.text++([41]:Ag))) R):=by
 refine Jg 8 Tryz.func216 rfl ?_;refine Aa (Qp (Hu Ai) (Ax (AW.region (Qp Lh (Qp (Qf X6) (Qp Gr (Qp (Jh ([[.str _],[.str _],[.str _]]) rfl) ?_)))))));refine Qe (Dq rfl (Gu b _ _ _ ha R [[99,111,117,110,116,40],t.text,[41]] (Cv rfl) (by have h:=hb;(try simp only [Bj,Bv,Au,Bb,Bp,A8] at h ⊢);omega))) ?_;rintro _ _ ⟨v7,a7,rfl,ha7,rfl⟩;refine AOL.nil ?_;refine ⟨.inl rfl,[],.nil,_,.refl _,?_⟩;exact wq ha7 (by simp only [Bj,Bv,A8,C1,Co,C5])
theorem w_not (b:Nat)(o:Ag)(v:Value)(a:Option Addr)(ha:a=none\/a=some ⟨b,0,none⟩)(R:List HO)(t k:Syn)(h0:t.kids[0]? = some k)(hk:Jk b k)(hb:o.length+(([110,111,116,32]:Ag)++Hk t k (Ae k)).length<=mB):Cf Tryz.prog 219 (.row v (Hs o).length 5 1 :: .box b 216 (.val (.pointer a) :: .row v 1 (Hs o)::Zv b)::R) [.agg (cSyn t),.ptr [.val (.pointer (some ⟨b,0,none⟩))]] (WQ b (o++(([110,111,116,32]:Ag)++Hk t k (Ae k))) R):=by
 refine Jg 13 Tryz.func219 rfl ?_;refine Aa (Qp (Hu Ai) (B7 (Qp Lh (Qp (Jh ([[.str _]]) rfl) ?_))));refine Qe (Dq rfl (Gu b _ _ _ ha R [[110,111,116,32]] (Cv rfl) (by have h:=hb;(try simp only [Bj,Bv,Au,Bb,Bp,A8] at h ⊢);omega))) ?_;rintro _ _ ⟨v5,a5,rfl,ha5,rfl⟩;refine Ax ?_;refine Mo ?_;refine Qn 0 rfl Lh (Qn 1 rfl (Cm Ai) (Qn 2 rfl (Qf Ot) (Qn 3 rfl Dd ?_)));refine Qn 4 rfl (Eh Ai rfl rfl (by decide) (Ie h0)) ?_;refine Qn 5 rfl (Cm Ai) ?_;refine rT 6 rfl (Dq rfl (dR b _ _ _ ha5 R t k hk (by have h:=hb;(try simp only [Bj,Bv,Au,Bb,Bp,A8] at h ⊢);omega))) ?_;rintro _ _ ⟨v12,a12,rfl,ha12,rfl⟩;refine Ig ?_;refine ⟨.inl rfl,[],.nil,_,.refl _,?_⟩;exact wq ha12 (by simp only [Bj,Bv,A8,C1,Co,C5])
theorem Ul (b:Nat)(o:Ag)(v:Value)(a:Option Addr)(ha:a=none\/a=some ⟨b,0,none⟩)(R:List HO)(t:Syn)(w:Ag)(hi : -9223372036854775808<=t.num/\t.num<=9223372036854775807)(hn:∀x∈t.kids,Jk b x)(hb:o.length+(w++([40]:Ag)++D6 (t.kids.map Ae)++(if t.kind==11 then ([44,32]:Ag)++Lib.itoa t.num else [])++([41]:Ag)).length<=mB):Cf Tryz.prog 269 (.row v (Hs o).length 5 1 :: .box b 216 (.val (.pointer a) :: .row v 1 (Hs o)::Zv b)::R) [.agg (cSyn t),.ptr [.val (.pointer (some ⟨b,0,none⟩))],.ptr [.str w]] (WQ b (o++(w++([40]:Ag)++D6 (t.kids.map Ae)++(if t.kind==11 then ([44,32]:Ag)++Lib.itoa t.num else [])++([41]:Ag))) R):=by
 refine Jg 24 Tryz.func269 rfl ?_;refine Aa (Qp (Hu Ai) (Re ?_));have hb0:=hb;refine AW.region (Qp Lh (Qp Gr (Qp (Jh ([[.str _],[.str _]]) rfl) ?_)));refine Qe (Dq rfl (Gu b _ _ _ ha R [w,[40]] (Cv rfl) (by have h:=hb;(try simp only [Bj,Bv,Au,Bb,Bp,A8] at h ⊢);omega))) ?_;rintro _ _ ⟨v7,a7,rfl,ha7,rfl⟩;refine B7 (Qp Lh (Qp (Qf Ot) (Qp Dd ?_)));refine Qe (Dq rfl (qX b _ _ _ ha7 R t.kids hn (by have h:=hb;(try simp only [Bj,Bv,Au,Bb,Bp,A8] at h ⊢);omega))) ?_;rintro _ _ ⟨v11,a11,rfl,ha11,rfl⟩;refine Ax (B5 (Qp (Qf Ai) (Qp B6 (Qp Bl (Bh (fun hc1=>?_) fun hc1=>?_)))))
 .
  rw [if_pos hc1] at hb;refine Mo ?_;refine Qn 0 rfl Lh (Qn 1 rfl (Qf Zw) (Qn 2 rfl B6 (Qn 3 rfl (Qc rfl (kItoa t.num hi.1 hi.2)) (Qn 4 rfl (Jh ([[.str _],[.str _]]) rfl) ?_))));refine rT 5 rfl (Dq rfl (Gu b _ _ _ ha11 R [[44,32],Lib.itoa t.num] (Cv rfl) (by have h:=hb;(try simp only [Bj,Bv,Au,Bb,Bp,A8] at h ⊢);omega))) ?_;rintro _ _ ⟨v20,a20,rfl,ha20,rfl⟩;refine Ig ?_;refine Av (AW.region (Qp Lh (Qp (Jh ([[.str _]]) rfl) ?_)));refine Qe (Dq rfl (Gu b _ _ _ ha20 R [[41]] (Cv rfl) (by have h:=hb;(try simp only [Bj,Bv,Au,Bb,Bp,A8] at h ⊢);omega))) ?_;rintro _ _ ⟨v23,a23,rfl,ha23,rfl⟩;refine AOL.nil ?_;refine ⟨.inl rfl,[],.nil,_,.refl _,?_⟩;exact wq ha23 (by rw [if_pos hc1];simp only [Bj,Bv,A8,C1,Co,C5])
 rw [Bo hc1] at hb;have ha20:=ha11;refine B2 (AW.region (Qp Lh (Qp (Jh ([[.str _]]) rfl) ?_)));refine Qe (Dq rfl (Gu b _ _ _ ha20 R [[41]] (Cv rfl) (by have h:=hb;(try simp only [Bj,Bv,Au,Bb,Bp,A8] at h ⊢);omega))) ?_;rintro _ _ ⟨v23,a23,rfl,ha23,rfl⟩;refine AOL.nil ?_;refine ⟨.inl rfl,[],.nil,_,.refl _,?_⟩;exact wq ha23 (by rw [Bo hc1];simp only [Bj,Bv,A8,C1,Co,C5])
theorem w_field (b:Nat)(o:Ag)(v:Value)(a:Option Addr)(ha:a=none\/a=some ⟨b,0,none⟩)(R:List HO)(t:Syn)(hi:0<=t.num/\t.num<=2)(hb:o.length+(t.text++([58,32]:Ag)++Im t.num).length<=mB):Cf Tryz.prog 209 (.row v (Hs o).length 5 1 :: .box b 216 (.val (.pointer a) :: .row v 1 (Hs o)::Zv b)::R) [.agg (cSyn t),.ptr [.val (.pointer (some ⟨b,0,none⟩))]] (WQ b (o++(t.text++([58,32]:Ag)++Im t.num)) R):=by
 refine Jg 13 Tryz.func209 rfl ?_;refine Aa (Qp (Hu Ai) (Ax ?_));refine Mo ?_;refine Qn 0 rfl Lh (Qn 1 rfl (Qf X6) (Qn 2 rfl Gr (Qn 3 rfl (Jh ([[.str _],[.str _],[.str _]]) rfl) (Qn 4 rfl (Qf Zw) (Qn 5 rfl B6 (Qn 6 rfl (Eh [.str (Im t.num)] rfl rfl (hi.1) (kind_at hi)) (Qn 7 rfl Gr (Qn 8 rfl (Jh ([[.str _],[.str _],[.str _]]) rfl) ?_))))))));refine rT 9 rfl (Dq rfl (Gu b _ _ _ ha R [t.text,[58,32],Im t.num] (Cv rfl) (by have h:=hb;(try simp only [Bj,Bv,Au,Bb,Bp,A8] at h ⊢);omega))) ?_;rintro _ _ ⟨v12,a12,rfl,ha12,rfl⟩;refine Ig ?_;refine ⟨.inl rfl,[],.nil,_,.refl _,?_⟩;exact wq ha12 (by simp only [Bj,Bv,A8,C1,Co,C5])
end Go.Proofs.YtckhoadldibflaaGreatDoor
