/-
  Several texts in one: V10, L1, P18, P19, Q1, R25, R28, R29, R30, R31, R60, Q2, R61, R1w, R2w, R3w, R4w, R5w, R6w, At, R7w, EW1, EW4, EW13. No condition.
-/
import Derived.Test.YtibcelnfkhdjaaaGreatDoorK03
import Derived.Test.YtibcelnfkhdjaaaGreatDoorK06
import Derived.KernelRfl
import Derived.Test.YtibcelnfkhdjaaaGreatDoorK05
import Derived.Test.YtibcelnfkhdjaaaGreatDoorK02
import Derived.Test.YtibcelnfkhdjaaaGreatDoorK04
import Derived.Test.YtibcelnfkhdjaaaGreatDoorTab
set_option linter.unusedVariables false
set_option linter.unusedSimpArgs false
set_option maxHeartbeats 6400000
set_option maxRecDepth 100000
namespace Go.Proofs.YtibcelnfkhdjaaaGreatDoor
open Go Go.Aw
theorem kind_adv {st:PS}(h:G6 Dq st=true)(r:bE st):st.pos+1<=(H0 st).2.pos:=by
  have hb:(st.bad==0)=true:=by
    unfold G6 at h;cases hq:(st.bad==0) with
    | true=>rfl
    | false=>
      have:endP st=true:=by unfold endP;simp only [bne,hq];rfl
      rw [this] at h;cases h
  have e:Bn Dq st=adv st:=by unfold Bn;rw [h,hb];exact Et h
  have g0:I9 (adv st) (Bn H1 (Ck 0 (adv st))):=(I9.tok _ _).trans (.exp _ _);have r0:bE (adv st):=r
  have:I9 (adv st) (H0 st).2:=by
    unfold H0;simp only [e];split
    . exact (g0.trans (Ng Rx (g0.rng r0))).trans (.exp _ _)
    exact g0.trans (.exp _ _)
  exact this.2.1
theorem yG {E T:PS->Syn×PS}(hE:C5 E)(hT:C5 T){st:PS}(h:G6 Dm st=true)(r:bE st):st.pos+1<=(I1 E T st).2.pos:=by
  have hb:(st.bad==0)=true:=by
    unfold G6 at h;cases hq:(st.bad==0) with
    | true=>rfl
    | false=>
      have:endP st=true:=by unfold endP;simp only [bne,hq];rfl
      rw [this] at h;cases h
  have e:Bn Dm st=adv st:=by unfold Bn;rw [h,hb];exact Et h
  have r0:bE (adv st):=r;have h1:I9 (adv st) (Bn Gk (O9 (Ck 0 (adv st)) (D0 st)).2):=((I9.tok _ _).trans (dF _ _)).trans (.exp _ _);have h2:=(I9.read hT r0 h1).trans (.exp G9 _)
  have:I9 (adv st) (I1 E T st).2:=by
    unfold I1;simp only [e];exact (h2.trans (Ng hE (h2.rng r0))).trans (.exp _ _)
  exact this.2.1
theorem Sh {w:Ag}{F:PS->Syn×PS}{n:Nat}{st:PS}{out:List Syn}(h:0<n):Ga w F n st out=if G6 w st then Ga w F (n-1) (F st).2 (out ++ [(F st).1]) else (out,st):=by
 obtain ⟨m,rfl⟩:∃m,n=m+1:=⟨n-1,by omega⟩;rfl
abbrev pg1 (st:PS):List Syn×PS:=Ga Dq H0 (B1 st) st []
theorem yB (st:PS)(bp:Nat)(E:PS->Syn×PS)(hFE:C5 E)(hE:∀(st:PS) (bp:Nat),okD 0 st->Bf Tryz.prog 90 bp 116 (cP st) (cP (E st).2) [.val (.pointer (some ⟨bp,0,none⟩))] (.agg (cSyn (E st).1)))(T:PS->Syn×PS)(hFT:C5 T)(hT:∀(st:PS) (bp:Nat),okD 0 st->Bf Tryz.prog 89 bp 116 (cP st) (cP (T st).2) [.val (.pointer (some ⟨bp,0,none⟩))] (.agg (cSyn (T st).1)))(hO:okD 0 st):Bf Tryz.prog 17 bp 116 (cP st) (cP ((Ch E T st).2)) [.val (.pointer (some ⟨bp,0,none⟩))] (.agg (cSyn (Ch E T st).1)):=by
 intro H;have hS:=hO.1;refine H7 24 Tryz.func17 rfl ?_;refine Af (D7 In fun b2=>B7 ?_);refine Qp (Hy (l0:=[.int .i64 0,.str [],.str [],.int .i64 0,.val (.slice none 0 0),.int .i64 0]) (l:=Ak) tok rfl rfl (by kernel_rfl) rfl) ?_;refine D7 In fun b3=>?_
 refine Bz 0 Ak (_::_::_::_) ?_;refine AOL.ghost (GS.cellRow 0 4 25 6 rfl rfl rfl rfl) ?_;refine Re (AW.block ?_);refine AW.loopS (fun (p:Nat×PS×List Syn×List (List AV)×Value)=>(⟨[(0,.val (.pointer (some ⟨bp,0,none⟩))),(2,.val (.pointer (some ⟨b2,0,none⟩))),(3,.val (.pointer (some ⟨b3,0,none⟩)))],.row p.2.2.2.2 p.2.2.2.1.length 25 6 :: .box b3 25 [.int .i64 0,.str [],.str [],.int .i64 0,.row p.2.2.2.2 6 p.2.2.2.1,.int .i64 0] :: .box b2 25 (cSyn He) :: .box bp 116 (cP p.2.1)::H,24⟩:St)) (fun p=>p.2.2.2.1=p.2.2.1.map Cu/\okD 0 p.2.1/\B1 p.2.1<=p.1/\p.2.2.1.length<=p.2.1.pos/\pg1 st=Ga Dq H0 p.1 p.2.1 p.2.2.1) (fun p=>p.1) ((B1 st,st,[],[],.slice none 0 0)) ?_ Dh ?_
 . exact ⟨rfl,hO,Bc _,A7 _,rfl⟩
 rintro p hR;have hes:p.2.2.2.1=p.2.2.1.map Cu:=hR.1;have hO2:okD 0 p.2.1:=hR.2.1;have hS:=hO2.1;have hfu:B1 p.2.1<=p.1:=hR.2.2.1;have hn:0<p.1:=by unfold B1 at hfu;omega
 have hol:p.2.2.1.length<=p.2.1.pos:=hR.2.2.2.1;have hsc:∀c∈p.2.2.2.1,Au c=true:=by rw [hes];exact T4 _
 have hel:p.2.2.2.1.length=p.2.2.1.length:=by rw [hes,By]
 refine Cg (Qp Bu ?_);refine AOL.Aaz (Cj (k:=3) (by kernel_rfl) rfl rfl (rY _ _ _ (by simpa using hS) (by decide))) rfl rfl ?_;refine Bp (fun hc1=>?_) fun hc1=>?_
 .
  try simp only [A5,Bg] at hc1
  have hlt:=Vk hc1;have hml:=hS.1;have hg:=xI.goes (a:=p.2.1) (M8 (Fr _) hO2);have hpp:=kind_adv hc1 (M8 (Fr _) hO2);refine B6 (AW.block (Pq 1 rfl (Qn 0 rfl Cw (Qn 1 rfl (Lb (.row _ _ _) rfl) (Qn 2 rfl Bu ?_)))));refine Vr 3 rfl (Dc rfl ((p_kind _ bp hO2).at (k:=3) (H2:=_::_::_::_::_) rfl rfl)) (by rintro _ _ ⟨rfl,rfl⟩;simp) ?_;rintro _ _ ⟨rfl,rfl⟩;refine Qn 4 rfl (Ir [Ak] rfl) ?_;refine Vr 5 rfl (Vc 0 rfl (D5 rfl) (hsc) (by simp;omega) (by simp [maxLen];omega)) (by rintro _ _ ⟨v12,rfl,rfl⟩;simp) ?_;rintro _ _ ⟨v12,rfl,rfl⟩;refine Qn 6 rfl Cw ?_;refine bF 7 rfl (Ki 1 (.row _ _ _) Ak (_::_::_::_::_) rfl) ?_;rintro _ _ ⟨rfl,rfl⟩;refine Ff (Aa ?_);refine ⟨(p.1-1,(H0 p.2.1).2,p.2.2.1 ++ [(H0 p.2.1).1],p.2.2.2.1 ++ [cSyn (H0 p.2.1).1],v12),?_,?_,Dh⟩
  . exact ⟨J1 hes,Mj hO2 hg,by unfold B1 at hfu ⊢;rw [hg.1];simp only;omega,by simp only [Ao,D2];omega,hR.2.2.2.2.trans (by rw [Sh hn,if_pos hc1])⟩
  simp only;omega
 try simp only [A5,Bg] at hc1
 have h1:pg1 st=(p.2.2.1,p.2.1):=hR.2.2.2.2.trans (by rw [Sh hn,iN hc1]);refine AW.exit ?_;refine Br (Ri (AW.seq (AW.block ?_)));refine AW.loopS (fun (q:Nat×PS×List Syn×List (List AV)×Value)=>(⟨[(0,.val (.pointer (some ⟨bp,0,none⟩))),(2,.val (.pointer (some ⟨b2,0,none⟩))),(3,.val (.pointer (some ⟨b3,0,none⟩)))],.row q.2.2.2.2 q.2.2.2.1.length 25 6 :: .box b3 25 [.int .i64 0,.str [],.str [],.int .i64 0,.row q.2.2.2.2 6 q.2.2.2.1,.int .i64 0] :: .box b2 25 (cSyn He) :: .box bp 116 (cP q.2.1)::H,24⟩:St)) (fun q=>q.2.2.2.1=q.2.2.1.map Cu/\okD 0 q.2.1/\B1 q.2.1<=q.1/\q.2.2.1.length<=q.2.1.pos/\Ga Dm (I1 E T) (B1 p.2.1) p.2.1 p.2.2.1=Ga Dm (I1 E T) q.1 q.2.1 q.2.2.1) (fun q=>q.1) ((B1 p.2.1,p.2.1,p.2.2.1,p.2.2.2.1,p.2.2.2.2)) ?_ Dh ?_
 . exact ⟨hes,hO2,Bc _,hol,rfl⟩
 rintro q hQ;have hes:q.2.2.2.1=q.2.2.1.map Cu:=hQ.1;have hO2:okD 0 q.2.1:=hQ.2.1;have hS:=hO2.1;have hfu:B1 q.2.1<=q.1:=hQ.2.2.1;have hn:0<q.1:=by unfold B1 at hfu;omega
 have hol:q.2.2.1.length<=q.2.1.pos:=hQ.2.2.2.1;have hsc:∀c∈q.2.2.2.1,Au c=true:=by rw [hes];exact T4 _
 have hel:q.2.2.2.1.length=q.2.2.1.length:=by rw [hes,By]
 refine Cg (Qp Bu ?_);refine AOL.Aaz (Cj (k:=3) (by kernel_rfl) rfl rfl (rY _ _ _ (by simpa using hS) (by decide))) rfl rfl ?_;refine Bp (fun hc2=>?_) fun hc2=>?_
 .
  try simp only [A5,Bg] at hc2
  have hlt:=Vk hc2;have hml:=hS.1;have hg:=(cX hFE hFT).goes (a:=q.2.1) (M8 (Fr _) hO2);have hpp:=yG hFE hFT hc2 (M8 (Fr _) hO2);refine B6 (AW.block (Pq 1 rfl (Qn 0 rfl Cw (Qn 1 rfl (Lb (.row _ _ _) rfl) (Qn 2 rfl Bu ?_)))));refine Vr 3 rfl (Dc rfl ((p_query _ bp E hFE hE T hFT hT hO2).at (k:=3) (H2:=_::_::_::_::_) rfl rfl)) (by rintro _ _ ⟨rfl,rfl⟩;simp) ?_;rintro _ _ ⟨rfl,rfl⟩;refine Qn 4 rfl (Ir [Ak] rfl) ?_;refine Vr 5 rfl (Vc 0 rfl (D5 rfl) (hsc) (by simp;omega) (by simp [maxLen];omega)) (by rintro _ _ ⟨v21,rfl,rfl⟩;simp) ?_;rintro _ _ ⟨v21,rfl,rfl⟩;refine Qn 6 rfl Cw ?_;refine bF 7 rfl (Ki 1 (.row _ _ _) Ak (_::_::_::_::_) rfl) ?_;rintro _ _ ⟨rfl,rfl⟩;refine Ff (Aa ?_);refine ⟨(q.1-1,(I1 E T q.2.1).2,q.2.2.1 ++ [(I1 E T q.2.1).1],q.2.2.2.1 ++ [cSyn (I1 E T q.2.1).1],v21),?_,?_,Dh⟩
  . exact ⟨J1 hes,Mj hO2 hg,by unfold B1 at hfu ⊢;rw [hg.1];simp only;omega,by simp only [Ao,D2];omega,hQ.2.2.2.2.trans (by rw [Sh hn,if_pos hc2])⟩
  simp only;omega
 try simp only [A5,Bg] at hc2
 refine AW.exit ?_;refine Br (Ri (Af ?_));refine AOL.ghost (GS.cell (H2:=_::_::_::_::_) 1 4 rfl rfl rfl rfl D1) ?_;refine O3 1 Ak rfl ?_;refine Bz 2 Ak (_::_::_::_::_) (Rb ?_);refine ⟨.inr rfl,[.agg Ak],Zb 2,_,S3,?_⟩
 have h9:Ch E T st=(⟨0,[],[],0,q.2.2.1,0⟩,q.2.1):=by
  have h8:Ga Dm (I1 E T) (B1 (pg1 st).2) (pg1 st).2 (pg1 st).1=(q.2.2.1,q.2.1):=by
   rw [h1];exact hQ.2.2.2.2.trans (by rw [Sh hn,iN hc2])
  unfold Ch;simp only;rw [h8]
 exact ⟨by rw [h9];exact congrArg (fun l=>AV.agg [.int .i64 0,.str [],.str [],.int .i64 0,.sl 6 l,.int .i64 0]) hes,congrArg (fun s=>HO.box bp 116 (cP s)::H) (by rw [h9])⟩
theorem xJ {E T:PS->Syn×PS}(hE:C5 E)(hT:C5 T):C5 (Ch E T):=.of fun st r=>by
  have key:∀{F:PS->Syn×PS} (hF:C5 F) (w:Ag) (n:Nat) (st:PS) (out:List Syn),bE st->I9 st (Ga w F n st out).2:=by
    intro F hF w n
    induction n with
    | zero=>intro st out r;exact .refl _
    | succ n ih=>
      intro st out r;unfold Ga;split
      . have h:=hF.goes r
        exact h.trans (ih _ _ (h.rng r))
      exact .refl _
  have h1:=key xI Dq (B1 st) st [] r;exact h1.trans (key (cX hE hT) Dm _ _ _ (h1.rng r))
abbrev pst (F:PS->Syn×PS)(s:Ag):PS:=(F (Hn (Dl s).1 s.length)).2
theorem pp_parse (s:Ag)(hl:s.length<=100000)(f:Nat)(hf:Tn Tryz.prog f=true)(F:PS->Syn×PS)(hF:C5 F)(hc:∀(st:PS) (bp:Nat),okD 0 st->Bf Tryz.prog f bp 116 (cP st) (cP (F st).2) [.val (.pointer (some ⟨bp,0,none⟩))] (.agg (cSyn (F st).1))):Ap Tryz.prog 16 [.str s,.fn (.func f) [] []] (.tuple [.agg (cSyn (Bv F s).1),.int .i64 (Bv F s).2.1,.int .i64 (Bv F s).2.2]):=by
 have hb0:=wZ s hl;refine Fl 58 Tryz.func16 rfl fun H=>?_
 refine Af (D7 In fun b4=>Qp Ax (Qp Ax (B7 (Qp Gu ?_))));refine Qp (Qc rfl (c13 s (by omega))) ?_;refine Qp Th (Qp Qxs (Qp Td (Qp Td (Qp jF (Qp Ax (Qp Ax (A2 (Cg (Qp A0 (Qp C3 (Bp (fun hc1=>?_) fun hc1=>?_)))))))))))
 .
  try simp only [A5,Bg] at hc1
  refine Af (Qp (E2 Ak) (Qp A0 (Qp A0 ?_)));refine Bz 0 Ak (_::_) (Qp Ax (Qp Ax (Rc ?_)));refine Yx [.agg Ak,Iq _,Iq _] (Zd 0) S1 ?_;have h9:Bv F s=(He,(Dl s).2.1,(Dl s).2.2):=by unfold Bv;rw [if_pos hc1]
  rw [h9];rfl
 try simp only [A5,Bg] at hc1
 refine B6 (Af (Qp Mm (Qp Gu (Qp (Cz tok rfl rfl rfl rfl) (Qp (E2 ghx) (Qe (zN (v:=.agg _) (cs:=ghx) rfl rfl (rfl)) ?_))))));rintro _ _ ⟨b27,rfl,rfl⟩;refine Qp O2 (B7 (Qp (Ab (v:=.fn _ _ _) rfl) (Qp Bu (Rt (Kr (hf) rfl rfl rfl ((hc (Hn (Dl s).1 s.length) b27 hb0).at (k:=0) (H2:=_::_::_) rfl rfl)) (D7 In fun b11=>?_)))));refine Bz 0 Ak (_::_::_::_) ?_;refine Kh 11 0 rfl ?_;refine Re (AW.seq (Pq 0 rfl (Qn 0 rfl Bu (Qn 1 rfl (Ae rfl) (Qn 2 rfl Cw (Qn 3 rfl (Lb (Iq _) rfl) (Qn 4 rfl Bu (Qn 5 rfl (Ae rfl) (Qn 6 rfl Cw (Qn 7 rfl (Lb (.sl _ _) rfl) ?_))))))))));refine Qn 8 rfl (G1 ((pst F s).toks.length) rfl rfl (by simp)) ?_;refine Qn 9 rfl Cv ?_;refine Iw ?_;refine Aa (Gn (fun hc2=>?_) fun hc2=>?_)
 .
  try simp only [A5,Bg] at hc2
  refine AW.region (Qp Bu (qD ((eG _ _ _).at (k:=0) (H2:=_::_::_) rfl rfl) (A2 (Cg (Qp Bu (Qp (Ae rfl) (Qp Cw (Pz 0 (Iq _) rfl (Qp C3 (Bp (fun hc3=>?_) fun hc3=>?_))))))))))
  .
   try simp only [A5,Bg] at hc3
   refine AW.seq (Pq 0 rfl (Qn 0 rfl (E2 Ak) (Qn 1 rfl Bu (Qn 2 rfl (Ae rfl) (Qn 3 rfl Cw (Qn 4 rfl (Lb (Iq _) rfl) (Qn 5 rfl Bu (Qn 6 rfl (Ae rfl) (Qn 7 rfl Cw (Qn 8 rfl (Lb (Iq _) rfl) ?_))))))))));refine Vr 9 rfl (Ki 1 (.agg _) Ak (_::_::_) rfl) (by rintro _ _ ⟨rfl,rfl⟩;simp) ?_;rintro _ _ ⟨rfl,rfl⟩;refine Qn 10 rfl Ax (Qn 11 rfl Ax ?_);refine Iw ?_;refine Aa (gH ?_);refine Yx [.agg Ak,Iq _,Iq _] (Zd 1) S2 ?_;have h9:Bv F s=Vi (F (Hn (Dl s).1 s.length)):=by unfold Bv;rw [if_neg (by rw [hc1];decide)]
   rw [h9];simp only [Vi,Ah,hc1,hc2,hc3,↓reduceIte,Al]
   try rfl
  try simp only [A5,Bg] at hc3
  refine B6 (Af (Qp (C1 Ak) ?_));refine Bz 1 Ak (_::_::_) (Qp Ax (Qp Ax (Rb ?_)));refine Yx [.agg Ak,Iq _,Iq _] (Zd 1) S2 ?_;have h9:Bv F s=Vi (F (Hn (Dl s).1 s.length)):=by unfold Bv;rw [if_neg (by rw [hc1];decide)]
  rw [h9];simp only [Vi,Ah,hc1,hc2,hc3,↓reduceIte,Al]
  try rfl
 try simp only [A5,Bg] at hc2
 refine B6 (Cg (Qp Bu (Qp (Ae rfl) (Qp Cw (Pz 0 (Iq _) rfl (Qp C3 (Bp (fun hc4=>?_) fun hc4=>?_)))))))
 .
  try simp only [A5,Bg] at hc4
  refine AW.seq (Pq 0 rfl (Qn 0 rfl (E2 Ak) (Qn 1 rfl Bu (Qn 2 rfl (Ae rfl) (Qn 3 rfl Cw (Qn 4 rfl (Lb (Iq _) rfl) (Qn 5 rfl Bu (Qn 6 rfl (Ae rfl) (Qn 7 rfl Cw (Qn 8 rfl (Lb (Iq _) rfl) ?_))))))))));refine Vr 9 rfl (Ki 1 (.agg _) Ak (_::_::_) rfl) (by rintro _ _ ⟨rfl,rfl⟩;simp) ?_;rintro _ _ ⟨rfl,rfl⟩;refine Qn 10 rfl Ax (Qn 11 rfl Ax ?_);refine Iw ?_;refine Aa (gH ?_);refine Yx [.agg Ak,Iq _,Iq _] (Zd 1) S2 ?_;have h9:Bv F s=Vi (F (Hn (Dl s).1 s.length)):=by unfold Bv;rw [if_neg (by rw [hc1];decide)]
  rw [h9];simp only [Vi,Ah,hc1,hc2,hc4,↓reduceIte,Al]
  try rfl
 try simp only [A5,Bg] at hc4
 refine B6 (Af (Qp (C1 Ak) ?_));refine Bz 1 Ak (_::_::_) (Qp Ax (Qp Ax (Rb ?_)));refine Yx [.agg Ak,Iq _,Iq _] (Zd 1) S2 ?_;have h9:Bv F s=Vi (F (Hn (Dl s).1 s.length)):=by unfold Bv;rw [if_neg (by rw [hc1];decide)]
 rw [h9];simp only [Vi,Ah,hc1,hc2,hc4,↓reduceIte,Al]
 try rfl
theorem oO (s:Ag)(hl:s.length<=100000):Ap Tryz.prog 6 [.str s] (.tuple [.agg (cSyn (Bv (Ch EE TT) s).1),.int .i64 (Bv (Ch EE TT) s).2.1,.int .i64 (Bv (Ch EE TT) s).2.2]):=by
 refine Fl 10 Tryz.func6 rfl fun H=>?_
 refine Af (D7 In fun b2=>Qp Ax (Qp Ax (B7 (Qp Gu ?_))));refine Qp (Qc rfl (pp_parse s hl 17 (by kernel_rfl) (Ch EE TT) (xJ bP uP) (fun st bp h=>yB st bp EE bP p_EE TT uP p_TT h))) ?_;refine Qp (A6 (v:=.agg Ak) rfl rfl) (Qp Td (Qp Td ?_));refine Bz 0 Ak (_::_) (Qp Ax (Qp Ax (Rb ?_)));refine Yx [.agg Ak,Iq _,Iq _] (Zd 0) S1 ?_;rfl
variable {pre post:List Tok} {d:Int} {t:Tok}
section
variable {E N:PS->Syn×PS} {s:PS}
end
section
variable {E T:PS->Syn×PS} {pre post post':List Tok} {d:Int} {t:Tok}
end
def nsep (c:UInt8):Bool:=decide (c≠35) && !decide (0<=Lib.indexByte [32,9,13,10] c)
theorem rB (c:UInt8):(!A9 c||(nsep c && !C7 c))=true:=Mr (p:=fun c=>!A9 c||(nsep c && !C7 c)) (by kernel_rfl) c
theorem name_is {s:Ag}(h:bC s=true):0<s.length/\s.length<=24/\C7 (bt s 0)=true/\Bb Ek s=s.length/\rM s=false:=by
 unfold bC at h;rw [name_eq] at h;unfold nameR at h;split at h
 . cases h
 rename_i h1;simp only [Ii,not_or,Bool.not_eq_true,Ea,A5,bne_iff_ne,ne_eq,Decidable.not_not] at h1;obtain ⟨⟨⟨⟨h1,h2⟩,h3⟩,h4⟩,h5⟩:=h1;refine ⟨?_,by omega,by simpa using h3,by omega,by rw [key_eq];exact h5⟩;cases s with
 | nil=>cases h1
 | cons c r=>simp
section
variable (f:Ag->Ag) (c:Int->Int)
end
section
variable {f:Ag->Ag} {c:Int->Int}
section
variable (hf:∀a b,f a=f b->a=b)
include hf
end
section
variable {T:List e8Sc} {V:List Va} (hf:∀a b,f a=f b->a=b)
end
end
section
variable {T:List e8Sc} {t:Syn}
variable {f:Ag->Ag} {c:Int->Int} (hf:∀a b,f a=f b->a=b)
end
section
variable {T:List e8Sc} {t:Syn}
end
section
variable {T:List e8Sc} {V:List Va} {t:Syn}
end
theorem xV {e:Ex}(h:Hi e=0):Le e=0/\((e.op=0\/e.op=4)->Fp e.val=0)/\(e.op=4->1<=e.kind/\e.kind<=5/\(e.kind=1->e.val=v0)):=by
 unfold Hi at h;split at h
 . cases h
 split at h
 . cases h
 split at h
 . cases h
 split at h
 . cases h
 rename_i h1 h2 h3 h4;by_cases hq:(e.op==4||e.op==0)=true
 .
  rw [if_pos hq] at h;by_cases hc:(Rr e != 0)=true
  . rw [if_pos hc] at h;rw [h] at hc;cases hc
  rw [if_neg hc] at h;have hc0:Rr e=0:=by simpa using hc
  unfold Rr at hc0;split at hc0
  . rename_i h5;rw [hc0] at h5;cases h5
  rename_i h5;have hv:Fp e.val=0:=by simpa using h5
  refine ⟨h,fun _=>hv,fun ho=>?_⟩;have e4:(e.op==4)=true:=by rw [ho];rfl
  rw [e4,Fj] at h4;simp only [Ii,Ea,not_or] at h4;refine ⟨by omega,by omega,fun hk=>?_⟩;split at hc0
  . cases hc0
  rename_i h6;rw [e4,Fj,hk] at h6;simp only [Ii,not_or,Cy,not_and] at h6;have:=h6.2 rfl;exact (isV0_iff _).1 (by simpa using this)
 rw [if_neg hq] at h;simp only [Ii,not_or] at hq;exact ⟨h,fun ho=>by rcases ho with ho | ho <;> rw [ho] at hq <;> simp at hq,fun ho=>by rw [ho] at hq;simp at hq⟩
theorem nm_time:bC Hs=false:=by kernel_rfl
section
variable {T:List e8Sc} {V:List Va}
theorem iP {e:Ex}(h:rN T V e=true)(hn:Hi e=0):((e.op=1\/e.op=2\/e.op=3\/e.op=4)->e.var<(V.length:Int))/\((e.op=1\/e.op=4)->e.field<((Yp T V e.var).fields.length:Int)):=by
 unfold rN at h;by_cases hc:1<=e.op/\e.op<=4
 .
  rw [if_pos (by simp;exact hc)] at h;split at h
  . cases h
  rename_i h1;simp only [Ea] at h1;refine ⟨fun _=>by omega,fun ho=>?_⟩;have e1:((e.op==1)||(e.op==4))=true:=by rcases ho with ho | ho <;> rw [ho] <;> rfl
  rw [e1,Fj] at h;simp at h;exact h
 exact ⟨fun ho=>by omega,fun ho=>by omega⟩
end
structure NdOK (q:Pt):Prop where
 op:0<=q.op/\q.op<8
 ck:bK q=0
theorem Up {p:Pt}(h:(Hf p != 0)=false):∀q∈Hx p,NdOK q:=fun q hq=>by
 have h1:=chk_0 h;have h2:=whl_0 h1;have h3:=Xp (rst_0 h2).2.2 q hq;have h4:Cr lQ (Hx p)=0:=by rw [<-whl_2 h2];simpa using h1
 have h5:=Xp h4 q hq;have h6:=ck_op h3;refine ⟨⟨h6.1,?_⟩,h3⟩;unfold lQ at h5;split at h5
 . cases h5
 rename_i h7;simp only [Ea] at h7;omega
theorem NdOK.cases {q:Pt}(h:NdOK q):q.op=0\/q.op=1\/q.op=2\/q.op=3\/q.op=4\/q.op=5\/q.op=6\/q.op=7:=by have:=h.op;omega
theorem NdOK.flags {q:Pt}(h:NdOK q):Z3 q=(Lg q.op).typed/\Vu q=(Lg q.op).cond:=by
 unfold Z3 Vu;rcases h.cases with h | h | h | h | h | h | h | h <;> rw [h] <;> exact ⟨rfl,rfl⟩
theorem NdOK.parts {q:Pt}(h:NdOK q):((Lg q.op).least<=(q.args.length:Int)/\(q.args.length:Int)<=(Lg q.op).most)/\ckB q (Lg q.op)=false/\((Lg q.op).cond=true->Fg q.cond=0)/\ckU q (Lg q.op)=false:=by
 have hc:=h.ck;have ho:(decide (q.op<0)||decide (11<=q.op))=false:=by have:=h.op;simp;omega
 have h1:(decide ((q.args.length:Int)<(Lg q.op).least)||decide ((Lg q.op).most<(q.args.length:Int)))=false:=by
  cases hq:(decide ((q.args.length:Int)<(Lg q.op).least)||decide ((Lg q.op).most<(q.args.length:Int))) with
  | false=>rfl
  | true=>rw [ck_2 ho hq] at hc;cases hc
 have h2:ckB q (Lg q.op)=false:=by
  cases hq:ckB q (Lg q.op) with
  | false=>rfl
  | true=>rw [ck_3 ho h1 hq] at hc;cases hc
 have h3:(Lg q.op).cond=true->Fg q.cond=0:=fun hs=>by
  cases hq:Fg q.cond != 0 with
  | false=>simpa using hq
  | true=>rw [ck_4 ho h1 h2 hs hq] at hc;rw [hc] at hq;cases hq
 have h4:((Lg q.op).cond&&(Fg q.cond != 0))=false:=by
  cases hs:(Lg q.op).cond with
  | false=>rfl
  | true=>rw [h3 hs];rfl
 rw [Aar ho h1 h2 h4] at hc;refine ⟨?_,h2,h3,?_⟩
 . simp at h1;exact h1
 cases hq:ckU q (Lg q.op) with
 | false=>rfl
 | true=>rw [hq,if_pos rfl] at hc;cases hc
theorem NdOK.rng {q:Pt}(h:NdOK q)(ht:(Lg q.op).typed=true):(0<=q.type/\q.type<=15)/\0<=q.var/\q.var<=15:=by
 have hb:=h.parts.2.1;unfold ckB wth at hb;rw [ht] at hb;simp at hb;omega
def stpN (s:Nx)(q:Pt):Nx:=⟨if (Lg q.op).typed then s.next+1 else s.next,if (Lg q.op).scope then s.scopes+1 else s.scopes⟩
def NumF:List Pt->Nx->Prop
 | [],_=>True
 | q::r,s=>(((Lg q.op).typed=true->q.var=s.next)/\((Lg q.op).scope=true->q.scope=s.scopes))/\NumF r (stpN s q)
theorem vM:∀(l:List Pt) (c:Cnt),(l.foldl J0 c).ok=true->NumF l ⟨c.vars,c.scopes⟩
  | [],c,_=>trivial
  | q::r,c,h=>by
    rw [List.foldl_cons] at h;have ih:=vM r (J0 c q) h
    have hok:(J0 c q).ok=true:=by
      cases hq:(J0 c q).ok with
      | true=>rfl
      | false=>rw [mE r _ hq] at h;cases h
    unfold J0 at hok;simp only [Cy,Ii,A5,beq_iff_eq] at hok;refine ⟨⟨fun ht=>?_,fun hs=>?_⟩,ih⟩
    . rcases hok.1.2 with h1 | h1
      . rw [ht] at h1;cases h1
      exact h1
    . rcases hok.2 with h1 | h1
      . rw [hs] at h1;cases h1
      exact h1
theorem eB:∀(l:List Pt) (s:Nx),NumF l s->∀(i:Nat) (q:Pt),(l.filter fun q=>(Lg q.op).typed)[i]? = some q->q.var=s.next+i
  | [],s,_,i,q,h=>by simp at h
  | x::r,s,hn,i,q,h=>by
    obtain ⟨⟨h1,h2⟩,h3⟩:=hn;rw [Ua] at h;cases ht:(Lg x.op).typed with
    | false=>
      rw [ht,if_neg (by decide)] at h;have:=eB r _ h3 i q h;unfold stpN at this;rw [ht] at this;simpa using this
    | true=>
      rw [ht,if_pos rfl] at h;cases i with
      | zero=>simp at h;subst h;rw [h1 ht];simp
      | succ i=>
        rw [List.getElem?_cons_succ] at h;have:=eB r _ h3 i q h;unfold stpN at this;rw [ht] at this;simp only [if_true] at this;rw [this];omega
theorem chk_num {p:Pt}(h:(Hf p != 0)=false):NumF (Hx p) ⟨0,0⟩:=by
 refine vM (Hx p) ⟨0,0,true⟩ ?_;show (Nw p).ok=true;have h1:=chk_0 h;cases hq:(Nw p).ok with
 | true=>rfl
 | false=>rw [chk_2 h1 (by rw [hq];rfl)] at h;cases h
theorem sY {l:List Pt}(h:∀q∈l,NdOK q):l.filter Z3=l.filter fun q=>(Lg q.op).typed:=List.filter_congr fun q hq=>(h q hq).flags.1
theorem Z2 {p:Pt}(h:(Hf p != 0)=false){i:Nat}{x:Int×Int}(hx:(Li p)[i]? = some x):x.1=(i:Int):=by
 unfold Li at hx;rw [List.getElem?_map,sY (Up h)] at hx;obtain ⟨q,hq,rfl⟩:=Wz.1 hx;have:=eB _ _ (chk_num h) i q hq;simpa using this
theorem ty_nodup {p:Pt}(h:(Hf p != 0)=false):((Li p).map (·.1)).Nodup:=by
 refine List.pairwise_iff_getElem.2 fun i j hi hj hij=>?_
 rw [By] at hi hj;rw [List.getElem_map,List.getElem_map];have h1:=Z2 h (List.getElem?_eq_getElem hi);have h2:=Z2 h (List.getElem?_eq_getElem hj);rw [h1,h2];omega
theorem ty_len {p:Pt}(h:(Hf p != 0)=false):(Li p).length<=16:=by
 rcases Oh 16 (Li p).length with hl | hl
 .
  have h1:=Z2 h (List.getElem?_eq_getElem (l:=Li p) (i:=16) hl);obtain ⟨q,hq,he⟩:=C9.1 (show (Li p)[16]∈((Hx p).filter Z3).map fun q=>(q.var,q.type) from Ub hl);have hm:=Jq.1 hq;have hn:=Up h q hm.1;have:=(hn.rng (by rw [<-hn.flags.1];exact hm.2)).2;rw [<-he] at h1;simp only at h1;omega
 exact hl
section
variable {T:List e8Sc} {V:List Va}
structure CdOK (T:List e8Sc) (V:List Va) (e:Ex):Prop where
 n:Iz e=0
 k:Wb T V e=true
 m:gB T V e=true
structure PtOK (T:List e8Sc) (V:List Va) (q:Pt):Prop where
 n:NdOK q
 c:Vu q=true->CdOK T V q.cond
 t:Z3 q=true->q.type<(T.length:Int)
end
theorem tE {T:List e8Sc}{L:List Int}:∀(l:List Va) (seen:List Ag) (i:Nat),tD T L seen i l=0->seen.Nodup->
    (seen++l.map (·.name)).Nodup/\∀(k:Nat) (v:Va),l[k]? = some v->bC v.name=true/\0<=v.type/\v.type<(T.length:Int)/\(L[i+k]?).getD 0=v.type
  | [],seen,i,_,hn=>⟨by simpa using hn,fun k v h=>by simp at h⟩
  | v::r,seen,i,h,hn=>by
    rw [tD] at h;split at h
    . rename_i h1;rw [h] at h1;cases h1
    . rename_i h1
      have h0:vrE T L seen i v=0:=by simpa using h1
      unfold vrE at h0;split at h0
      . cases h0
      split at h0
      . cases h0
      split at h0
      . cases h0
      split at h0
      . cases h0
      rename_i g1 g2 g3 g4;have c1:bC v.name=true:=by simpa using g1
      have c2:v.name∉seen:=by simpa using g2
      simp only [Ii,Ea,not_or] at g3;have c4:(L[i]?).getD 0=v.type:=by simpa using g4
      have ih:=tE r (seen ++ [v.name]) (i+1) h (Jo.2 ⟨hn,by simp,fun a ha b hb=>by rw [Ep.1 hb];exact fun e=>c2 (e▸ha)⟩);refine ⟨by simpa using ih.1,fun k x hx=>?_⟩;cases k with
      | zero=>
        simp at hx;subst hx;exact ⟨c1,by omega,by omega,by simpa using c4⟩
      | succ k=>
        rw [List.getElem?_cons_succ] at hx;have:=ih.2 k x hx;rw [show i+(k+1)=i+1+k by omega];exact this
structure ShOK (T:List e8Sc) (q:Qy):Prop where
 t:(Dr T != 0)=false
 p:(Hf q.pattern != 0)=false
 v:zK T q=0
 k:(nL T q).2=true
 r:q.returns≠[]
 e:∀e∈q.returns,Fg e=0
 u:Pm T q.vars (Tg q.pattern++q.returns) (tnB T q)=(0,true)
 n:bC q.name=true
theorem sh_ok {T:List e8Sc}{q:Qy}(h1:(Dr T != 0)=false)(h:((fV T q).2 != 0)=false):ShOK T q/\fV T q=((nL T q).1,0):=by
 have key:∀{c:Bool} {f:Int} {x:Ag×Int},((if c then (([]:Ag),f) else x).2 != 0)=false->(c=true->(f != 0)=true)->c=false/\(if c then (([]:Ag),f) else x)=x:=fun {c f x} h hf=>by
  cases c with
  | false=>exact ⟨rfl,rfl⟩
  | true=>rw [if_pos rfl] at h;rw [hf rfl] at h;cases h
 obtain ⟨a1,b1⟩:=key h fun _=>rfl
 unfold fV at h ⊢;rw [b1] at h ⊢;obtain ⟨a2,b2⟩:=key h fun h=>h
 rw [b2] at h ⊢;obtain ⟨a3,b3⟩:=key h fun h=>h
 rw [b3] at h ⊢;unfold sh1 at h ⊢;obtain ⟨a4,b4⟩:=key h fun _=>rfl
 rw [b4] at h ⊢;obtain ⟨a5,b5⟩:=key h fun _=>rfl
 rw [b5] at h ⊢;unfold sh2 at h ⊢;obtain ⟨a6,b6⟩:=key h fun h=>h
 rw [b6] at h ⊢;unfold sh3 at h ⊢;obtain ⟨a7,b7⟩:=key h fun h=>h
 rw [b7] at h ⊢;obtain ⟨a8,b8⟩:=key h fun _=>rfl
 rw [b8];refine ⟨⟨h1,a2,by simpa using a3,by simpa using a4,fun e=>by rw [e] at a5;simp at a5,?_,?_,by simpa using a1⟩,rfl⟩
 . exact Xp (by simpa [rtE] using a6)
 show usR T q=(0,true);have e1:(usR T q).1=0:=by simpa using a7
 have e2:(usR T q).2=true:=by simpa using a8
 rw [<-e1,<-e2]
section
variable {T:List e8Sc} {q:Qy}
theorem ShOK.nd (h:ShOK T q):∀x∈Hx q.pattern,NdOK x:=Up h.p
theorem ShOK.vl (h:ShOK T q):(Li q.pattern).length=q.vars.length/\tD T ((Li q.pattern).map (·.2)) [] 0 q.vars=0:=by
 have hv:=h.v;unfold zK at hv;split at hv
 . cases hv
 rename_i h1;exact ⟨by have h2:=h1;simp at h2;omega,hv⟩
theorem ShOK.va (h:ShOK T q):(Mp q.vars).Nodup/\∀(k:Nat) (v:Va),q.vars[k]? = some v->bC v.name=true/\0<=v.type/\v.type<(T.length:Int)/\∃x,(Li q.pattern)[k]? = some x/\x.1=(k:Int)/\x.2=v.type:=by
 have h1:=tE q.vars [] 0 h.vl.2 Of;refine ⟨by simpa using h1.1,fun k v hk=>?_⟩;obtain ⟨a,b,c,d⟩:=h1.2 k v hk;have hl:k<(Li q.pattern).length:=by rw [h.vl.1];exact (List.getElem?_eq_some_iff.1 hk).1
 have hx:=List.getElem?_eq_getElem hl;refine ⟨a,b,c,_,hx,Z2 h.p hx,?_⟩;rw [Do,List.getElem?_map,hx] at d;exact d
theorem ShOK.ts (h:ShOK T q):TsOK T:=qN h.t
theorem ShOK.rv (h:ShOK T q):RvOK T q.vars:=⟨h.ts.tl,h.ts.fl,by have:=ty_len h.p;have:=h.vl.1;omega,fun v hv=>by
 obtain ⟨k,hk⟩:=Jp.1 hv;have:=h.va.2 k v hk;exact ⟨this.2.1,this.2.2.1⟩⟩
theorem dA:∀(l:List Fi) (seen:List Ag),Hp seen l=0->seen.Nodup->(seen++l.map (·.name)).Nodup
  | [],seen,_,hn=>by simpa using hn
  | f::r,seen,h,hn=>by
    rw [Hp] at h;split at h
    . rename_i h1;rw [h] at h1;cases h1
    . rename_i h1
      have h0:F9 seen f=0:=by simpa using h1
      have hc:f.name∉seen:=fun hm=>by
        have hm':seen.contains f.name=true:=by simpa using hm
        unfold F9 at h0;split at h0
        . cases h0
        first | cases h0 | (rw [if_pos hm'] at h0;cases h0)
      have:=dA r (seen ++ [f.name]) h (Jo.2 ⟨hn,by simp,fun a ha b hb=>by rw [Ep.1 hb];exact fun e=>hc (e▸ha)⟩);simpa using this
theorem yU {s:e8Sc}(h:Gi s=0):(s.fields.map (·.name)).Nodup:=by
 unfold Gi at h;split at h
 . cases h
 split at h
 . cases h
 simpa using dA s.fields [] h Of
theorem ShOK.conds (h:ShOK T q):∀e∈Tg q.pattern++q.returns,CdOK T q.vars e:=by
  have hn:∀e∈Tg q.pattern++q.returns,Iz e=0:=fun e he=>by
    rcases Gd.1 he with he | he
    . unfold Tg at he
      obtain ⟨x,hx,rfl⟩:=C9.1 he;obtain ⟨hx1,hx2⟩:=Jq.1 hx;have hk:=h.nd x hx1;exact (aL (hk.parts.2.2.1 (by rw [<-hk.flags.2];exact hx2))).2.2
    exact (aL (h.e e he)).2.2
  have hu:=h.u;rw [use_list hn] at hu;cases hk:(Tg q.pattern++q.returns).all (Wb T q.vars) with
  | false=>rw [hk] at hu;cases hu
  | true=>
    rw [hk,if_pos rfl] at hu;have h2:(tnB T q&&(Tg q.pattern++q.returns).all (gB T q.vars))=true:=congrArg Prod.snd hu;rw [Cy] at h2;exact fun e he=>⟨hn e he,Ht.1 hk e he,Ht.1 h2.2 e he⟩
theorem ShOK.pt (h:ShOK T q):∀x∈Hx q.pattern,PtOK T q.vars x:=fun x hx=>⟨h.nd x hx,fun hc=>h.conds _ (List.mem_append_left _ (C9.2 ⟨x,Jq.2 ⟨hx,hc⟩,rfl⟩)),fun ht=>by
 have hm:(x.var,x.type)∈Li q.pattern:=C9.2 ⟨x,Jq.2 ⟨hx,ht⟩,rfl⟩;obtain ⟨k,hk⟩:=Jp.1 hm;have hl:k<q.vars.length:=by rw [<-h.vl.1];exact (List.getElem?_eq_some_iff.1 hk).1
 obtain ⟨_,b,c,y,hy,_,e⟩:=h.va.2 k _ (List.getElem?_eq_getElem hl);rw [hk] at hy;cases hy
 simp only at e;omega⟩
end
def fiT (f:Fi):Syn:=⟨2,f.name,[],f.kind,[],0⟩
def tyT (s:e8Sc):Syn:=⟨1,s.name,[],0,s.fields.map fiT,0⟩
def S8 (s:e8Sc):Bool:=bC s.name&&s.fields.all fun f=>bC f.name
def Pk (p:Pg):Syn:=⟨0,[],[],0,p.types.map tyT++p.queries.map (qT p.types),0⟩
def T7 (T:List e8Sc):List Ag->List Qy->Int
 | _,[]=>0
 | seen,q::r=>if ((Ld T q).2 != 0) then (Ld T q).2 else if seen.contains q.name then 7 else T7 T (seen ++ [q.name]) r
def src3 (p:Pg):Syn×Int:=if ((Ca (Pk p) (.only 0)).2 != 0) then (He,(Ca (Pk p) (.only 0)).2) else (Pk p,0)
def pS (p:Pg):Syn×Int:=if (T7 p.types [] p.queries != 0) then (He,T7 p.types [] p.queries) else src3 p
def src1 (p:Pg):Syn×Int:=if !(p.types.all S8) then (He,8) else if decide ((16:Int)<(p.queries.length:Int)) then (He,5) else pS p
def Hm (p:Pg):Syn×Int:=if (Dr p.types != 0) then (He,Dr p.types) else src1 p
structure SrcOK (p:Pg):Prop where
 t:(Dr p.types != 0)=false
 b:p.types.all S8=true
 l:p.queries.length<=16
 g:T7 p.types [] p.queries=0
 w:((Ca (Pk p) (.only 0)).2 != 0)=false
theorem src_ok {p:Pg}(h:((Hm p).2 != 0)=false):SrcOK p/\Hm p=(Pk p,0):=by
 have key:∀{c:Bool} {f:Int} {x:Syn×Int},((if c then (He,f) else x).2 != 0)=false->(c=true->(f != 0)=true)->c=false/\(if c then (He,f) else x)=x:=fun {c f x} h hf=>by
  cases c with
  | false=>exact ⟨rfl,rfl⟩
  | true=>rw [if_pos rfl] at h;rw [hf rfl] at h;cases h
 unfold Hm at h ⊢;obtain ⟨a1,b1⟩:=key h fun h=>h
 rw [b1] at h ⊢;unfold src1 at h ⊢;obtain ⟨a2,b2⟩:=key h fun _=>rfl
 rw [b2] at h ⊢;obtain ⟨a3,b3⟩:=key h fun _=>rfl
 rw [b3] at h ⊢;unfold pS at h ⊢;obtain ⟨a4,b4⟩:=key h fun h=>h
 rw [b4] at h ⊢;unfold src3 at h ⊢;obtain ⟨a5,b5⟩:=key h fun h=>h
 rw [b5];exact ⟨⟨a1,by simpa using a2,by have:=Er a3;omega,by simpa using a4,a5⟩,rfl⟩
theorem show_ok {T:List e8Sc}{q:Qy}(h:((Ld T q).2 != 0)=false):ShOK T q/\(fV T q).1=(nL T q).1/\((Ca (qT T q) (.only 3)).2 != 0)=false/\Ld T q=(qT T q,0):=by
 have key:∀{c:Bool} {f:Int} {x:Syn×Int},((if c then (He,f) else x).2 != 0)=false->(c=true->(f != 0)=true)->c=false/\(if c then (He,f) else x)=x:=fun {c f x} h hf=>by
  cases c with
  | false=>exact ⟨rfl,rfl⟩
  | true=>rw [if_pos rfl] at h;rw [hf rfl] at h;cases h
 unfold Ld at h ⊢;obtain ⟨a1,b1⟩:=key h fun h=>h
 rw [b1] at h ⊢;obtain ⟨a2,b2⟩:=key h fun h=>h
 rw [b2] at h ⊢;obtain ⟨a3,b3⟩:=key h fun h=>h
 rw [b3];obtain ⟨s1,s2⟩:=sh_ok a1 a2;exact ⟨s1,by rw [s2],a3,rfl⟩
theorem iX:∀(m:List Syn) (out:List e8Sc),(∀a∈m,a.kind≠1)->Gt out m=(out,Tk)
 | [],out,_=>rfl
 | k::r,out,h=>by rw [Gt,if_pos (by simpa using h k (by simp))];exact iX r out fun a ha=>h a (by simp [ha])
theorem Wi {T:List e8Sc}:∀(l:List Syn) (qs:List Qy) (m:List Syn),(∀a∈l,a.kind≠3)->E0 T qs (l++m)=E0 T qs m
 | [],qs,m,_=>rfl
 | k::r,qs,m,h=>by rw [Dn,E0,if_pos (by simpa using h k (by simp))];exact Wi r qs m fun a ha=>h a (by simp [ha])
theorem used_not {t:Syn}(hf:Eu t=0)(hk:t.kind≠13):((Oy t.kind).1=false->t.text = [])/\((Oy t.kind).2=false->t.name = []):=by
 unfold Eu at hf;rw [if_neg (by simpa using hk)] at hf;split at hf
 . rename_i h1;rw [hf] at h1;cases h1
 split at hf
 . cases hf
 rename_i h2;have h3:((!(Oy t.kind).1 && !(t.text == []))||(!(Oy t.kind).2 && !(t.name == [])))=false:=by simpa using h2
 rw [Ft] at h3;exact ⟨fun h=>by have h4:=h3.1;rw [h] at h4;simpa using h4,fun h=>by have h4:=h3.2;rw [h] at h4;simpa using h4⟩
theorem leaf_nil {t:Syn}(hs:Gr t=true)(hk:t.kind=13\/t.kind=14\/t.kind=15\/t.kind=2\/t.kind=4):t.kids = []:=by
 unfold Gr at hs;rcases hk with hk | hk | hk | hk | hk <;> (rw [hk] at hs;exact List.eq_nil_of_length_eq_zero (by simpa using hs))
section
variable {T:List e8Sc} {V:List Va}
end
theorem vI {t:Syn}(h:We t=true)(hk:(Oy t.kind).1=true)(h4:t.kind≠4):bC t.text=true:=by
 unfold We at h;rw [hk] at h;have e:(t.kind != 4)=true:=by simpa using h4
 rw [e] at h;simp only [Fj,Bool.true_or,Da,A5] at h;split at h
 . cases h
 rename_i h1;simpa using h1
section
variable {t:Syn} {p:Pl}
end
section
variable {T:List e8Sc} {V:List Va}
end
theorem Ox  : Ap Tryz.prog 43 [] (.agg (jM Tk)):=by
 refine Fl 2 Tryz.func43 rfl fun H=>?_
 refine Af (D7 fZ fun b0=>B7 (Qp (E2 G5) ?_));refine Bz 0 G5 (_::_) (Rb ?_);refine Yx [.agg G5] (Zb 0) S1 ?_;rfl
theorem pD  : Ap Tryz.prog 158 [] (.agg (cE T8)):=by
 refine Fl 3 Tryz.func158 rfl fun H=>?_
 refine Af (D7 ggy fun b0=>B7 (Qp (E2 Xd) (Qp (E2 Me) ?_)));refine Bz 0 Me (_::_) (Rb ?_);refine Yx [.agg Me] (Zb 0) S1 ?_;rfl
theorem pE (t:Syn):Ap Tryz.prog 100 [.agg (cSyn t)] (.agg (cV (pW t))):=by
 refine Fl 18 Tryz.func100 rfl fun H=>?_
 refine Af (Qp (Ik Ak) (D7 [.int .i64 0,.int .i64 0,.str []] fun b2=>?_));refine A2 (Cg (Qp (Qf nB) (Qp F4 (A2 (AW.block (Af (Qp (Dx rfl rfl) (Qp Bh (Bp (fun hc1=>Af (Qp (Qf Yn) (Qp Cd (Qp (E2 Xd) ?_)))) fun hc1=>Af (Qp (Dx rfl rfl) (Qp Bh (Bp (fun hc2=>Af (Qp (Qf Vx) (Qp F4 (Qp (E2 Xd) ?_)))) fun hc2=>Rf (Af (Qp (Qf Yn) (Qp Cd (Qp (E2 Xd) ?_))))))))))))))))
 .
  refine Bz 0 Xd (_::_) (Ra ?_);refine Yx [.agg Xd] (Zb 0) S1 ?_;simp only [Ah,pW,hc1,↓reduceIte,Al];rfl
 .
  refine Bz 0 Xd (_::_) (Ra ?_);refine Yx [.agg Xd] (Zb 0) S1 ?_;simp only [Ah,pW,hc1,hc2,↓reduceIte,Al];rfl
 refine Bz 0 Xd (_::_) (Rb ?_);refine Yx [.agg Xd] (Zb 0) S1 ?_;simp only [Ah,pW,hc1,hc2,↓reduceIte,Al];rfl
theorem rf_pos1 (f:Fi)(n:Ag):Ap Tryz.prog 157 [.agg (Tf f),.ptr [.str n]] (.bool (f.name==n)):=by
 refine Fl 8 Tryz.func157 rfl fun H=>?_
 refine Af (Qp (Ik Iy) (Qp Bh (B7 (Qp (Qf Iy) (Qp F4 (Qp F4 (Qp (Dx rfl rfl) (Qp Bh (Rb (Qr (.bool _) ?_))))))))));rfl
theorem pA (l:List Fi)(hl:l.length<=1048576)(K:FuncId)(hK:Tn Tryz.prog K=true)(cs:List AV)(p:Fi->Bool)(hf:∀a∈l,Ap Tryz.prog K (.agg (Tf a)::cs) (.bool (p a))):Ap Tryz.prog 59 [.sl 2 (l.map Tf),.fn (.func K) [] cs] (.int .i64 (Vz p l)):=by
 refine Fl 19 Tryz.func59 rfl fun H=>?_
 refine Af (Qp Ax (A2 (Cg (Qp Mm ?_))));refine Qp (G1 l.length rfl rfl (by simp)) ?_;refine Qp A0 (A2 (AW.block ?_));refine AW.loopS (fun (k:Nat)=>(⟨[(0,.sl 2 (l.map Tf)),(1,.fn (.func K) [] cs),(6,.sl 2 (l.map Tf)),(7,.int .i64 l.length),(8,.int .i64 (k:Int))],H,19⟩:St)) (fun k=>k<=l.length/\(l.take k).any p=false) (fun k=>l.length-k) (0) ?_ Dh ?_
 . exact ⟨A7 _,by simp⟩
 rintro k hR;refine Af (Qp Cv (Re (Gn (fun hc1=>?_) fun hc1=>?_)))
 .
  obtain ⟨a,ha⟩:=C2 hc1;have hlt:=Cc ha;have hm:=Aj ha;refine B6 (AW.seq (AW.block (Af (Qp A0 (Qp Ax (B7 (Qp (Ab (v:=.fn _ _ _) rfl) (Qp Mm (Qp A0 ?_)))))))));refine Qp (E9 Iy rfl rfl (by omega) (Cf ha)) ?_;refine Qp (C1 Iy) (Qp (O1 hK rfl rfl rfl (hf a (Aj ha))) (Bp (fun hc2=>Af (Qp A0 (Qp Ax (Ra (A4 (Dw (A4 (Qr (Iq _) ?_)))))))) fun hc2=>Rf (AW.region (Qp Hb (Qp A0 (A2 ?_))))))
  . exact Ye (AV.int .i64) (dH ha hR.2 hc2)
  refine ⟨k+1,?_,?_,Dh⟩
  . exact ⟨hlt,N7 hR.2 ha hc2⟩
  omega
 have hte:=Dt hc1;have hall:=hR.2;rw [hte] at hall;refine AW.exit ?_;refine Br (Ri (Af (Qp Ax (Rb ?_))));refine Qr (Iq _) ?_;exact Ye (AV.int .i64) (Y8 hall)
theorem Mk (s:e8Sc)(hs:s.fields.length<=1048576)(n:Ag):Ap Tryz.prog 92 [.agg (Fx s),.str n] (.int .i64 (Ey s n)):=by
 refine Fl 9 Tryz.func92 rfl fun H=>?_
 refine Af (Qp (Ik M7) (Qp (Sw (v:=.str _) (cs:=[.str _]) rfl rfl rfl) (Qp Ax (B7 (Qp (Qf [_]) (Qp Ew (Qp (B0 (l:=[]) (l':=[.ptr _]) rfl rfl) ?_)))))));refine Qp (Qc rfl (pA s.fields hs 157 (by kernel_rfl) [.ptr [.str n]] (fun f=>f.name==n) (fun a _=>rf_pos1 a n))) ?_;refine Qp Ax (Rb (Qr (Iq _) ?_));exact Eq.trans rfl (congrArg (fun q:Int=>AV.int .i64 q) (dI (fun f:Fi=>f.name) n s.fields))
theorem rf_each (bp TT:Nat)(cs:List AV)(l:List Syn)(hl:l.length<=1048576)(K:FuncId)(hK:Tn Tryz.prog K=true)(fs:List AV)(f:Syn->Fa)(hf:∀a∈l,Bf Tryz.prog K bp TT cs cs (fs ++ [.agg (cSyn a)]) (.agg (jM (f a)))):Bf Tryz.prog 45 bp TT cs cs [.sl 6 (l.map Cu),.fn (.func K) fs []] (.agg (jM (Mc f l))):=by
 intro H;refine H7 23 Tryz.func45 rfl ?_;refine Af (D7 fZ fun b4=>A2 (Cg (Qp Mm ?_)));refine Qp (G1 l.length rfl rfl (by simp)) ?_;refine Qp A0 (A2 (AW.block ?_));refine AW.loopS (fun (k:Nat)=>(⟨[(0,.sl 6 (l.map Cu)),(1,.fn (.func K) fs []),(4,.val (.pointer (some ⟨b4,0,none⟩))),(8,.sl 6 (l.map Cu)),(9,.int .i64 l.length),(10,.int .i64 (k:Int))],.box b4 72 fZ :: .box bp TT cs::H,23⟩:St)) (fun k=>k<=l.length/\(l.take k).any (fun x=>(f x).err != 0)=false) (fun k=>l.length-k) (0) ?_ Dh ?_
 . exact ⟨A7 _,by simp⟩
 rintro k hR;refine Af (Qp Cv (Re (Gn (fun hc1=>?_) fun hc1=>?_)))
 .
  obtain ⟨a,ha⟩:=C2 hc1;have hlt:=Cc ha;have hm:=Aj ha;refine B6 (AW.seq (AW.block (Af ?_)));refine Qp (E9 Ak rfl rfl (by omega) (F1 ha)) ?_;refine Qp (C1 Ak) (D7 In fun b6=>?_);refine Bz 0 Ak (_::_::_::_) ?_;refine Kh 6 0 rfl ?_;refine B7 (Qp (Ab (v:=.fn _ _ _) rfl) (Qp (C1 Ak) (Rt (Kr hK rfl rfl (A3 _) ((hf a hm).at (k:=1) (H2:=_::_::_) rfl rfl)) (D7 fZ fun b7=>?_))));refine Bz 0 G5 (_::_::_::_) ?_;refine Kh 7 0 rfl ?_;refine B7 (Qp (Qf [Iq _]) (Qp Cd (Qp C3 (Bp (fun hc2=>Af (Qp (C1 G5) ?_)) fun hc2=>Rf (AW.region (Qp Hb (Qp A0 (A2 ?_))))))))
  .
   refine Bz 0 G5 (_::_::_) (Ra (A4 (Dw (A4 ?_))));refine ⟨.inr rfl,[.agg G5],Zb 0,_,S1,?_⟩;exact ⟨Ye (fun q:Fa=>AV.agg (jM q)) (cQ ha hR.2 hc2),rfl⟩
  refine ⟨k+1,?_,?_,Dh⟩
  . exact ⟨hlt,N7 hR.2 ha hc2⟩
  omega
 have hte:=Dt hc1;have hall:=hR.2;rw [hte] at hall;refine AW.exit ?_;refine Br (Ri (Af ?_));refine Qp (Qc rfl (Ox)) ?_;refine Bz 0 G5 (_::_::_) (Rb ?_);refine ⟨.inr rfl,[.agg G5],Zb 0,_,S1,?_⟩;exact ⟨Ye (fun q:Fa=>AV.agg (jM q)) (Y0 hall),rfl⟩
abbrev Nt (q:Fa):AV:=AV.agg (jM q)
theorem rf_look (T:List e8Sc)(V:List Va)(s:Nx)(bp:Nat)(hrv:RvOK T V)(t:Syn)(ht:U7 t):Bf Tryz.prog 93 bp 126 (Ys T V s) (Ys T V s) [.val (.pointer (some ⟨bp,0,none⟩)),.agg (cSyn t)] (.agg (jM (Mi T V t))):=by
 intro H;refine H7 72 Tryz.func93 rfl ?_;refine Af (Qp (Ik Ak) (D7 fZ fun b4=>A2 (Cg (Qp (Qf Ak) (Qp Cd (Qp C3 (Qp Co (Qg [] Qw (Qf Ak) (Qg [(11,_)] Qw Cd (Qg [(12,_)] Qw C3 ?_))))))))));refine Qp Ks (Qp Co (Qg [] Qw (Qf Ak) (Qg [(16,_)] Qw Cd (Qg [(17,_)] Qw C3 (Qp Ks (Bp (fun hc1=>Af (Qp (Qc rfl (Ox)) ?_)) fun hc1=>B6 (AW.seq (Pq 1 rfl (Qn 0 rfl Bu (Qn 1 rfl (Ae rfl) (Qn 2 rfl Cw (Qn 3 rfl (Lb (.smapv _) rfl) (Qn 4 rfl (Qf Vx) (Qn 5 rfl F4 ?_))))))))))))))
 .
  refine Bz 0 G5 (_::_::_) (Rc ?_);refine ⟨.inr rfl,[.agg G5],Zb 0,_,S1,?_⟩;exact ⟨Ye Nt (look_1 hc1),rfl⟩
 refine Qn 6 rfl (cC (es:=Pj (Mp V)) tok rfl rfl rfl rfl rfl (by kernel_rfl) rfl rfl (T6 _ _ rfl) (sW _ _)) ?_;refine Qn 7 rfl Th (Qn 8 rfl Td (Qn 9 rfl fU (Qn 10 rfl Ax (Qn 11 rfl Bh ?_))));refine Iw ?_;refine Aa (Cg (Qp Co (Qp J4 (Bp (fun hc2=>Af (Qp (Qf [Iq _]) (Qp Cd (Qp (E2 G5) ?_)))) fun hc2=>?_))))
 .
  refine Bz 0 G5 (_::_::_) (Rc ?_);refine ⟨.inr rfl,[.agg G5],Zb 0,_,S1,?_⟩;exact ⟨Ye Nt (look_2 hc1 hc2),rfl⟩
 have hct:(Mp V).contains t.text=true:=by simpa using hc2
 refine (rL hct).elim fun va hva=>?_
 have hix:=Nh hct;have hix2:=hix.2;rw [By] at hix2;have hvm:=Aj hva;have hvt:=hrv.ty va hvm;refine (fA hrv hvm).elim fun sc hsc=>?_
 have hsr:=sS hva hsc;have hfl:=hrv.fl sc (Aj hsc);refine B6 (Cg (Qp (Qf Ak) (Qp Cd (Qp Bq (Qp Co (Qg [] Qw (Qf Ak) (Qg [(40,_)] Qw Cd (Qg [(41,_)] Qw Bq ?_))))))));refine Qg [(42,_)] Qw Co (Qg [] Qw (Qf nB) (Qg [(44,_)] Qw F4 (Qg [(45,_)] Qw (Dx rfl rfl) (Qg [(43,_),(46,_)] Qw Ks (Qp Gv (Bp (fun hc3=>Af (Qp (Qc rfl (Ox)) ?_)) fun hc3=>B6 (AW.seq (AW.seq (Pq 1 rfl (Qn 0 rfl Bu (Qn 1 rfl (Ae rfl) (Qn 2 rfl Cw (Qn 3 rfl (Lb (.sl _ _) rfl) (Qn 4 rfl Bu (Qn 5 rfl (Ae rfl) (Qn 6 rfl Cw (Qn 7 rfl (Lb (.sl _ _) rfl) (Qn 8 rfl A0 ?_))))))))))))))))))
 .
  refine Bz 0 G5 (_::_::_) (Rc ?_);refine ⟨.inr rfl,[.agg G5],Zb 0,_,S1,?_⟩;exact ⟨Ye Nt (look_3 hc1 hc2 hc3),rfl⟩
 refine Qn 9 rfl (E9 Iy rfl rfl (hix.1) (Cf hva)) ?_;refine Qn 10 rfl (Qf [Iq _]) (Qn 11 rfl Cd (Qn 12 rfl (E9 M7 rfl rfl (hvt.1) (Cf hsc)) (Qn 13 rfl (C1 M7) (Qn 14 rfl (Qf nB) (Qn 15 rfl F4 (Qn 16 rfl (Qc rfl (Mk sc hfl t.name)) (Qn 17 rfl Cv ?_)))))));refine Iw ?_;refine Aa (Gn (fun hc4=>Af (Qp (Qf [Iq _]) (Qp Cd (Qp (E2 G5) ?_)))) fun hc4=>B6 (Af (Qp (Qc rfl (Ox)) ?_)))
 .
  refine Bz 0 G5 (_::_::_) (Rc ?_);refine ⟨.inr rfl,[.agg G5],Zb 0,_,S1,?_⟩;exact ⟨Ye Nt (look_4 hc1 hc2 hc3 (by rw [hsr];exact hc4)),rfl⟩
 refine Bz 0 G5 (_::_::_) (Rb ?_);refine ⟨.inr rfl,[.agg G5],Zb 0,_,S1,?_⟩;exact ⟨Ye Nt (look_5 hc1 hc2 hc3 (by rw [hsr];exact hc4)),rfl⟩
theorem rf_walk (T:List e8Sc)(V:List Va)(s:Nx)(bp:Nat)(hrv:RvOK T V)(t:Syn)(ht:U7 t):Bf Tryz.prog 49 bp 126 (Ys T V s) (Ys T V s) [.val (.pointer (some ⟨bp,0,none⟩)),.agg (cSyn t)] (.agg (jM (H4 T V t))):=by
 intro H
 revert H
 induction t using Syn.ind
 rename_i t ih;intro H;refine H7 18 Tryz.func49 rfl ?_;refine Af (Qp (Ik Ak) (D7 fZ fun b4=>A2 (Cg (Qp Bu (Qp (C1 Ak) ?_)))));refine AOL.Aaz (Cj (k:=1) (by kernel_rfl) rfl rfl (rf_look T V s bp hrv t ht)) rfl rfl ?_;refine D7 fZ fun b5=>?_
 refine Bz 0 G5 (_::_::_::_) ?_;refine Kh 5 0 rfl ?_;refine B7 (Qp (Qf [Iq _]) (Qp Cd (Qp C3 (Bp (fun hc1=>Af (Qp (C1 G5) ?_)) fun hc1=>B6 (Af (Qp (Qf Oq) (Qp Ew (Qp Bu (Qp (B0 (l:=[.val _]) (l':=[]) rfl rfl) ?_)))))))))
 .
  refine Bz 0 G5 (_::_::_) (Rc ?_);refine ⟨.inr rfl,[.agg G5],Zb 0,_,S1,?_⟩;exact ⟨Ye Nt (walk_1 hc1),rfl⟩
 refine Rt (Dc rfl ((rf_each bp 126 _ t.kids (E7 (Wq ht) (by decide)) 49 (by kernel_rfl) [.val (.pointer (some ⟨bp,0,none⟩))] (H4 T V) (fun a ha=>fun R=>ih a ha (Lw ht ha) R)).at (k:=1) (H2:=_::_::_) rfl rfl)) ?_;refine Bz 0 G5 (_::_::_) (Rb ?_);refine ⟨.inr rfl,[.agg G5],Zb 0,_,S1,?_⟩;exact ⟨Ye Nt (walk_2 hc1),rfl⟩
theorem scE (l:List Ex):∀c∈l.map Gx,Au c=true:=fun c hc=>by
 obtain ⟨x,_,rfl⟩:=C9.1 hc;rw [M5];rfl
theorem vU (bp TT:Nat)(cs:List AV)(l:List Syn)(hl:l.length<=1048576)(K:FuncId)(hK:Tn Tryz.prog K=true)(fs:List AV)(f:Syn->Ex)(hf:∀a∈l,Bf Tryz.prog K bp TT cs cs (fs ++ [.agg (cSyn a)]) (.agg (cE (f a)))):Bf Tryz.prog 101 bp TT cs cs [.sl 6 (l.map Cu),.fn (.func K) fs []] (.sl 8 ((l.map f).map Gx)):=by
 intro H;refine H7 22 Tryz.func101 rfl ?_;refine Af (Qp (Cb (z:=8) rfl) (B7 (Qp O2 ?_)));refine AOL.ghost (GS.row (t:=5) 53 8 rfl) ?_;refine A2 (Cg (Qp Mm ?_));refine Qp (G1 l.length rfl rfl (by simp)) ?_;refine Qp A0 (A2 (AW.block ?_));refine AW.loopS (fun (p:Nat×List (List AV)×Value)=>(⟨[(0,.sl 6 (l.map Cu)),(1,.fn (.func K) fs []),(5,.row p.2.2 8 p.2.1),(8,.sl 6 (l.map Cu)),(9,.int .i64 l.length),(10,.int .i64 (p.1:Int))],.row p.2.2 p.2.1.length 53 8 :: .box bp TT cs::H,22⟩:St)) (fun p=>p.1<=l.length/\p.2.1=((l.take p.1).map f).map Gx) (fun p=>l.length-p.1) ((0,[],.slice none 0 0)) ?_ Dh ?_
 . exact ⟨A7 _,rfl⟩
 rintro p hR;refine Af (Qp Cv (Re (Gn (fun hc1=>?_) fun hc1=>?_)))
 .
  obtain ⟨a,ha⟩:=C2 hc1;have hlt:=Cc ha;have hm:=Aj ha;have hsc:∀c∈p.2.1,Au c=true:=by rw [hR.2];exact scE _
  refine B6 (AW.seq (AW.block (Af ?_)));refine Qp (E9 Ak rfl rfl (by omega) (F1 ha)) ?_;refine Qp (C1 Ak) (D7 In fun b7=>?_);refine Bz 0 Ak (_::_::_::_) ?_;refine Kh 7 0 rfl ?_;refine A2 (AW.region (Qp (Ab (v:=.row _ _ _) rfl) (Qp (Ab (v:=.fn _ _ _) rfl) (Qp (C1 Ak) (Rt (Kr hK rfl rfl (A3 _) ((hf a hm).at (k:=1) (H2:=_::_::_) rfl rfl)) (Qp (Ir [Me] rfl) ?_))))));refine Qe (Vc 0 rfl (D5 rfl) (hsc) (by simp [hR.2];omega) (by simp [hR.2,maxLen];omega)) ?_;rintro _ _ ⟨v19,rfl,rfl⟩;refine Qp (Ad (v:=.row _ _ _) rfl) (Rk (AW.region (Qp Hb (Qp A0 (A2 ?_)))));refine ⟨(p.1+1,p.2.1 ++ [cE (f a)],v19),?_,?_,Dh⟩
  . exact ⟨hlt,by simp only;rw [Cs ha,hR.2];simp [M5]⟩
  simp only;omega
 have hte:=Dt hc1;have hall:=hR.2;rw [hte] at hall;refine AW.exit ?_;refine Br (Ri (Af ?_));refine Qp (Ab (v:=.row _ _ _) rfl) ?_;refine AOL.ghost (GS.unrow 21 rfl) ?_;refine Qp jF (Rb ?_);refine ⟨.inr rfl,[.sl _ _],Ze,_,S1,?_⟩;exact ⟨Eq.trans rfl (congrArg (AV.sl 8) hall),rfl⟩
abbrev Ma (q:Ex):AV:=AV.agg (cE q)
theorem kW (T:List e8Sc)(V:List Va)(s:Nx)(bp:Nat)(hrv:RvOK T V)(t:Syn)(ht:U7 t)(hw:(H4 T V t).err=0):Bf Tryz.prog 52 bp 126 (Ys T V s) (Ys T V s) [.val (.pointer (some ⟨bp,0,none⟩)),.agg (cSyn t)] (.agg (cE (F6 T V t))):=by
 intro H
 revert H
 induction t using Syn.ind
 rename_i t ih;intro H;refine H7 101 Tryz.func52 rfl ?_;refine Af (Qp (Ik Ak) (D7 ggy fun b4=>Re (Pq 1 rfl (Qn 0 rfl Bu (Qn 1 rfl (Ae rfl) (Qn 2 rfl Cw (Qn 3 rfl (Lb (.smapv _) rfl) (Qn 4 rfl (Qf Vx) (Qn 5 rfl F4 ?_)))))))));refine Qn 6 rfl (lX (es:=Pj (Mp V)) tok rfl rfl rfl rfl rfl (by kernel_rfl) rfl rfl (T6 _ _ rfl)) ?_;refine Qn 7 rfl Ax ?_;refine Iw ?_;refine Aa (Cg (Qp (Qf Ak) (Qp Cd (A2 (AW.block (Af (Qp Bq (Qp Bh (Bp (fun hc1=>Af (Qp (C1 Ak) (Qp (Qc rfl (pE t)) (Qp (E2 Me) ?_)))) fun hc1=>Af (Qp Bq (Qp Bh (Bp (fun hc2=>Cg (Qp (Qf nB) (Qp F4 (Qp (Dx rfl rfl) (Bp (fun hc3=>Af (Qp A0 (Qp (E2 Me) ?_))) fun hc3=>?_))))) fun hc2=>?_))))))))))))
 .
  refine Bz 0 Me (_::_::_) (Ra ?_);refine ⟨.inr rfl,[.agg Me],Zb 0,_,S1,?_⟩;exact ⟨Ye Ma ((Kw T V t).trans (leafx_1 hc1)),rfl⟩
 .
  refine Bz 0 Me (_::_::_) (Rc (Dw (A4 ?_)));refine ⟨.inr rfl,[.agg Me],Zb 0,_,S1,?_⟩;exact ⟨Ye Ma ((Kw T V t).trans (leafx_2 hc1 hc2 hc3)),rfl⟩
 .
  have hct:=nT (Kn hw).1 (Or.inl (by simpa using hc2));refine (rL hct).elim fun va hva=>?_
  have hix:=Nh hct;have hix2:=hix.2;rw [By] at hix2;have hvm:=Aj hva;have hvt:=hrv.ty va hvm;refine (fA hrv hvm).elim fun sc hsc=>?_
  have hsr:=sS hva hsc;have hfl:=hrv.fl sc (Aj hsc);refine B6 (AW.seq (Pq 1 rfl (Qn 0 rfl A0 (Qn 1 rfl Bu (Qn 2 rfl (Ae rfl) (Qn 3 rfl Cw (Qn 4 rfl (Lb (.sl _ _) rfl) (Qn 5 rfl Bu (Qn 6 rfl (Ae rfl) (Qn 7 rfl Cw (Qn 8 rfl (Lb (.sl _ _) rfl) (Qn 9 rfl A0 ?_))))))))))));refine Qn 10 rfl (E9 Iy rfl rfl (hix.1) (Cf hva)) ?_;refine Qn 11 rfl (Qf [Iq _]) (Qn 12 rfl Cd (Qn 13 rfl (E9 M7 rfl rfl (hvt.1) (Cf hsc)) (Qn 14 rfl (C1 M7) (Qn 15 rfl (Qf nB) (Qn 16 rfl F4 (Qn 17 rfl (Qc rfl (Mk sc hfl t.name)) (Qn 18 rfl (E2 Me) ?_)))))));refine bF 19 rfl (Ki 0 (.agg _) Me (_::_::_) rfl) ?_;rintro _ _ ⟨rfl,rfl⟩;refine Aa (AW.ret (Dw (A4 ?_)));refine ⟨.inr rfl,[.agg Me],Zb 0,_,S1,?_⟩;exact ⟨Ye Ma ((Kw T V t).trans (leafx_3 hc1 hc2 hc3 hsr)),rfl⟩
 refine Af (Qp Bq (Qp Bh (Bp (fun hc4=>Af (Qp A0 (Qp (E2 Me) ?_))) fun hc4=>Af (Qp Bq (Qp Bh (Bp (fun hc5=>?_) fun hc5=>Af (Qp Bq (Qp Bh (Bp (fun hc7=>Af (Qp (Qf Oq) (Qp Ew (Qp Bu (Qp (B0 (l:=[.val _]) (l':=[]) rfl rfl) ?_))))) fun hc7=>Rf (AW.seq ?_))))))))))
 .
  refine Bz 0 Me (_::_::_) (Ra ?_);refine ⟨.inr rfl,[.agg Me],Zb 0,_,S1,?_⟩;exact ⟨Ye Ma ((Kw T V t).trans (leafx_4 hc1 hc2 hc4)),rfl⟩
 .
  have hct:=nT (Kn hw).1 (Or.inr (Or.inr (by simpa using hc5)));refine (rL hct).elim fun va hva=>?_
  have hix:=Nh hct;have hix2:=hix.2;rw [By] at hix2;have hvm:=Aj hva;have hvt:=hrv.ty va hvm;refine (fA hrv hvm).elim fun sc hsc=>?_
  have hsr:=sS hva hsc;have hfl:=hrv.fl sc (Aj hsc);refine AW.seq (Pq 1 rfl (Qn 0 rfl A0 (Qn 1 rfl Bu (Qn 2 rfl (Ae rfl) (Qn 3 rfl Cw (Qn 4 rfl (Lb (.sl _ _) rfl) (Qn 5 rfl Bu (Qn 6 rfl (Ae rfl) (Qn 7 rfl Cw (Qn 8 rfl (Lb (.sl _ _) rfl) (Qn 9 rfl A0 ?_)))))))))));refine Qn 10 rfl (E9 Iy rfl rfl (hix.1) (Cf hva)) ?_;refine Qn 11 rfl (Qf [Iq _]) (Qn 12 rfl Cd (Qn 13 rfl (E9 M7 rfl rfl (hvt.1) (Cf hsc)) (Qn 14 rfl (C1 M7) (Qn 15 rfl (Qf nB) (Qn 16 rfl F4 (Qn 17 rfl (Qc rfl (Mk sc hfl t.name)) (Qn 18 rfl (Qf Yn) (Qn 19 rfl Cd (Qn 20 rfl (E2 Me) ?_)))))))));refine Vr 21 rfl (Dg (l:=ggy) (by kernel_rfl)) (by rintro _ _ ⟨b6,rfl,rfl⟩;simp) ?_;rintro _ _ ⟨b6,rfl,rfl⟩;refine bF 22 rfl (Ki 0 (.agg _) Me (_::_::_::_) rfl) ?_;rintro _ _ ⟨rfl,rfl⟩;refine Aa (Cg (Qp (Qf Oq) (Qp Ew ?_)));refine Qp (G1 t.kids.length rfl rfl (by simp)) ?_;refine Qp Hc (Bp (fun hc6=>?_) fun hc6=>B6 (Af (O3 0 Me rfl ?_)))
  .
   have h0:0<t.kids.length:=by have:=C6 hc6;omega
   refine AW.region (Qp (Qf Oq) (Qp Ew ?_));refine Qp (E9 Ak rfl rfl (by decide) (F1 (Hq h0))) ?_;refine Qp (C1 Ak) (Qp (Qc rfl (pE (B5 t 0))) (Qp Cw ?_));refine Bz 0 Me (_::_::_::_) (B7 (O3 0 Me rfl ?_));refine Bz 1 Me (_::_::_::_) (Ra ?_);refine ⟨.inr rfl,[.agg Me],Zb 1,_,S2,?_⟩;exact ⟨Ye Ma ((Kw T V t).trans (leafx_5 hc1 hc2 hc4 hc5 hsr hc6)),rfl⟩
  refine Bz 1 Me (_::_::_::_) (Ra ?_);refine ⟨.inr rfl,[.agg Me],Zb 1,_,S2,?_⟩;exact ⟨Ye Ma ((Kw T V t).trans (leafx_6 hc1 hc2 hc4 hc5 hsr hc6)),rfl⟩
 .
  refine Rt (Dc rfl ((vU bp 126 _ t.kids (E7 (Wq ht) (by decide)) 52 (by kernel_rfl) [.val (.pointer (some ⟨bp,0,none⟩))] (F6 T V) (fun a ha=>fun R=>ih a ha (Lw ht ha) ((Kn hw).2 a ha) R)).at (k:=1) (H2:=_::_::_) rfl rfl)) ?_;refine Qp (E2 Me) ?_;refine Bz 0 Me (_::_::_) (Ra ?_);refine ⟨.inr rfl,[.agg Me],Zb 0,_,S1,?_⟩;exact ⟨Ye Ma ((Kw T V t).trans (leafx_7 hc1 hc2 hc4 hc5 hc7)),rfl⟩
 refine Ok ?_;refine Qn 0 rfl (Qf Yn) (Qn 1 rfl Cd (Qn 2 rfl (Qf Oq) (Qn 3 rfl Ew (Qn 4 rfl Bu (Qn 5 rfl (B0 (l:=[.val _]) (l':=[]) rfl rfl) ?_)))));refine Ns 6 rfl (Dc rfl ((vU bp 126 _ t.kids (E7 (Wq ht) (by decide)) 52 (by kernel_rfl) [.val (.pointer (some ⟨bp,0,none⟩))] (F6 T V) (fun a ha=>fun R=>ih a ha (Lw ht ha) ((Kn hw).2 a ha) R)).at (k:=1) (H2:=_::_::_) rfl rfl)) ?_;refine Qn 7 rfl (E2 Me) ?_;refine Ns 8 rfl (Ki 0 (.agg _) Me (_::_::_) rfl) ?_;refine Iw ?_;refine Aa (AW.ret ?_);refine ⟨.inr rfl,[.agg Me],Zb 0,_,S1,?_⟩;exact ⟨Ye Ma ((Kw T V t).trans (leafx_8 hc1 hc2 hc4 hc5 hc7)),rfl⟩
theorem sB (a b c d:HO)(H:List HO):List.Perm (a::b::c::d::H) (b::c::d::a::H):=by
 have h1:List.Perm (a::b::c::d::H) (b::a::c::d::H):=List.Perm.swap ..;have h2:List.Perm (a::c::d::H) (c::a::d::H):=List.Perm.swap ..;have h3:List.Perm (a::d::H) (d::a::H):=List.Perm.swap ..;exact (h1.trans (h2.cons b)).trans ((h3.cons c).cons b)
theorem rf_decH (T:List e8Sc)(V:List Va)(t:Syn)(v:Value)(bp bn:Nat)(H:List HO):(.row v ((V ++ [aZ T t]).map Rd).length 60 2 :: .box bp 126 [.sl 2 (T.map Fx),.smapv (Pj (G0 T)),.row v 2 ((V ++ [aZ T t]).map Rd),.val (.map (some bn)),.int .i64 0,.int .i64 0] :: .smap bn (Pj (Mp (V ++ [aZ T t])))::H:List HO) = .row v (V.map Rd ++ [Rd (aZ T t)]).length 60 2 :: .box bp 126 [.sl 2 (T.map Fx),.smapv (Pj (G0 T)),.row v 2 (V.map Rd ++ [Rd (aZ T t)]),.val (.map (some bn)),.int .i64 0,.int .i64 0] :: .smap bn (Pj (Mp V ++ [t.name]))::H:=by
 simp [aZ]
theorem T1 (T:List e8Sc)(hl:T.length<=1048576)(hd:(G0 T).Nodup)(H:List HO):Bt Tryz.prog 44 H [.sl 2 (T.map Fx)] (fun r H'=>∃b bn,r = .val (.pointer (some ⟨b,0,none⟩))/\H' = .box b 126 [.sl 2 (T.map Fx),.smapv (Pj (G0 T)),.val (.slice none 0 0),.val (.map (some bn)),.int .i64 0,.int .i64 0] :: .smap bn []::H):=by
 refine H7 27 Tryz.func44 rfl ?_;refine AW.ghostPost (Af (Qp O2 (B7 (Qp Mm (Qe (Hl) ?_)))));rintro _ _ ⟨b7,rfl,rfl⟩;refine Qe (Hl) ?_;rintro _ _ ⟨b8,rfl,rfl⟩;refine Qp (Hy (l0:=[.val (.slice none 0 0),.val (.map none),.val (.slice none 0 0),.val (.map none),.int .i64 0,.int .i64 0]) (l:=[_,_,_,_,Iq _,Iq _]) tok rfl rfl (by kernel_rfl) rfl) ?_;refine Qe (zN (v:=.agg _) (cs:=[_,_,_,_,Iq _,Iq _]) rfl rfl (rfl)) ?_;rintro _ _ ⟨b10,rfl,rfl⟩;refine Qp O2 (A2 (Cg (Qp Mm ?_)));refine Qp (G1 T.length rfl rfl (by simp)) ?_;refine Qp A0 (A2 (AW.block ?_));refine AW.loopS (fun (k:Nat)=>(⟨[(3,.val (.pointer (some ⟨b10,0,none⟩))),(11,.sl 2 (T.map Fx)),(12,.int .i64 T.length),(13,.int .i64 (k:Int))],.box b10 126 [.sl 2 (T.map Fx),.val (.map (some b7)),.val (.slice none 0 0),.val (.map (some b8)),.int .i64 0,.int .i64 0] :: .smap b8 [] :: .smap b7 (Pj (G0 (T.take k)))::H,27⟩:St)) (fun k=>k<=T.length) (fun k=>T.length-k) (0) ?_ Dh ?_
 . exact A7 _
 rintro k hR;refine Af (Qp Cv (Re (Gn (fun hc1=>?_) fun hc1=>?_)))
 .
  obtain ⟨a,ha⟩:=C2 hc1;have hlt:=Cc ha;have hm:=Aj ha;refine B6 (AW.seq (AW.block (Af (Qp A0 ?_))));refine Qp (E9 M7 rfl rfl (by omega) (Cf ha)) ?_;refine Qp (C1 M7) (D7 [.str [],.sl 2 []] fun b5=>Qp Ax ?_);refine Bz 0 M7 (_::_::_::_::_) ?_;refine Kh 5 0 rfl ?_;refine A2 (Pq 0 rfl (Qn 0 rfl Bu (Qn 1 rfl (Ae rfl) (Qn 2 rfl Cw (Qn 3 rfl (Lb (.val _) rfl) (Qn 4 rfl (Qf M7) (Qn 5 rfl F4 (Qn 6 rfl A0 ?_))))))));refine bF 7 rfl (lW (i:=2) (ks:=G0 (T.take k)) (H2:=_::_::_::_) tok rfl rfl rfl rfl rfl rfl rfl rfl (by simp;omega) (nm_new hd ha) rfl) ?_;rintro _ _ ⟨rfl,rfl⟩;refine Ff (Aa (AW.region (Qp Hb (Qp A0 (A2 ?_)))));refine ⟨k+1,?_,?_,GS.trans (GS.heq (congrArg (fun ns:List Ag=>(_::_ :: .smap b7 (Pj ns)::_:List HO)) (vK ha))) Dh⟩
  . exact hlt
  omega
 have hte:=Dt hc1;refine AW.exit ?_;refine Br (Ri (Af (Qp Bu (Qp O2 (Rb ?_)))));refine ⟨_,GS.freezeSMapCell 2 0 1 rfl rfl rfl rfl rfl,.inr rfl,[.val _],.cons (.tmp _ _ rfl) <| .nil,_,.refl _,?_⟩;exact ⟨b10,b8,rfl,congrArg (fun Q:List e8Sc=>(.box b10 126 [.sl 2 (T.map Fx),.smapv (Pj (G0 Q)),.val (.slice none 0 0),.val (.map (some b8)),.int .i64 0,.int .i64 0] :: .smap b8 []::H:List HO)) hte⟩
abbrev Xg (q:Fa):AV:=AV.agg (jM q)
theorem sM (T:List e8Sc)(V:List Va)(hV:V.length<=16)(v:Value)(bp bn:Nat)(t:Syn)(H:List HO):Bt Tryz.prog 47 (.row v ((V).map Rd).length 60 2 :: .box bp 126 [.sl 2 (T.map Fx),.smapv (Pj (G0 T)),.row v 2 ((V).map Rd),.val (.map (some bn)),.int .i64 0,.int .i64 0] :: .smap bn (Pj (Mp (V)))::H) [.val (.pointer (some ⟨bp,0,none⟩)),.agg (cSyn t)] (fun r H'=>∃v',r = .agg (jM (dFa T V t))/\H' = .row v' ((dV T V t).map Rd).length 60 2 :: .box bp 126 [.sl 2 (T.map Fx),.smapv (Pj (G0 T)),.row v' 2 ((dV T V t).map Rd),.val (.map (some bn)),.int .i64 0,.int .i64 0] :: .smap bn (Pj (Mp (dV T V t)))::H):=by
 refine H7 75 Tryz.func47 rfl ?_;refine Af (Qp (Ik Ak) (D7 fZ fun b4=>Re (Pq 2 rfl (Qn 0 rfl Bu (Qn 1 rfl (Ae rfl) (Qn 2 rfl Cw (Qn 3 rfl (Lb (.smapv _) rfl) (Qn 4 rfl (Qf Vx) (Qn 5 rfl F4 ?_)))))))));refine Qn 6 rfl (cC (es:=Pj (G0 T)) tok rfl rfl rfl rfl rfl (by kernel_rfl) rfl rfl (T6 _ _ rfl) (sW _ _)) ?_;refine Qn 7 rfl Th (Qn 8 rfl Td (Qn 9 rfl fU (Qn 10 rfl Ax (Qn 11 rfl Bh ?_))));refine Iw ?_;refine Aa (AW.seq ?_);refine AW.draw mixed (fun H'=>_∈H'/\_∈H') ⟨(Aj (i:=2) rfl),(Aj (i:=3) rfl)⟩ (by kernel_rfl) ?_;refine Qn 0 rfl Bu (Qn 1 rfl (Ae rfl) (Qn 2 rfl Cw (Qn 3 rfl (Db.mem (fun k=>B8 (k:=k) (c:=.val _) tok rfl rfl rfl rfl) (fun _ h=>h.1)) ?_)));refine Qn 4 rfl (Qf nB) (Qn 5 rfl F4 ?_);refine Qn 6 rfl (Db.mem (fun k=>wU (i:=k) (es:=Pj (Mp V)) tok rfl rfl rfl rfl rfl (by kernel_rfl) rfl rfl (T6 _ _ rfl) (sW _ _)) (fun _ h=>h.2)) ?_;refine Qn 7 rfl Th (Qn 8 rfl Td (Qn 9 rfl fU (Qn 10 rfl Ax (Qn 11 rfl Bh ?_))));refine Iw ?_;refine Aa (AW.seq (AW.block (Af (Qp Bu (Qp (Ae rfl) (Qp Cw (Pz 2 (.row _ _ _) rfl ?_)))))));refine Qp (E8 (n:=V.length) tok rfl rfl rfl (by simp)) ?_;refine Qp Bq (Qp Bh (Bp (fun hc1=>Af (Qp (Qf [Iq _]) (Qp Cd (Qp (E2 G5) ?_)))) fun hc1=>Af (Qp Co (Qp J4 (Qp Bh (Bp (fun hc2=>Af (Qp (Qf [Iq _]) (Qp Cd (Qp (E2 G5) ?_)))) fun hc2=>?_))))))
 .
  refine Bz 0 G5 (_::_::_::_::_) (Ra ?_);refine ⟨.inr rfl,[.agg G5],Zb 0,_,S1,?_⟩;have hx:=qZ (T:=T) (V:=V) (t:=t) (dec_1 hc1) (by decide);exact ⟨v,Ye Xg hx.1,congrArg (fun Q:List Va=>(.row v ((Q).map Rd).length 60 2 :: .box bp 126 [.sl 2 (T.map Fx),.smapv (Pj (G0 T)),.row v 2 ((Q).map Rd),.val (.map (some bn)),.int .i64 0,.int .i64 0] :: .smap bn (Pj (Mp (Q)))::H:List HO)) hx.2.symm⟩
 .
  refine Bz 0 G5 (_::_::_::_::_) (Ra ?_);refine ⟨.inr rfl,[.agg G5],Zb 0,_,S1,?_⟩;have hx:=qZ (T:=T) (V:=V) (t:=t) (dec_2 hc1 hc2) (by decide);exact ⟨v,Ye Xg hx.1,congrArg (fun Q:List Va=>(.row v ((Q).map Rd).length 60 2 :: .box bp 126 [.sl 2 (T.map Fx),.smapv (Pj (G0 T)),.row v 2 ((Q).map Rd),.val (.map (some bn)),.int .i64 0,.int .i64 0] :: .smap bn (Pj (Mp (Q)))::H:List HO)) hx.2.symm⟩
 refine Af (Qp Co (Qp Bh (Bp (fun hc3=>Af (Qp (Qf [Iq _]) (Qp Cd (Qp (E2 G5) ?_)))) fun hc3=>Rf (AW.seq (Pq 2 rfl (Qn 0 rfl Bu (Qn 1 rfl (Ae rfl) (Qn 2 rfl Cw (Qn 3 rfl (Lb (.val _) rfl) (Qn 4 rfl (Qf nB) (Qn 5 rfl F4 (Qn 6 rfl Bu (Qn 7 rfl (Ae rfl) (Qn 8 rfl Cw (Qn 9 rfl (Lb (.row _ _ _) rfl) ?_)))))))))))))))
 .
  refine Bz 0 G5 (_::_::_::_::_) (Ra ?_);refine ⟨.inr rfl,[.agg G5],Zb 0,_,S1,?_⟩;have hx:=qZ (T:=T) (V:=V) (t:=t) (dec_3 hc1 hc2 hc3) (by decide);exact ⟨v,Ye Xg hx.1,congrArg (fun Q:List Va=>(.row v ((Q).map Rd).length 60 2 :: .box bp 126 [.sl 2 (T.map Fx),.smapv (Pj (G0 T)),.row v 2 ((Q).map Rd),.val (.map (some bn)),.int .i64 0,.int .i64 0] :: .smap bn (Pj (Mp (Q)))::H:List HO)) hx.2.symm⟩
 refine Qn 10 rfl (E8 (n:=V.length) tok rfl rfl rfl (by simp)) ?_;refine bF 11 rfl (lW (i:=3) (ks:=Mp V) (H2:=_::_::_::_::_) tok rfl rfl rfl rfl rfl rfl rfl rfl (by simp) hc3 rfl) ?_;rintro _ _ ⟨rfl,rfl⟩;refine Aa (AW.seq (Pq 2 rfl (Qn 0 rfl Bu (Qn 1 rfl Bu (Qn 2 rfl (Ae rfl) (Qn 3 rfl Cw (Qn 4 rfl (Lb (.row _ _ _) rfl) (Qn 5 rfl (Qf nB) (Qn 6 rfl F4 (Qn 7 rfl A0 (Qn 8 rfl (E2 Iy) (Qn 9 rfl (Ir [Iy] rfl) ?_))))))))))));refine Vr 10 rfl (Vc 1 rfl (D5 rfl) (scVa V) (by simp;omega) (by simp [maxLen];omega)) (by rintro _ _ ⟨v71,rfl,rfl⟩;simp) ?_;rintro _ _ ⟨v71,rfl,rfl⟩;refine Qn 11 rfl (Ae rfl) (Qn 12 rfl Cw ?_);refine bF 13 rfl (Ki 2 (.row _ _ _) [_,_,_,_,Iq _,Iq _] (_::_::_::_::_) rfl) ?_;rintro _ _ ⟨rfl,rfl⟩;refine Aa (Af (Qp (Qc rfl (Ox)) ?_));refine Bz 0 G5 (_::_::_::_::_) (Rb ?_);refine ⟨.inr rfl,[.agg G5],Zb 0,_,S1,?_⟩;have hx:=dFa_yes (T:=T) (V:=V) (t:=t) (dec_4 hc1 hc2 hc3);refine ⟨v71,Ye Xg hx.1,Eq.trans ?_ (congrArg (fun Q:List Va=>(.row v71 ((Q).map Rd).length 60 2 :: .box bp 126 [.sl 2 (T.map Fx),.smapv (Pj (G0 T)),.row v71 2 ((Q).map Rd),.val (.map (some bn)),.int .i64 0,.int .i64 0] :: .smap bn (Pj (Mp (Q)))::H:List HO)) hx.2.symm)⟩;exact (rf_decH T V t v71 bp bn H).symm
theorem rf_eachD (T:List e8Sc)(V0:List Va)(hV0:V0.length<=16)(v0:Value)(bp bn:Nat)(l:List Syn)(hl:l.length<=1048576)(H:List HO):Bt Tryz.prog 45 (.row v0 ((V0).map Rd).length 60 2 :: .box bp 126 [.sl 2 (T.map Fx),.smapv (Pj (G0 T)),.row v0 2 ((V0).map Rd),.val (.map (some bn)),.int .i64 0,.int .i64 0] :: .smap bn (Pj (Mp (V0)))::H) [.sl 6 (l.map Cu),.fn (.func 47) [.val (.pointer (some ⟨bp,0,none⟩))] []] (fun r H'=>∃v',r = .agg (jM (P6 T V0 l).2)/\H' = .row v' (((P6 T V0 l).1).map Rd).length 60 2 :: .box bp 126 [.sl 2 (T.map Fx),.smapv (Pj (G0 T)),.row v' 2 (((P6 T V0 l).1).map Rd),.val (.map (some bn)),.int .i64 0,.int .i64 0] :: .smap bn (Pj (Mp ((P6 T V0 l).1)))::H):=by
 refine H7 23 Tryz.func45 rfl ?_;refine Af (D7 fZ fun b4=>A2 (Cg (Qp Mm ?_)));refine Qp (G1 l.length rfl rfl (by simp)) ?_;refine Qp A0 ?_;refine AOL.ghost (GS.perm (sB _ _ _ _ _)) ?_;refine A2 (AW.block ?_);refine AW.loopS (fun (q:Nat×List Va×Value)=>(⟨[(0,.sl 6 (l.map Cu)),(1,.fn (.func 47) [.val (.pointer (some ⟨bp,0,none⟩))] []),(4,.val (.pointer (some ⟨b4,0,none⟩))),(8,.sl 6 (l.map Cu)),(9,.int .i64 l.length),(10,.int .i64 (q.1:Int))],.row q.2.2 ((q.2.1).map Rd).length 60 2 :: .box bp 126 [.sl 2 (T.map Fx),.smapv (Pj (G0 T)),.row q.2.2 2 ((q.2.1).map Rd),.val (.map (some bn)),.int .i64 0,.int .i64 0] :: .smap bn (Pj (Mp (q.2.1))) :: .box b4 72 fZ::H,23⟩:St)) (fun q=>q.1<=l.length/\q.2.1.length<=16/\P6 T V0 l=P6 T q.2.1 (l.drop q.1)) (fun q=>l.length-q.1) ((0,V0,v0)) ?_ Dh ?_
 . exact ⟨A7 _,hV0,rfl⟩
 rintro q hR;refine Af (Qp Cv (Re (Gn (fun hc1=>?_) fun hc1=>?_)))
 .
  obtain ⟨a,ha⟩:=C2 hc1;have hlt:=Cc ha;have hm:=Aj ha;refine B6 (AW.seq (AW.block (Af ?_)));refine Qp (E9 Ak rfl rfl (by omega) (F1 ha)) ?_;refine Qp (C1 Ak) (D7 In fun b6=>?_);refine Bz 0 Ak (_::_::_::_::_::_) ?_;refine Kh 6 0 rfl ?_;refine B7 (Qp (Ab (v:=.fn _ _ _) rfl) (Qp (C1 Ak) ?_));refine Qe (Kr (by kernel_rfl) rfl rfl rfl (Bt.front3 (R:=_::_) 2 1 0 rfl rfl rfl rfl (sM T q.2.1 hR.2.1 q.2.2 bp bn a _))) ?_;rintro _ _ ⟨v16,rfl,rfl⟩;refine D7 fZ fun b7=>?_
  refine Bz 0 G5 (_::_::_::_::_::_) ?_;refine Kh 7 0 rfl ?_;refine B7 (Qp (Qf [Iq _]) (Qp Cd (Qp C3 (Bp (fun hc2=>Af (Qp (C1 G5) ?_)) fun hc2=>Rf (AW.region (Qp Hb (Qp A0 (A2 ?_))))))))
  .
   refine Bz 3 G5 (_::_::_::_::_) (Ra (A4 (Dw (A4 ?_))));refine ⟨.inr rfl,[.agg G5],.cons (.box _ _ _ 3 _ _ _ _ rfl rfl rfl rfl rfl rfl) <| .nil,_,.cons_cons _ (.cons_cons _ (.cons_cons _ (.cons _ (.refl _)))),?_⟩;have hx:=hR.2.2.trans (decS_hit ha hc2);exact ⟨v16,by rw [hx];rfl,by rw [hx]⟩
  refine ⟨(q.1+1,dV T q.2.1 a,v16),?_,?_,Dh⟩
  . exact ⟨hlt,dV_len hR.2.1,hR.2.2.trans (decS_on ha hc2)⟩
  simp only;omega
 have hde:=Gz hc1;have hall:=hR.2.2;rw [hde] at hall;refine AW.exit ?_;refine Br (Ri (Af ?_));refine Qp (Qc rfl (Ox)) ?_;refine Bz 3 G5 (_::_::_::_::_) (Rb ?_);refine ⟨.inr rfl,[.agg G5],.cons (.box _ _ _ 3 _ _ _ _ rfl rfl rfl rfl rfl rfl) <| .nil,_,.cons_cons _ (.cons_cons _ (.cons_cons _ (.cons _ (.refl _)))),?_⟩;have hx:P6 T V0 l=(q.2.1,Tk):=hall;exact ⟨q.2.2,by rw [hx];rfl,by rw [hx]⟩
theorem yP (t:Syn)(ht:U7 t)(hc:B4 t .pats=0):Ap Tryz.prog 46 [.agg (cSyn t)] (.sl 6 ((Xc t).map Cu)):=by
 induction t using Syn.ind
 rename_i t ih;refine Fl 45 Tryz.func46 rfl fun H=>?_
 refine Af (Qp (Ik Ak) (Qp (Cb (z:=6) rfl) (A2 (Cg (Qp (Qf Ak) (Qp Cd (A2 (AW.block (Af (Qp Bq (Qp Bh (Bp (fun hc1=>Af (Qp (C1 Ak) (Qp (Ir [Ak] rfl) (Qp jF (Ra (Qr (.sl _ _) ?_)))))) fun hc1=>?_))))))))))))
 . exact Ye (AV.sl 6) (evs_1 hc1)
 have h5:t.kind≠5:=by simpa using hc1
 refine Af (Qp Bq (Qp Bh (Bp (fun hc2=>?_) fun hc2=>Af (Qp Bq (Qp Bh (Bp (fun hc3=>?_) fun hc3=>?_))))))
 .
  have h2:=Uz hc (.inl (by simpa using hc2));have hg0:=Hq (t:=t) (k:=0) (by omega);have hg1:=Hq (t:=t) (k:=1) (by omega);have hb2:=ev_kid (Lw ht (Aj hg0));refine AW.seq ?_;refine Ok ?_;refine Qn 0 rfl (Qf Oq) (Qn 1 rfl Ew ?_);refine Qn 2 rfl (E9 Ak rfl rfl (by decide) (F1 hg1)) ?_;refine Qn 3 rfl (C1 Ak) (Qn 5 rfl (Qf Oq) (Qn 6 rfl Ew ?_));refine Qn 7 rfl (E9 Ak rfl rfl (by decide) (F1 hg0)) ?_;refine Qn 8 rfl (C1 Ak) (Qn 9 rfl (Qc rfl (ih _ (Aj hg0) (Lw ht (Aj hg0)) (Uy hc h5 hg0 fun _=>rfl))) ?_);refine qE 4 rfl (Hk (es:=[Ak]) tok rfl rfl rfl rfl rfl rfl rfl rfl rfl) ?_;rintro _ _ ⟨v18,rfl,rfl⟩;refine qE 10 rfl (Vc 0 rfl (scSyn _) (D5 rfl) (by simp at hb2 ⊢;omega) (by simp [maxLen] at hb2 ⊢;omega)) ?_;rintro _ _ ⟨v24,rfl,rfl⟩;refine Qn 11 rfl (Ad (v:=.row _ _ _) rfl) ?_;refine Iw ?_;refine Aa ?_;refine AW.ghost (GS.unrow 2 rfl) ?_;refine AW.ret (Dw (A4 ?_));refine Yx [.sl _ _] Ze S1 ?_;exact Ye (AV.sl 6) (evs_2 hc1 hc2 (by omega))
 .
  have h2:=Uz hc (.inr (by simpa using hc3));have hg0:=Hq (t:=t) (k:=0) (by omega);refine Af (Qp (Qf Oq) (Qp Ew ?_));refine Qp (E9 Ak rfl rfl (by decide) (F1 hg0)) ?_;refine Qp (C1 Ak) (Qp (Qc rfl (ih _ (Aj hg0) (Lw ht (Aj hg0)) (Uy hc h5 hg0 fun _=>rfl))) ?_);refine Qp jF (Ra (Qr (.sl _ _) ?_));exact Ye (fun q:List Syn=>AV.sl 6 (q.map Cu)) (evs_3 hc1 hc2 hc3 (by omega))
 have hn:¬(t.kind=10\/t.kind=12):=fun hq=>hq.elim (by simpa using hc2) (by simpa using hc3)
 have hkl:=Wq ht;refine Rf (Af (Qp O2 ?_));refine AOL.ghost (GS.row (t:=3) 25 6 rfl) ?_;refine A2 (Cg (Qp (Qf Oq) (Qp Ew ?_)));refine Qp (G1 t.kids.length rfl rfl (by simp)) ?_;refine Qp A0 (A2 (AW.block ?_));refine AW.loopS (fun (p:Nat×List (List AV)×Value)=>(⟨[(1,.ptr (cSyn t)),(3,.row p.2.2 6 p.2.1),(33,.sl 6 (t.kids.map Cu)),(34,.int .i64 t.kids.length),(35,.int .i64 (p.1:Int))],.row p.2.2 p.2.1.length 25 6::H,45⟩:St)) (fun p=>p.1<=t.kids.length/\p.2.1=((t.kids.take p.1).flatMap Xc).map Cu) (fun p=>t.kids.length-p.1) ((0,[],.slice none 0 0)) ?_ Dh ?_
 . exact ⟨A7 _,rfl⟩
 rintro p hR;refine Af (Qp Cv (Re (Gn (fun hc4=>?_) fun hc4=>?_)))
 .
  obtain ⟨a,ha⟩:=C2 hc4;have hlt:=Cc ha;have hm:=Aj ha;have hsc:∀c∈p.2.1,Au c=true:=by rw [hR.2];exact scSyn _
  have hb1:p.2.1.length<=1000000:=by rw [hR.2];exact ev_part ht _
  have hb2:=ev_kid (Lw ht hm);refine B6 (AW.seq (AW.block (Af ?_)));refine Qp (E9 Ak rfl rfl (by omega) (F1 ha)) ?_;refine Qp (C1 Ak) (D7 In fun b5=>?_);refine Bz 0 Ak (_::_::_) ?_;refine Kh 5 0 rfl ?_;refine A2 (AW.region (Qp (Ab (v:=.row _ _ _) rfl) (Qp (C1 Ak) (Qp (Qc rfl (ih a hm (Lw ht hm) (Uy hc h5 ha fun hq=>absurd hq hn))) ?_))));refine Qe (Vc 0 rfl (scSyn _) (hsc) (by simp at hb1 hb2 ⊢;omega) (by simp [maxLen] at hb1 hb2 ⊢;omega)) ?_;rintro _ _ ⟨v42,rfl,rfl⟩;refine Qp (Ad (v:=.row _ _ _) rfl) (Rk (AW.region (Qp Hb (Qp A0 (A2 ?_)))));refine ⟨(p.1+1,p.2.1++(Xc a).map Cu,v42),?_,?_,Dh⟩
  . exact ⟨hlt,by simp only;rw [Cs ha,hR.2];simp⟩
  simp only;omega
 have hte:=Dt hc4;have hall:=hR.2;rw [hte] at hall;refine AW.exit ?_;refine Br (Ri (Af ?_));refine Qp (Ab (v:=.row _ _ _) rfl) ?_;refine AOL.ghost (GS.unrow 44 rfl) ?_;refine Qp jF (Rb ?_);refine Yx [.sl _ _] Ze S1 ?_;exact (congrArg (AV.sl 6) hall).trans (congrArg (fun q:List Syn=>AV.sl 6 (q.map Cu)) (evs_4 hc1 hc2 hc3)).symm
theorem rf_ops  : Ap Tryz.prog 94 [] (.mapv opL):=by
 refine Fl 3 Tryz.func94 rfl fun H=>?_
 refine Af (Qp O2 (B7 (Qe (Yq) ?_)));rintro _ _ ⟨b1,rfl,rfl⟩;refine Rt (Eb (i:=0) (x:=Iq _) (H2:=_::_) tok rfl rfl rfl rfl rfl rfl rfl rfl rfl rfl) (Rt (Eb (i:=0) (x:=Iq _) (H2:=_::_) tok rfl rfl rfl rfl rfl rfl rfl rfl rfl rfl) (Rt (Eb (i:=0) (x:=Iq _) (H2:=_::_) tok rfl rfl rfl rfl rfl rfl rfl rfl rfl rfl) (Rt (Eb (i:=0) (x:=Iq _) (H2:=_::_) tok rfl rfl rfl rfl rfl rfl rfl rfl rfl rfl) (Rt (Eb (i:=0) (x:=Iq _) (H2:=_::_) tok rfl rfl rfl rfl rfl rfl rfl rfl rfl rfl) (Rt (Eb (i:=0) (x:=Iq _) (H2:=_::_) tok rfl rfl rfl rfl rfl rfl rfl rfl rfl rfl) (Rt (Eb (i:=0) (x:=Iq _) (H2:=_::_) tok rfl rfl rfl rfl rfl rfl rfl rfl rfl rfl) (Rt (Eb (i:=0) (x:=Iq _) (H2:=_::_) tok rfl rfl rfl rfl rfl rfl rfl rfl rfl rfl) ?_)))))));refine AOL.ghost (GS.freezeMap (t:=1) 0 rfl rfl) ?_;refine Qp (Ab (v:=.mapv _) rfl) (Qp (Ad (v:=.mapv _) rfl) (Rb (Qr (.mapv _) ?_)));rfl
theorem pC (T:List e8Sc)(V:List Va)(s:Nx)(hs:0<=s.scopes/\s.scopes<=3000000)(p:Pt)(bp pp:Nat)(H:List HO):Bt Tryz.prog 96 (.box pp 55 (cPt p) :: .box bp 126 (Ys T V s)::H) [.val (.pointer (some ⟨bp,0,none⟩)),.val (.pointer (some ⟨pp,0,none⟩))] (fun r H'=>r = .tuple []/\H' = .box pp 55 (cPt { p with scope:=s.scopes }) :: .box bp 126 (Ys T V ⟨s.next,s.scopes+1⟩)::H):=by
 refine H7 18 Tryz.func96 rfl ?_;refine Af (Qp Bu (Qp Bu ?_));refine Qp (Ae rfl) ?_;refine Qp Cw ?_;refine Pz 1 (Iq _) rfl ?_;refine Qp (Ae rfl) ?_;refine Qp Cw ?_;refine Bz 0 Gq (_::_::_) ?_;refine A2 (AW.region (Qp Bu ?_));refine Qp (Ae rfl) ?_;refine Qp Cw ?_;refine Pz 1 (Iq _) rfl ?_;refine Qp Hb ?_;refine Qp (Ae rfl) ?_;refine Qp Cw ?_;refine Bz 1 [_,_,_,_,Iq _,Iq _] (_::_::_) ?_;refine AOL.nil ?_;refine ⟨.inl rfl,[],.nil,_,.refl _,?_⟩;exact ⟨rfl,rfl⟩
theorem vV (T:List e8Sc)(V:List Va)(s:Nx)(hs:0<=s.next/\s.next<=3000000)(p:Pt)(bp pp:Nat)(hrv:RvOK T V)(t:Syn)(ht:U7 t)(hw:0<t.kids.length->(H4 T V (B5 t 0)).err=0)(H:List HO):Bt Tryz.prog 95 (.box pp 55 (cPt p) :: .box bp 126 (Ys T V s)::H) [.val (.pointer (some ⟨bp,0,none⟩)),.val (.pointer (some ⟨pp,0,none⟩)),.agg (cSyn t)] (fun r H'=>r = .tuple []/\H' = .box pp 55 (cPt { p with type:=Tr (G0 T) t.text,var:=s.next,cond:=P4 T V t }) :: .box bp 126 (Ys T V ⟨s.next+1,s.scopes⟩)::H):=by
 refine H7 47 Tryz.func95 rfl ?_;refine Af (Qp (Ik Ak) (Re (Pq 1 rfl (Qn 0 rfl Bu (Qn 1 rfl Bu (Qn 2 rfl Bu (Qn 3 rfl Bu (Qn 4 rfl (Ae rfl) (Qn 5 rfl Cw (Qn 6 rfl (Lb (.smapv _) rfl) (Qn 7 rfl (Qf Vx) (Qn 8 rfl F4 ?_))))))))))));refine Qn 9 rfl (lX (es:=Pj (G0 T)) tok rfl rfl rfl rfl rfl (by kernel_rfl) rfl rfl (T6 _ _ rfl)) ?_;refine Qn 10 rfl Bu (Qn 11 rfl (Ae rfl) (Qn 12 rfl Cw (Qn 13 rfl (Lb (Iq _) rfl) (Qn 14 rfl (Qc rfl (pD)) (Qn 15 rfl (Ae rfl) (Qn 16 rfl Cw ?_))))));refine Vr 17 rfl (Ki 0 (Iq _) Gq (_::_::_) rfl) (by rintro _ _ ⟨rfl,rfl⟩;simp) ?_;rintro _ _ ⟨rfl,rfl⟩;refine Qn 18 rfl (Ae rfl) (Qn 19 rfl Cw ?_);refine Vr 20 rfl (Ki 0 (Iq _) Gq (_::_::_) rfl) (by rintro _ _ ⟨rfl,rfl⟩;simp) ?_;rintro _ _ ⟨rfl,rfl⟩;refine Qn 21 rfl (Ae rfl) (Qn 22 rfl Cw ?_);refine bF 23 rfl (Ki 0 (.agg _) Gq (_::_::_) rfl) ?_;rintro _ _ ⟨rfl,rfl⟩;refine Aa (Af (Qp Bu (Qp (Ae rfl) (Qp Cw (Pz 1 (Iq _) rfl (Qp Hb (Qp (Ae rfl) (Qp Cw ?_))))))));refine Bz 1 [_,_,_,_,Iq _,Iq _] (_::_::_) (B7 (Qp (Qf Oq) (Qp Ew ?_)));refine Qp (G1 t.kids.length rfl rfl (by simp)) ?_;refine Qp Hc (Bp (fun hc1=>?_) fun hc1=>AW.skip ?_)
 .
  have h0:0<t.kids.length:=by have:=C6 hc1;omega
  refine AW.region (Qp Bu (Qp Bu (Qp (Qf Oq) (Qp Ew ?_))));refine Qp (E9 Ak rfl rfl (by decide) (F1 (Hq h0))) ?_;refine Qp (C1 Ak) ?_;refine AOL.Aaz (Cj (k:=1) (by kernel_rfl) rfl rfl (kW T V ⟨s.next+1,s.scopes⟩ bp hrv (B5 t 0) (kJ ht h0) (hw h0))) rfl rfl ?_;refine Qp (Ae rfl) (Qp Cw ?_);refine Bz 0 Gq (_::_::_) (AOL.nil ?_);refine ⟨.inl rfl,[],.nil,_,.refl _,?_⟩;exact ⟨rfl,congrArg (fun q:Ex=>(.box pp 55 (cPt { p with type:=Tr (G0 T) t.text,var:=s.next,cond:=q }) :: .box bp 126 (Ys T V ⟨s.next+1,s.scopes⟩)::H:List HO)) (cond_1 hc1).symm⟩
 refine ⟨.inl rfl,[],.nil,_,.refl _,?_⟩;exact ⟨rfl,congrArg (fun q:Ex=>(.box pp 55 (cPt { p with type:=Tr (G0 T) t.text,var:=s.next,cond:=q }) :: .box bp 126 (Ys T V ⟨s.next+1,s.scopes⟩)::H:List HO)) (cond_2 hc1).symm⟩
theorem rf_allP (T:List e8Sc)(V:List Va)(s:Nx)(bp:Nat)(l:List Syn)(hl:l.length<=1048576)(hs:NxOK s (G3 l))(hf:∀a∈l,∀s:Nx,NxOK s (Jd a)->Bf Tryz.prog 50 bp 126 (Ys T V s) (Ys T V (Kc T V a s).2) [.val (.pointer (some ⟨bp,0,none⟩)),.agg (cSyn a)] (.agg (cPt (Kc T V a s).1))):Bf Tryz.prog 97 bp 126 (Ys T V s) (Ys T V (Gy T V l s).2) [.sl 6 (l.map Cu),.fn (.func 50) [.val (.pointer (some ⟨bp,0,none⟩))] []] (.sl 14 ((Gy T V l s).1.map Tj)):=by
 intro H;refine H7 22 Tryz.func97 rfl ?_;refine Af (Qp (Cb (z:=14) rfl) (B7 (Qp O2 ?_)));refine AOL.ghost (GS.row (t:=5) 55 14 rfl) ?_;refine A2 (Cg (Qp Mm ?_));refine Qp (G1 l.length rfl rfl (by simp)) ?_;refine Qp A0 (A2 (AW.block ?_));refine AW.loopS (fun (q:Nat×List (List AV)×Value×Nx)=>(⟨[(0,.sl 6 (l.map Cu)),(1,.fn (.func 50) [.val (.pointer (some ⟨bp,0,none⟩))] []),(5,.row q.2.2.1 14 q.2.1),(8,.sl 6 (l.map Cu)),(9,.int .i64 l.length),(10,.int .i64 (q.1:Int))],.row q.2.2.1 q.2.1.length 55 14 :: .box bp 126 (Ys T V q.2.2.2)::H,22⟩:St)) (fun q=>q.1<=l.length/\NxOK q.2.2.2 (G3 (l.drop q.1))/\q.2.1=(Gy T V (l.take q.1) s).1.map Tj/\q.2.2.2=(Gy T V (l.take q.1) s).2/\q.2.1.length<=q.1) (fun q=>l.length-q.1) ((0,[],.slice none 0 0,s)) ?_ Dh ?_
 . exact ⟨A7 _,hs,rfl,rfl,Bc _⟩
 rintro q hR;refine Af (Qp Cv (Re (Gn (fun hc1=>?_) fun hc1=>?_)))
 .
  obtain ⟨a,ha⟩:=C2 hc1;have hlt:=Cc ha;have hm:=Aj ha;have hsc:∀c∈q.2.1,Au c=true:=by rw [hR.2.2.1];exact scPt _
  have hnx:=nx_on (T:=T) (V:=V) ha hR.2.1;have hql:=hR.2.2.2.2;refine B6 (AW.seq (AW.block (Af ?_)));refine Qp (E9 Ak rfl rfl (by omega) (F1 ha)) ?_;refine Qp (C1 Ak) (D7 In fun b7=>?_);refine Bz 0 Ak (_::_::_::_) ?_;refine Kh 7 0 rfl ?_;refine A2 (AW.region (Qp (Ab (v:=.row _ _ _) rfl) (Qp (Ab (v:=.fn _ _ _) rfl) (Qp (C1 Ak) ?_))));refine Rt (Kr (by kernel_rfl) rfl rfl rfl ((hf a hm q.2.2.2 hnx.1).at (k:=1) (H2:=_::_::_) rfl rfl)) ?_;refine Qp (Ir [Gq] rfl) ?_;refine Qe (Vc 0 rfl (D5 rfl) (hsc) (by simp;omega) (by simp [maxLen];omega)) ?_;rintro _ _ ⟨v19,rfl,rfl⟩;refine Qp (Ad (v:=.row _ _ _) rfl) (Rk (AW.region (Qp Hb (Qp A0 (A2 ?_)))));refine ⟨(q.1+1,q.2.1 ++ [cPt (Kc T V a q.2.2.2).1],v19,(Kc T V a q.2.2.2).2),?_,?_,Dh⟩
  . exact ⟨hlt,hnx.2,by simp only;rw [oT ha,hR.2.2.1,<-hR.2.2.2.1];simp [jS],by simp only;rw [oT ha,<-hR.2.2.2.1],by simp;omega⟩
  simp only;omega
 have hte:=Dt hc1;have hall:=hR.2.2.1;have hst:=hR.2.2.2.1;rw [hte] at hall hst;refine AW.exit ?_;refine Br (Ri (Af ?_));refine Qp (Ab (v:=.row _ _ _) rfl) ?_;refine AOL.ghost (GS.unrow 21 rfl) ?_;refine Qp jF (Rb ?_);refine ⟨.inr rfl,[.sl _ _],Ze,_,S1,?_⟩;exact ⟨Eq.trans rfl (congrArg (AV.sl 14) hall),congrArg (fun x:Nx=>(.box bp 126 (Ys T V x)::H:List HO)) hst⟩
theorem sO (T:List e8Sc)(V:List Va)(s:Nx)(bp:Nat)(hrv:RvOK T V)(t:Syn)(ht:U7 t)(hc:B4 t .pats=0)(hw:(H4 T V t).err=0)(hs:NxOK s (Jd t)):Bf Tryz.prog 50 bp 126 (Ys T V s) (Ys T V (Kc T V t s).2) [.val (.pointer (some ⟨bp,0,none⟩)),.agg (cSyn t)] (.agg (cPt (Kc T V t s).1)):=by
 intro H
 revert H
 revert s
 induction t using Syn.ind
 rename_i t ih;intro s hs H;have hrg:=Zp hc;have hnx:=nxn_ok hs;refine H7 59 Tryz.func50 rfl ?_;refine Af (Qp (Ik Ak) (D7 ggx fun b4=>Re ?_));refine Ok ?_;refine Qn 0 rfl (Qc rfl (rf_ops)) (Qn 1 rfl (Qf Ak) (Qn 2 rfl Cd (Qn 3 rfl (Xf tok rfl rfl rfl rfl rfl rfl (op_get hrg.1 hrg.2)) (Qn 4 rfl (E2 Gq) ?_))));refine qE 5 rfl (Dg (l:=ggx) (by kernel_rfl)) ?_;rintro _ _ ⟨b5,rfl,rfl⟩;refine Ns 6 rfl (Ki 0 (.agg _) Gq (_::_::_::_) rfl) ?_;refine Iw ?_;refine Aa (Af (Qp (Qf Oq) (Qp Ew (Qp jF (A2 ?_)))));refine AW.cut (fun (q:Pt×Nx×List Syn)=>(⟨[(0,.val (.pointer (some ⟨bp,0,none⟩))),(4,.val (.pointer (some ⟨b4,0,none⟩))),(5,.val (.pointer (some ⟨b5,0,none⟩))),(6,.sl 6 (q.2.2.map Cu))],.box b5 55 (cPt q.1) :: .box bp 126 (Ys T V q.2.1) :: .box b4 55 (cPt pt0)::H,59⟩:St)) (fun q=>q.1=Qu T V t s []/\q.2.1=Zn t s/\q.2.2=Hj t) ?_ ?_
 .
  refine Af (Qp (Qf Ak) (Qp Cd (A2 (AW.block (Af (Qp Bq (Qp Bh (Bp (fun hc1=>Af (Qp Bu (Qp (C1 Ak) ?_))) fun hc1=>Af (Qp Bq (Qp Bh (Bp (fun hc2=>?_) fun hc2=>Af (Qp Bq (Qp Bh (Bp (fun hc3=>Af (Qp Bu ?_)) fun hc3=>Af (Qp Bq (Qp Bh (Bp (fun hc4=>?_) fun hc4=>Rf ?_)))))))))))))))))
  .
   refine Rt (Dc rfl (Bt.front2 (R:=_::_) 2 0 rfl rfl rfl (vV T V s ⟨hs.a,by have:=hs.c;omega⟩ ⟨t.kind-5,[],0,0,0,0,qF⟩ bp b5 hrv t ht (fun h=>Xu hw h) _))) ?_;refine A2 (AW.region (Qp (Cb (z:=6) rfl) (Rk ?_)));refine ⟨(⟨t.kind-5,[],Tr (G0 T) t.text,s.next,0,0,P4 T V t⟩,⟨s.next+1,s.scopes⟩,[]),?_,GS.trans (GS.refl _) Dh⟩;exact ⟨pn_5 hc1,(nxn_5 hc1).symm,(pk_5 hc1).symm⟩
  .
   have h2:=Uz hc (.inl (by simpa using hc2));have h1:1<t.kids.length:=by omega
   refine Af (Qp Bu ?_);refine Rt (Dc rfl (Bt.front2 (R:=_::_) 2 0 rfl rfl rfl (pC T V s ⟨hs.b,by have:=hs.d;omega⟩ ⟨t.kind-5,[],0,0,0,0,qF⟩ bp b5 _))) ?_;refine B7 (Qp Bu (Qp (Qf Oq) (Qp Ew ?_)));refine Qp (E9 Ak rfl rfl (by decide) (F1 (Hq h1))) ?_;refine Qp (C1 Ak) ?_;refine Rt (Dc rfl (Bt.front2 (R:=_::_) 1 0 rfl rfl rfl (vV T V ⟨s.next,s.scopes+1⟩ ⟨hs.a,by have:=hs.c;simp only;omega⟩ ⟨t.kind-5,[],0,0,s.scopes,0,qF⟩ bp b5 hrv (B5 t 1) (kJ ht h1) (fun h=>Xu (Xu hw h1) h) _))) ?_;refine A2 (AW.region (Qp (Qf Oq) (Qp Ew ?_)));refine Qp (Nr (l:=0) (h:=1) tok rfl rfl rfl rfl rfl (rfl) (⟨_,rfl⟩) (by decide) (by rw [By];omega) ((by rw [Oi,<-List.map_take]))) ?_;refine Qp jF (Rk ?_);refine ⟨(⟨t.kind-5,[],Tr (G0 T) (B5 t 1).text,s.next,s.scopes,0,P4 T V (B5 t 1)⟩,⟨s.next+1,s.scopes+1⟩,t.kids.take 1),?_,GS.trans (GS.refl _) Dh⟩;exact ⟨pn_10 hc1 hc2,(nxn_10 hc2).symm,(pk_10 hc1 hc2).symm⟩
  .
   refine Rt (Dc rfl (Bt.front2 (R:=_::_) 2 0 rfl rfl rfl (pC T V s ⟨hs.b,by have:=hs.d;omega⟩ ⟨t.kind-5,[],0,0,0,0,qF⟩ bp b5 _))) ?_;refine A2 (AW.region (Qp (Qf Yn) (Qp Cd (Qp Cw ?_))));refine Bz 0 Gq (_::_::_::_) (Rk ?_);refine ⟨(⟨t.kind-5,[],0,0,s.scopes,t.num,qF⟩,⟨s.next,s.scopes+1⟩,t.kids),?_,GS.trans (GS.refl _) Dh⟩;exact ⟨pn_11 hc1 hc2 hc3,(nxn_11 hc3).symm,(pk_o hc1 hc2 (by have h:t.kind=11:=(by simpa using hc3);simp [h])).symm⟩
  .
   have h2:=Uz hc (.inr (by simpa using hc4));have h1:1<t.kids.length:=by omega
   refine Af (Qp Bu (Qp (Qf Oq) (Qp Ew ?_)));refine Qp (E9 Ak rfl rfl (by decide) (F1 (Hq h1))) ?_;refine Qp (C1 Ak) ?_;refine AOL.Aaz (Cj (k:=2) (by kernel_rfl) rfl rfl (kW T V s bp hrv (B5 t 1) (kJ ht h1) (Xu hw h1))) rfl rfl ?_;refine Qp Cw ?_;refine Bz 0 Gq (_::_::_::_) (A2 (AW.region (Qp (Qf Oq) (Qp Ew ?_))));refine Qp (Nr (l:=0) (h:=1) tok rfl rfl rfl rfl rfl (rfl) (⟨_,rfl⟩) (by decide) (by rw [By];omega) ((by rw [Oi,<-List.map_take]))) ?_;refine Qp jF (Rk ?_);refine ⟨(⟨t.kind-5,[],0,0,0,0,F6 T V (B5 t 1)⟩,s,t.kids.take 1),?_,GS.trans (GS.perm (List.Perm.cons _ (List.Perm.swap _ _ _))) Dh⟩;exact ⟨pn_12 hc1 hc2 hc3 hc4,(nxn_o hc1 hc2 hc3).symm,(pk_12 hc1 hc4).symm⟩
  refine ⟨(⟨t.kind-5,[],0,0,0,0,qF⟩,s,t.kids),?_,GS.trans (GS.perm (List.Perm.cons _ (List.Perm.swap _ _ _))) Dh⟩;exact ⟨(ptn_o hc1 hc2 hc3 hc4).symm,(nxn_o hc1 hc2 hc3).symm,(pk_o hc1 hc2 hc4).symm⟩
 rintro ⟨p,s1,ks⟩ hQ;obtain ⟨h1,h2,h3⟩:=hQ;simp only at h1 h2 h3;subst h1 h2 h3;have hnk:NxOK (Zn t s) (G3 (Hj t)):=by have h:=bL t;have h9:=hnx.1;exact ⟨h9.a,h9.b,by have:=h9.c;omega,by have:=h9.d;omega⟩
 refine Af (Qp Mm (Qp Bu (Qp (B0 (l:=[.val _]) (l':=[]) rfl rfl) (qD ((rf_allP T V _ bp (Hj t) (pk_len ht) hnk (fun a ha s hs=>fun R=>ih a (eJ ha) (Lw ht (eJ ha)) (oL hc ha) ((Kn hw).2 a (eJ ha)) s hs R)).at (k:=1) (H2:=_::_::_::_) rfl rfl) ?_))));refine Qp Cw ?_;refine Bz 0 Gq (_::_::_::_) (B7 (O3 0 Gq rfl ?_));refine Bz 2 Gq (_::_::_::_) (Rb ?_);refine ⟨.inr rfl,[.agg Gq],.cons (.box _ _ _ 2 _ _ _ _ rfl rfl rfl rfl rfl rfl) <| .nil,_,.cons _ (.cons_cons _ (.cons _ (.refl _))),?_⟩;exact ⟨Eq.trans rfl (congrArg (fun q:Pt×Nx=>AV.agg (cPt q.1)) (eL t s).symm),congrArg (fun q:Pt×Nx=>(.box bp 126 (Ys T V q.2)::H:List HO)) (eL t s).symm⟩
end Go.Proofs.YtibcelnfkhdjaaaGreatDoor
namespace Go.Aw
open Go
section
variable {P:Program} {T:List (Nat×TD)} {d:Option Nat} {ty:TypeId} {pos:String} {aft:Array Edge} {gd:Option (Nat×Bool)} {ρ:Operand->AV}
end
end Go.Aw
namespace Go.Proofs.YtibcelnfkhdjaaaGreatDoor
open Go Go.Aw
theorem pJ (H:List HO)(n:Nat)(h0:0<n)(hn:n<=1048576):Bt Tryz.prog 91 H [.sl 1 [[.int .i64 (-1)]],.int .i64 (n:Int)] (fun r H'=>∃b,r = .val (.slice (some ⟨b,0,none⟩) n n)/\H' = .box b 3 (bI (dZ n))::H):=by
 have hmx:1048576<=maxLen:=by decide
 refine H7 48 Tryz.func91 rfl ?_;refine Af (Qp (Cb (z:=1) rfl) (A2 (Cg (Qp A0 (Qp Cv (Bp (fun hc1=>?_) fun hc1=>?_))))))
 .
  have:=C6 hc1;omega
 refine B6 (Af (Qp Mm (Qp (G1 1 rfl rfl (rfl)) (Qp (bZ (m:=1) tok rfl rfl rfl rfl rfl (rfl)) (Qp A0 (Qp (bZ (m:=(n:Int)) tok rfl rfl rfl rfl rfl (u64_in hn)) (Qp (Qc rfl (kMul1 n hn)) (Qp Th (Qp (A6 (v:=.int .u64 _) rfl rfl) (Qp (A6 (v:=.int .u64 _) rfl rfl) (Qp (Ad (v:=.int .u64 _) rfl) (Qp (Ad (v:=.int .u64 _) rfl) (A2 (Cg (Qp (Ab (v:=.int .u64 _) rfl) (Qp Hc (Qp Co (Qg [] Qw (Ab (v:=.int .u64 _) rfl) (Qg [(24,_)] Qw Hc (Qp Gv (Bp (fun hc2=>?_) fun hc2=>B6 (Af (Qp (Ab (v:=.int .u64 _) rfl) (Qp (bZ (m:=(n:Int)) tok rfl rfl rfl rfl rfl (i64_in hn)) ?_))))))))))))))))))))))))
 . exact absurd hc2 (by simp;omega)
 refine Qe (aD (n:=n) tok rfl rfl rfl rfl rfl rfl rfl (by show 8*n<=_;omega) (by omega)) ?_;rintro _ _ ⟨b30,rfl,rfl⟩;refine Qp O2 ?_;refine AOL.ghost (GS.cells 0 rfl ((bI_zero n).trans (congrArg bI (show List.replicate n 0=N9 n 0 by simp [N9])))) ?_;refine B7 (Qp Bu (Qp Mm ?_));refine Rt (zO (k:=0) (m:=1) (cs':=bI (N9 n 1)) (H2:=_::_) tok rfl rfl rfl rfl rfl rfl rfl (by simp) (D5 rfl) (Nat.min_eq_left (by show 1<=n;omega)) (by rw [cG,eO (by omega)];omega) (sJ h0) rfl) ?_;refine Qp Ax (Re (AW.block ?_));refine AW.loopS (fun (k:Nat)=>(⟨[(7,.val (.slice (some ⟨b30,0,none⟩) n n)),(8,.int .i64 (k:Int))],.box b30 3 (bI (N9 n k))::H,48⟩:St)) (fun k=>1<=k/\k<=n) (fun k=>n-k) (1) ?_ Dh ?_
 . exact ⟨Bc _,h0⟩
 rintro k hR;refine Cg (Qp A0 (Qp Bu (Qp (Pv tok rfl rfl rfl) (Qp Cv (Bp (fun hc3=>?_) fun hc3=>?_)))))
 .
  have hlt:k<n:=by have:=C6 hc3;omega
  refine B6 (AW.block ?_);refine Ok ?_;refine Qn 0 rfl A0 (Qn 1 rfl Bu (Qn 2 rfl A0 ?_));refine Qn 3 rfl (aG (l:=k) (h:=n) (o':=k) tok rfl rfl rfl rfl rfl (⟨_,rfl⟩) (rfl) (by omega) (by omega) (by omega) (by omega) (by simp)) ?_;refine Qn 4 rfl Bu (Qn 5 rfl A0 ?_);refine Qn 6 rfl (aG (l:=0) (h:=k) (o':=0) tok rfl rfl rfl rfl rfl (rfl) (⟨_,rfl⟩) (by omega) (by omega) (by omega) (by omega) (rfl)) ?_;refine Ns 7 rfl (wT (k:=0) (m:=min k (n-k)) (cs':=bI (N9 n (k+min k (n-k)))) (H2:=_::_) tok rfl rfl rfl rfl rfl rfl rfl (bI_sc _) (by first | rfl | (simp only [Nat.sub_zero];done) | (simp only [Nat.sub_zero];rfl)) (by rw [cG,eO hR.2];omega) (by rw [cG,eO hR.2];omega) (yK (by omega) (by omega)) rfl) ?_;refine Qn 8 rfl Hb (Qn 9 rfl Ax ?_);refine Iw ?_;refine Ff (Aa ?_);refine ⟨k+min k (n-k),?_,?_,Dh⟩
  . omega
  omega
 have hkn:k=n:=by have:=Er hc3;omega
 refine AW.exit ?_;refine Br (Ri (Af (Qp Bu (Qp O2 (Rb ?_)))));refine ⟨.inr rfl,[.val _],Ze,_,S0,?_⟩;exact ⟨b30,rfl,congrArg (fun l=>HO.box b30 3 (bI l)::H) ((congrArg (N9 n) hkn).trans (yL n))⟩
abbrev lZ (q:List Int×Bool):AV:=AV.tuple [.sl 1 (q.1.map cI),.bool q.2]
theorem rf_key (T:List e8Sc)(V:List Va)(s:Nx)(bp:Nat)(hrv:RvOK T V)(n:Ag)(hT:0<T.length):Bf Tryz.prog 48 bp 126 (Ys T V s) (Ys T V s) [.val (.pointer (some ⟨bp,0,none⟩)),.str n] (.tuple [.sl 1 ((O0 T V n).1.map cI),.bool (O0 T V n).2]):=by
 intro H;have htl:=hrv.tl;have hvl:=hrv.vl;refine H7 47 Tryz.func48 rfl ?_;refine Af (Qp (Cb (z:=1) rfl) (Qp Bh (B7 (Qp (Ir ([[Iq _]]) rfl) (Qp Bu (Qp (Ae rfl) (Qp Cw (Pz 0 (.sl _ _) rfl ?_))))))));refine Qp (G1 T.length rfl rfl (by simp)) ?_;refine Qe (Dc rfl (pJ _ T.length hT hrv.tl)) ?_;rintro _ _ ⟨b15,rfl,rfl⟩;refine Qp O2 (A2 (Cg (Qp Bu (Qp (Ae rfl) (Qp Cw (Pz 1 (.sl _ _) rfl ?_))))));refine Qp (G1 V.length rfl rfl (by simp)) ?_;refine Qp A0 (A2 (AW.block ?_));refine AW.loopS (fun (q:Nat×List Int)=>(⟨[(0,.val (.pointer (some ⟨bp,0,none⟩))),(1,.str n),(6,.val (.slice (some ⟨b15,0,none⟩) T.length T.length)),(19,.sl 2 (V.map Rd)),(20,.int .i64 V.length),(21,.int .i64 (q.1:Int))],.box b15 3 (bI q.2) :: .box bp 126 (Ys T V s)::H,47⟩:St)) (fun q=>q.1<=V.length/\q.2.length=T.length/\O0 T V n=O8 T n (V.drop q.1) q.2) (fun q=>V.length-q.1) ((0,dZ T.length)) ?_ Dh ?_
 . exact ⟨A7 _,by simp [dZ],rfl⟩
 rintro q hR;refine Af (Qp Cv (Re (Gn (fun hc1=>?_) fun hc1=>?_)))
 .
  obtain ⟨a,ha⟩:=C2 hc1;have hlt:=Cc ha;have hm:=Aj ha;have hvt:=hrv.ty a hm;refine (fA hrv hm).elim fun sc hsc=>?_
  have hfl:=hrv.fl sc (Aj hsc);have hb:a.type.toNat<q.2.length:=by have:=hR.2.1;omega
  refine B6 (AW.seq (AW.block (Af ?_)));refine Qp (E9 Iy rfl rfl (by omega) (Cf ha)) ?_;refine Qp (C1 Iy) (D7 gix fun b8=>?_);refine Bz 0 Iy (_::_::_::_) ?_;refine Kh 8 0 rfl ?_;refine Re (Pq 1 rfl (Qn 0 rfl Bu (Qn 1 rfl (Qf [Iq _]) (Qn 2 rfl Cd (Qn 3 rfl Bu (Qn 4 rfl (Ae rfl) (Qn 5 rfl Cw (Qn 6 rfl (Lb (.sl _ _) rfl) ?_))))))));refine Qn 7 rfl (Qf [Iq _]) (Qn 8 rfl Cd (Qn 9 rfl (E9 M7 rfl rfl (hvt.1) (Cf hsc)) (Qn 10 rfl (C1 M7) (Qn 11 rfl Gu (Qn 12 rfl (Qc rfl (Mk sc hfl n)) (Qn 13 rfl (Cp (o':=a.type.toNat) tok rfl rfl rfl rfl rfl (hvt.1) (hvt.2) (off0 _)) ?_))))));refine bF 14 rfl (Dj (k:=0) (v:=Iq _) (cs':=bI (q.2.set a.type.toNat (Ey sc n))) (H2:=_::_::_) tok rfl rfl rfl rfl rfl rfl (tZ hb) (qP hb) rfl) ?_;rintro _ _ ⟨rfl,rfl⟩;refine Aa (Af (Qp Bu (Qp (Qf [Iq _]) (Qp Cd (Qp (Cp (o':=a.type.toNat) tok rfl rfl rfl rfl rfl (hvt.1) (hvt.2) (off0 _)) (AOL.Aaz (B8 (k:=0) (c:=.int .i64 (Ey sc n)) tok rfl rfl rfl (gL hb)) rfl rfl (Qp Cv (Bp (fun hc2=>Af (Qp (Cb (z:=1) rfl) (Qp Bh (Ra (A4 (Dw (A4 ?_))))))) fun hc2=>Rf (AW.region (Qp Hb (Qp A0 (A2 ?_))))))))))))
  .
   refine ⟨.inr rfl,[.sl _ _,.bool _],Zf,_,S1,?_⟩;exact ⟨Ye lZ (hR.2.2.trans (vA ha hsc hc2)),rfl⟩
  refine ⟨(q.1+1,q.2.set a.type.toNat (Ey sc n)),?_,?_,Dh⟩
  . exact ⟨hlt,by simp only [Sr];exact hR.2.1,hR.2.2.trans (key_on ha hsc hc2)⟩
  simp only;omega
 have hde:=Gz hc1;have hall:=hR.2.2;rw [hde] at hall;refine AW.exit ?_;refine Br (Ri (Af ?_));refine AOL.ghost (GS.freezeSl (t:=6) (z:=1) (es:=q.2.map cI) 0 rfl rfl (uA _) (by rw [By];exact hR.2.1.symm) (Bc _) (by unfold maxLen;omega) (oF (fun _=>rfl) _) wB) ?_;refine Qp Mm (Qp jF (Qp Bh (Rb ?_)));refine ⟨.inr rfl,[.sl _ _,.bool _],Zf,_,S0,?_⟩;exact ⟨Ye lZ ((hall.trans (by rw [O8]):O0 T V n=(q.2,true))),rfl⟩
theorem e8c52 (op:Int):Ap Tryz.prog 162 [.int .i64 op] (.tuple [.bool (Km op).1,.bool (Km op).2]):=by
 refine Fl 11 Tryz.func162 rfl fun H=>?_
 refine Af (Qp Bh (Qp Bh (A2 (Cg (Qp A0 (A2 (AW.block (AW.seq ?_))))))));refine Af (Qp Bq (Qp Bh (Bp (fun hc1=>B6 (Gn (fun hc2=>Af (Qp Bh (Qp Bh (Ra (Nb (.bool _) (.bool _) ?_))))) fun hc2=>Cg (Qp Bq (Qp Bh (Bp (fun hc3=>B6 (Gn (fun hc4=>Af (Qp Bh (Qp Bh (Ra (Nb (.bool _) (.bool _) ?_))))) fun hc4=>Rf (Af (Qp Bh (Qp Bh (Rb (Nb (.bool _) (.bool _) ?_))))))) fun hc3=>?_))))) fun hc1=>?_)))
 . simp_all [Ah,Km]
 . simp_all [Ah,Km]
 . simp_all [Ah,Km]
 .
  refine AW.region (Qp Bq (Qp Bh (Bp (fun hc5=>Af (Qp Bh (Qp Bh (Ra (Nb (.bool _) (.bool _) ?_))))) fun hc5=>Rf (Af (Qp Bh (Qp Bh (Rb (Nb (.bool _) (.bool _) ?_))))))))
  . simp_all [Ah,Km]
  simp_all [Ah,Km]
 refine AW.region (Qp Bq (Qp Bh (Bp (fun hc6=>Af (Qp Bh (Qp Bh (Ra (Nb (.bool _) (.bool _) ?_))))) fun hc6=>Cg (Qp Bq (Qp Bh (Bp (fun hc7=>B6 (Gn (fun hc8=>Af (Qp Bh (Qp Bh (Ra (Nb (.bool _) (.bool _) ?_))))) fun hc8=>Rf (Af (Qp Bh (Qp Bh (Rb (Nb (.bool _) (.bool _) ?_))))))) fun hc7=>?_))))))
 . simp_all [Ah,Km]
 . simp_all [Ah,Km]
 . simp_all [Ah,Km]
 refine AW.region (Qp Bq (Qp Bh (Bp (fun hc9=>Af (Qp Bh (Qp Bh (Ra (Nb (.bool _) (.bool _) ?_))))) fun hc9=>Rf (Af (Qp Bh (Qp Bh (Rb (Nb (.bool _) (.bool _) ?_))))))))
 . simp_all [Ah,Km]
 simp_all [Ah,Km]
theorem c81 (op:Int):Ap Tryz.prog 161 [.int .i64 op] (.tuple [.int .i64 (Vs op),.bool (decide (0<=op/\op<=12))]):=by
 refine Fl 17 Tryz.func161 rfl fun H=>?_
 refine Af (Qp Ax (Qp Bh (Re (AW.block (Af (Qp A0 (Qp Cv (Qp Co (Qg [] Qw A0 (Qg [(8,_)] Qw Hc (Qp Gv (Qp Bh (Bp (fun hc1=>Af (Qp Ax (Qp Bh (Ra (Nb (Iq _) (.bool _) ?_))))) fun hc1=>?_)))))))))))))
 .
  simp only [Ii,Ft,Ea,I6,beq_iff_eq,Fs] at *;simp only [Ah,Vs,AV.tuple.injEq,List.cons.injEq,AV.int.injEq,AV.bool.injEq,true_and,and_true];refine ⟨?_,?_⟩
  .
   repeat' split
   all_goals omega
  simp <;> omega
 refine Af (Qp A0 (Qp Cv (Qp Bh (Bp (fun hc2=>Af (Qp Ax (Qp Bh (Ra (Nb (Iq _) (.bool _) ?_))))) fun hc2=>Af (Qp A0 (Qp Bq (Qp Bh (Bp (fun hc3=>Af (Qp Ax (Qp Bh (Ra (Nb (Iq _) (.bool _) ?_))))) fun hc3=>Rf (Af (Qp Ax (Qp Bh (Rb (Nb (Iq _) (.bool _) ?_)))))))))))))
 .
  simp only [Ii,Ft,Ea,I6,beq_iff_eq,Fs] at *;simp only [Ah,Vs,AV.tuple.injEq,List.cons.injEq,AV.int.injEq,AV.bool.injEq,true_and,and_true];refine ⟨?_,?_⟩
  .
   repeat' split
   all_goals omega
  simp <;> omega
 .
  simp only [Ii,Ft,Ea,I6,beq_iff_eq,Fs] at *;simp only [Ah,Vs,AV.tuple.injEq,List.cons.injEq,AV.int.injEq,AV.bool.injEq,true_and,and_true];refine ⟨?_,?_⟩
  .
   repeat' split
   all_goals omega
  simp <;> omega
 simp only [Ii,Ft,Ea,I6,beq_iff_eq,Fs] at *;simp only [Ah,Vs,AV.tuple.injEq,List.cons.injEq,AV.int.injEq,AV.bool.injEq,true_and,and_true];refine ⟨?_,?_⟩
 .
  repeat' split
  all_goals omega
 simp <;> omega
theorem c107 (v:Vl):Ap Tryz.prog 216 [.agg (cV v)] (.int .i64 (Wt v)):=by
 refine Fl 36 Tryz.func216 rfl fun H=>?_
 refine Af (Qp (Ik Xd) (Qp Ax (Re (AW.block (Af (Qp tV (Qp Cd (Qp Bq ?_))))))));refine Qp Co (Qg [] Qw Qf6 (Qg [(8,_)] Qw Cd (Qg [(9,_)] Qw Cv (Qg [(10,_)] Qw Co (Qg [] Qw Qf6 (Qg [(12,_)] Qw Cd (Qg [(13,_)] Qw Hc (Qg [(11,_),(14,_)] Qw Gv (Qp Ks ?_)))))))));refine Qp Bh (Bp (fun hc1=>Af (Qp Ax (Ra (Qr (Iq _) ?_)))) fun hc1=>Af (Qp tV (Qp Cd (Qp Bq (Qp Co (Qg [] Qw Qf6 (Qg [(22,_)] Qw Cd (Qg [(23,_)] Qw C3 (Qp Ks (Qp Co ?_))))))))))
 .
  try simp only [Kq,Da] at *
  (simp only [Ah,Wt];rw [if_pos hc1];done)
 refine Qg [] Qw Qf6 (Qg [(27,_)] Qw Cd (Qg [(28,_)] Qw C3 (Qp Ks (Qp Bh (Bp (fun hc2=>Af (Qp Ax (Ra (Qr (Iq _) ?_)))) fun hc2=>?_)))))
 .
  try simp only [Kq,Da] at *
  (simp only [Ah,Wt];rw [iN hc1];rw [if_pos hc2];done)
 refine Af (Qp Qf7 (Qp F4 (Qp (Cz tok rfl rfl rfl rfl) (Qp Hc (Qp Bh (Bp (fun hc3=>Af (Qp Ax (Ra (Qr (Iq _) ?_)))) fun hc3=>Rf (Af (Qp Ax (Rb (Qr (Iq _) ?_))))))))))
 .
  try simp only [Kq,Da] at *
  (simp only [Ah,Wt];rw [iN hc1];rw [iN hc2];rw [if_pos hc3];done)
 try simp only [Kq,Da] at *
 (simp only [Ah,Wt];rw [iN hc1];rw [iN hc2];rw [iN hc3];done)
theorem c94 (v:Vl):Ap Tryz.prog 202 [.agg (cV v)] (.int .i64 (Fp v)):=by
  refine Fl 18 Tryz.func202 rfl fun H=>?_
  refine AW.seq (AW.region (Qp (Ik Xd) (Qp Ax (AOL.nil (Aa (AW.seq (AW.seq (AW.region (Qp tV (Qp Cd (AOL.nil (Aa (AW.block (AW.seq (AW.seq (AW.region (Qp Bq (Qp Bh (AOL.nil (Aa (Gn (fun hc1=>?_) fun hc1=>?_)))))))))))))))))))))
  . skip
    refine B6 (Gn (fun hc2=>?_) fun hc2=>?_)
    . skip
      refine AW.seq (AW.region (Qp Qf7 (Qp F4 ?_)));refine Qp (Ge rfl rfl) ?_;refine AOL.nil (Aa (Gn (fun hc3=>?_) fun hc3=>?_))
      . skip
        refine AW.seq (AW.region (Qp Ax (AOL.nil (Aa (AW.ret (Dw (A4 ?_)))))));refine Qr (Iq _) ?_
        try simp only [Kq,Da] at *
        try simp only [A5,Bg] at *
        simp only [Ah,Fp, *,Al,↓reduceIte,Bool.true_or,Bool.or_true,Ke,Pn,Fj,Da,Mt,Oj,Av,Bk]
      . skip
        refine Rf (AW.seq (AW.region (Qp (C1 Xd) ?_)));refine Qp (Qc rfl (c107 v)) ?_;refine Qp Ax (AOL.nil (Aa (AW.ret ?_)));refine Qr (Iq _) ?_
        try simp only [Kq,Da] at *
        try simp only [A5,Bg] at *
        simp only [Ah,Fp, *,Al,↓reduceIte,Bool.true_or,Bool.or_true,Ke,Pn,Fj,Da,Mt,Oj,Av,Bk]
    . skip
      refine AW.seq (AW.region (Qp Bq (Qp Bh (AOL.nil (Aa (Gn (fun hc4=>?_) fun hc4=>?_))))))
      . skip
        refine AW.seq (AW.region (Qp Qf6 (Qp Cd (Qp C3 (AOL.nil (Aa (Gn (fun hc5=>?_) fun hc5=>?_)))))))
        . skip
          refine AW.seq (AW.region (Qp Ax (AOL.nil (Aa (AW.ret (Dw (A4 ?_)))))));refine Qr (Iq _) ?_
          try simp only [Kq,Da] at *
          (try simp only [A5,Bg] at *
           (simp_all [Ah,Fp];done))
        . skip
          refine Rf (AW.seq (AW.region (Qp (C1 Xd) ?_)));refine Qp (Qc rfl (c107 v)) ?_;refine Qp Ax (AOL.nil (Aa (AW.ret ?_)));refine Qr (Iq _) ?_
          try simp only [Kq,Da] at *
          (try simp only [A5,Bg] at *
           (simp_all [Ah,Fp];done))
      . skip
        refine AW.seq (AW.region (Qp Ax (AOL.nil (Aa (AW.ret (Dw (A4 ?_)))))));refine Qr (Iq _) ?_
        try simp only [Kq,Da] at *
        (try simp only [A5,Bg] at *
         (simp_all [Ah,Fp];done))
  . skip
    refine AW.region (Qp Bq (Qp Bh (AOL.nil (Aa (Gn (fun hc6=>?_) fun hc6=>?_)))))
    . skip
      refine AW.seq (AW.region (Qp Qf7 (Qp F4 ?_)));refine Qp (Ge rfl rfl) ?_;refine AOL.nil (Aa (Gn (fun hc7=>?_) fun hc7=>?_))
      . skip
        refine AW.seq (AW.region (Qp Ax (AOL.nil (Aa (AW.ret (Dw (A4 ?_)))))));refine Qr (Iq _) ?_
        try simp only [Kq,Da] at *
        try simp only [A5,Bg] at *
        simp only [Ah,Fp, *,Al,↓reduceIte,Bool.true_or,Bool.or_true,Ke,Pn,Fj,Da,Mt,Oj,Av,Bk]
      . skip
        refine Rf (AW.seq (AW.region (Qp (C1 Xd) ?_)));refine Qp (Qc rfl (c107 v)) ?_;refine Qp Ax (AOL.nil (Aa (AW.ret ?_)));refine Qr (Iq _) ?_
        try simp only [Kq,Da] at *
        try simp only [A5,Bg] at *
        simp only [Ah,Fp, *,Al,↓reduceIte,Bool.true_or,Bool.or_true,Ke,Pn,Fj,Da,Mt,Oj,Av,Bk]
    . skip
      refine AW.seq (AW.region (Qp Bq (Qp Bh (AOL.nil (Aa (Gn (fun hc8=>?_) fun hc8=>?_))))))
      . skip
        refine AW.seq (AW.region (Qp Qf6 (Qp Cd (Qp C3 (AOL.nil (Aa (Gn (fun hc9=>?_) fun hc9=>?_)))))))
        . skip
          refine AW.seq (AW.region (Qp Ax (AOL.nil (Aa (AW.ret (Dw (A4 ?_)))))));refine Qr (Iq _) ?_
          try simp only [Kq,Da] at *
          try simp only [A5,Bg] at *
          simp only [Ah,Fp, *,Al,↓reduceIte,Bool.true_or,Bool.or_true,Ke,Pn,Fj,Da,Mt,Oj,Av,Bk]
        . skip
          refine Rf (AW.seq (AW.region (Qp (C1 Xd) ?_)));refine Qp (Qc rfl (c107 v)) ?_;refine Qp Ax (AOL.nil (Aa (AW.ret ?_)));refine Qr (Iq _) ?_
          try simp only [Kq,Da] at *
          try simp only [A5,Bg] at *
          simp only [Ah,Fp, *,Al,↓reduceIte,Bool.true_or,Bool.or_true,Ke,Pn,Fj,Da,Mt,Oj,Av,Bk]
      . skip
        refine AW.seq (AW.region (Qp Ax (AOL.nil (Aa (AW.ret (Dw (A4 ?_)))))));refine Qr (Iq _) ?_
        try simp only [Kq,Da] at *
        try simp only [A5,Bg] at *
        simp only [Ah,Fp, *,Al,↓reduceIte,Bool.true_or,Bool.or_true,Ke,Pn,Fj,Da,Mt,Oj,Av,Bk]
theorem c99 (k:Int)(v:Vl):Ap Tryz.prog 203 [.int .i64 k,.agg (cV v)] (.bool (jU k v)):=by
 refine Fl 16 Tryz.func203 rfl fun H=>?_
 refine Af (Qp (Ik Xd) (Qp Bh (B7 (Qp tV (Qp Cd (Qp Bq (Qp Co (Qg [] Qw A0 (Qg [(9,_)] Qw Bq (Qp Gv (Qp Co (Qg [] Qw A0 (Qg [(13,_)] Qw Bq (Qp Gv (Qp Bh (Rb (Qr (.bool _) ?_)))))))))))))))))
 try simp only [Kq,Da] at *
 (simp only [Ah,jU];done)
theorem c82 (e:Ex):Ap Tryz.prog 163 [.agg (cE e)] (.int .i64 (Rr e)):=by
 refine Fl 32 Tryz.func163 rfl fun H=>?_
 refine Af (Qp Qbe (Qp Ax (A2 (Cg (Qp tV (Qp (C1 Xd) ?_))))));refine Qp (Qc rfl (c94 e.val)) (Qp Ax (B7 (Qp A0 (Qp C3 (Bp (fun hc1=>Af (Qp A0 (Qp Ax (Rc (Qr (Iq _) ?_))))) fun hc1=>B6 (Cg (Qp jG (Qp Cd (Qp Bq (Qp Co (Qg [] Qw Qf4 (Qg [(14,_)] Qw Cd (Qg [] Qw tV ?_)))))))))))))
 .
  try simp only [Kq,Da] at *
  (simp only [Ah,Rr];rw [if_pos hc1];done)
 refine Qg [(16,_)] Qw (C1 Xd) (Qg [(15,_),(17,_)] Yw (Qc rfl (c99 e.kind e.val)) (Qg [(18,_)] Qw J4 (Qg [(19,_)] Qw Co (Qg [] Qw Qf4 (Qg [(21,_)] Qw Cd (Qg [(22,_)] Qw Bq (Qg [(23,_)] Qw Co (Qg [] Qw tV (Qg [(25,_)] Qw (C1 Xd) (Qg [] Qw (E2 Xd) ?_))))))))));refine Qg [(26,_),(27,_)] Yw (Pw tok rfl rfl rfl rfl rfl) (Qg [(24,_),(28,_)] Qw Ks (Qg [(20,_),(29,_)] Qw Gv (Qp Ks (Bp (fun hc2=>Af (Qp Ax (Rc (Qr (Iq _) ?_)))) fun hc2=>B6 (Af (Qp Ax (Rb (Qr (Iq _) ?_))))))))
 .
  try simp only [Kq,Da] at *
  (simp only [Ah,Rr];rw [iN hc1];rw [if_pos hc2];done)
 try simp only [Kq,Da] at *
 (simp only [Ah,Rr];rw [iN hc1];rw [iN hc2];done)
theorem c47 (e:Ex):Ap Tryz.prog 104 [.agg (cE e)] (.int .i64 (Hi e)):=by
 refine Fl 114 Tryz.func104 rfl fun H=>?_
 refine Af (Qp Qbe (Qp Ax (B7 (Qp jG (Qp Cd (Qp (Qc rfl (c81 e.op)) (Qp Th (Qp Td (Qp fU (Qp Ax (Qp Bh (A2 (Cg (Qp Co (Qp J4 (Bp (fun hc1=>Af (Qp Ax (Rc (Qr (Iq _) ?_)))) fun hc1=>B6 (Cg (Qp Qf1 (Qp Ew ?_)))))))))))))))))))
 .
  try simp only [Kq,Da] at *
  (simp only [Ah,Hi,Le];rw [if_pos hc1];done)
 refine Qp (G1 e.args.length rfl rfl (by simp)) ?_;refine Qp A0 (Qp C3 (Bp (fun hc2=>Af (Qp Ax (Rc (Qr (Iq _) ?_)))) fun hc2=>B6 (Af (Qp jG (Qp Cd (Qp (Qc rfl (e8c52 e.op)) (Qp Th (Qp fU (Qp fU (Qp Bh (Qp Bh (A2 (Cg (Qp Co (Qp Co ?_)))))))))))))))
 .
  try simp only [Kq,Da] at *
  (simp only [Ah,Hi,Le];rw [iN hc1];rw [if_pos hc2];done)
 refine Qg [] Qw tU (Qg [(31,_)] Qw Cd (Qg [(32,_)] Qw Cv (Qg [(33,_)] Qw Co (Qg [] Qw tU (Qg [(35,_)] Qw Cd (Qg [(36,_)] Qw Jt (Qg [(34,_),(37,_)] Qw Gv (Qp Ks (Qp Co ?_)))))))));refine Qg [] Qw Co (Qg [(41,_)] Qw Co (Qg [] Qw Qf3 (Qg [(43,_)] Qw Cd (Qg [(44,_)] Qw Cv (Qg [(45,_)] Qw Co (Qg [] Qw Qf3 (Qg [(47,_)] Qw Cd (Qg [(48,_)] Qw Jt (Qg [(46,_),(49,_)] Qw Gv ?_)))))))));refine Qg [(42,_),(50,_)] Qw Ks (Qp Gv (Bp (fun hc3=>Af (Qp Ax (Rc (Qr (Iq _) ?_)))) fun hc3=>B6 (Af (Qp jG (Qp Cd (Qp Bq (Qp Bh (A2 (Cg (Qp Co ?_))))))))))
 .
  try simp only [Kq,Da] at *
  (simp only [Ah,Hi,Le];rw [iN hc1];rw [iN hc2];rw [if_pos hc3];done)
 refine Qp Co (Qg [] Qw Qf4 (Qg [(58,_)] Qw Cd (Qg [(59,_)] Qw Cv (Qg [(60,_)] Qw Co (Qg [] Qw Qf4 (Qg [(62,_)] Qw Cd (Qg [(63,_)] Qw Hc (Qg [(61,_),(64,_)] Qw Gv (Qp Ks ?_)))))))));refine Bp (fun hc4=>Af (Qp Ax (Rc (Qr (Iq _) ?_)))) fun hc4=>B6 (Af (Qp Co (Qp Co (Qg [] Qw jG (Qg [(69,_)] Qw Cd (Qg [(70,_)] Qw Bq (Qp Gv (Qp Bh (A2 ?_)))))))))
 .
  try simp only [Kq,Da] at *
  (simp only [Ah,Hi,Le];rw [iN hc1];rw [iN hc2];rw [iN hc3];rw [if_pos hc4];done)
 refine Cg (Qp Co (Bp (fun hc5=>?_) fun hc5=>B6 (Cg (Qp Co (Qp J4 (Qp Co (Qg [] Qw tU (Qg [(82,_)] Qw Cd (Qg [(83,_)] Qw C3 (Qp Ks ?_))))))))))
 .
  refine Af (Qp Xb (Qp (Qc rfl (c82 e)) (Qp Ax (B7 (Qp A0 (Qp C3 (Bp (fun hc6=>Af (Qp A0 (Qp Ax (Rc (Qr (Iq _) ?_))))) fun hc6=>B6 (Cg (Qp Co (Qp J4 (Qp Co (Qg [] Qw tU (Qg [(82,_)] Qw Cd (Qg [(83,_)] Qw C3 (Qp Ks ?_)))))))))))))))
  .
   try simp only [Kq,Da] at *
   (simp only [Ah,Hi,Le];rw [iN hc1];rw [iN hc2];rw [iN hc3];rw [iN hc4];rw [if_pos hc5];rw [if_pos hc6];done)
  refine Qp Co (Qg [] Qw Co (Qg [(87,_)] Qw J4 (Qg [(88,_)] Qw Co (Qg [] Qw Qf3 (Qg [(90,_)] Qw Cd (Qg [(91,_)] Qw C3 (Qg [(89,_),(92,_)] Qw Ks (Qp Gv (Qp Co ?_)))))))));refine Qg [] Qw Co (Qg [(96,_)] Qw J4 (Qg [(97,_)] Qw Co (Qg [] Qw Qf4 (Qg [(99,_)] Qw Cd (Qg [(100,_)] Qw C3 (Qg [(98,_),(101,_)] Qw Ks (Qp Gv (Qp Co (Qg [] Qw Co ?_)))))))));refine Qg [(105,_)] Qw J4 (Qg [(106,_)] Qw Co (Qg [] Qw tV (Qg [(108,_)] Qw (C1 Xd) (Qg [] Qw (E2 Xd) (Qg [(109,_),(110,_)] Yw (Pw tok rfl rfl rfl rfl rfl) (Qg [(107,_),(111,_)] Qw Ks (Qp Gv (Bp (fun hc7=>Af (Qp Ax (Rc (Qr (Iq _) ?_)))) fun hc7=>B6 (Af (Qp Ax (Rb (Qr (Iq _) ?_))))))))))))
  .
   try simp only [Kq,Da] at *
   (simp only [Ah,Hi,Le];rw [iN hc1];rw [iN hc2];rw [iN hc3];rw [iN hc4];rw [if_pos hc5];rw [iN hc6];rw [if_pos hc7];done)
  try simp only [Kq,Da] at *
  (simp only [Ah,Hi,Le];rw [iN hc1];rw [iN hc2];rw [iN hc3];rw [iN hc4];rw [if_pos hc5];rw [iN hc6];rw [iN hc7];done)
 refine Qp Co (Qg [] Qw Co (Qg [(87,_)] Qw J4 (Qg [(88,_)] Qw Co (Qg [] Qw Qf3 (Qg [(90,_)] Qw Cd (Qg [(91,_)] Qw C3 (Qg [(89,_),(92,_)] Qw Ks (Qp Gv (Qp Co ?_)))))))));refine Qg [] Qw Co (Qg [(96,_)] Qw J4 (Qg [(97,_)] Qw Co (Qg [] Qw Qf4 (Qg [(99,_)] Qw Cd (Qg [(100,_)] Qw C3 (Qg [(98,_),(101,_)] Qw Ks (Qp Gv (Qp Co (Qg [] Qw Co ?_)))))))));refine Qg [(105,_)] Qw J4 (Qg [(106,_)] Qw Co (Qg [] Qw tV (Qg [(108,_)] Qw (C1 Xd) (Qg [] Qw (E2 Xd) (Qg [(109,_),(110,_)] Yw (Pw tok rfl rfl rfl rfl rfl) (Qg [(107,_),(111,_)] Qw Ks (Qp Gv (Bp (fun hc8=>Af (Qp Ax (Rc (Qr (Iq _) ?_)))) fun hc8=>B6 (Af (Qp Ax (Rb (Qr (Iq _) ?_))))))))))))
 .
  try simp only [Kq,Da] at *
  (simp only [Ah,Hi,Le];rw [iN hc1];rw [iN hc2];rw [iN hc3];rw [iN hc4];rw [iN hc5];rw [if_pos hc8];done)
 try simp only [Kq,Da] at *
 (simp only [Ah,Hi,Le];rw [iN hc1];rw [iN hc2];rw [iN hc3];rw [iN hc4];rw [iN hc5];rw [iN hc8];done)
theorem e8c23 (e:Ex)(hs:Dp e<=1048576):Ap Tryz.prog 102 [.agg (cE e)] (.tuple [.int .i64 (Dp e),.int .i64 (Ic e)]):=by
 revert hs
 induction e using Ex.ind
 rename_i e ih;intro hs;refine Fl 32 Tryz.func102 rfl fun H=>?_
 refine Af (Qp Qbe (Qp Ax (Qp Ax (B7 (Qp Ax (Qp Ax (A2 (Cg (Qp Qf1 (Qp Ew ?_))))))))));refine Qp (G1 e.args.length rfl rfl (by simp)) ?_;refine Qp A0 (A2 (AW.block (AW.sllen 11 rfl fun hlen=>?_)));simp only [By,maxLen] at hlen;refine AW.loopS (fun (p:Nat×Nat×Nat)=>(⟨[(4,.int .i64 (p.2.1:Int)),(5,.int .i64 (p.2.2:Int)),(11,.sl 8 (e.args.map Gx)),(12,.int .i64 e.args.length),(13,.int .i64 (p.1:Int))],H,32⟩:St)) (fun p=>p.1<=e.args.length/\Dp e=p.2.1+((e.args.drop p.1).map Dp).sum/\Ic e=max p.2.2 (((e.args.drop p.1).map Ic).foldr max 0)+1/\p.2.2<=1048576) (fun p=>e.args.length-p.1) ((0,1,0)) ?_ Dh ?_
 . exact ⟨A7 _,by simpa using Jz e,by simpa using gS e,A7 _⟩
 rintro p hR;refine Af (Qp Cv (Re (Gn (fun hc1=>?_) fun hc1=>?_)))
 .
  obtain ⟨a,ha⟩:=C2 hc1;have hlt:=Cc ha;have hm:=Aj ha;have hsa:=T5 hm;have hda:=Vh a;have h1:=sum_drop p.2.1 ha;have h2:=dB p.2.2 ha;refine B6 (AW.seq (AW.block (Af ?_)));refine Qp (E9 Me rfl rfl (by omega) (bN ha)) ?_;refine Qp Xb (D7 ggy fun b7=>?_);refine Bz 0 Me (_::_) ?_;refine Kh 7 0 rfl ?_;refine B7 (Qp Xb ?_);refine Qp (Qc rfl (ih a hm (by have:=T5 hm;omega))) ?_;refine Qp Th (Qp Td (Qp Td (Qp Ax (Qp Ax (A2 (AW.region (Qp A0 (Qp A0 (Qp Hb (Qp A0 (Qp A0 (Qp (tT rfl rfl) (Qp Ax (Qp Ax (Rk (AW.region (Qp Hb (Qp A0 (A2 ?_)))))))))))))))))));refine ⟨(p.1+1,p.2.1+Dp a,max p.2.2 (Ic a)),?_,?_,GS.weaken ⟨rfl,congrArg (AV.int .i64) (by simp only;omega),rfl,rfl,rfl,trivial⟩ (.refl _)⟩
  . simp only;exact ⟨hlt,by omega,by omega,by omega⟩
  omega
 have hd:=Gz hc1;refine AW.exit ?_;refine Br (Ri (Af (Qp A0 (Qp A0 ?_))));refine Qp (Js rfl rfl rfl (by have:=Vh e;constructor <;> omega)) ?_;refine Qp Ax (Qp Ax (Rb (Nb (Iq _) (Iq _) ?_)));rw [hd] at hR;simp only [Bw,List.sum_nil,List.foldr_nil] at hR;simp only [Ah,AV.tuple.injEq,List.cons.injEq,AV.int.injEq,true_and,and_true];omega
theorem e8c46 (f:Nat)(hfn:Tn Tryz.prog f=true)(cap:List AV)(fs:Ex->Int)(Pr:Ex->Prop)(hp:∀a,Pr a->∀b∈a.args,Pr b)(hf:∀a,Pr a->Ap Tryz.prog f (.agg (cE a)::cap) (.int .i64 (fs a)))(e:Ex)(he:Pr e):Ap Tryz.prog 103 [.agg (cE e),.fn (.func f) [] cap] (.int .i64 (Ms fs e)):=by
 revert he
 induction e using Ex.ind
 rename_i e ih;intro he;refine Fl 29 Tryz.func103 rfl fun H=>?_
 refine Af (Qp Qbe (Qp Ax (A2 (Cg (Qp (Ab (v:=.fn _ _ _) rfl) (Qp Xb (Qp (O1 hfn rfl rfl rfl (hf e he)) (Qp Ax (B7 (Qp A0 (Qp C3 (Bp (fun hc1=>Af (Qp A0 (Qp Ax (Rc (Qr (Iq _) ?_))))) fun hc1=>?_))))))))))))
 .
  simp only [Ah,AV.int.injEq,true_and];rw [Z4,if_pos hc1]
 have hn:Ms fs e=Cr (Ms fs) e.args:=by rw [Z4,if_neg (by simpa using hc1)]
 refine B6 (Cg (Qp Qf1 (Qp Ew ?_)));refine Qp (G1 e.args.length rfl rfl (by simp)) ?_;refine Qp A0 (A2 (AW.block (AW.sllen 16 rfl fun hlen=>?_)));simp only [By,maxLen] at hlen;refine AW.loopS (fun (p:Nat)=>(⟨[(1,.fn (.func f) [] cap),(16,.sl 8 (e.args.map Gx)),(17,.int .i64 e.args.length),(18,.int .i64 (p:Int))],H,29⟩:St)) (fun p=>p<=e.args.length/\Ms fs e=Cr (Ms fs) (e.args.drop p)) (fun p=>e.args.length-p) (0) ?_ Dh ?_
 . exact ⟨A7 _,by simpa using hn⟩
 rintro p hR;refine Af (Qp Cv (Re (Gn (fun hc2=>?_) fun hc2=>?_)))
 .
  obtain ⟨a,ha⟩:=C2 hc2;have hlt:=Cc ha;have hm:=Aj ha;refine B6 (AW.seq (AW.block (Af ?_)));refine Qp (E9 Me rfl rfl (by omega) (bN ha)) ?_;refine Qp Xb (D7 ggy fun b7=>?_);refine Bz 0 Me (_::_) ?_;refine Kh 7 0 rfl ?_;refine B7 (Qp Xb (Qp (Ab (v:=.fn _ _ _) rfl) (Qp (Qc rfl (ih a hm (hp e he a hm))) (Qp Ax (B7 (Qp A0 (Qp C3 (Bp (fun hc3=>Af (Qp A0 (Qp Ax (Ra (A4 (Dw (A4 (Qr (Iq _) ?_)))))))) fun hc3=>Rf (AW.region (Qp Hb (Qp A0 (A2 ?_))))))))))))
  .
   simp only [Ah,AV.int.injEq,true_and];rw [hR.2,Bm ha,Cr,if_pos hc3]
  refine ⟨p+1,?_,?_,Dh⟩
  . exact ⟨hlt,by rw [hR.2,Bm ha,Cr,if_neg (by simpa using hc3)]⟩
  omega
 have hd:=Gz hc2;refine AW.exit ?_;refine Br (Ri (Af (Qp Ax (Rb ?_))));refine Qr (Iq _) ?_;simp only [Ah,AV.int.injEq,true_and];rw [hR.2,hd];rfl
theorem e8c21 (e:Ex)(hs:Dp e<=1048576):Ap Tryz.prog 53 [.agg (cE e)] (.int .i64 (Fg e)):=by
 refine Fl 18 Tryz.func53 rfl fun H=>?_
 refine Af (Qp Qbe (Qp Ax (B7 (Qp Xb (Qp (Qc rfl (e8c23 e hs)) (Qp Th (Qp Td (Qp Td (Qp Ax (Qp Ax (Re (AW.block (Af (Qp A0 ?_))))))))))))));refine Qp Hc (Qp Bh (Bp (fun hc1=>Af (Qp Ax (Ra (Qr (Iq _) ?_)))) fun hc1=>Af (Qp A0 (Qp Hc (Qp Bh (Bp (fun hc2=>Af (Qp Ax (Ra (Qr (Iq _) ?_)))) fun hc2=>Rf (Af (Qp Xb ?_))))))))
 .
  try simp only [Kq,Da] at *
  (simp only [Ah,Fg];rw [if_pos hc1];done)
 .
  try simp only [Kq,Da] at *
  (simp only [Ah,Fg];rw [iN hc1];rw [if_pos hc2];done)
 refine Qp (Qc rfl (e8c46 104 (by kernel_rfl) [] Hi (fun _=>True) (fun _ _ _ _=>trivial) (fun a _=>c47 a) e trivial)) ?_;refine Qp Ax (Rb (Qr (Iq _) ?_))
 try simp only [Kq,Da] at *
 (simp only [Ah,Fg];rw [iN hc1];rw [iN hc2];done)
theorem nQ {a b:Ex}(h:aN a b=false):a.args.length=b.args.length:=by
 simp [aN] at h;omega
end Go.Proofs.YtibcelnfkhdjaaaGreatDoor
