/-
  Several texts in one: W13d, W13e, W13f, W13g, W13h, W13i, R11w. No condition.
-/
import Derived.Test.YtckhoadldibflaaGreatDoorK01
import Derived.Test.YtckhoadldibflaaGreatDoorK16
import Derived.KernelRfl
import Derived.Test.YtckhoadldibflaaGreatDoorK05
import Derived.Test.YtckhoadldibflaaGreatDoorK06
import Derived.Test.YtckhoadldibflaaGreatDoorK15
set_option linter.unusedVariables false
set_option linter.unusedSimpArgs false
set_option maxHeartbeats 6400000
set_option maxRecDepth 20000
namespace Go.Proofs.YtckhoadldibflaaGreatDoor
open Go Go.Aw
theorem agg_look {n:Int}(h:1<=n/\n<=5):Zh [(1,AV.str M6),(2,.str dU),(3,.str dT),(4,.str Tl),(5,.str X5)] n=some (.str (Nl n)):=by
 have:n=1\/n=2\/n=3\/n=4\/n=5:=by omega
 rcases this with rfl | rfl | rfl | rfl | rfl <;> rfl
theorem oper_look {n:Int}(h:5<=n/\n<=11):Zh [(5,AV.str [32,43,32]),(6,.str [32,45,32]),(7,.str [32,60,32]),(8,.str [32,60,61,32]),(9,.str [32,61,61,32]),(10,.str [32,97,110,100,32]),(11,.str [32,111,114,32])] n=some (.str (([32]:Ag)++Mk n ++ [32])):=by
 have:n=5\/n=6\/n=7\/n=8\/n=9\/n=10\/n=11:=by omega
 rcases this with rfl | rfl | rfl | rfl | rfl | rfl | rfl <;> rfl
theorem tail_at {l:List Syn}{k:Nat}{x:Syn}(h:l[k]? = some x):Og ((l.map Ae).drop k) = [44,32]++Ae x++Og ((l.map Ae).drop (k+1)):=by
 obtain ⟨h1,h2⟩:=List.getElem?_eq_some_iff.1 (wm_at h);rw [Qz h1,Og,h2]
theorem Xp {l:List Syn}{k:Nat}{x:Syn}(h:l[k]? = some x):((l.map Ae).drop k).flatten=Ae x++((l.map Ae).drop (k+1)).flatten:=by
 obtain ⟨h1,h2⟩:=List.getElem?_eq_some_iff.1 (wm_at h);rw [Qz h1,Bj,h2]
theorem w_total (b:Nat)(o:Ag)(v:Value)(a:Option Addr)(ha:a=none\/a=some ⟨b,0,none⟩)(R:List HO)(t:Syn)(hi:1<=t.num/\t.num<=5)(hn:∀x∈t.kids,Jk b x)(hb:o.length+(Nl t.num++([40]:Ag)++t.text++([46]:Ag)++t.name++Og (t.kids.map Ae)++([41]:Ag)).length<=mB):Cf Tryz.prog 217 (.row v (Hs o).length 5 1 :: .box b 216 (.val (.pointer a) :: .row v 1 (Hs o)::Zv b)::R) [.val (.pointer (some ⟨b,0,none⟩)),.agg (cSyn t)] (WQ b (o++(Nl t.num++([40]:Ag)++t.text++([46]:Ag)++t.name++Og (t.kids.map Ae)++([41]:Ag))) R):=by
 refine Jg 37 Tryz.func217 rfl ?_;refine Aa (Qp (Hu Ai) (B7 (Qe (bL) ?_)));rintro _ _ ⟨b7,rfl,rfl⟩;refine Rt (E1 (i:=0) (x:=.str _) (H2:=_::_::_::_) tok rfl rfl rfl rfl rfl rfl rfl rfl rfl rfl) (Rt (E1 (i:=0) (x:=.str _) (H2:=_::_::_::_) tok rfl rfl rfl rfl rfl rfl rfl rfl rfl rfl) (Rt (E1 (i:=0) (x:=.str _) (H2:=_::_::_::_) tok rfl rfl rfl rfl rfl rfl rfl rfl rfl rfl) (Rt (E1 (i:=0) (x:=.str _) (H2:=_::_::_::_) tok rfl rfl rfl rfl rfl rfl rfl rfl rfl rfl) (Rt (E1 (i:=0) (x:=.str _) (H2:=_::_::_::_) tok rfl rfl rfl rfl rfl rfl rfl rfl rfl rfl) (Qp Bx (Qp Sa ?_))))));refine AOL.ghost (GS.freezeMap (t:=4) 0 rfl rfl) ?_;refine B7 (Qp Bx (Qp (A1 (v:=.mapv _) rfl) (Qp (Qf Zw) (Qp B6 (Qp (Zz tok rfl rfl rfl rfl rfl rfl (agg_look hi)) (Qp (Qf X6) (Qp Gr (Qp (Qf pF) (Qp Gr (Qp (Jh ([[.str _],[.str _],[.str _],[.str _],[.str _]]) rfl) ?_))))))))));refine Qe (Dq rfl (Gu b _ _ _ ha R [Nl t.num,[40],t.text,[46],t.name] (Cv rfl) (by have h:=hb;(try simp only [Bj,Bv,Au,Bb,Bp,A8] at h ⊢);omega))) ?_;rintro _ _ ⟨v19,a19,rfl,ha19,rfl⟩;refine Ax (B5 (Qp (Qf Ot) (Qp Dd ?_)));refine Qp (E6 t.kids.length rfl rfl (by simp)) ?_;refine Qp Ap (Ax (AW.block (AW.sllen 21 rfl fun hlen=>?_)));simp only [Bt,maxLen] at hlen;refine AW.Aad (fun (p:Nat×Ag×Value×Option Addr)=>(⟨[(0,.val (.pointer (some ⟨b,0,none⟩))),(21,.sl 6 (t.kids.map C6)),(22,.int .i64 t.kids.length),(23,.int .i64 (p.1:Int))],(.row p.2.2.1 (Hs p.2.1).length 5 1 :: .box b 216 (.val (.pointer p.2.2.2) :: .row p.2.2.1 1 (Hs p.2.1)::Zv b)::R),37⟩:St)) (fun p=>p.1<=t.kids.length/\p.2.1++Og ((t.kids.map Ae).drop p.1)=(o ++ [Nl t.num,[40],t.text,[46],t.name].flatten)++Og (t.kids.map Ae)/\(p.2.2.2=none\/p.2.2.2=some ⟨b,0,none⟩)) (fun p=>t.kids.length-p.1) ((0,_,v19,a19)) ?_ C2 ?_
 . exact ⟨A9 _,rfl,ha19⟩
 rintro p hR;have ha:=hR.2.2;refine Aa (Qp Cn (Re (Hb (fun hc1=>?_) fun hc1=>?_)))
 .
  obtain ⟨x,hx⟩:=gt2 (l:=t.kids) (k:=p.1) (by have:=Ey hc1;omega);have hlt:=nD hx;have hnx:=hn x (Aj hx);have hr:=tail_at hx;have hle:=congrArg List.length hR.2.1;rw [hr] at hle;simp only [Au,Bb,Bp,Bj,Bv,A8] at hle;refine B2 (AW.seq (AW.block (Aa ?_)));refine Qp (Eh Ai rfl rfl (by omega) (Ie hx)) ?_;refine Qp (Cm Ai) ?_;refine D5 I6 fun b6=>?_
  refine By 0 Ai (_::_::_::_) ?_;refine Kc 6 0 rfl ?_;refine B7 (Qp Bx (Qp (Jh ([[.str _]]) rfl) ?_));refine Qe (Dq rfl (Gu b _ _ _ ha R [[44,32]] (Cv rfl) (by simp only [Au,Bb,Bp,Bj,Bv,A8] at hb ⊢;omega))) ?_;rintro _ _ ⟨v29,a29,rfl,ha29,rfl⟩;refine Ax (AW.region (Qp Bx (Qp (Cm Ai) ?_)));refine Qe (Dq rfl (hnx _ _ _ ha29 R (by simp only [Au,Bb,Bp,Bj,Bv,A8] at hb ⊢;omega))) ?_;rintro _ _ ⟨v32,a32,rfl,ha32,rfl⟩;refine Rk (AW.region (Qp Gw (Qp Ap (Ax ?_))));refine ⟨(p.1+1,(p.2.1 ++ [[44,32]].flatten)++Ae x,v32,a32),?_,?_,C2⟩
  . exact ⟨hlt,by rw [<-hR.2.1,hr];simp,ha32⟩
  simp only;omega
 have hk:(t.kids.map Ae).length<=p.1:=by have:=G3 hc1;rw [Bt];omega
 have he:=hR.2.1;rw [Q8 hk,Og,A8] at he;have hle:=congrArg List.length he;simp only [Au,Bb,Bp,Bj,Bv,A8] at hle;refine AW.exit ?_;refine B1 (Ri (AW.region (Qp Bx ?_)));refine Qp (Jh ([[.str _]]) rfl) ?_;refine Qe (Dq rfl (Gu b _ _ _ hR.2.2 R [[41]] (Cv rfl) (by simp only [Au,Bb,Bp,Bj,Bv,A8] at hb ⊢;omega))) ?_;rintro _ _ ⟨v36,a36,rfl,ha36,rfl⟩;refine AOL.nil ?_;refine ⟨.inl rfl,[],.nil,_,.refl _,?_⟩;exact wq ha36 (by rw [he];simp only [Bj,Bv,A8,C1,Co,C5])
theorem w_binary (b:Nat)(o:Ag)(v:Value)(a:Option Addr)(ha:a=none\/a=some ⟨b,0,none⟩)(R:List HO)(t k0 k1:Syn)(h0:t.kids[0]? = some k0)(h1:t.kids[1]? = some k1)(hi:5<=t.num/\t.num<=11)(hn0:Jk b k0)(hn1:Jk b k1)(hb:o.length+(Hk t k0 (Ae k0)++([32]:Ag)++Mk t.num++([32]:Ag)++Hk t k1 (Ae k1)).length<=mB):Cf Tryz.prog 218 (.row v (Hs o).length 5 1 :: .box b 216 (.val (.pointer a) :: .row v 1 (Hs o)::Zv b)::R) [.val (.pointer (some ⟨b,0,none⟩)),.agg (cSyn t)] (WQ b (o++(Hk t k0 (Ae k0)++([32]:Ag)++Mk t.num++([32]:Ag)++Hk t k1 (Ae k1))) R):=by
 refine Jg 28 Tryz.func218 rfl ?_;refine Aa (Qp (Hu Ai) (B7 (Qe (bL) ?_)));rintro _ _ ⟨b5,rfl,rfl⟩;refine Rt (E1 (i:=0) (x:=.str _) (H2:=_::_::_::_) tok rfl rfl rfl rfl rfl rfl rfl rfl rfl rfl) (Rt (E1 (i:=0) (x:=.str _) (H2:=_::_::_::_) tok rfl rfl rfl rfl rfl rfl rfl rfl rfl rfl) (Rt (E1 (i:=0) (x:=.str _) (H2:=_::_::_::_) tok rfl rfl rfl rfl rfl rfl rfl rfl rfl rfl) (Rt (E1 (i:=0) (x:=.str _) (H2:=_::_::_::_) tok rfl rfl rfl rfl rfl rfl rfl rfl rfl rfl) (Rt (E1 (i:=0) (x:=.str _) (H2:=_::_::_::_) tok rfl rfl rfl rfl rfl rfl rfl rfl rfl rfl) (Rt (E1 (i:=0) (x:=.str _) (H2:=_::_::_::_) tok rfl rfl rfl rfl rfl rfl rfl rfl rfl rfl) (Rt (E1 (i:=0) (x:=.str _) (H2:=_::_::_::_) tok rfl rfl rfl rfl rfl rfl rfl rfl rfl rfl) (Qp Bx (Qp Sa ?_))))))));refine AOL.ghost (GS.freezeMap (t:=4) 0 rfl rfl) ?_;refine Re ?_;refine Mo ?_;refine Qn 0 rfl Bx (Qn 1 rfl (Cm Ai) (Qn 2 rfl (Qf Ot) (Qn 3 rfl Dd ?_)));refine Qn 4 rfl (Eh Ai rfl rfl (by decide) (Ie h0)) ?_;refine Qn 5 rfl (Cm Ai) ?_;refine rT 6 rfl (Dq rfl (dR b _ _ _ ha R t k0 hn0 (by have h:=hb;(try simp only [Bj,Bv,Au,Bb,Bp,A8] at h ⊢);omega))) ?_;rintro _ _ ⟨v13,a13,rfl,ha13,rfl⟩;refine Ig ?_;refine Av (Aa (Qp Bx (Qp (A1 (v:=.mapv _) rfl) (Qp (Qf Zw) (Qp B6 (Qp (Zz tok rfl rfl rfl rfl rfl rfl (oper_look hi)) (Qp (Jh ([[.str _]]) rfl) ?_)))))));refine Qe (Dq rfl (Gu b _ _ _ ha13 R [[32]++Mk t.num ++ [32]] (Cv rfl) (by have h:=hb;(try simp only [Bj,Bv,Au,Bb,Bp,A8] at h ⊢);omega))) ?_;rintro _ _ ⟨v20,a20,rfl,ha20,rfl⟩;refine Ax ?_;refine Mo ?_;refine Qn 0 rfl Bx (Qn 1 rfl (Cm Ai) (Qn 2 rfl (Qf Ot) (Qn 3 rfl Dd ?_)));refine Qn 4 rfl (Eh Ai rfl rfl (by decide) (Ie h1)) ?_;refine Qn 5 rfl (Cm Ai) ?_;refine rT 6 rfl (Dq rfl (dR b _ _ _ ha20 R t k1 hn1 (by have h:=hb;(try simp only [Bj,Bv,Au,Bb,Bp,A8] at h ⊢);omega))) ?_;rintro _ _ ⟨v27,a27,rfl,ha27,rfl⟩;refine Ig ?_;refine ⟨.inl rfl,[],.nil,_,.refl _,?_⟩;exact wq ha27 (by simp only [Bj,Bv,A8,C1,Co,C5])
theorem w_program (b:Nat)(o:Ag)(v:Value)(a:Option Addr)(ha:a=none\/a=some ⟨b,0,none⟩)(R:List HO)(t:Syn)(hn:∀x∈t.kids,Jk b x)(hb:o.length+((t.kids.map Ae).flatten).length<=mB):Cf Tryz.prog 207 (.row v (Hs o).length 5 1 :: .box b 216 (.val (.pointer a) :: .row v 1 (Hs o)::Zv b)::R) [.agg (cSyn t),.ptr [.val (.pointer (some ⟨b,0,none⟩))]] (WQ b (o++((t.kids.map Ae).flatten)) R):=by
 refine Jg 16 Tryz.func207 rfl ?_;refine Aa (Qp (Hu Ai) (B7 (Qp (Qf Ot) (Qp Dd ?_))));refine Qp (E6 t.kids.length rfl rfl (by simp)) ?_;refine Qp Ap (Ax (AW.block (AW.sllen 6 rfl fun hlen=>?_)));simp only [Bt,maxLen] at hlen;refine AW.Aad (fun (p:Nat×Ag×Value×Option Addr)=>(⟨[(1,.ptr [.val (.pointer (some ⟨b,0,none⟩))]),(6,.sl 6 (t.kids.map C6)),(7,.int .i64 t.kids.length),(8,.int .i64 (p.1:Int))],(.row p.2.2.1 (Hs p.2.1).length 5 1 :: .box b 216 (.val (.pointer p.2.2.2) :: .row p.2.2.1 1 (Hs p.2.1)::Zv b)::R),16⟩:St)) (fun p=>p.1<=t.kids.length/\p.2.1++((t.kids.map Ae).drop p.1).flatten=o++(t.kids.map Ae).flatten/\(p.2.2.2=none\/p.2.2.2=some ⟨b,0,none⟩)) (fun p=>t.kids.length-p.1) ((0,o,v,a)) ?_ C2 ?_
 . exact ⟨A9 _,rfl,ha⟩
 rintro p hR;have ha:=hR.2.2;refine Aa (Qp Cn (Re (Hb (fun hc1=>?_) fun hc1=>?_)))
 .
  obtain ⟨x,hx⟩:=gt2 (l:=t.kids) (k:=p.1) (by have:=Ey hc1;omega);have hlt:=nD hx;have hnx:=hn x (Aj hx);have hr:=Xp hx;have hle:=congrArg List.length hR.2.1;rw [hr] at hle;simp only [Au] at hle;refine B2 (AW.seq (AW.block (Aa ?_)));refine Qp (Eh Ai rfl rfl (by omega) (Ie hx)) ?_;refine Qp (Cm Ai) ?_;refine D5 I6 fun b4=>?_
  refine By 0 Ai (_::_::_::_) ?_;refine Kc 4 0 rfl ?_;refine Ax (AW.region (Qp Lh (Qp (Cm Ai) ?_)));refine Qe (Dq rfl (hnx _ _ _ ha R (by omega))) ?_;rintro _ _ ⟨v14,a14,rfl,ha14,rfl⟩;refine Rk (AW.region (Qp Gw (Qp Ap (Ax ?_))));refine ⟨(p.1+1,p.2.1++Ae x,v14,a14),?_,?_,C2⟩
  . exact ⟨hlt,by rw [<-hR.2.1,hr];simp,ha14⟩
  simp only;omega
 have hk:(t.kids.map Ae).length<=p.1:=by have:=G3 hc1;rw [Bt];omega
 have he:=hR.2.1;rw [Q8 hk,Bv,A8] at he;refine AW.exit ?_;refine B1 (B1 (U9 ?_));refine ⟨.inl rfl,[],.nil,_,.refl _,?_⟩;exact wq hR.2.2 he
theorem w_query (b:Nat)(o:Ag)(v:Value)(a:Option Addr)(ha:a=none\/a=some ⟨b,0,none⟩)(R:List HO)(t k0 k1:Syn)(r:List Syn)(hq:t.kids=k0::k1::r)(hn1:Jk b k1)(hnr:∀x∈r,Jk b x)(hb:o.length+(([113,117,101,114,121,32]:Ag)++t.text++(if !(k0.text == []) then ([32,98,121,32]:Ag)++k0.text else [])++([10,109,97,116,99,104,32]:Ag)++Ae k1++([10,114,101,116,117,114,110,32]:Ag)++D6 (r.map Ae)++([59,10]:Ag)).length<=mB):Cf Tryz.prog 211 (.row v (Hs o).length 5 1 :: .box b 216 (.val (.pointer a) :: .row v 1 (Hs o)::Zv b)::R) [.val (.pointer (some ⟨b,0,none⟩)),.agg (cSyn t)] (WQ b (o++(([113,117,101,114,121,32]:Ag)++t.text++(if !(k0.text == []) then ([32,98,121,32]:Ag)++k0.text else [])++([10,109,97,116,99,104,32]:Ag)++Ae k1++([10,114,101,116,117,114,110,32]:Ag)++D6 (r.map Ae)++([59,10]:Ag))) R):=by
 refine Jg 41 Tryz.func211 rfl ?_;refine Aa (Qp (Hu Ai) (Re ?_));have hb0:=hb;refine AW.region (Qp Bx (Qp (Qf X6) (Qp Gr (Qp (Jh ([[.str _],[.str _]]) rfl) ?_))));refine Qe (Dq rfl (Gu b _ _ _ ha R [[113,117,101,114,121,32],t.text] (Cv rfl) (by have h:=hb;(try simp only [Bj,Bv,Au,Bb,Bp,A8] at h ⊢);omega))) ?_;rintro _ _ ⟨v9,a9,rfl,ha9,rfl⟩;refine Ax (B5 (Qp (Qf Ot) (Qp Dd ?_)));refine Qp (Eh Ai rfl rfl (by decide) (Ie (k:=0) (a:=k0) (by rw [hq];rfl))) ?_;refine Qp (Qf X6) (Qp Gr (Qp Lu (B7 (Qp H7 (Qp (Fh rfl rfl) (Bh (fun hc1=>?_) fun hc1=>?_))))))
 .
  rw [if_pos hc1] at hb;refine AW.region (Qp Bx (Qp H7 (Qp (Jh ([[.str _],[.str _]]) rfl) ?_)));refine Qe (Dq rfl (Gu b _ _ _ ha9 R [[32,98,121,32],k0.text] (Cv rfl) (by have h:=hb;(try simp only [Bj,Bv,Au,Bb,Bp,A8] at h ⊢);omega))) ?_;rintro _ _ ⟨v20,a20,rfl,ha20,rfl⟩;refine B7 (Qp Bx (Qp (Jh ([[.str _]]) rfl) ?_));refine Qe (Dq rfl (Gu b _ _ _ ha20 R [[10,109,97,116,99,104,32]] (Cv rfl) (by have h:=hb;(try simp only [Bj,Bv,Au,Bb,Bp,A8] at h ⊢);omega))) ?_;rintro _ _ ⟨v23,a23,rfl,ha23,rfl⟩;refine B7 (Qp Bx (Qp (Qf Ot) (Qp Dd ?_)));refine Qp (Eh Ai rfl rfl (by decide) (Ie (k:=1) (a:=k1) (by rw [hq];rfl))) ?_;refine Qp (Cm Ai) ?_;refine Qe (Dq rfl (hn1 _ _ _ ha23 R (by have h:=hb;(try simp only [Bj,Bv,Au,Bb,Bp,A8] at h ⊢);omega))) ?_;rintro _ _ ⟨v29,a29,rfl,ha29,rfl⟩;refine B7 (Qp Bx (Qp (Jh ([[.str _]]) rfl) ?_));refine Qe (Dq rfl (Gu b _ _ _ ha29 R [[10,114,101,116,117,114,110,32]] (Cv rfl) (by have h:=hb;(try simp only [Bj,Bv,Au,Bb,Bp,A8] at h ⊢);omega))) ?_;rintro _ _ ⟨v32,a32,rfl,ha32,rfl⟩;refine B7 (Qp Bx (Qp (Qf Ot) (Qp Dd ?_)));refine Qp (O9 (l:=2) (h:=(t.kids.map C6).length) tok rfl rfl rfl rfl rfl (⟨_,rfl⟩) (rfl) (by rw [Bt,hq];simp) (Br _) (show _=r.map C6 from by rw [Qm,hq];rfl)) ?_;refine Qe (Dq rfl (qX b _ _ _ ha32 R r hnr (by have h:=hb;(try simp only [Bj,Bv,Au,Bb,Bp,A8] at h ⊢);omega))) ?_;rintro _ _ ⟨v37,a37,rfl,ha37,rfl⟩;refine Ax (AW.region (Qp Bx (Qp (Jh ([[.str _]]) rfl) ?_)));refine Qe (Dq rfl (Gu b _ _ _ ha37 R [[59,10]] (Cv rfl) (by have h:=hb;(try simp only [Bj,Bv,Au,Bb,Bp,A8] at h ⊢);omega))) ?_;rintro _ _ ⟨v40,a40,rfl,ha40,rfl⟩;refine AOL.nil ?_;refine ⟨.inl rfl,[],.nil,_,.refl _,?_⟩;exact wq ha40 (by rw [if_pos hc1];simp only [Bj,Bv,A8,C1,Co,C5])
 rw [Bo hc1] at hb;have ha20:=ha9;refine B2 (Aa (Qp Bx (Qp (Jh ([[.str _]]) rfl) ?_)));refine Qe (Dq rfl (Gu b _ _ _ ha20 R [[10,109,97,116,99,104,32]] (Cv rfl) (by have h:=hb;(try simp only [Bj,Bv,Au,Bb,Bp,A8] at h ⊢);omega))) ?_;rintro _ _ ⟨v23,a23,rfl,ha23,rfl⟩;refine B7 (Qp Bx (Qp (Qf Ot) (Qp Dd ?_)));refine Qp (Eh Ai rfl rfl (by decide) (Ie (k:=1) (a:=k1) (by rw [hq];rfl))) ?_;refine Qp (Cm Ai) ?_;refine Qe (Dq rfl (hn1 _ _ _ ha23 R (by have h:=hb;(try simp only [Bj,Bv,Au,Bb,Bp,A8] at h ⊢);omega))) ?_;rintro _ _ ⟨v29,a29,rfl,ha29,rfl⟩;refine B7 (Qp Bx (Qp (Jh ([[.str _]]) rfl) ?_));refine Qe (Dq rfl (Gu b _ _ _ ha29 R [[10,114,101,116,117,114,110,32]] (Cv rfl) (by have h:=hb;(try simp only [Bj,Bv,Au,Bb,Bp,A8] at h ⊢);omega))) ?_;rintro _ _ ⟨v32,a32,rfl,ha32,rfl⟩;refine B7 (Qp Bx (Qp (Qf Ot) (Qp Dd ?_)));refine Qp (O9 (l:=2) (h:=(t.kids.map C6).length) tok rfl rfl rfl rfl rfl (⟨_,rfl⟩) (rfl) (by rw [Bt,hq];simp) (Br _) (show _=r.map C6 from by rw [Qm,hq];rfl)) ?_;refine Qe (Dq rfl (qX b _ _ _ ha32 R r hnr (by have h:=hb;(try simp only [Bj,Bv,Au,Bb,Bp,A8] at h ⊢);omega))) ?_;rintro _ _ ⟨v37,a37,rfl,ha37,rfl⟩;refine Ax (AW.region (Qp Bx (Qp (Jh ([[.str _]]) rfl) ?_)));refine Qe (Dq rfl (Gu b _ _ _ ha37 R [[59,10]] (Cv rfl) (by have h:=hb;(try simp only [Bj,Bv,Au,Bb,Bp,A8] at h ⊢);omega))) ?_;rintro _ _ ⟨v40,a40,rfl,ha40,rfl⟩;refine AOL.nil ?_;refine ⟨.inl rfl,[],.nil,_,.refl _,?_⟩;exact wq ha40 (by rw [Bo hc1];simp only [Bj,Bv,A8,C1,Co,C5])
theorem Zr (b:Nat)(w:Ag):An Tryz.prog 213 [.val (.pointer (some ⟨b,0,none⟩)),.str w] (.fn (.func 269) [] [.ptr [.val (.pointer (some ⟨b,0,none⟩))],.ptr [.str w]]):=by
 refine Fb 6 Tryz.func213 rfl fun H=>?_
 refine Aa (Qp (X9 (v:=.val _) (cs:=[_]) rfl rfl rfl) (Qp (X9 (v:=.str _) (cs:=[.str _]) rfl rfl rfl) (Qp Sa (B7 (Qp (B9 (l:=[]) (l':=[.ptr _,.ptr _]) rfl rfl) (Qp (Ba (v:=.fn _ _ _) rfl) (Rb (Qr (.fn _ _ _) ?_))))))));rfl
theorem w_new (H:List HO):Cf Tryz.prog 149 H [] (fun x H'=>∃b,x = .val (.pointer (some ⟨b,0,none⟩))/\H'=(.row (.slice none 0 0) (Hs []).length 5 1 :: .box b 216 (.val (.pointer none) :: .row (.slice none 0 0) 1 (Hs [])::Zv b)::H)):=by
 refine Jg 40 Tryz.func149 rfl ?_;refine Aa (Qp Sa (B7 ?_));refine Qp (Jz (l0:=[.val (.pointer none),.val (.slice none 0 0),.val .nilFunc,.val .nilFunc,.val .nilFunc,.val .nilFunc,.val .nilFunc,.val .nilFunc,.val .nilFunc,.val .nilFunc,.val .nilFunc,.val .nilFunc,.val .nilFunc,.val .nilFunc,.val .nilFunc,.val .nilFunc,.val .nilFunc,.val .nilFunc,.val .nilFunc,.val .nilFunc,.val .nilFunc]) (l:=[_,_,_,_,_,_,_,_,_,_,_,_,_,_,_,_,_,_,_,_,_]) tok rfl rfl (by kernel_rfl) rfl) ?_;refine Qe (E_box (v:=.agg _) (cs:=[_,_,_,_,_,_,_,_,_,_,_,_,_,_,_,_,_,_,_,_,_]) rfl rfl (rfl)) ?_;rintro _ _ ⟨b3,rfl,rfl⟩;refine D5 [.val (.pointer none)] fun b1=>?_
 refine By 0 [_] (_::_::_) ?_;refine Kc 1 0 rfl ?_;refine AOL.ghost (GS.cellRow 0 1 5 1 rfl rfl rfl rfl) ?_;refine Re ?_;refine Mo ?_;refine Qn 0 rfl Lh (Qn 1 rfl (B9 (l:=[]) (l':=[.ptr _]) rfl rfl) (Qn 2 rfl Lh (Qn 3 rfl (B9 (l:=[.val _]) (l':=[]) rfl rfl) (Qn 4 rfl (B9 (l:=[]) (l':=[.ptr _]) rfl rfl) (Qn 5 rfl Lh (Qn 6 rfl (B9 (l:=[.val _]) (l':=[]) rfl rfl) (Qn 7 rfl Lh (Qn 8 rfl (B9 (l:=[.val _]) (l':=[]) rfl rfl) ?_))))))));refine Qn 9 rfl Lh (Qn 10 rfl (Qc rfl (Zr b3 _)) (Qn 11 rfl Lh (Qn 12 rfl (Qc rfl (Zr b3 _)) (Qn 13 rfl Lh (Qn 14 rfl (Qc rfl (Zr b3 _)) (Qn 15 rfl Lh (Qn 16 rfl (Qc rfl (Zr b3 _)) (Qn 17 rfl Lh (Qn 18 rfl (Qc rfl (Zr b3 _)) (Qn 19 rfl Lh (Qn 20 rfl (Qc rfl (Zr b3 _)) (Qn 21 rfl Lh (Qn 22 rfl (Qc rfl (Zr b3 _)) (Qn 23 rfl Lh (Qn 24 rfl (B9 (l:=[.val _]) (l':=[]) rfl rfl) (Qn 25 rfl (B9 (l:=[]) (l':=[.ptr _]) rfl rfl) (Qn 26 rfl (B9 (l:=[]) (l':=[.ptr _]) rfl rfl) (Qn 27 rfl Lh (Qn 28 rfl (B9 (l:=[.val _]) (l':=[]) rfl rfl) (Qn 29 rfl Lh (Qn 30 rfl (B9 (l:=[.val _]) (l':=[]) rfl rfl) (Qn 31 rfl (B9 (l:=[]) (l':=[.ptr _]) rfl rfl) ?_))))))))))))))))))))));refine Qn 32 rfl (gU (l:=[.fn (.func 207) [] [.ptr [.val (.pointer (some ⟨b3,0,none⟩))]],.fn (.func 208) [.val (.pointer (some ⟨b3,0,none⟩))] [],.fn (.func 209) [] [.ptr [.val (.pointer (some ⟨b3,0,none⟩))]],.fn (.func 211) [.val (.pointer (some ⟨b3,0,none⟩))] [],.val .nilFunc,.fn (.func 212) [.val (.pointer (some ⟨b3,0,none⟩))] [],.fn (.func 269) [] [.ptr [.val (.pointer (some ⟨b3,0,none⟩))],.ptr [.str Yq]],.fn (.func 269) [] [.ptr [.val (.pointer (some ⟨b3,0,none⟩))],.ptr [.str Yp]],.fn (.func 269) [] [.ptr [.val (.pointer (some ⟨b3,0,none⟩))],.ptr [.str Yn]],.fn (.func 269) [] [.ptr [.val (.pointer (some ⟨b3,0,none⟩))],.ptr [.str Sn]],.fn (.func 269) [] [.ptr [.val (.pointer (some ⟨b3,0,none⟩))],.ptr [.str Ni]],.fn (.func 269) [] [.ptr [.val (.pointer (some ⟨b3,0,none⟩))],.ptr [.str K5]],.fn (.func 269) [] [.ptr [.val (.pointer (some ⟨b3,0,none⟩))],.ptr [.str K4]],.fn (.func 214) [.val (.pointer (some ⟨b3,0,none⟩))] [],.fn (.func 215) [] [.ptr [.val (.pointer (some ⟨b3,0,none⟩))]],.fn (.func 216) [] [.ptr [.val (.pointer (some ⟨b3,0,none⟩))]],.fn (.func 217) [.val (.pointer (some ⟨b3,0,none⟩))] [],.fn (.func 218) [.val (.pointer (some ⟨b3,0,none⟩))] [],.fn (.func 219) [] [.ptr [.val (.pointer (some ⟨b3,0,none⟩))]]]) tok rfl rfl rfl (by kernel_rfl)) ?_;refine Qn 33 rfl (Ad rfl) (Qn 34 rfl Cw ?_);refine Oj 35 rfl (Tq (k:=1) (v:=.agg _) (cs':=(.val (.pointer none) :: .row (.slice none 0 0) 1 [] :: [.fn (.func 207) [] [.ptr [.val (.pointer (some ⟨b3,0,none⟩))]],.fn (.func 208) [.val (.pointer (some ⟨b3,0,none⟩))] [],.fn (.func 209) [] [.ptr [.val (.pointer (some ⟨b3,0,none⟩))]],.fn (.func 211) [.val (.pointer (some ⟨b3,0,none⟩))] [],.val .nilFunc,.fn (.func 212) [.val (.pointer (some ⟨b3,0,none⟩))] [],.fn (.func 269) [] [.ptr [.val (.pointer (some ⟨b3,0,none⟩))],.ptr [.str Yq]],.fn (.func 269) [] [.ptr [.val (.pointer (some ⟨b3,0,none⟩))],.ptr [.str Yp]],.fn (.func 269) [] [.ptr [.val (.pointer (some ⟨b3,0,none⟩))],.ptr [.str Yn]],.fn (.func 269) [] [.ptr [.val (.pointer (some ⟨b3,0,none⟩))],.ptr [.str Sn]],.fn (.func 269) [] [.ptr [.val (.pointer (some ⟨b3,0,none⟩))],.ptr [.str Ni]],.fn (.func 269) [] [.ptr [.val (.pointer (some ⟨b3,0,none⟩))],.ptr [.str K5]],.fn (.func 269) [] [.ptr [.val (.pointer (some ⟨b3,0,none⟩))],.ptr [.str K4]],.fn (.func 214) [.val (.pointer (some ⟨b3,0,none⟩))] [],.fn (.func 215) [] [.ptr [.val (.pointer (some ⟨b3,0,none⟩))]],.fn (.func 216) [] [.ptr [.val (.pointer (some ⟨b3,0,none⟩))]],.fn (.func 217) [.val (.pointer (some ⟨b3,0,none⟩))] [],.fn (.func 218) [.val (.pointer (some ⟨b3,0,none⟩))] [],.fn (.func 219) [] [.ptr [.val (.pointer (some ⟨b3,0,none⟩))]]])) (H2:=_::_::_) tok rfl rfl rfl rfl rfl rfl (rfl) (by kernel_rfl) rfl) ?_
 refine Ig ?_;refine Av (Aa (Qp Lh (Qp Sa (Rb ?_))));refine ⟨.inr rfl,[.val _],Ze,_,S0,?_⟩;exact ⟨b3,rfl,rfl⟩
theorem fns_at {b:Nat}{n:Nat}{x y z:AV}(h:(Zv b)[n]? = some x):(y::z::Zv b)[2+n]? = some x:=by rw [Nat.add_comm];exact h
theorem Jn (b:Nat)(o:Ag)(v:Value)(a:Option Addr)(ha:a=none\/a=some ⟨b,0,none⟩)(R:List HO)(t:Syn)(s:Ag)(f:Nat)(first cap:List AV)(hk:0<=t.kind/\t.kind<=18)(hv:(Zv b)[t.kind.toNat]? = some (.fn (.func f) first cap))(hf:Xq Tryz.prog f=true)(hc:Cf Tryz.prog f (.row v (Hs o).length 5 1 :: .box b 216 (.val (.pointer a) :: .row v 1 (Hs o)::Zv b)::R) (first ++ [.agg (cSyn t)]++cap) (WQ b (o++s) R)):Cf Tryz.prog 150 (.row v (Hs o).length 5 1 :: .box b 216 (.val (.pointer a) :: .row v 1 (Hs o)::Zv b)::R) [.val (.pointer (some ⟨b,0,none⟩)),.agg (cSyn t)] (WQ b (o++s) R):=by
 refine Jg 13 Tryz.func150 rfl ?_;refine Aa (Qp (Hu Ai) (Ax (Rm 1 rfl (Qn 0 rfl Bx (Qn 1 rfl (Qf Ai) (Qn 2 rfl B6 (Qn 3 rfl (Ad rfl) (Qn 4 rfl Cw ?_))))))));refine Qn 5 rfl (fL (o':=(2+t.kind.toNat)) tok rfl rfl rfl rfl rfl (hk.1) (by omega) (by show 2+t.kind.toNat*1=_;omega)) ?_;refine Qn 6 rfl (Dp.mem (fun k=>Cr (k:=k) (c:=.fn (.func f) first cap) tok rfl rfl rfl (fns_at hv)) (fun _ h=>h)) ?_;refine Qn 7 rfl (Cm Ai) ?_;refine fY 8 rfl (Lt (hf) rfl rfl rfl (Cf.front2 (R:=_) 1 0 rfl rfl rfl (hc))) ?_;rintro _ _ ⟨v12,a12,rfl,ha12,rfl⟩;refine ⟨.inl rfl,[],.nil,_,.refl _,?_⟩;exact ⟨v12,a12,rfl,ha12,rfl⟩
theorem node_ok (b:Nat)(t:Syn):∀p,Al t p=0->Jv t->0<=t.kind->t.kind<=18->t.kind≠4->Jk b t:=by
 refine Syn.ind (P:=fun t=>∀p,Al t p=0->Jv t->0<=t.kind->t.kind<=18->t.kind≠4->Jk b t) (fun t ih p h hf k0 k18 k4=>?_) t;have hi:=ok_num h;have hi64 : -9223372036854775808<=t.num/\t.num<=9223372036854775807:=by omega
 obtain ⟨ho,_⟩:=Cq h;obtain ⟨_,hs,_,hfl⟩:=Ct ho
 have kid:∀(j:Nat) a,t.kids[j]? = some a->a.kind≠4->Jk b a:=fun j a ha h4=>by
  obtain ⟨c,k⟩:=Ei h ha;have kk:=tJ k;exact ih a (Aj ha) _ c (T8 hf (Aj ha)) (by omega) kk.2 h4
 have kids:t.kind≠3->∀a∈t.kids,Jk b a:=fun h3 a ha=>by
  obtain ⟨j,hj⟩:=Gp.1 ha;refine kid j a hj ?_;obtain ⟨c,k⟩:=Ei h hj;unfold Dm at k;rw [if_neg (show ¬(t.kind==3)=true by simpa using h3)] at k
  repeat' split at k
  all_goals first | (have:=Fx k;omega) | (have:=N2 k;omega) | (have:=Zl k;omega)
 have hr:0<=t.kind/\t.kind<=18:=⟨k0,k18⟩;have hcases:t.kind=0\/t.kind=1\/t.kind=2\/t.kind=3\/t.kind=5\/t.kind=6\/t.kind=7\/t.kind=8\/t.kind=9\/t.kind=10\/t.kind=11\/t.kind=12\/t.kind=13\/t.kind=14\/t.kind=15\/t.kind=16\/t.kind=17\/t.kind=18:=by omega
 intro o v a ha R hb;have e:=Fl t
 have wsn:(t.kids.map Ae == [])=true↔¬0<t.kids.length:=by
  cases hq:t.kids <;> simp
 rcases hcases with hk | hk | hk | hk | hk | hk | hk | hk | hk | hk | hk | hk | hk | hk | hk | hk | hk | hk
 .
  skip
  have e2:Ae t=(t.kids.map Ae).flatten:=by rw [e];unfold Do;rw [hk];rfl
  rw [e2] at hb ⊢;exact Jn b o v a ha R t _ 207 [] [.ptr [.val (.pointer (some ⟨b,0,none⟩))]] hr (by rw [hk];rfl) (by kernel_rfl) (w_program b o v a ha R t (kids (by omega)) hb)
 .
  skip
  have e2:Ae t = [116,121,112,101,32]++t.text ++ [32,123]++(if 0<t.kids.length then [32]++D6 (t.kids.map Ae) ++ [32] else []) ++ [125,10]:=by
   rw [e];unfold Do;rw [hk];show Dj ++ [32]++t.text ++ [32,123]++(if (t.kids.map Ae == [])=true then [] else [32]++D6 (t.kids.map Ae) ++ [32]) ++ [125,10]=_;by_cases h0:0<t.kids.length
   . rw [if_pos h0,if_neg (fun h=>(wsn.1 h) h0)];simp
   rw [if_neg h0,if_pos (wsn.2 h0)];simp
  rw [e2] at hb ⊢;exact Jn b o v a ha R t _ 208 [.val (.pointer (some ⟨b,0,none⟩))] [] hr (by rw [hk];rfl) (by kernel_rfl) (w_decl b o v a ha R t (kids (by omega)) hb)
 .
  skip
  have e2:Ae t=t.text++([58,32]:Ag)++Im t.num:=by rw [e];unfold Do;rw [hk];rfl
  rw [e2] at hb ⊢;exact Jn b o v a ha R t _ 209 [] [.ptr [.val (.pointer (some ⟨b,0,none⟩))]] hr (by rw [hk];rfl) (by kernel_rfl) (w_field b o v a ha R t (cD hfl hk) hb)
 .
  skip
  obtain ⟨q0,q1,r,hq⟩:∃q0 q1 r,t.kids=q0::q1::r:=by
   unfold Dn at hs;rw [hk] at hs
   replace hs:decide (3<=(t.kids.length:Int))=true:=hs
   simp only [Ck] at hs
   match hq:t.kids with
   | []=>rw [hq] at hs;simp at hs
   | [x]=>rw [hq] at hs;simp at hs
   | x::y::r=>exact ⟨x,y,r,rfl⟩
  have no4:∀(j:Nat) x,1<=j->t.kids[j]? = some x->x.kind≠4:=fun j x hj hx=>by
   obtain ⟨c,k⟩:=Ei h hx;unfold Dm at k;rw [hk] at k;have e3:((j:Int)==0)=false:=by simp;omega
   simp only [e3] at k
   replace k:(if ((j:Int)==1)=true then Pl.pats else Pl.exps).at x.kind=true:=k
   split at k
   . have:=Zl k;omega
   have:=N2 k;omega
  have hq1:Jk b q1:=kid 1 q1 (by rw [hq];rfl) (no4 1 q1 (Br _) (by rw [hq];rfl))
  have hqr:∀x∈r,Jk b x:=fun x hx=>by
   obtain ⟨j,hj⟩:=Gp.1 hx;have hj2:t.kids[j+2]? = some x:=by rw [hq];simpa using hj
   exact kid (j+2) x hj2 (no4 (j+2) x (by omega) hj2)
  have e2:Ae t=([113,117,101,114,121,32]:Ag)++t.text++(if !(q0.text == []) then ([32,98,121,32]:Ag)++q0.text else [])++([10,109,97,116,99,104,32]:Ag)++Ae q1++([10,114,101,116,117,114,110,32]:Ag)++D6 (r.map Ae)++([59,10]:Ag):=by
   rw [e];unfold Do;rw [hk];show C0 ++ [32]++t.text++(if ((Bi t 0).text == [])=true then [] else [32]++Oa ++ [32]++(Bi t 0).text) ++ [10]++E4 ++ [32]++(t.kids.map Ae).getD 1 [] ++ [10]++Dw ++ [32]++D6 ((t.kids.map Ae).drop 2) ++ [59,10]=_;have k0:Bi t 0=q0:=by unfold Bi;rw [hq];rfl
   rw [k0,hq];show C0 ++ [32]++t.text++(if (q0.text == [])=true then [] else [32]++Oa ++ [32]++q0.text) ++ [10]++E4 ++ [32]++Ae q1 ++ [10]++Dw ++ [32]++D6 (r.map Ae) ++ [59,10]=_;cases hc:(q0.text == [])
   . simp
   simp
  rw [e2] at hb ⊢;exact Jn b o v a ha R t _ 211 [.val (.pointer (some ⟨b,0,none⟩))] [] hr (by rw [hk];rfl) (by kernel_rfl) (w_query b o v a ha R t q0 q1 r hq hq1 hqr hb)
 .
  skip
  have e2:Ae t=t.text++([32]:Ag)++t.name++(if h:0<t.kids.length then ([32,105,102,32]:Ag)++Ae t.kids[0] else []):=by
   rw [e];unfold Do;rw [hk];show t.text ++ [32]++t.name++(if (t.kids.map Ae == [])=true then [] else [32]++Me ++ [32]++(t.kids.map Ae).getD 0 [])=_;by_cases h0:0<t.kids.length
   .
    rw [dif_pos h0,if_neg (fun h=>(wsn.1 h) h0)];have:(t.kids.map Ae).getD 0 []=Ae t.kids[0]:=by rw [Ez,List.getElem?_map,List.getElem?_eq_getElem h0];rfl
    rw [this];simp
   rw [dif_neg h0,if_pos (wsn.2 h0)]
  rw [e2] at hb ⊢;exact Jn b o v a ha R t _ 212 [.val (.pointer (some ⟨b,0,none⟩))] [] hr (by rw [hk];rfl) (by kernel_rfl) (w_event b o v a ha R t (kids (by omega)) hb)
 .
  skip
  have e2:Ae t=Yq++([40]:Ag)++D6 (t.kids.map Ae)++(if t.kind==11 then ([44,32]:Ag)++Lib.itoa t.num else [])++([41]:Ag):=by rw [e];unfold Do;rw [hk];rfl
  rw [e2] at hb ⊢;exact Jn b o v a ha R t _ 269 [] [.ptr [.val (.pointer (some ⟨b,0,none⟩))],.ptr [.str Yq]] hr (by rw [hk];rfl) (by kernel_rfl) (Ul b o v a ha R t Yq hi64 (kids (by omega)) hb)
 .
  skip
  have e2:Ae t=Yp++([40]:Ag)++D6 (t.kids.map Ae)++(if t.kind==11 then ([44,32]:Ag)++Lib.itoa t.num else [])++([41]:Ag):=by rw [e];unfold Do;rw [hk];rfl
  rw [e2] at hb ⊢;exact Jn b o v a ha R t _ 269 [] [.ptr [.val (.pointer (some ⟨b,0,none⟩))],.ptr [.str Yp]] hr (by rw [hk];rfl) (by kernel_rfl) (Ul b o v a ha R t Yp hi64 (kids (by omega)) hb)
 .
  skip
  have e2:Ae t=Yn++([40]:Ag)++D6 (t.kids.map Ae)++(if t.kind==11 then ([44,32]:Ag)++Lib.itoa t.num else [])++([41]:Ag):=by rw [e];unfold Do;rw [hk];rfl
  rw [e2] at hb ⊢;exact Jn b o v a ha R t _ 269 [] [.ptr [.val (.pointer (some ⟨b,0,none⟩))],.ptr [.str Yn]] hr (by rw [hk];rfl) (by kernel_rfl) (Ul b o v a ha R t Yn hi64 (kids (by omega)) hb)
 .
  skip
  have e2:Ae t=Sn++([40]:Ag)++D6 (t.kids.map Ae)++(if t.kind==11 then ([44,32]:Ag)++Lib.itoa t.num else [])++([41]:Ag):=by rw [e];unfold Do;rw [hk];rfl
  rw [e2] at hb ⊢;exact Jn b o v a ha R t _ 269 [] [.ptr [.val (.pointer (some ⟨b,0,none⟩))],.ptr [.str Sn]] hr (by rw [hk];rfl) (by kernel_rfl) (Ul b o v a ha R t Sn hi64 (kids (by omega)) hb)
 .
  skip
  have e2:Ae t=Ni++([40]:Ag)++D6 (t.kids.map Ae)++(if t.kind==11 then ([44,32]:Ag)++Lib.itoa t.num else [])++([41]:Ag):=by rw [e];unfold Do;rw [hk];rfl
  rw [e2] at hb ⊢;exact Jn b o v a ha R t _ 269 [] [.ptr [.val (.pointer (some ⟨b,0,none⟩))],.ptr [.str Ni]] hr (by rw [hk];rfl) (by kernel_rfl) (Ul b o v a ha R t Ni hi64 (kids (by omega)) hb)
 .
  skip
  have e2:Ae t=K5++([40]:Ag)++D6 (t.kids.map Ae)++(if t.kind==11 then ([44,32]:Ag)++Lib.itoa t.num else [])++([41]:Ag):=by rw [e];unfold Do;rw [hk];rfl
  rw [e2] at hb ⊢;exact Jn b o v a ha R t _ 269 [] [.ptr [.val (.pointer (some ⟨b,0,none⟩))],.ptr [.str K5]] hr (by rw [hk];rfl) (by kernel_rfl) (Ul b o v a ha R t K5 hi64 (kids (by omega)) hb)
 .
  skip
  have e2:Ae t=K4++([40]:Ag)++D6 (t.kids.map Ae)++(if t.kind==11 then ([44,32]:Ag)++Lib.itoa t.num else [])++([41]:Ag):=by rw [e];unfold Do;rw [hk];rfl
  rw [e2] at hb ⊢;exact Jn b o v a ha R t _ 269 [] [.ptr [.val (.pointer (some ⟨b,0,none⟩))],.ptr [.str K4]] hr (by rw [hk];rfl) (by kernel_rfl) (Ul b o v a ha R t K4 hi64 (kids (by omega)) hb)
 .
  skip
  have e2:Ae t=U1 t:=by rw [e];unfold Do;rw [hk];rfl
  rw [e2] at hb ⊢;exact Jn b o v a ha R t _ 214 [.val (.pointer (some ⟨b,0,none⟩))] [] hr (by rw [hk];rfl) (by kernel_rfl) (w_constant b o v a ha R t hi64 (uB hf).1 hb)
 .
  skip
  have e2:Ae t=t.text++([46]:Ag)++t.name:=by rw [e];unfold Do;rw [hk];rfl
  rw [e2] at hb ⊢;exact Jn b o v a ha R t _ 215 [] [.ptr [.val (.pointer (some ⟨b,0,none⟩))]] hr (by rw [hk];rfl) (by kernel_rfl) (w_ref b o v a ha R t hb)
 .
  skip
  have e2:Ae t=([99,111,117,110,116,40]:Ag)++t.text++([41]:Ag):=by rw [e];unfold Do;rw [hk];rfl
  rw [e2] at hb ⊢;exact Jn b o v a ha R t _ 216 [] [.ptr [.val (.pointer (some ⟨b,0,none⟩))]] hr (by rw [hk];rfl) (by kernel_rfl) (w_count b o v a ha R t hb)
 .
  skip
  have e2:Ae t=Nl t.num++([40]:Ag)++t.text++([46]:Ag)++t.name++Og (t.kids.map Ae)++([41]:Ag):=by
   rw [e];unfold Do;rw [hk];show Nl t.num ++ [40]++t.text ++ [46]++t.name++(if (t.kids.map Ae == [])=true then [] else [44,32]++(t.kids.map Ae).getD 0 []) ++ [41]=_;unfold Dn at hs;rw [hk] at hs
   replace hs:(if (t.num==1)=true then ((t.kids.length:Int)==0) else ((t.kids.length:Int)==1))=true:=hs
   have hl:t.kids.length<=1:=by split at hs <;> (simp only [beq_iff_eq] at hs;omega)
   match hq:t.kids with
   | []=>rfl
   | [x]=>simp [Og]
   | x::y::r=>rw [hq] at hl;simp at hl
  rw [e2] at hb ⊢;exact Jn b o v a ha R t _ 217 [.val (.pointer (some ⟨b,0,none⟩))] [] hr (by rw [hk];rfl) (by kernel_rfl) (w_total b o v a ha R t (X4 hfl hk) (kids (by omega)) hb)
 .
  skip
  unfold Dn at hs;rw [hk] at hs
  replace hs:((t.kids.length:Int)==2)=true:=hs
  obtain ⟨x0,x1,hq⟩:=Vk (by simpa using hs)
  have e2:Ae t=Hk t x0 (Ae x0)++([32]:Ag)++Mk t.num++([32]:Ag)++Hk t x1 (Ae x1):=by
   rw [e];unfold Do;rw [hk];show Hk t (Bi t 0) ((t.kids.map Ae).getD 0 []) ++ [32]++Mk t.num ++ [32]++Hk t (Bi t 1) ((t.kids.map Ae).getD 1 [])=_;have k0:Bi t 0=x0:=by unfold Bi;rw [hq];rfl
   have k1:Bi t 1=x1:=by unfold Bi;rw [hq];rfl
   rw [k0,k1,hq];rfl
  rw [e2] at hb ⊢;exact Jn b o v a ha R t _ 218 [.val (.pointer (some ⟨b,0,none⟩))] [] hr (by rw [hk];rfl) (by kernel_rfl) (w_binary b o v a ha R t x0 x1 (by rw [hq];rfl) (by rw [hq];rfl) (by have:=fZ hfl hk;omega) (kids (by omega) x0 (by rw [hq];simp)) (kids (by omega) x1 (by rw [hq];simp)) hb)
 skip
 unfold Dn at hs;rw [hk] at hs
 replace hs:((t.kids.length:Int)==1)=true:=hs
 obtain ⟨x0,hq⟩:=Td (by simpa using hs)
 have e2:Ae t=([110,111,116,32]:Ag)++Hk t x0 (Ae x0):=by
  rw [e];unfold Do;rw [hk];show F7 ++ [32]++Hk t (Bi t 0) ((t.kids.map Ae).getD 0 [])=_;have k0:Bi t 0=x0:=by unfold Bi;rw [hq];rfl
  rw [k0,hq];rfl
 rw [e2] at hb ⊢;exact Jn b o v a ha R t _ 219 [] [.ptr [.val (.pointer (some ⟨b,0,none⟩))]] hr (by rw [hk];rfl) (by kernel_rfl) (w_not b o v a ha R t x0 (by rw [hq];rfl) (kids (by omega) x0 (by rw [hq];simp)) hb)
theorem Xh {t:Syn}{p:Pl}{e:Int}(h:aS p t=e)(he:e≠0):Al t p=e:=by
 rw [Sy,h,if_pos (by simpa using he)]
theorem xL {t:Syn}{p:Pl}(h:aS p t=0):Al t p=Mi t 0 (t.kids.drop 0):=by
 rw [Sy,h,if_neg (by decide),Qt]
theorem jK {t x:Syn}{k:Nat}(h:t.kids[k]? = some x):Mi t k (t.kids.drop k)=if (Al x (Dm t k) != 0) then Al x (Dm t k) else Mi t (k+1) (t.kids.drop (k+1)):=by
 obtain ⟨h1,rfl⟩:=List.getElem?_eq_some_iff.1 h;rw [Qz h1,Mi]
theorem sH {t x:Syn}{k:Nat}(h:t.kids[k]? = some x):E8 t.kind (t.kids.drop k)=max (C7 x+(if Dc t.kind x.kind then 1 else 0)) (E8 t.kind (t.kids.drop (k+1))):=by
 obtain ⟨h1,rfl⟩:=List.getElem?_eq_some_iff.1 h;rw [Qz h1,E8]
theorem nJ {t:Syn}(h:Jv t):C7 t<=40000000:=by
 have h1:=mI t;have h2:=med_cnt h;omega
theorem w_check (t:Syn)(p:Pl)(hfew:Jv t):An Tryz.prog 147 [.agg (cSyn t),rD p] (.int .i64 (Al t p)):=by
 revert p hfew
 induction t using Syn.ind
 rename_i t ih;intro p hfew;have hkl:=aL hfew;have htx:=uB hfew;obtain ⟨f,first,cap,hv,hfn,hP⟩:=pl_fn p;rw [hv];refine Fb 45 Tryz.func147 rfl fun H=>?_
 refine Aa (Qp (Hu Ai) (Qp Aq (Re (AW.block (Aa (Qp (A1 (v:=.fn _ _ _) rfl) (Qp (Qf Ai) (Qp B6 (Qp (R0 hfn rfl rfl rfl (hP t.kind)) (Qp Ix (Qp Bc (Bh (fun hc1=>Aa (Qp Aq (Ra (Qr (Iq _) ?_)))) fun hc1=>Aa (Qp (Cm Ai) (Qp (Qc rfl (w_shaped t)) (Qp Ix (Qp Bc (Bh (fun hc2=>Aa (Qp Aq (Ra (Qr (Iq _) ?_)))) fun hc2=>?_)))))))))))))))))
 .
  have h9:Al t p=1:=Xh (if_pos hc1) (by decide);rw [h9];rfl
 .
  have h9:Al t p=15:=Xh ((Bo hc1).trans (if_pos hc2)) (by decide);rw [h9];rfl
 refine Aa (Qp (Cm Ai) (Qp (Qc rfl (w_named t htx.1 htx.2)) (Qp Ix (Qp Bc (Bh (fun hc3=>Aa (Qp Aq (Ra (Qr (Iq _) ?_)))) fun hc3=>Rf (B5 (Qp (Cm Ai) (Qp (Qc rfl (w_fields t)) (Qp Aq (B7 (Qp Ap (Qp Cb (Bh (fun hc4=>Aa (Qp Ap (Qp Aq (Rc (Qr (Iq _) ?_))))) fun hc4=>?_)))))))))))))
 .
  have h9:Al t p=8:=Xh (((Bo hc1).trans (Bo hc2)).trans (if_pos hc3)) (by decide);rw [h9];rfl
 .
  have h9:Al t p=Dl t:=Xh (((Bo hc1).trans (Bo hc2)).trans (Bo hc3)) (by simpa using hc4);rw [h9];rfl
 have h0:aS p t=0:=by unfold aS;rw [Bo hc1,Bo hc2,Bo hc3];simpa using hc4
 refine B2 (B5 (Qp (Qf Ot) (Qp Dd ?_)));refine Qp (E6 t.kids.length rfl rfl (by simp)) ?_;refine Qp Ap (Ax (AW.block ?_));refine AW.Aad (fun (k:Nat)=>(⟨[(2,.ptr (cSyn t)),(29,.sl 6 (t.kids.map C6)),(30,.int .i64 t.kids.length),(31,.int .i64 (k:Int))],H,45⟩:St)) (fun k=>k<=t.kids.length/\Al t p=Mi t k (t.kids.drop k)) (fun k=>t.kids.length-k) (0) ?_ C2 ?_
 . exact ⟨A9 _,xL h0⟩
 rintro k hR;refine Aa (Qp Cn (Re (Hb (fun hc5=>?_) fun hc5=>?_)))
 .
  obtain ⟨x,hx⟩:=gt2 (l:=t.kids) (k:=k) (by have:=Ey hc5;omega);have hlt:=nD hx;have hm:=Aj hx;refine B2 (AW.seq (AW.block (Aa (Qp Ap ?_))));refine Qp (Eh Ai rfl rfl (by omega) (Ie hx)) ?_;refine Qp (Cm Ai) ?_;refine D5 I6 fun b7=>?_
  refine Qp Aq ?_;refine By 0 Ai (_::_) ?_;refine Kc 7 0 rfl ?_;refine Re ?_;refine Mo ?_;refine Qn 0 rfl (Cm Ai) (Qn 1 rfl (Cm Ai) (Qn 2 rfl Ap ?_));refine Qn 3 rfl (Qc rfl (w_kid t k hlt (by omega))) ?_;refine Qn 4 rfl (Qc rfl (ih x hm (Dm t k) (T8 hfew hm))) (Qn 5 rfl Aq ?_);refine Ig ?_;refine Av (Aa (Qp Ap (Qp Cb (Bh (fun hc6=>Aa (Qp Ap (Qp Aq (Ra (A7 (Dz (A7 (Qr (Iq _) ?_)))))))) fun hc6=>Rf (AW.region (Qp Gw (Qp Ap (Ax ?_))))))))
  .
   have h9:Al t p=Al x (Dm t k):=by rw [hR.2,jK hx,if_pos hc6]
   rw [h9];rfl
  refine ⟨k+1,?_,?_,C2⟩
  . exact ⟨hlt,by rw [hR.2,jK hx,Bo hc6]⟩
  omega
 have hk:t.kids.length<=k:=by have:=G3 hc5;omega
 refine AW.exit ?_;refine B1 (Ri (Aa (Qp Aq (Rb ?_))));refine Qr (Iq _) ?_;have h9:Al t p=0:=by rw [hR.2,Q8 hk,Mi]
 rw [h9];rfl
theorem w_depth (t:Syn)(hfew:Jv t):An Tryz.prog 148 [.agg (cSyn t)] (.int .i64 (C7 t:Int)):=by
 revert hfew
 induction t using Syn.ind
 rename_i t ih;intro hfew;have hkl:=aL hfew;refine Fb 43 Tryz.func148 rfl fun H=>?_
 refine Aa (Qp (Hu Ai) (Qp Aq (B7 (Qp Aq (Ax (B5 (Qp (Qf Ot) (Qp Dd ?_))))))));refine Qp (E6 t.kids.length rfl rfl (by simp)) ?_;refine Qp Ap (Ax (AW.block ?_));refine AW.Aad (fun (p:Nat×Nat)=>(⟨[(1,.ptr (cSyn t)),(3,.int .i64 (p.2:Int)),(8,.sl 6 (t.kids.map C6)),(9,.int .i64 t.kids.length),(10,.int .i64 (p.1:Int))],H,43⟩:St)) (fun p=>p.1<=t.kids.length/\E8 t.kind t.kids=max p.2 (E8 t.kind (t.kids.drop p.1))/\p.2<=50000000) (fun p=>t.kids.length-p.1) ((0,0)) ?_ C2 ?_
 . exact ⟨A9 _,by simp,A9 _⟩
 rintro p hR;refine Aa (Qp Cn (Re (Hb (fun hc1=>?_) fun hc1=>?_)))
 .
  obtain ⟨x,hx⟩:=gt2 (l:=t.kids) (k:=p.1) (by have:=Ey hc1;omega);have hlt:=nD hx;have hm:=Aj hx;have hdx:=nJ (T8 hfew hm);have hd2:=sH hx;refine B2 (AW.seq (AW.block (Aa ?_)));refine Qp (Eh Ai rfl rfl (by omega) (Ie hx)) ?_;refine Qp (Cm Ai) ?_;refine D5 I6 fun b5=>?_
  refine By 0 Ai (_::_) ?_;refine Kc 5 0 rfl ?_;refine B7 (Qp (Cm Ai) (Qp (Qc rfl (ih x hm (T8 hfew hm))) (Qp Aq (Ax (B5 (Qp (Qf Ai) (Qp B6 (Qp (Qf Ai) (Qp B6 (Qp (Qc rfl (wM t.kind x.kind)) (Bh (fun hc2=>?_) fun hc2=>?_)))))))))))
  .
   rw [if_pos hc2] at hd2;refine AW.region (Qp Ap (Qp Gw (Qp Aq (Ax (AW.region (Qp Ap (Qp Ap (Qp (lV rfl rfl) (Qp Aq (Rk (AW.region (Qp Gw (Qp Ap (Ax ?_))))))))))))));refine ⟨(p.1+1,max p.2 (C7 x+1)),?_,?_,GS.weaken ⟨rfl,congrArg (AV.int .i64) (by simp only;omega),rfl,rfl,rfl,trivial⟩ (.refl _)⟩
   . exact ⟨hlt,by simp only;omega,by simp only;omega⟩
   simp only;omega
  rw [Bo hc2] at hd2;refine B2 (AW.region (Qp Ap (Qp Ap (Qp (lV rfl rfl) (Qp Aq (Rk (AW.region (Qp Gw (Qp Ap (Ax ?_))))))))));refine ⟨(p.1+1,max p.2 (C7 x)),?_,?_,GS.weaken ⟨rfl,congrArg (AV.int .i64) (by simp only;omega),rfl,rfl,rfl,trivial⟩ (.refl _)⟩
  . exact ⟨hlt,by simp only;omega,by simp only;omega⟩
  simp only;omega
 have hk:t.kids.length<=p.1:=by have:=G3 hc1;omega
 have he:=hR.2.1;rw [Q8 hk,E8] at he;have hfd:=nJ hfew;have hde:=Mu t;refine AW.exit ?_;refine B1 (Ri (B5 (Qp (Qf Ai) (Qp B6 (Qp Bl (Qp Cc ?_))))));refine Qg [] Qw (Qf Ai) (Qg [(31,_)] Qw B6 (Qg [(32,_)] Qw (Qc rfl (w_pats t.kind)) ?_));refine Qg [(33,_)] Qw Cc (Qg [] Qw (Qf Ai) (Qg [(35,_)] Qw B6 (Qg [(36,_)] Qw Cb (Qg [(34,_),(37,_)] Qw Ju (Qp E5 (Bh (fun hc3=>AW.region (Qp Ap (Qp Gw (Qp Aq (B7 (Qp Ap (Qp Aq (Rb (Qr (Iq _) ?_))))))))) fun hc3=>B2 (Aa (Qp Ap (Qp Aq (Rb (Qr (Iq _) ?_)))))))))))
 .
  have h9:C7 t=p.2+1:=by rw [hde,if_pos hc3];omega
  rw [h9];rfl
 have h9:C7 t=p.2:=by rw [hde,Bo hc3];omega
 rw [h9];rfl
def Pl.fine (p:Pl):Prop:=∀k,p.at k=true->0<=k/\k<=18/\k≠4
theorem oZ:Pl.fine (.only 0):=fun k h=>by have:=Fx h;omega
theorem sW:Pl.fine (.only 3):=fun k h=>by have:=Fx h;omega
theorem nZ (t:Syn)(p:Pl)(hfew:Jv t)(hp:p.fine):An Tryz.prog 87 [.agg (cSyn t),rD p] (.tuple [.str (Bg t p).1,.int .i64 (Bg t p).2]):=by
 obtain ⟨f,first,cap,hv,hfn,hP⟩:=pl_fn p;have hck:=w_check t p hfew;rw [hv] at hck ⊢;refine Fb 30 Tryz.func87 rfl fun H=>?_
 refine Aa (Qp (Hu Ai) (Qp Lu (Qp Aq (Ax (B5 (Qp (Cm Ai) (Qp (A1 (v:=.fn _ _ _) rfl) (Qp (Qc rfl (hck)) (Qp Aq (B7 (Qp Ap (Qp Cb (Bh (fun hc1=>Aa (Qp Ap (Qp Lu (Qp Aq (Rc (O0 (.str _) (Iq _) ?_)))))) fun hc1=>?_)))))))))))))
 .
  have h9:Bg t p=([],Al t p):=if_pos hc1;rw [h9];rfl
 have h0:Al t p=0:=by simpa using hc1
 have hkd:=hp _ (Ct (Cq h0).1).1;have hwl:=med_big h0 hfew;refine B2 (B5 (Qp (Cm Ai) (Qp (Qc rfl (w_depth t hfew)) (Qp Gx (Bh (fun hc2=>Aa (Qp Lu (Qp Aq (Rc (O0 (.str _) (Iq _) ?_))))) fun hc2=>B2 (Aa (Qe (Dq rfl (w_new _)) ?_)))))))
 .
  have h9:Bg t p=([],12):=(Bo hc1).trans (if_pos hc2);rw [h9];rfl
 rintro _ _ ⟨b17,rfl,rfl⟩;refine Qp Sa (B7 (Qp Bx (Qp (Cm Ai) ?_)));refine Qe (Dq rfl (node_ok b17 t p h0 hfew hkd.1 hkd.2.1 hkd.2.2 [] _ _ (.inl rfl) _ (by show 0+(Ae t).length<=mB;unfold mB;omega))) ?_;rintro _ _ ⟨v20,a20,rfl,ha20,rfl⟩;refine Ax (B5 (Qp Bx (Qp (Ad rfl) (Qp Cw (wX (k_blen b17 216 _ _ _ _ _) (Qp Gx (Bh (fun hc3=>Aa (Qp Lu (Qp Aq (Rc ?_)))) fun hc3=>B2 (Aa (Qp Bx (Qp (Ad rfl) (Qp Cw (wX (k_string b17 216 _ _ _ _ _) (Qp Lu (Qp Aq (Rb ?_)))))))))))))))
 .
  refine Yx Iv Zf S2 ?_;have h9:Bg t p=([],13):=((Bo hc1).trans (Bo hc2)).trans (if_pos hc3);rw [h9];rfl
 refine Yx Iv Zf S2 ?_;have h9:Bg t p=(Ae t,0):=((Bo hc1).trans (Bo hc2)).trans (Bo hc3);rw [h9];rfl
theorem tZ (t:Syn)(hfew:Jv t):An Tryz.prog 36 [.agg (cSyn t)] (.tuple [.str (Bg t (.only 0)).1,.int .i64 (Bg t (.only 0)).2]):=by
 refine Fb 9 Tryz.func36 rfl fun H=>?_
 refine Aa (Qp (Hu Ai) (Qp Lu (Qp Aq (Re ?_))));refine Mo ?_;refine Qn 0 rfl (Cm Ai) (Qn 1 rfl (Qc rfl (Wm _)) (Qn 2 rfl (Qc rfl (nZ t (.only 0) hfew oZ)) (Qn 3 rfl xE (Qn 4 rfl Lv (Qn 5 rfl Lu (Qn 6 rfl Aq ?_))))));refine Ig ?_;refine Av (AW.ret (O0 (.str _) (Iq _) ?_));rfl
theorem m_Query (t:Syn)(hfew:Jv t):An Tryz.prog 45 [.agg (cSyn t)] (.tuple [.str (Bg t (.only 3)).1,.int .i64 (Bg t (.only 3)).2]):=by
 refine Fb 9 Tryz.func45 rfl fun H=>?_
 refine Aa (Qp (Hu Ai) (Qp Lu (Qp Aq (Re ?_))));refine Mo ?_;refine Qn 0 rfl (Cm Ai) (Qn 1 rfl (Qc rfl (Wm _)) (Qn 2 rfl (Qc rfl (nZ t (.only 3) hfew sW)) (Qn 3 rfl xE (Qn 4 rfl Lv (Qn 5 rfl Lu (Qn 6 rfl Aq ?_))))));refine Ig ?_;refine Av (AW.ret (O0 (.str _) (Iq _) ?_));rfl
theorem vF (t:Syn)(ht:Jv t):An Tryz.prog 58 [.agg (cSyn t)] (.int .i64 (Bg t (.only 0)).2):=by
 refine Fb 11 Tryz.func58 rfl fun H=>?_
 refine Aa (Qp (Hu Ai) (Qp Aq (B7 (Qp (Cm Ai) (Qp (Qc rfl (tZ t ht)) (Qp Oz (Qp xE (Qp Lv (Qp Lu (Qp Aq (B7 (Qp Ap (Qp Aq (Rb (Qr (Iq _) ?_)))))))))))))));rfl
abbrev bN (q:Qy×Int×Int):AV:=AV.tuple [.agg (cQy q.1),.int .i64 q.2.1,.int .i64 q.2.2]
abbrev Xb (q:List e8Sc×Fa):AV:=AV.tuple [.sl 2 (q.1.map Lz),.agg (oJ q.2)]
theorem rf_Query (T:List e8Sc)(hl:T.length<=1048576)(hs:∀s∈T,Th s)(t:Syn)(ht:Wg t):An Tryz.prog 14 [.sl 2 (T.map Lz),.agg (cSyn t)] (.tuple [.agg (cQy (fN T t).1),.int .i64 (fN T t).2.1,.int .i64 (fN T t).2.2]):=by
 refine Fb 37 Tryz.func14 rfl fun H=>?_
 refine Aa (Qp (Hu Ai) (D5 ghz fun b4=>Qp Aq (Qp Aq (Ax (B5 (Qp K7 (Qp (Qc rfl (e8c57 T hl hs)) (Qp Aq (B7 (Qp Ap (Qp Cb (Bh (fun hc1=>Aa (Qp (Fj J5) (Qp Ap ?_))) fun hc1=>?_))))))))))))
 .
  refine By 0 J5 (_::_) (Qp Aq (Qp Aq (Rc ?_)));refine Yx [.agg J5,Iq _,Iq _] (Zd 0) S1 ?_;exact Ye bN (qp_1 T t hc1)
 refine B2 (B5 (Qp (Cm Ai) (Qp (Qc rfl (m_Query t (yI ht))) (Qp Oz (Qp xE (Qp Lv (Qp Lu (Qp Aq (B7 (Qp Ap (Qp Cb (Bh (fun hc2=>Aa (Qp (Fj J5) ?_)) fun hc2=>B2 (Aa (Qp K7 (Qp (Cm Ai) (Qp (Qc rfl (vI T (xF hc1) t ⟨ht,bG hc2⟩)) (Qp Oz (Qp (Ch (v:=.agg J5) rfl rfl) (Qp (Ch (v:=.agg Id) rfl rfl) (D5 ghz fun b10=>D5 lN fun b11=>?_))))))))))))))))))))
 .
  refine By 0 J5 (_::_) (Qp Aq (Qp Aq (Rc ?_)));refine Yx [.agg J5,Iq _,Iq _] (Zd 0) S1 ?_;exact Ye bN (qp_2 T t hc1 hc2)
 refine By 1 J5 (_::_::_::_) ?_;refine By 0 Id (_::_::_::_) ?_;refine Kc 11 0 rfl ?_;refine Kc 10 0 rfl ?_;refine Re ?_;refine Mo ?_;refine Qn 0 rfl (Cm J5) (Qn 1 rfl (Qf Id) (Qn 2 rfl B6 (Qn 3 rfl (Qf [Iq _]) (Qn 4 rfl B6 ?_))));refine Oj 5 rfl (Kt 0 (.agg _) J5 (_::_) rfl) ?_;refine Qn 6 rfl Aq (Qn 7 rfl Aq ?_);refine Ig ?_;refine Av (AW.ret ?_);refine Yx [.agg J5,Iq _,Iq _] (Zd 0) S1 ?_;exact Ye bN (qp_3 T t hc1 hc2)
theorem rf_types (t:Syn)(ht:Jv t):An Tryz.prog 59 [.agg (cSyn t)] (.tuple [.sl 2 ((Ih t).1.map Lz),.agg (oJ (Ih t).2)]):=by
 have hkl:=aL ht;refine Fb 85 Tryz.func59 rfl fun H=>?_
 refine Aa (Qp (Hu Ai) (Qp (B8 (z:=2) rfl) (D5 lN fun b3=>B7 (Qp Sa ?_))));refine AOL.ghost (GS.row (t:=4) 69 2 rfl) ?_;refine B7 (Qe (Iz) ?_);rintro _ _ ⟨b12,rfl,rfl⟩;refine Qp Sa (Ax (B5 (Qp (Qf Ot) (Qp Dd ?_))));refine Qp (E6 t.kids.length rfl rfl (by simp)) ?_;refine Qp Ap (Ax (AW.block ?_));refine AW.Aad (fun (q:Nat×List e8Sc×List (List AV)×List Ag×Value)=>(⟨[(1,.ptr (cSyn t)),(2,.sl 2 []),(3,.val (.pointer (some ⟨b3,0,none⟩))),(4,.row q.2.2.2.2 2 q.2.2.1),(5,.val (.map (some b12))),(14,.sl 6 (t.kids.map C6)),(15,.int .i64 t.kids.length),(16,.int .i64 (q.1:Int))],.smap b12 (U3 q.2.2.2.1) :: .row q.2.2.2.2 q.2.2.1.length 69 2 :: .box b3 94 lN::H,85⟩:St)) (fun q=>q.1<=t.kids.length/\Gg [] t.kids=Gg q.2.1 (t.kids.drop q.1)/\q.2.1.length<=16/\q.2.2.1=q.2.1.map Lz/\q.2.2.2.1=Jx q.2.1) (fun q=>t.kids.length-q.1) ((0,[],[],[],.slice none 0 0)) ?_ C2 ?_
 . exact ⟨A9 _,rfl,A9 _,rfl,rfl⟩
 rintro q hR;refine Aa (Qp Cn (Re (Hb (fun hc1=>?_) fun hc1=>?_)))
 .
  obtain ⟨a,ha⟩:=Cj hc1;have hlt:=Bz ha;have hm:=Aj ha;have ho16:=hR.2.2.1;have hrw:=hR.2.2.2.1;have hnw:=hR.2.2.2.2;have hrl:q.2.2.1.length=q.2.1.length:=by rw [hrw,Bt]
  have hso:∀c∈q.2.2.1,A0 c=true:=by rw [hrw];exact scSc _
  have hma:=T8 ht hm;have hak:=aL hma;refine B2 (AW.seq (AW.block (Aa ?_)));refine Qp (Eh Ai rfl rfl (by omega) (Io ha)) ?_;refine Qp (Cm Ai) ?_;refine D5 I6 fun b7=>?_
  refine By 0 Ai (_::_::_::_::_) ?_;refine Kc 7 0 rfl ?_;refine Ax (B5 (Qp (Qf Ai) (Qp B6 (Qp Cb (Bh (fun hc2=>AW.exit (Ri (AW.region (Qp Gw (Qp Ap (Ax ?_)))))) fun hc2=>B2 (B5 (Qp (A1 (v:=.row _ _ _) rfl) (Qp (G6 (n:=q.2.1.length) tok rfl rfl rfl (hrl)) (Qp Bl (Bh (fun hc3=>AW.seq ?_) fun hc3=>B2 (B5 (Qp Bx (Qp (Qf X6) (Qp Gr ?_))))))))))))))
  .
   refine ⟨(q.1+1,q.2.1,q.2.2.1,q.2.2.2.1,q.2.2.2.2),?_,?_,C2⟩
   . exact ⟨hlt,hR.2.1.trans (typ_skip ha hc2),hR.2.2⟩
   simp only;omega
  .
   refine Mo ?_;refine Qn 0 rfl (Qf [Iq _]) (Qn 1 rfl B6 (Qn 2 rfl (Fj Id) (Qn 3 rfl (B8 (z:=2) rfl) ?_)));refine Oj 4 rfl (Kt 2 (.agg _) Id (_::_::_::_) rfl) ?_;refine Ig ?_;refine Av (lW (Rj (A7 ?_)));refine Yx [.sl _ _,.agg Id] (.cons Yt <| .cons (Yb 2) <| .nil) S3 ?_;exact Ye Xb (hR.2.1.trans (typ_5 ha hc2 hc3))
  refine AOL.Aag (Mn (i:=0) (ks:=q.2.2.2.1) tok rfl rfl rfl rfl rfl (by kernel_rfl) rfl rfl rfl) rfl rfl ?_;refine Bh (fun hc4=>?_) fun hc4=>?_
  .
   have hc4n:(Jx q.2.1).contains a.text=true:=by rw [<-hnw];exact hc4
   refine AW.seq ?_;refine Mo ?_;refine Qn 0 rfl (Qf [Iq _]) (Qn 1 rfl B6 (Qn 2 rfl (Fj Id) (Qn 3 rfl (B8 (z:=2) rfl) ?_)));refine Oj 4 rfl (Kt 2 (.agg _) Id (_::_::_::_) rfl) ?_;refine Ig ?_;refine Av (lW (Rj (A7 ?_)));refine Yx [.sl _ _,.agg Id] (.cons Yt <| .cons (Yb 2) <| .nil) S3 ?_;exact Ye Xb (hR.2.1.trans (typ_7 ha hc2 hc3 hc4n))
  have hc4n:(Jx q.2.1).contains a.text=false:=by rw [<-hnw];exact hc4
  refine B2 (Aa (Qp Bx (Qp (Qf X6) (Qp Gr (Rt (O7 (i:=0) (H2:=_::_::_::_) tok rfl rfl rfl rfl rfl rfl rfl rfl (hc4) rfl) (B7 (Qp (Qf X6) (Qp Gr ?_))))))));refine Qp (Jz (l0:=[.str [],.val (.slice none 0 0)]) (l:=Nd) tok rfl rfl (by kernel_rfl) rfl) ?_;refine D5 [.str [],.sl 2 []] fun b8=>?_
  refine By 0 Nd (_::_::_::_::_) ?_;refine AOL.ghost (GS.cellRow 0 1 111 2 rfl rfl rfl rfl) ?_;refine B7 (Qe (Iz) ?_);rintro _ _ ⟨b42,rfl,rfl⟩;refine Qp Sa (Ax (B5 (Qp (Qf Ot) (Qp Dd ?_))));refine Qp (E6 a.kids.length rfl rfl (by simp)) ?_;refine Qp Ap (Ax (AW.block ?_));refine AW.ghost (GS.perm (List.perm_append_comm.append_right _:(([_] ++ [_,_])++_).Perm _)) ?_;refine AW.Aad (fun (p:Nat×List Fi×List (List AV)×List Ag×Value)=>(⟨[(1,.ptr (cSyn t)),(2,.sl 2 []),(3,.val (.pointer (some ⟨b3,0,none⟩))),(4,.row q.2.2.2.2 2 q.2.2.1),(5,.val (.map (some b12))),(14,.sl 6 (t.kids.map C6)),(15,.int .i64 t.kids.length),(16,.int .i64 (q.1:Int)),(7,.ptr (cSyn a)),(8,.val (.pointer (some ⟨b8,0,none⟩))),(9,.val (.map (some b42))),(44,.sl 6 (a.kids.map C6)),(45,.int .i64 a.kids.length),(46,.int .i64 (p.1:Int))],.row p.2.2.2.2 p.2.2.1.length 111 2 :: .box b8 69 [.str a.text,.row p.2.2.2.2 2 p.2.2.1] :: .smap b42 (U3 p.2.2.2.1) :: .smap b12 (U3 (q.2.2.2.1 ++ [a.text])) :: .row q.2.2.2.2 q.2.2.1.length 69 2 :: .box b3 94 lN::H,85⟩:St)) (fun p=>p.1<=a.kids.length/\Hd [] a.kids=Hd p.2.1 (a.kids.drop p.1)/\p.2.1.length<=8/\p.2.2.1=p.2.1.map xK/\p.2.2.2.1=p.2.1.map (·.name)) (fun p=>a.kids.length-p.1) ((0,[],[],[],.slice none 0 0)) ?_ C2 ?_
  . exact ⟨A9 _,rfl,A9 _,rfl,rfl⟩
  rintro p hP;refine Aa (Qp Cn (Re (Hb (fun hc5=>?_) fun hc5=>?_)))
  .
   obtain ⟨x,hax⟩:=Cj hc5;have hltx:=Bz hax;have hmx:=Aj hax;have hf8:=hP.2.2.1;have hfw:=hP.2.2.2.1;have hfn:=hP.2.2.2.2;have hfl:p.2.2.1.length=p.2.1.length:=by rw [hfw,Bt]
   have hsf:∀c∈p.2.2.1,A0 c=true:=by rw [hfw];exact scFi _
   refine B2 (AW.seq (AW.block (Aa ?_)));refine Qp (Eh Ai rfl rfl (by omega) (Io hax)) ?_;refine Qp (Cm Ai) ?_;refine D5 I6 fun b11=>?_
   refine By 0 Ai (_::_::_::_::_::_::_::_) ?_;refine Kc 11 0 rfl ?_;refine Ax (B5 (Qp Cw (Sw 1 (.row _ _ _) rfl (Qp (G6 (n:=p.2.1.length) tok rfl rfl rfl (hfl)) (Qp Bl (Bh (fun hc6=>AW.seq ?_) fun hc6=>B2 (B5 (Qp Bx (Qp (Qf X6) (Qp Gr ?_))))))))))
   .
    refine Mo ?_;refine Qn 0 rfl (Qf [Iq _]) (Qn 1 rfl B6 (Qn 2 rfl (Fj Id) (Qn 3 rfl (B8 (z:=2) rfl) ?_)));refine Oj 4 rfl (Kt 5 (.agg _) Id (_::_::_::_::_::_::_) rfl) ?_;refine Ig ?_;refine Av (lW (Rj (A7 (Dz (A7 (A7 (Dz (A7 ?_))))))));refine Yx [.sl _ _,.agg Id] (.cons Yt <| .cons (Yb 5) <| .nil) S6 ?_;exact Ye Xb (hR.2.1.trans (typ_f ha hc2 hc3 hc4n (hP.2.1.trans (fld_5 hax hc6)) (show (5:Int)≠0 by decide)))
   refine AOL.Aag (Mn (i:=2) (ks:=p.2.2.2.1) tok rfl rfl rfl rfl rfl (by kernel_rfl) rfl rfl rfl) rfl rfl ?_;refine Bh (fun hc7=>?_) fun hc7=>?_
   .
    have hc7n:(p.2.1.map (·.name)).contains x.text=true:=by rw [<-hfn];exact hc7
    refine AW.seq ?_;refine Mo ?_;refine Qn 0 rfl (Qf [Iq _]) (Qn 1 rfl B6 (Qn 2 rfl (Fj Id) (Qn 3 rfl (B8 (z:=2) rfl) ?_)));refine Oj 4 rfl (Kt 5 (.agg _) Id (_::_::_::_::_::_::_) rfl) ?_;refine Ig ?_;refine Av (lW (Rj (A7 (Dz (A7 (A7 (Dz (A7 ?_))))))));refine Yx [.sl _ _,.agg Id] (.cons Yt <| .cons (Yb 5) <| .nil) S6 ?_;exact Ye Xb (hR.2.1.trans (typ_f ha hc2 hc3 hc4n (hP.2.1.trans (fld_7 hax hc6 hc7n)) (show (7:Int)≠0 by decide)))
   have hc7n:(p.2.1.map (·.name)).contains x.text=false:=by rw [<-hfn];exact hc7
   refine B2 (Aa (Qp Bx (Qp (Qf X6) (Qp Gr (Rt (O7 (i:=2) (H2:=_::_::_::_::_::_::_) tok rfl rfl rfl rfl rfl rfl rfl rfl (hc7) rfl) (Ax (AW.region (Qp Cw (Sw 1 (.row _ _ _) rfl (Qp (Qf X6) (Qp Gr (Qp (Qf Zw) (Qp B6 (Qp (Fj Iv) (Qp (Jh [Iv] rfl) ?_)))))))))))))));refine Qe (W0 0 rfl (Et rfl) (hsf) (by simp;omega) (by simp [maxLen];omega)) ?_;rintro _ _ ⟨v75,rfl,rfl⟩;refine Qp Cw ?_;refine By 1 Nd (_::_::_::_::_::_::_) (Rk (AW.region (Qp Gw (Qp Ap (Ax ?_)))));refine ⟨(p.1+1,p.2.1 ++ [⟨x.text,x.num⟩],p.2.2.1 ++ [xK ⟨x.text,x.num⟩],p.2.2.2.1 ++ [x.text],v75),?_,?_,C2⟩
   . exact ⟨hltx,hP.2.1.trans (fld_on hax hc6 hc7n),by simp only [Au,Hl];exact len8 hf8 hc6,by simp [hfw],by simp [hfn]⟩
   simp only;omega
  have hdx:=Fw hc5;have hfx:=hP.2.1;rw [hdx,Hd] at hfx;have hfw:=hP.2.2.2.1;have htn:=typ_on ha hc2 hc3 hc4n hfx;refine AW.exit ?_;refine B1 (Ri (AW.region ?_));refine Qp (A1 (v:=.row _ _ _) rfl) ?_;refine AOL.ghost (GS.cell (H2:=_::_::_::_::_::_::_) 1 1 rfl rfl rfl rfl Eu) ?_;refine Sb 1 Nd rfl (Qp (Jh [Nd] rfl) ?_);refine Qe (W0 4 rfl (Et rfl) (hso) (by simp;omega) (by simp [maxLen];omega)) ?_;rintro _ _ ⟨v81,rfl,rfl⟩;refine Qp (Ba (v:=.row _ _ _) rfl) (Rk (AW.region (Qp Gw (Qp Ap (Ax ?_)))));refine ⟨(q.1+1,q.2.1 ++ [⟨a.text,p.2.1⟩],q.2.2.1 ++ [[.str a.text,.sl 2 p.2.2.1]],q.2.2.2.1 ++ [a.text],v81),?_,?_,GS.weaken ⟨rfl,rfl,rfl,rfl,rfl,rfl,rfl,rfl,trivial⟩ (.cons _ (.cons _ (.cons _ (.refl _))))⟩
  . exact ⟨hlt,hR.2.1.trans htn,by simp only [Au,Hl];exact len16 ho16 hc3,by simp [hrw,hfw,Lz],by simp [hnw]⟩
  simp only;omega
 have hde:=Fw hc1;have hall:=hR.2.1;rw [hde] at hall;refine AW.exit ?_;refine B1 (Ri (Aa ?_));refine Qp (A1 (v:=.row _ _ _) rfl) ?_;refine AOL.ghost (GS.unrow 83 rfl) ?_;refine Qp (Qc rfl (Rw)) (Qp lK ?_);refine By 2 Id (_::_::_::_) (Rb ?_);refine Yx [.sl _ _,.agg Id] (.cons Yt <| .cons (Yb 2) <| .nil) S3 ?_;exact Eq.trans (congrArg (fun l:List (List AV)=>AV.tuple [.sl 2 l,.agg (oJ Oe)]) hR.2.2.2.1) (congrArg (fun q:List e8Sc×Fa=>AV.tuple [.sl 2 (q.1.map Lz),.agg (oJ q.2)]) (hall:Ih t=(q.2.1,Oe))).symm
end Go.Proofs.YtckhoadldibflaaGreatDoor
