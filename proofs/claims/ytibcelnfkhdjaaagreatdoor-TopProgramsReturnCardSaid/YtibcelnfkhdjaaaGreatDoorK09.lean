/-
  Several texts in one: W13d, W13e, W13f, W13g, W13h, W13i, R11w, R12w, R13w, R20w, R33w, R34w. No condition.
-/
import Derived.Test.YtibcelnfkhdjaaaGreatDoorK02
import Derived.Test.YtibcelnfkhdjaaaGreatDoorK08
import Derived.KernelRfl
import Derived.Test.YtibcelnfkhdjaaaGreatDoorK03
import Derived.Test.YtibcelnfkhdjaaaGreatDoorK04
import Derived.Test.YtibcelnfkhdjaaaGreatDoorK07
import Derived.Test.YtibcelnfkhdjaaaGreatDoorK06
set_option linter.unusedVariables false
set_option linter.unusedSimpArgs false
set_option maxHeartbeats 12800000
set_option maxRecDepth 20000
namespace Go.Proofs.YtibcelnfkhdjaaaGreatDoor
open Go Go.Aw
theorem agg_look {n:Int}(h:1<=n/\n<=5):aO [(1,AV.str N5),(2,.str gE),(3,.str gD),(4,.str Ux),(5,.str Zn)] n=some (.str (Og n)):=by
 have:n=1\/n=2\/n=3\/n=4\/n=5:=by omega
 rcases this with rfl | rfl | rfl | rfl | rfl <;> rfl
theorem oper_look {n:Int}(h:5<=n/\n<=11):aO [(5,AV.str [32,43,32]),(6,.str [32,45,32]),(7,.str [32,60,32]),(8,.str [32,60,61,32]),(9,.str [32,61,61,32]),(10,.str [32,97,110,100,32]),(11,.str [32,111,114,32])] n=some (.str (([32]:Ac)++Tc n ++ [32])):=by
 have:n=5\/n=6\/n=7\/n=8\/n=9\/n=10\/n=11:=by omega
 rcases this with rfl | rfl | rfl | rfl | rfl | rfl | rfl <;> rfl
theorem tail_at {l:List Syn}{k:Nat}{x:Syn}(h:l[k]? = some x):Pb ((l.map Ad).drop k) = [44,32]++Ad x++Pb ((l.map Ad).drop (k+1)):=by
 obtain ⟨h1,h2⟩:=List.getElem?_eq_some_iff.1 (wm_at h);rw [Sr h1,Pb,h2]
theorem Yz {l:List Syn}{k:Nat}{x:Syn}(h:l[k]? = some x):((l.map Ad).drop k).flatten=Ad x++((l.map Ad).drop (k+1)).flatten:=by
 obtain ⟨h1,h2⟩:=List.getElem?_eq_some_iff.1 (wm_at h);rw [Sr h1,Bj,h2]
theorem w_total (b:Nat)(o:Ac)(v:Value)(a:Option Addr)(ha:a=none\/a=some ⟨b,0,none⟩)(R:List HO)(t:Syn)(hi:1<=t.num/\t.num<=5)(hn:∀x∈t.kids,J3 b x)(hb:o.length+(Og t.num++([40]:Ac)++t.text++([46]:Ac)++t.name++Pb (t.kids.map Ad)++([41]:Ac)).length<=oT):Cc Tryz.prog 131 (.row v (Ic o).length 5 1 :: .box b 148 (.val (.pointer a) :: .row v 1 (Ic o)::bJ b)::R) [.val (.pointer (some ⟨b,0,none⟩)),.agg (cSyn t)] (WQ b (o++(Og t.num++([40]:Ac)++t.text++([46]:Ac)++t.name++Pb (t.kids.map Ad)++([41]:Ac))) R):=by
 refine Jz 37 Tryz.func131 rfl ?_;refine Ab (Qp (Ji Aj) (Cf (Qe (dR) ?_)));rintro _ _ ⟨b7,rfl,rfl⟩;refine Rt (Fk (i:=0) (x:=.str _) (H2:=_::_::_::_) tok rfl rfl rfl rfl rfl rfl rfl rfl rfl rfl) (Rt (Fk (i:=0) (x:=.str _) (H2:=_::_::_::_) tok rfl rfl rfl rfl rfl rfl rfl rfl rfl rfl) (Rt (Fk (i:=0) (x:=.str _) (H2:=_::_::_::_) tok rfl rfl rfl rfl rfl rfl rfl rfl rfl rfl) (Rt (Fk (i:=0) (x:=.str _) (H2:=_::_::_::_) tok rfl rfl rfl rfl rfl rfl rfl rfl rfl rfl) (Rt (Fk (i:=0) (x:=.str _) (H2:=_::_::_::_) tok rfl rfl rfl rfl rfl rfl rfl rfl rfl rfl) (Qp B3 (Qp Tm ?_))))));refine AOL.ghost (GS.freezeMap (t:=4) 0 rfl rfl) ?_;refine Cf (Qp B3 (Qp (Ai (v:=.mapv _) rfl) (Qp (Qf bK) (Qp B7 (Qp (bO tok rfl rfl rfl rfl rfl rfl (agg_look hi)) (Qp (Qf Zr) (Qp Hn (Qp (Qf sR) (Qp Hn (Qp (Kf ([[.str _],[.str _],[.str _],[.str _],[.str _]]) rfl) ?_))))))))));refine Qe (D2 rfl (Hi b _ _ _ ha R [Og t.num,[40],t.text,[46],t.name] (Da rfl) (by have h:=hb;(try simp only [Bj,B0,Al,A8,Bn,A1] at h ⊢);omega))) ?_;rintro _ _ ⟨v19,a19,rfl,ha19,rfl⟩;refine A7 (Cj (Qp (Qf Po) (Qp Eg ?_)));refine Qp (G6 t.kids.length rfl rfl (by simp)) ?_;refine Qp Ax (A7 (AW.block (AW.sllen 21 rfl fun hlen=>?_)));simp only [Bg,maxLen] at hlen;refine AW.Aan (fun (p:Nat×Ac×Value×Option Addr)=>(⟨[(0,.val (.pointer (some ⟨b,0,none⟩))),(21,.sl 6 (t.kids.map Df)),(22,.int .i64 t.kids.length),(23,.int .i64 (p.1:Int))],(.row p.2.2.1 (Ic p.2.1).length 5 1 :: .box b 148 (.val (.pointer p.2.2.2) :: .row p.2.2.1 1 (Ic p.2.1)::bJ b)::R),37⟩:St)) (fun p=>p.1<=t.kids.length/\p.2.1++Pb ((t.kids.map Ad).drop p.1)=(o ++ [Og t.num,[40],t.text,[46],t.name].flatten)++Pb (t.kids.map Ad)/\(p.2.2.2=none\/p.2.2.2=some ⟨b,0,none⟩)) (fun p=>t.kids.length-p.1) ((0,_,v19,a19)) ?_ Dp ?_
 . exact ⟨Bk _,rfl,ha19⟩
 rintro p hR;have ha:=hR.2.2;refine Ab (Qp C5 (Re (Hs (fun hc1=>?_) fun hc1=>?_)))
 .
  obtain ⟨x,hx⟩:=gt2 (l:=t.kids) (k:=p.1) (by have:=Ec hc1;omega);have hlt:=qC hx;have hnx:=hn x (Ak hx);have hr:=tail_at hx;have hle:=congrArg List.length hR.2.1;rw [hr] at hle;simp only [Al,A8,Bn,Bj,B0,A1] at hle;refine B8 (AW.seq (AW.block (Ab ?_)));refine Qp (F5 Aj rfl rfl (by omega) (I3 hx)) ?_;refine Qp (C8 Aj) ?_;refine E8 Kb fun b6=>?_
  refine B4 0 Aj (_::_::_::_) ?_;refine Me 6 0 rfl ?_;refine Cf (Qp B3 (Qp (Kf ([[.str _]]) rfl) ?_));refine Qe (D2 rfl (Hi b _ _ _ ha R [[44,32]] (Da rfl) (by simp only [Al,A8,Bn,Bj,B0,A1] at hb ⊢;omega))) ?_;rintro _ _ ⟨v29,a29,rfl,ha29,rfl⟩;refine A7 (AW.region (Qp B3 (Qp (C8 Aj) ?_)));refine Qe (D2 rfl (hnx _ _ _ ha29 R (by simp only [Al,A8,Bn,Bj,B0,A1] at hb ⊢;omega))) ?_;rintro _ _ ⟨v32,a32,rfl,ha32,rfl⟩;refine Rk (AW.region (Qp Ii (Qp Ax (A7 ?_))));refine ⟨(p.1+1,(p.2.1 ++ [[44,32]].flatten)++Ad x,v32,a32),?_,?_,Dp⟩
  . exact ⟨hlt,by rw [<-hR.2.1,hr];simp,ha32⟩
  simp only;omega
 have hk:(t.kids.map Ad).length<=p.1:=by have:=He hc1;rw [Bg];omega
 have he:=hR.2.1;rw [Ss hk,Pb,A1] at he;have hle:=congrArg List.length he;simp only [Al,A8,Bn,Bj,B0,A1] at hle;refine AW.exit ?_;refine B9 (Ri (AW.region (Qp B3 ?_)));refine Qp (Kf ([[.str _]]) rfl) ?_;refine Qe (D2 rfl (Hi b _ _ _ hR.2.2 R [[41]] (Da rfl) (by simp only [Al,A8,Bn,Bj,B0,A1] at hb ⊢;omega))) ?_;rintro _ _ ⟨v36,a36,rfl,ha36,rfl⟩;refine AOL.nil ?_;refine ⟨.inl rfl,[],.nil,_,.refl _,?_⟩;exact wq ha36 (by rw [he];simp only [Bj,B0,A1,C4,Cp,Cv])
theorem w_binary (b:Nat)(o:Ac)(v:Value)(a:Option Addr)(ha:a=none\/a=some ⟨b,0,none⟩)(R:List HO)(t k0 k1:Syn)(h0:t.kids[0]? = some k0)(h1:t.kids[1]? = some k1)(hi:5<=t.num/\t.num<=11)(hn0:J3 b k0)(hn1:J3 b k1)(hb:o.length+(Hy t k0 (Ad k0)++([32]:Ac)++Tc t.num++([32]:Ac)++Hy t k1 (Ad k1)).length<=oT):Cc Tryz.prog 132 (.row v (Ic o).length 5 1 :: .box b 148 (.val (.pointer a) :: .row v 1 (Ic o)::bJ b)::R) [.val (.pointer (some ⟨b,0,none⟩)),.agg (cSyn t)] (WQ b (o++(Hy t k0 (Ad k0)++([32]:Ac)++Tc t.num++([32]:Ac)++Hy t k1 (Ad k1))) R):=by
 refine Jz 28 Tryz.func132 rfl ?_;refine Ab (Qp (Ji Aj) (Cf (Qe (dR) ?_)));rintro _ _ ⟨b5,rfl,rfl⟩;refine Rt (Fk (i:=0) (x:=.str _) (H2:=_::_::_::_) tok rfl rfl rfl rfl rfl rfl rfl rfl rfl rfl) (Rt (Fk (i:=0) (x:=.str _) (H2:=_::_::_::_) tok rfl rfl rfl rfl rfl rfl rfl rfl rfl rfl) (Rt (Fk (i:=0) (x:=.str _) (H2:=_::_::_::_) tok rfl rfl rfl rfl rfl rfl rfl rfl rfl rfl) (Rt (Fk (i:=0) (x:=.str _) (H2:=_::_::_::_) tok rfl rfl rfl rfl rfl rfl rfl rfl rfl rfl) (Rt (Fk (i:=0) (x:=.str _) (H2:=_::_::_::_) tok rfl rfl rfl rfl rfl rfl rfl rfl rfl rfl) (Rt (Fk (i:=0) (x:=.str _) (H2:=_::_::_::_) tok rfl rfl rfl rfl rfl rfl rfl rfl rfl rfl) (Rt (Fk (i:=0) (x:=.str _) (H2:=_::_::_::_) tok rfl rfl rfl rfl rfl rfl rfl rfl rfl rfl) (Qp B3 (Qp Tm ?_))))))));refine AOL.ghost (GS.freezeMap (t:=4) 0 rfl rfl) ?_;refine Re ?_;refine Oe ?_;refine Qn 0 rfl B3 (Qn 1 rfl (C8 Aj) (Qn 2 rfl (Qf Po) (Qn 3 rfl Eg ?_)));refine Qn 4 rfl (F5 Aj rfl rfl (by decide) (I3 h0)) ?_;refine Qn 5 rfl (C8 Aj) ?_;refine Sef 6 rfl (D2 rfl (gC b _ _ _ ha R t k0 hn0 (by have h:=hb;(try simp only [Bj,B0,Al,A8,Bn,A1] at h ⊢);omega))) ?_;rintro _ _ ⟨v13,a13,rfl,ha13,rfl⟩;refine Jr ?_;refine Ap (Ab (Qp B3 (Qp (Ai (v:=.mapv _) rfl) (Qp (Qf bK) (Qp B7 (Qp (bO tok rfl rfl rfl rfl rfl rfl (oper_look hi)) (Qp (Kf ([[.str _]]) rfl) ?_)))))));refine Qe (D2 rfl (Hi b _ _ _ ha13 R [[32]++Tc t.num ++ [32]] (Da rfl) (by have h:=hb;(try simp only [Bj,B0,Al,A8,Bn,A1] at h ⊢);omega))) ?_;rintro _ _ ⟨v20,a20,rfl,ha20,rfl⟩;refine A7 ?_;refine Oe ?_;refine Qn 0 rfl B3 (Qn 1 rfl (C8 Aj) (Qn 2 rfl (Qf Po) (Qn 3 rfl Eg ?_)));refine Qn 4 rfl (F5 Aj rfl rfl (by decide) (I3 h1)) ?_;refine Qn 5 rfl (C8 Aj) ?_;refine Sef 6 rfl (D2 rfl (gC b _ _ _ ha20 R t k1 hn1 (by have h:=hb;(try simp only [Bj,B0,Al,A8,Bn,A1] at h ⊢);omega))) ?_;rintro _ _ ⟨v27,a27,rfl,ha27,rfl⟩;refine Jr ?_;refine ⟨.inl rfl,[],.nil,_,.refl _,?_⟩;exact wq ha27 (by simp only [Bj,B0,A1,C4,Cp,Cv])
theorem w_program (b:Nat)(o:Ac)(v:Value)(a:Option Addr)(ha:a=none\/a=some ⟨b,0,none⟩)(R:List HO)(t:Syn)(hn:∀x∈t.kids,J3 b x)(hb:o.length+((t.kids.map Ad).flatten).length<=oT):Cc Tryz.prog 121 (.row v (Ic o).length 5 1 :: .box b 148 (.val (.pointer a) :: .row v 1 (Ic o)::bJ b)::R) [.agg (cSyn t),.ptr [.val (.pointer (some ⟨b,0,none⟩))]] (WQ b (o++((t.kids.map Ad).flatten)) R):=by
 refine Jz 16 Tryz.func121 rfl ?_;refine Ab (Qp (Ji Aj) (Cf (Qp (Qf Po) (Qp Eg ?_))));refine Qp (G6 t.kids.length rfl rfl (by simp)) ?_;refine Qp Ax (A7 (AW.block (AW.sllen 6 rfl fun hlen=>?_)));simp only [Bg,maxLen] at hlen;refine AW.Aan (fun (p:Nat×Ac×Value×Option Addr)=>(⟨[(1,.ptr [.val (.pointer (some ⟨b,0,none⟩))]),(6,.sl 6 (t.kids.map Df)),(7,.int .i64 t.kids.length),(8,.int .i64 (p.1:Int))],(.row p.2.2.1 (Ic p.2.1).length 5 1 :: .box b 148 (.val (.pointer p.2.2.2) :: .row p.2.2.1 1 (Ic p.2.1)::bJ b)::R),16⟩:St)) (fun p=>p.1<=t.kids.length/\p.2.1++((t.kids.map Ad).drop p.1).flatten=o++(t.kids.map Ad).flatten/\(p.2.2.2=none\/p.2.2.2=some ⟨b,0,none⟩)) (fun p=>t.kids.length-p.1) ((0,o,v,a)) ?_ Dp ?_
 . exact ⟨Bk _,rfl,ha⟩
 rintro p hR;have ha:=hR.2.2;refine Ab (Qp C5 (Re (Hs (fun hc1=>?_) fun hc1=>?_)))
 .
  obtain ⟨x,hx⟩:=gt2 (l:=t.kids) (k:=p.1) (by have:=Ec hc1;omega);have hlt:=qC hx;have hnx:=hn x (Ak hx);have hr:=Yz hx;have hle:=congrArg List.length hR.2.1;rw [hr] at hle;simp only [Al] at hle;refine B8 (AW.seq (AW.block (Ab ?_)));refine Qp (F5 Aj rfl rfl (by omega) (I3 hx)) ?_;refine Qp (C8 Aj) ?_;refine E8 Kb fun b4=>?_
  refine B4 0 Aj (_::_::_::_) ?_;refine Me 4 0 rfl ?_;refine A7 (AW.region (Qp Md (Qp (C8 Aj) ?_)));refine Qe (D2 rfl (hnx _ _ _ ha R (by omega))) ?_;rintro _ _ ⟨v14,a14,rfl,ha14,rfl⟩;refine Rk (AW.region (Qp Ii (Qp Ax (A7 ?_))));refine ⟨(p.1+1,p.2.1++Ad x,v14,a14),?_,?_,Dp⟩
  . exact ⟨hlt,by rw [<-hR.2.1,hr];simp,ha14⟩
  simp only;omega
 have hk:(t.kids.map Ad).length<=p.1:=by have:=He hc1;rw [Bg];omega
 have he:=hR.2.1;rw [Ss hk,B0,A1] at he;refine AW.exit ?_;refine B9 (B9 (W0 ?_));refine ⟨.inl rfl,[],.nil,_,.refl _,?_⟩;exact wq hR.2.2 he
theorem w_query (b:Nat)(o:Ac)(v:Value)(a:Option Addr)(ha:a=none\/a=some ⟨b,0,none⟩)(R:List HO)(t k0 k1:Syn)(r:List Syn)(hq:t.kids=k0::k1::r)(hn1:J3 b k1)(hnr:∀x∈r,J3 b x)(hb:o.length+(([113,117,101,114,121,32]:Ac)++t.text++(if !(k0.text == []) then ([32,98,121,32]:Ac)++k0.text else [])++([10,109,97,116,99,104,32]:Ac)++Ad k1++([10,114,101,116,117,114,110,32]:Ac)++D8 (r.map Ad)++([59,10]:Ac)).length<=oT):Cc Tryz.prog 125 (.row v (Ic o).length 5 1 :: .box b 148 (.val (.pointer a) :: .row v 1 (Ic o)::bJ b)::R) [.val (.pointer (some ⟨b,0,none⟩)),.agg (cSyn t)] (WQ b (o++(([113,117,101,114,121,32]:Ac)++t.text++(if !(k0.text == []) then ([32,98,121,32]:Ac)++k0.text else [])++([10,109,97,116,99,104,32]:Ac)++Ad k1++([10,114,101,116,117,114,110,32]:Ac)++D8 (r.map Ad)++([59,10]:Ac))) R):=by
 refine Jz 41 Tryz.func125 rfl ?_;refine Ab (Qp (Ji Aj) (Re ?_));have hb0:=hb;refine AW.region (Qp B3 (Qp (Qf Zr) (Qp Hn (Qp (Kf ([[.str _],[.str _]]) rfl) ?_))));refine Qe (D2 rfl (Hi b _ _ _ ha R [[113,117,101,114,121,32],t.text] (Da rfl) (by have h:=hb;(try simp only [Bj,B0,Al,A8,Bn,A1] at h ⊢);omega))) ?_;rintro _ _ ⟨v9,a9,rfl,ha9,rfl⟩;refine A7 (Cj (Qp (Qf Po) (Qp Eg ?_)));refine Qp (F5 Aj rfl rfl (by decide) (I3 (k:=0) (a:=k0) (by rw [hq];rfl))) ?_;refine Qp (Qf Zr) (Qp Hn (Qp Nb (Cf (Qp Iw (Qp (Gl rfl rfl) (Br (fun hc1=>?_) fun hc1=>?_))))))
 .
  rw [if_pos hc1] at hb;refine AW.region (Qp B3 (Qp Iw (Qp (Kf ([[.str _],[.str _]]) rfl) ?_)));refine Qe (D2 rfl (Hi b _ _ _ ha9 R [[32,98,121,32],k0.text] (Da rfl) (by have h:=hb;(try simp only [Bj,B0,Al,A8,Bn,A1] at h ⊢);omega))) ?_;rintro _ _ ⟨v20,a20,rfl,ha20,rfl⟩;refine Cf (Qp B3 (Qp (Kf ([[.str _]]) rfl) ?_));refine Qe (D2 rfl (Hi b _ _ _ ha20 R [[10,109,97,116,99,104,32]] (Da rfl) (by have h:=hb;(try simp only [Bj,B0,Al,A8,Bn,A1] at h ⊢);omega))) ?_;rintro _ _ ⟨v23,a23,rfl,ha23,rfl⟩;refine Cf (Qp B3 (Qp (Qf Po) (Qp Eg ?_)));refine Qp (F5 Aj rfl rfl (by decide) (I3 (k:=1) (a:=k1) (by rw [hq];rfl))) ?_;refine Qp (C8 Aj) ?_;refine Qe (D2 rfl (hn1 _ _ _ ha23 R (by have h:=hb;(try simp only [Bj,B0,Al,A8,Bn,A1] at h ⊢);omega))) ?_;rintro _ _ ⟨v29,a29,rfl,ha29,rfl⟩;refine Cf (Qp B3 (Qp (Kf ([[.str _]]) rfl) ?_));refine Qe (D2 rfl (Hi b _ _ _ ha29 R [[10,114,101,116,117,114,110,32]] (Da rfl) (by have h:=hb;(try simp only [Bj,B0,Al,A8,Bn,A1] at h ⊢);omega))) ?_;rintro _ _ ⟨v32,a32,rfl,ha32,rfl⟩;refine Cf (Qp B3 (Qp (Qf Po) (Qp Eg ?_)));refine Qp (Qx (l:=2) (h:=(t.kids.map Df).length) tok rfl rfl rfl rfl rfl (⟨_,rfl⟩) (rfl) (by rw [Bg,hq];simp) (Be _) (show _=r.map Df from by rw [Sm,hq];rfl)) ?_;refine Qe (D2 rfl (uM b _ _ _ ha32 R r hnr (by have h:=hb;(try simp only [Bj,B0,Al,A8,Bn,A1] at h ⊢);omega))) ?_;rintro _ _ ⟨v37,a37,rfl,ha37,rfl⟩;refine A7 (AW.region (Qp B3 (Qp (Kf ([[.str _]]) rfl) ?_)));refine Qe (D2 rfl (Hi b _ _ _ ha37 R [[59,10]] (Da rfl) (by have h:=hb;(try simp only [Bj,B0,Al,A8,Bn,A1] at h ⊢);omega))) ?_;rintro _ _ ⟨v40,a40,rfl,ha40,rfl⟩;refine AOL.nil ?_;refine ⟨.inl rfl,[],.nil,_,.refl _,?_⟩;exact wq ha40 (by rw [if_pos hc1];simp only [Bj,B0,A1,C4,Cp,Cv])
 rw [Bu hc1] at hb;have ha20:=ha9;refine B8 (Ab (Qp B3 (Qp (Kf ([[.str _]]) rfl) ?_)));refine Qe (D2 rfl (Hi b _ _ _ ha20 R [[10,109,97,116,99,104,32]] (Da rfl) (by have h:=hb;(try simp only [Bj,B0,Al,A8,Bn,A1] at h ⊢);omega))) ?_;rintro _ _ ⟨v23,a23,rfl,ha23,rfl⟩;refine Cf (Qp B3 (Qp (Qf Po) (Qp Eg ?_)));refine Qp (F5 Aj rfl rfl (by decide) (I3 (k:=1) (a:=k1) (by rw [hq];rfl))) ?_;refine Qp (C8 Aj) ?_;refine Qe (D2 rfl (hn1 _ _ _ ha23 R (by have h:=hb;(try simp only [Bj,B0,Al,A8,Bn,A1] at h ⊢);omega))) ?_;rintro _ _ ⟨v29,a29,rfl,ha29,rfl⟩;refine Cf (Qp B3 (Qp (Kf ([[.str _]]) rfl) ?_));refine Qe (D2 rfl (Hi b _ _ _ ha29 R [[10,114,101,116,117,114,110,32]] (Da rfl) (by have h:=hb;(try simp only [Bj,B0,Al,A8,Bn,A1] at h ⊢);omega))) ?_;rintro _ _ ⟨v32,a32,rfl,ha32,rfl⟩;refine Cf (Qp B3 (Qp (Qf Po) (Qp Eg ?_)));refine Qp (Qx (l:=2) (h:=(t.kids.map Df).length) tok rfl rfl rfl rfl rfl (⟨_,rfl⟩) (rfl) (by rw [Bg,hq];simp) (Be _) (show _=r.map Df from by rw [Sm,hq];rfl)) ?_;refine Qe (D2 rfl (uM b _ _ _ ha32 R r hnr (by have h:=hb;(try simp only [Bj,B0,Al,A8,Bn,A1] at h ⊢);omega))) ?_;rintro _ _ ⟨v37,a37,rfl,ha37,rfl⟩;refine A7 (AW.region (Qp B3 (Qp (Kf ([[.str _]]) rfl) ?_)));refine Qe (D2 rfl (Hi b _ _ _ ha37 R [[59,10]] (Da rfl) (by have h:=hb;(try simp only [Bj,B0,Al,A8,Bn,A1] at h ⊢);omega))) ?_;rintro _ _ ⟨v40,a40,rfl,ha40,rfl⟩;refine AOL.nil ?_;refine ⟨.inl rfl,[],.nil,_,.refl _,?_⟩;exact wq ha40 (by rw [Bu hc1];simp only [Bj,B0,A1,C4,Cp,Cv])
theorem bE (b:Nat)(w:Ac):Au Tryz.prog 127 [.val (.pointer (some ⟨b,0,none⟩)),.str w] (.fn (.func 174) [] [.ptr [.val (.pointer (some ⟨b,0,none⟩))],.ptr [.str w]]):=by
 refine G3 6 Tryz.func127 rfl fun H=>?_
 refine Ab (Qp (Zx (v:=.val _) (cs:=[_]) rfl rfl rfl) (Qp (Zx (v:=.str _) (cs:=[.str _]) rfl rfl rfl) (Qp Tm (Cf (Qp (Ca (l:=[]) (l':=[.ptr _,.ptr _]) rfl rfl) (Qp (An (v:=.fn _ _ _) rfl) (Rb (Qr (.fn _ _ _) ?_))))))));rfl
theorem w_new (H:List HO):Cc Tryz.prog 66 H [] (fun x H'=>∃b,x = .val (.pointer (some ⟨b,0,none⟩))/\H'=(.row (.slice none 0 0) (Ic []).length 5 1 :: .box b 148 (.val (.pointer none) :: .row (.slice none 0 0) 1 (Ic [])::bJ b)::H)):=by
 refine Jz 40 Tryz.func66 rfl ?_;refine Ab (Qp Tm (Cf ?_));refine Qp (Kj (l0:=[.val (.pointer none),.val (.slice none 0 0),.val .nilFunc,.val .nilFunc,.val .nilFunc,.val .nilFunc,.val .nilFunc,.val .nilFunc,.val .nilFunc,.val .nilFunc,.val .nilFunc,.val .nilFunc,.val .nilFunc,.val .nilFunc,.val .nilFunc,.val .nilFunc,.val .nilFunc,.val .nilFunc,.val .nilFunc,.val .nilFunc,.val .nilFunc]) (l:=[_,_,_,_,_,_,_,_,_,_,_,_,_,_,_,_,_,_,_,_,_]) tok rfl rfl (by kernel_rfl) rfl) ?_;refine Qe (E_box (v:=.agg _) (cs:=[_,_,_,_,_,_,_,_,_,_,_,_,_,_,_,_,_,_,_,_,_]) rfl rfl (rfl)) ?_;rintro _ _ ⟨b3,rfl,rfl⟩;refine E8 [.val (.pointer none)] fun b1=>?_
 refine B4 0 [_] (_::_::_) ?_;refine Me 1 0 rfl ?_;refine AOL.ghost (GS.cellRow 0 1 5 1 rfl rfl rfl rfl) ?_;refine Re ?_;refine Oe ?_;refine Qn 0 rfl Md (Qn 1 rfl (Ca (l:=[]) (l':=[.ptr _]) rfl rfl) (Qn 2 rfl Md (Qn 3 rfl (Ca (l:=[.val _]) (l':=[]) rfl rfl) (Qn 4 rfl (Ca (l:=[]) (l':=[.ptr _]) rfl rfl) (Qn 5 rfl Md (Qn 6 rfl (Ca (l:=[.val _]) (l':=[]) rfl rfl) (Qn 7 rfl Md (Qn 8 rfl (Ca (l:=[.val _]) (l':=[]) rfl rfl) ?_))))))));refine Qn 9 rfl Md (Qn 10 rfl (Qc rfl (bE b3 _)) (Qn 11 rfl Md (Qn 12 rfl (Qc rfl (bE b3 _)) (Qn 13 rfl Md (Qn 14 rfl (Qc rfl (bE b3 _)) (Qn 15 rfl Md (Qn 16 rfl (Qc rfl (bE b3 _)) (Qn 17 rfl Md (Qn 18 rfl (Qc rfl (bE b3 _)) (Qn 19 rfl Md (Qn 20 rfl (Qc rfl (bE b3 _)) (Qn 21 rfl Md (Qn 22 rfl (Qc rfl (bE b3 _)) (Qn 23 rfl Md (Qn 24 rfl (Ca (l:=[.val _]) (l':=[]) rfl rfl) (Qn 25 rfl (Ca (l:=[]) (l':=[.ptr _]) rfl rfl) (Qn 26 rfl (Ca (l:=[]) (l':=[.ptr _]) rfl rfl) (Qn 27 rfl Md (Qn 28 rfl (Ca (l:=[.val _]) (l':=[]) rfl rfl) (Qn 29 rfl Md (Qn 30 rfl (Ca (l:=[.val _]) (l':=[]) rfl rfl) (Qn 31 rfl (Ca (l:=[]) (l':=[.ptr _]) rfl rfl) ?_))))))))))))))))))))));refine Qn 32 rfl (jT (l:=[.fn (.func 121) [] [.ptr [.val (.pointer (some ⟨b3,0,none⟩))]],.fn (.func 122) [.val (.pointer (some ⟨b3,0,none⟩))] [],.fn (.func 123) [] [.ptr [.val (.pointer (some ⟨b3,0,none⟩))]],.fn (.func 125) [.val (.pointer (some ⟨b3,0,none⟩))] [],.val .nilFunc,.fn (.func 126) [.val (.pointer (some ⟨b3,0,none⟩))] [],.fn (.func 174) [] [.ptr [.val (.pointer (some ⟨b3,0,none⟩))],.ptr [.str Z8]],.fn (.func 174) [] [.ptr [.val (.pointer (some ⟨b3,0,none⟩))],.ptr [.str Z7]],.fn (.func 174) [] [.ptr [.val (.pointer (some ⟨b3,0,none⟩))],.ptr [.str Z6]],.fn (.func 174) [] [.ptr [.val (.pointer (some ⟨b3,0,none⟩))],.ptr [.str T0]],.fn (.func 174) [] [.ptr [.val (.pointer (some ⟨b3,0,none⟩))],.ptr [.str Oc]],.fn (.func 174) [] [.ptr [.val (.pointer (some ⟨b3,0,none⟩))],.ptr [.str Lx]],.fn (.func 174) [] [.ptr [.val (.pointer (some ⟨b3,0,none⟩))],.ptr [.str Lw]],.fn (.func 128) [.val (.pointer (some ⟨b3,0,none⟩))] [],.fn (.func 129) [] [.ptr [.val (.pointer (some ⟨b3,0,none⟩))]],.fn (.func 130) [] [.ptr [.val (.pointer (some ⟨b3,0,none⟩))]],.fn (.func 131) [.val (.pointer (some ⟨b3,0,none⟩))] [],.fn (.func 132) [.val (.pointer (some ⟨b3,0,none⟩))] [],.fn (.func 133) [] [.ptr [.val (.pointer (some ⟨b3,0,none⟩))]]]) tok rfl rfl rfl (by kernel_rfl)) ?_;refine Qn 33 rfl (Aa rfl) (Qn 34 rfl Dg ?_);refine Qz 35 rfl (I0 (k:=1) (v:=.agg _) (cs':=(.val (.pointer none) :: .row (.slice none 0 0) 1 [] :: [.fn (.func 121) [] [.ptr [.val (.pointer (some ⟨b3,0,none⟩))]],.fn (.func 122) [.val (.pointer (some ⟨b3,0,none⟩))] [],.fn (.func 123) [] [.ptr [.val (.pointer (some ⟨b3,0,none⟩))]],.fn (.func 125) [.val (.pointer (some ⟨b3,0,none⟩))] [],.val .nilFunc,.fn (.func 126) [.val (.pointer (some ⟨b3,0,none⟩))] [],.fn (.func 174) [] [.ptr [.val (.pointer (some ⟨b3,0,none⟩))],.ptr [.str Z8]],.fn (.func 174) [] [.ptr [.val (.pointer (some ⟨b3,0,none⟩))],.ptr [.str Z7]],.fn (.func 174) [] [.ptr [.val (.pointer (some ⟨b3,0,none⟩))],.ptr [.str Z6]],.fn (.func 174) [] [.ptr [.val (.pointer (some ⟨b3,0,none⟩))],.ptr [.str T0]],.fn (.func 174) [] [.ptr [.val (.pointer (some ⟨b3,0,none⟩))],.ptr [.str Oc]],.fn (.func 174) [] [.ptr [.val (.pointer (some ⟨b3,0,none⟩))],.ptr [.str Lx]],.fn (.func 174) [] [.ptr [.val (.pointer (some ⟨b3,0,none⟩))],.ptr [.str Lw]],.fn (.func 128) [.val (.pointer (some ⟨b3,0,none⟩))] [],.fn (.func 129) [] [.ptr [.val (.pointer (some ⟨b3,0,none⟩))]],.fn (.func 130) [] [.ptr [.val (.pointer (some ⟨b3,0,none⟩))]],.fn (.func 131) [.val (.pointer (some ⟨b3,0,none⟩))] [],.fn (.func 132) [.val (.pointer (some ⟨b3,0,none⟩))] [],.fn (.func 133) [] [.ptr [.val (.pointer (some ⟨b3,0,none⟩))]]])) (H2:=_::_::_) tok rfl rfl rfl rfl rfl rfl (rfl) (by kernel_rfl) rfl) ?_
 refine Jr ?_;refine Ap (Ab (Qp Md (Qp Tm (Rb ?_))));refine ⟨.inr rfl,[.val _],Ze,_,S0,?_⟩;exact ⟨b3,rfl,rfl⟩
theorem fns_at {b:Nat}{n:Nat}{x y z:AV}(h:(bJ b)[n]? = some x):(y::z::bJ b)[2+n]? = some x:=by rw [Nat.add_comm];exact h
theorem J8 (b:Nat)(o:Ac)(v:Value)(a:Option Addr)(ha:a=none\/a=some ⟨b,0,none⟩)(R:List HO)(t:Syn)(s:Ac)(f:Nat)(first cap:List AV)(hk:0<=t.kind/\t.kind<=18)(hv:(bJ b)[t.kind.toNat]? = some (.fn (.func f) first cap))(hf:Y0 Tryz.prog f=true)(hc:Cc Tryz.prog f (.row v (Ic o).length 5 1 :: .box b 148 (.val (.pointer a) :: .row v 1 (Ic o)::bJ b)::R) (first ++ [.agg (cSyn t)]++cap) (WQ b (o++s) R)):Cc Tryz.prog 67 (.row v (Ic o).length 5 1 :: .box b 148 (.val (.pointer a) :: .row v 1 (Ic o)::bJ b)::R) [.val (.pointer (some ⟨b,0,none⟩)),.agg (cSyn t)] (WQ b (o++s) R):=by
 refine Jz 13 Tryz.func67 rfl ?_;refine Ab (Qp (Ji Aj) (A7 (T6 1 rfl (Qn 0 rfl B3 (Qn 1 rfl (Qf Aj) (Qn 2 rfl B7 (Qn 3 rfl (Aa rfl) (Qn 4 rfl Dg ?_))))))));refine Qn 5 rfl (iG (o':=(2+t.kind.toNat)) tok rfl rfl rfl rfl rfl (hk.1) (by omega) (by show 2+t.kind.toNat*1=_;omega)) ?_;refine Qn 6 rfl (D1.mem (fun k=>Fb (k:=k) (c:=.fn (.func f) first cap) tok rfl rfl rfl (fns_at hv)) (fun _ h=>h)) ?_;refine Qn 7 rfl (C8 Aj) ?_;refine iR 8 rfl (Ms (hf) rfl rfl rfl (Cc.front2 (R:=_) 1 0 rfl rfl rfl (hc))) ?_;rintro _ _ ⟨v12,a12,rfl,ha12,rfl⟩;refine ⟨.inl rfl,[],.nil,_,.refl _,?_⟩;exact ⟨v12,a12,rfl,ha12,rfl⟩
theorem node_ok (b:Nat)(t:Syn):∀p,Ag t p=0->Ie t->0<=t.kind->t.kind<=18->t.kind≠4->J3 b t:=by
 refine Syn.ind (P:=fun t=>∀p,Ag t p=0->Ie t->0<=t.kind->t.kind<=18->t.kind≠4->J3 b t) (fun t ih p h hf k0 k18 k4=>?_) t;have hi:=ok_num h;have hi64 : -9223372036854775808<=t.num/\t.num<=9223372036854775807:=by omega
 obtain ⟨ho,_⟩:=Bx h;obtain ⟨_,hs,_,hfl⟩:=Bz ho
 have kid:∀(j:Nat) a,t.kids[j]? = some a->a.kind≠4->J3 b a:=fun j a ha h4=>by
  obtain ⟨c,k⟩:=Dl h ha;have kk:=wV k;exact ih a (Ak ha) _ c (Vm hf (Ak ha)) (by omega) kk.2 h4
 have kids:t.kind≠3->∀a∈t.kids,J3 b a:=fun h3 a ha=>by
  obtain ⟨j,hj⟩:=Fh.1 ha;refine kid j a hj ?_;obtain ⟨c,k⟩:=Dl h hj;unfold Cr at k;rw [if_neg (show ¬(t.kind==3)=true by simpa using h3)] at k
  repeat' split at k
  all_goals first | (have:=Dz k;omega) | (have:=L6 k;omega) | (have:=aR k;omega)
 have hr:0<=t.kind/\t.kind<=18:=⟨k0,k18⟩;have hcases:t.kind=0\/t.kind=1\/t.kind=2\/t.kind=3\/t.kind=5\/t.kind=6\/t.kind=7\/t.kind=8\/t.kind=9\/t.kind=10\/t.kind=11\/t.kind=12\/t.kind=13\/t.kind=14\/t.kind=15\/t.kind=16\/t.kind=17\/t.kind=18:=by omega
 intro o v a ha R hb;have e:=Ew t
 have wsn:(t.kids.map Ad == [])=true↔¬0<t.kids.length:=by
  cases hq:t.kids <;> simp
 rcases hcases with hk | hk | hk | hk | hk | hk | hk | hk | hk | hk | hk | hk | hk | hk | hk | hk | hk | hk
 .
  skip
  have e2:Ad t=(t.kids.map Ad).flatten:=by rw [e];unfold Dn;rw [hk];rfl
  rw [e2] at hb ⊢;exact J8 b o v a ha R t _ 121 [] [.ptr [.val (.pointer (some ⟨b,0,none⟩))]] hr (by rw [hk];rfl) (by kernel_rfl) (w_program b o v a ha R t (kids (by omega)) hb)
 .
  skip
  have e2:Ad t = [116,121,112,101,32]++t.text ++ [32,123]++(if 0<t.kids.length then [32]++D8 (t.kids.map Ad) ++ [32] else []) ++ [125,10]:=by
   rw [e];unfold Dn;rw [hk];show B6 ++ [32]++t.text ++ [32,123]++(if (t.kids.map Ad == [])=true then [] else [32]++D8 (t.kids.map Ad) ++ [32]) ++ [125,10]=_;by_cases h0:0<t.kids.length
   . rw [if_pos h0,if_neg (fun h=>(wsn.1 h) h0)];simp
   rw [if_neg h0,if_pos (wsn.2 h0)];simp
  rw [e2] at hb ⊢;exact J8 b o v a ha R t _ 122 [.val (.pointer (some ⟨b,0,none⟩))] [] hr (by rw [hk];rfl) (by kernel_rfl) (w_decl b o v a ha R t (kids (by omega)) hb)
 .
  skip
  have e2:Ad t=t.text++([58,32]:Ac)++Kp t.num:=by rw [e];unfold Dn;rw [hk];rfl
  rw [e2] at hb ⊢;exact J8 b o v a ha R t _ 123 [] [.ptr [.val (.pointer (some ⟨b,0,none⟩))]] hr (by rw [hk];rfl) (by kernel_rfl) (w_field b o v a ha R t (Yu hfl hk) hb)
 .
  skip
  obtain ⟨q0,q1,r,hq⟩:∃q0 q1 r,t.kids=q0::q1::r:=by
   unfold Ct at hs;rw [hk] at hs
   replace hs:decide (3<=(t.kids.length:Int))=true:=hs
   simp only [Cb] at hs
   match hq:t.kids with
   | []=>rw [hq] at hs;simp at hs
   | [x]=>rw [hq] at hs;simp at hs
   | x::y::r=>exact ⟨x,y,r,rfl⟩
  have no4:∀(j:Nat) x,1<=j->t.kids[j]? = some x->x.kind≠4:=fun j x hj hx=>by
   obtain ⟨c,k⟩:=Dl h hx;unfold Cr at k;rw [hk] at k;have e3:((j:Int)==0)=false:=by simp;omega
   simp only [e3] at k
   replace k:(if ((j:Int)==1)=true then Pl.pats else Pl.exps).at x.kind=true:=k
   split at k
   . have:=aR k;omega
   have:=L6 k;omega
  have hq1:J3 b q1:=kid 1 q1 (by rw [hq];rfl) (no4 1 q1 (Be _) (by rw [hq];rfl))
  have hqr:∀x∈r,J3 b x:=fun x hx=>by
   obtain ⟨j,hj⟩:=Fh.1 hx;have hj2:t.kids[j+2]? = some x:=by rw [hq];simpa using hj
   exact kid (j+2) x hj2 (no4 (j+2) x (by omega) hj2)
  have e2:Ad t=([113,117,101,114,121,32]:Ac)++t.text++(if !(q0.text == []) then ([32,98,121,32]:Ac)++q0.text else [])++([10,109,97,116,99,104,32]:Ac)++Ad q1++([10,114,101,116,117,114,110,32]:Ac)++D8 (r.map Ad)++([59,10]:Ac):=by
   rw [e];unfold Dn;rw [hk];show B5 ++ [32]++t.text++(if ((Aq t 0).text == [])=true then [] else [32]++O2 ++ [32]++(Aq t 0).text) ++ [10]++Dx ++ [32]++(t.kids.map Ad).getD 1 [] ++ [10]++Dc ++ [32]++D8 ((t.kids.map Ad).drop 2) ++ [59,10]=_;have k0:Aq t 0=q0:=by unfold Aq;rw [hq];rfl
   rw [k0,hq];show B5 ++ [32]++t.text++(if (q0.text == [])=true then [] else [32]++O2 ++ [32]++q0.text) ++ [10]++Dx ++ [32]++Ad q1 ++ [10]++Dc ++ [32]++D8 (r.map Ad) ++ [59,10]=_;cases hc:(q0.text == [])
   . simp
   simp
  rw [e2] at hb ⊢;exact J8 b o v a ha R t _ 125 [.val (.pointer (some ⟨b,0,none⟩))] [] hr (by rw [hk];rfl) (by kernel_rfl) (w_query b o v a ha R t q0 q1 r hq hq1 hqr hb)
 .
  skip
  have e2:Ad t=t.text++([32]:Ac)++t.name++(if h:0<t.kids.length then ([32,105,102,32]:Ac)++Ad t.kids[0] else []):=by
   rw [e];unfold Dn;rw [hk];show t.text ++ [32]++t.name++(if (t.kids.map Ad == [])=true then [] else [32]++Lv ++ [32]++(t.kids.map Ad).getD 0 [])=_;by_cases h0:0<t.kids.length
   .
    rw [dif_pos h0,if_neg (fun h=>(wsn.1 h) h0)];have:(t.kids.map Ad).getD 0 []=Ad t.kids[0]:=by rw [Dm,List.getElem?_map,List.getElem?_eq_getElem h0];rfl
    rw [this];simp
   rw [dif_neg h0,if_pos (wsn.2 h0)]
  rw [e2] at hb ⊢;exact J8 b o v a ha R t _ 126 [.val (.pointer (some ⟨b,0,none⟩))] [] hr (by rw [hk];rfl) (by kernel_rfl) (w_event b o v a ha R t (kids (by omega)) hb)
 .
  skip
  have e2:Ad t=Z8++([40]:Ac)++D8 (t.kids.map Ad)++(if t.kind==11 then ([44,32]:Ac)++Lib.itoa t.num else [])++([41]:Ac):=by rw [e];unfold Dn;rw [hk];rfl
  rw [e2] at hb ⊢;exact J8 b o v a ha R t _ 174 [] [.ptr [.val (.pointer (some ⟨b,0,none⟩))],.ptr [.str Z8]] hr (by rw [hk];rfl) (by kernel_rfl) (Wb b o v a ha R t Z8 hi64 (kids (by omega)) hb)
 .
  skip
  have e2:Ad t=Z7++([40]:Ac)++D8 (t.kids.map Ad)++(if t.kind==11 then ([44,32]:Ac)++Lib.itoa t.num else [])++([41]:Ac):=by rw [e];unfold Dn;rw [hk];rfl
  rw [e2] at hb ⊢;exact J8 b o v a ha R t _ 174 [] [.ptr [.val (.pointer (some ⟨b,0,none⟩))],.ptr [.str Z7]] hr (by rw [hk];rfl) (by kernel_rfl) (Wb b o v a ha R t Z7 hi64 (kids (by omega)) hb)
 .
  skip
  have e2:Ad t=Z6++([40]:Ac)++D8 (t.kids.map Ad)++(if t.kind==11 then ([44,32]:Ac)++Lib.itoa t.num else [])++([41]:Ac):=by rw [e];unfold Dn;rw [hk];rfl
  rw [e2] at hb ⊢;exact J8 b o v a ha R t _ 174 [] [.ptr [.val (.pointer (some ⟨b,0,none⟩))],.ptr [.str Z6]] hr (by rw [hk];rfl) (by kernel_rfl) (Wb b o v a ha R t Z6 hi64 (kids (by omega)) hb)
 .
  skip
  have e2:Ad t=T0++([40]:Ac)++D8 (t.kids.map Ad)++(if t.kind==11 then ([44,32]:Ac)++Lib.itoa t.num else [])++([41]:Ac):=by rw [e];unfold Dn;rw [hk];rfl
  rw [e2] at hb ⊢;exact J8 b o v a ha R t _ 174 [] [.ptr [.val (.pointer (some ⟨b,0,none⟩))],.ptr [.str T0]] hr (by rw [hk];rfl) (by kernel_rfl) (Wb b o v a ha R t T0 hi64 (kids (by omega)) hb)
 .
  skip
  have e2:Ad t=Oc++([40]:Ac)++D8 (t.kids.map Ad)++(if t.kind==11 then ([44,32]:Ac)++Lib.itoa t.num else [])++([41]:Ac):=by rw [e];unfold Dn;rw [hk];rfl
  rw [e2] at hb ⊢;exact J8 b o v a ha R t _ 174 [] [.ptr [.val (.pointer (some ⟨b,0,none⟩))],.ptr [.str Oc]] hr (by rw [hk];rfl) (by kernel_rfl) (Wb b o v a ha R t Oc hi64 (kids (by omega)) hb)
 .
  skip
  have e2:Ad t=Lx++([40]:Ac)++D8 (t.kids.map Ad)++(if t.kind==11 then ([44,32]:Ac)++Lib.itoa t.num else [])++([41]:Ac):=by rw [e];unfold Dn;rw [hk];rfl
  rw [e2] at hb ⊢;exact J8 b o v a ha R t _ 174 [] [.ptr [.val (.pointer (some ⟨b,0,none⟩))],.ptr [.str Lx]] hr (by rw [hk];rfl) (by kernel_rfl) (Wb b o v a ha R t Lx hi64 (kids (by omega)) hb)
 .
  skip
  have e2:Ad t=Lw++([40]:Ac)++D8 (t.kids.map Ad)++(if t.kind==11 then ([44,32]:Ac)++Lib.itoa t.num else [])++([41]:Ac):=by rw [e];unfold Dn;rw [hk];rfl
  rw [e2] at hb ⊢;exact J8 b o v a ha R t _ 174 [] [.ptr [.val (.pointer (some ⟨b,0,none⟩))],.ptr [.str Lw]] hr (by rw [hk];rfl) (by kernel_rfl) (Wb b o v a ha R t Lw hi64 (kids (by omega)) hb)
 .
  skip
  have e2:Ad t=aN t:=by rw [e];unfold Dn;rw [hk];rfl
  rw [e2] at hb ⊢;exact J8 b o v a ha R t _ 128 [.val (.pointer (some ⟨b,0,none⟩))] [] hr (by rw [hk];rfl) (by kernel_rfl) (w_constant b o v a ha R t hi64 (xL hf).1 hb)
 .
  skip
  have e2:Ad t=t.text++([46]:Ac)++t.name:=by rw [e];unfold Dn;rw [hk];rfl
  rw [e2] at hb ⊢;exact J8 b o v a ha R t _ 129 [] [.ptr [.val (.pointer (some ⟨b,0,none⟩))]] hr (by rw [hk];rfl) (by kernel_rfl) (w_ref b o v a ha R t hb)
 .
  skip
  have e2:Ad t=([99,111,117,110,116,40]:Ac)++t.text++([41]:Ac):=by rw [e];unfold Dn;rw [hk];rfl
  rw [e2] at hb ⊢;exact J8 b o v a ha R t _ 130 [] [.ptr [.val (.pointer (some ⟨b,0,none⟩))]] hr (by rw [hk];rfl) (by kernel_rfl) (w_count b o v a ha R t hb)
 .
  skip
  have e2:Ad t=Og t.num++([40]:Ac)++t.text++([46]:Ac)++t.name++Pb (t.kids.map Ad)++([41]:Ac):=by
   rw [e];unfold Dn;rw [hk];show Og t.num ++ [40]++t.text ++ [46]++t.name++(if (t.kids.map Ad == [])=true then [] else [44,32]++(t.kids.map Ad).getD 0 []) ++ [41]=_;unfold Ct at hs;rw [hk] at hs
   replace hs:(if (t.num==1)=true then ((t.kids.length:Int)==0) else ((t.kids.length:Int)==1))=true:=hs
   have hl:t.kids.length<=1:=by split at hs <;> (simp only [beq_iff_eq] at hs;omega)
   match hq:t.kids with
   | []=>rfl
   | [x]=>simp [Pb]
   | x::y::r=>rw [hq] at hl;simp at hl
  rw [e2] at hb ⊢;exact J8 b o v a ha R t _ 131 [.val (.pointer (some ⟨b,0,none⟩))] [] hr (by rw [hk];rfl) (by kernel_rfl) (w_total b o v a ha R t (Zm hfl hk) (kids (by omega)) hb)
 .
  skip
  unfold Ct at hs;rw [hk] at hs
  replace hs:((t.kids.length:Int)==2)=true:=hs
  obtain ⟨x0,x1,hq⟩:=Xi (by simpa using hs)
  have e2:Ad t=Hy t x0 (Ad x0)++([32]:Ac)++Tc t.num++([32]:Ac)++Hy t x1 (Ad x1):=by
   rw [e];unfold Dn;rw [hk];show Hy t (Aq t 0) ((t.kids.map Ad).getD 0 []) ++ [32]++Tc t.num ++ [32]++Hy t (Aq t 1) ((t.kids.map Ad).getD 1 [])=_;have k0:Aq t 0=x0:=by unfold Aq;rw [hq];rfl
   have k1:Aq t 1=x1:=by unfold Aq;rw [hq];rfl
   rw [k0,k1,hq];rfl
  rw [e2] at hb ⊢;exact J8 b o v a ha R t _ 132 [.val (.pointer (some ⟨b,0,none⟩))] [] hr (by rw [hk];rfl) (by kernel_rfl) (w_binary b o v a ha R t x0 x1 (by rw [hq];rfl) (by rw [hq];rfl) (by have:=U4 hfl hk;omega) (kids (by omega) x0 (by rw [hq];simp)) (kids (by omega) x1 (by rw [hq];simp)) hb)
 skip
 unfold Ct at hs;rw [hk] at hs
 replace hs:((t.kids.length:Int)==1)=true:=hs
 obtain ⟨x0,hq⟩:=Uj (by simpa using hs)
 have e2:Ad t=([110,111,116,32]:Ac)++Hy t x0 (Ad x0):=by
  rw [e];unfold Dn;rw [hk];show Gq ++ [32]++Hy t (Aq t 0) ((t.kids.map Ad).getD 0 [])=_;have k0:Aq t 0=x0:=by unfold Aq;rw [hq];rfl
  rw [k0,hq];rfl
 rw [e2] at hb ⊢;exact J8 b o v a ha R t _ 133 [] [.ptr [.val (.pointer (some ⟨b,0,none⟩))]] hr (by rw [hk];rfl) (by kernel_rfl) (w_not b o v a ha R t x0 (by rw [hq];rfl) (kids (by omega) x0 (by rw [hq];simp)) hb)
theorem Ym {t:Syn}{p:Pl}{e:Int}(h:Vq p t=e)(he:e≠0):Ag t p=e:=by
 rw [P6,h,if_pos (by simpa using he)]
theorem check_kids {t:Syn}{p:Pl}(h:Vq p t=0):Ag t p=Mk t 0 (t.kids.drop 0):=by
 rw [P6,h,if_neg (by decide),T3]
theorem lS {t x:Syn}{k:Nat}(h:t.kids[k]? = some x):Mk t k (t.kids.drop k)=if (Ag x (Cr t k) != 0) then Ag x (Cr t k) else Mk t (k+1) (t.kids.drop (k+1)):=by
 obtain ⟨h1,rfl⟩:=List.getElem?_eq_some_iff.1 h;rw [Sr h1,Mk]
theorem vS {t x:Syn}{k:Nat}(h:t.kids[k]? = some x):Ek t.kind (t.kids.drop k)=max (C7 x+(if Ed t.kind x.kind then 1 else 0)) (Ek t.kind (t.kids.drop (k+1))):=by
 obtain ⟨h1,rfl⟩:=List.getElem?_eq_some_iff.1 h;rw [Sr h1,Ek]
theorem qI {t:Syn}(h:Ie t):C7 t<=40000000:=by
 have h1:=pD t;have h2:=med_cnt h;omega
theorem w_check (t:Syn)(p:Pl)(hfew:Ie t):Au Tryz.prog 64 [.agg (cSyn t),uQ p] (.int .i64 (Ag t p)):=by
 revert p hfew
 induction t using Syn.ind
 rename_i t ih;intro p hfew;have hkl:=cO hfew;have htx:=xL hfew;obtain ⟨f,first,cap,hv,hfn,hP⟩:=pl_fn p;rw [hv];refine G3 45 Tryz.func64 rfl fun H=>?_
 refine Ab (Qp (Ji Aj) (Qp A3 (Re (AW.block (Ab (Qp (Ai (v:=.fn _ _ _) rfl) (Qp (Qf Aj) (Qp B7 (Qp (Tl hfn rfl rfl rfl (hP t.kind)) (Qp Ke (Qp Bl (Br (fun hc1=>Ab (Qp A3 (Ra (Qr (Iq _) ?_)))) fun hc1=>Ab (Qp (C8 Aj) (Qp (Qc rfl (w_shaped t)) (Qp Ke (Qp Bl (Br (fun hc2=>Ab (Qp A3 (Ra (Qr (Iq _) ?_)))) fun hc2=>?_)))))))))))))))))
 .
  have h9:Ag t p=1:=Ym (if_pos hc1) (by decide);rw [h9];rfl
 .
  have h9:Ag t p=15:=Ym ((Bu hc1).trans (if_pos hc2)) (by decide);rw [h9];rfl
 refine Ab (Qp (C8 Aj) (Qp (Qc rfl (w_named t htx.1 htx.2)) (Qp Ke (Qp Bl (Br (fun hc3=>Ab (Qp A3 (Ra (Qr (Iq _) ?_)))) fun hc3=>Rf (Cj (Qp (C8 Aj) (Qp (Qc rfl (w_fields t)) (Qp A3 (Cf (Qp Ax (Qp Cq (Br (fun hc4=>Ab (Qp Ax (Qp A3 (Rc (Qr (Iq _) ?_))))) fun hc4=>?_)))))))))))))
 .
  have h9:Ag t p=8:=Ym (((Bu hc1).trans (Bu hc2)).trans (if_pos hc3)) (by decide);rw [h9];rfl
 .
  have h9:Ag t p=C9 t:=Ym (((Bu hc1).trans (Bu hc2)).trans (Bu hc3)) (by simpa using hc4);rw [h9];rfl
 have h0:Vq p t=0:=by unfold Vq;rw [Bu hc1,Bu hc2,Bu hc3];simpa using hc4
 refine B8 (Cj (Qp (Qf Po) (Qp Eg ?_)));refine Qp (G6 t.kids.length rfl rfl (by simp)) ?_;refine Qp Ax (A7 (AW.block ?_));refine AW.Aan (fun (k:Nat)=>(⟨[(2,.ptr (cSyn t)),(29,.sl 6 (t.kids.map Df)),(30,.int .i64 t.kids.length),(31,.int .i64 (k:Int))],H,45⟩:St)) (fun k=>k<=t.kids.length/\Ag t p=Mk t k (t.kids.drop k)) (fun k=>t.kids.length-k) (0) ?_ Dp ?_
 . exact ⟨Bk _,check_kids h0⟩
 rintro k hR;refine Ab (Qp C5 (Re (Hs (fun hc5=>?_) fun hc5=>?_)))
 .
  obtain ⟨x,hx⟩:=gt2 (l:=t.kids) (k:=k) (by have:=Ec hc5;omega);have hlt:=qC hx;have hm:=Ak hx;refine B8 (AW.seq (AW.block (Ab (Qp Ax ?_))));refine Qp (F5 Aj rfl rfl (by omega) (I3 hx)) ?_;refine Qp (C8 Aj) ?_;refine E8 Kb fun b7=>?_
  refine Qp A3 ?_;refine B4 0 Aj (_::_) ?_;refine Me 7 0 rfl ?_;refine Re ?_;refine Oe ?_;refine Qn 0 rfl (C8 Aj) (Qn 1 rfl (C8 Aj) (Qn 2 rfl Ax ?_));refine Qn 3 rfl (Qc rfl (w_kid t k hlt (by omega))) ?_;refine Qn 4 rfl (Qc rfl (ih x hm (Cr t k) (Vm hfew hm))) (Qn 5 rfl A3 ?_);refine Jr ?_;refine Ap (Ab (Qp Ax (Qp Cq (Br (fun hc6=>Ab (Qp Ax (Qp A3 (Ra (Bc (Ep (Bc (Qr (Iq _) ?_)))))))) fun hc6=>Rf (AW.region (Qp Ii (Qp Ax (A7 ?_))))))))
  .
   have h9:Ag t p=Ag x (Cr t k):=by rw [hR.2,lS hx,if_pos hc6]
   rw [h9];rfl
  refine ⟨k+1,?_,?_,Dp⟩
  . exact ⟨hlt,by rw [hR.2,lS hx,Bu hc6]⟩
  omega
 have hk:t.kids.length<=k:=by have:=He hc5;omega
 refine AW.exit ?_;refine B9 (Ri (Ab (Qp A3 (Rb ?_))));refine Qr (Iq _) ?_;have h9:Ag t p=0:=by rw [hR.2,Ss hk,Mk]
 rw [h9];rfl
theorem w_depth (t:Syn)(hfew:Ie t):Au Tryz.prog 65 [.agg (cSyn t)] (.int .i64 (C7 t:Int)):=by
 revert hfew
 induction t using Syn.ind
 rename_i t ih;intro hfew;have hkl:=cO hfew;refine G3 43 Tryz.func65 rfl fun H=>?_
 refine Ab (Qp (Ji Aj) (Qp A3 (Cf (Qp A3 (A7 (Cj (Qp (Qf Po) (Qp Eg ?_))))))));refine Qp (G6 t.kids.length rfl rfl (by simp)) ?_;refine Qp Ax (A7 (AW.block ?_));refine AW.Aan (fun (p:Nat×Nat)=>(⟨[(1,.ptr (cSyn t)),(3,.int .i64 (p.2:Int)),(8,.sl 6 (t.kids.map Df)),(9,.int .i64 t.kids.length),(10,.int .i64 (p.1:Int))],H,43⟩:St)) (fun p=>p.1<=t.kids.length/\Ek t.kind t.kids=max p.2 (Ek t.kind (t.kids.drop p.1))/\p.2<=50000000) (fun p=>t.kids.length-p.1) ((0,0)) ?_ Dp ?_
 . exact ⟨Bk _,by simp,Bk _⟩
 rintro p hR;refine Ab (Qp C5 (Re (Hs (fun hc1=>?_) fun hc1=>?_)))
 .
  obtain ⟨x,hx⟩:=gt2 (l:=t.kids) (k:=p.1) (by have:=Ec hc1;omega);have hlt:=qC hx;have hm:=Ak hx;have hdx:=qI (Vm hfew hm);have hd2:=vS hx;refine B8 (AW.seq (AW.block (Ab ?_)));refine Qp (F5 Aj rfl rfl (by omega) (I3 hx)) ?_;refine Qp (C8 Aj) ?_;refine E8 Kb fun b5=>?_
  refine B4 0 Aj (_::_) ?_;refine Me 5 0 rfl ?_;refine Cf (Qp (C8 Aj) (Qp (Qc rfl (ih x hm (Vm hfew hm))) (Qp A3 (A7 (Cj (Qp (Qf Aj) (Qp B7 (Qp (Qf Aj) (Qp B7 (Qp (Qc rfl (Aad t.kind x.kind)) (Br (fun hc2=>?_) fun hc2=>?_)))))))))))
  .
   rw [if_pos hc2] at hd2;refine AW.region (Qp Ax (Qp Ii (Qp A3 (A7 (AW.region (Qp Ax (Qp Ax (Qp (P_max rfl rfl) (Qp A3 (Rk (AW.region (Qp Ii (Qp Ax (A7 ?_))))))))))))));refine ⟨(p.1+1,max p.2 (C7 x+1)),?_,?_,GS.weaken ⟨rfl,congrArg (AV.int .i64) (by simp only;omega),rfl,rfl,rfl,trivial⟩ (.refl _)⟩
   . exact ⟨hlt,by simp only;omega,by simp only;omega⟩
   simp only;omega
  rw [Bu hc2] at hd2;refine B8 (AW.region (Qp Ax (Qp Ax (Qp (P_max rfl rfl) (Qp A3 (Rk (AW.region (Qp Ii (Qp Ax (A7 ?_))))))))));refine ⟨(p.1+1,max p.2 (C7 x)),?_,?_,GS.weaken ⟨rfl,congrArg (AV.int .i64) (by simp only;omega),rfl,rfl,rfl,trivial⟩ (.refl _)⟩
  . exact ⟨hlt,by simp only;omega,by simp only;omega⟩
  simp only;omega
 have hk:t.kids.length<=p.1:=by have:=He hc1;omega
 have he:=hR.2.1;rw [Ss hk,Ek] at he;have hfd:=qI hfew;have hde:=La t;refine AW.exit ?_;refine B9 (Ri (Cj (Qp (Qf Aj) (Qp B7 (Qp Bv (Qp Cw ?_))))));refine Qg [] Qw (Qf Aj) (Qg [(31,_)] Qw B7 (Qg [(32,_)] Qw (Qc rfl (w_pats t.kind)) ?_));refine Qg [(33,_)] Qw Cw (Qg [] Qw (Qf Aj) (Qg [(35,_)] Qw B7 (Qg [(36,_)] Qw Cq (Qg [(34,_),(37,_)] Qw Mu (Qp G4 (Br (fun hc3=>AW.region (Qp Ax (Qp Ii (Qp A3 (Cf (Qp Ax (Qp A3 (Rb (Qr (Iq _) ?_))))))))) fun hc3=>B8 (Ab (Qp Ax (Qp A3 (Rb (Qr (Iq _) ?_)))))))))))
 .
  have h9:C7 t=p.2+1:=by rw [hde,if_pos hc3];omega
  rw [h9];rfl
 have h9:C7 t=p.2:=by rw [hde,Bu hc3];omega
 rw [h9];rfl
def Pl.fine (p:Pl):Prop:=∀k,p.at k=true->0<=k/\k<=18/\k≠4
theorem sM:Pl.fine (.only 0):=fun k h=>by have:=Dz h;omega
theorem wJ:Pl.fine (.only 3):=fun k h=>by have:=Dz h;omega
theorem rD (t:Syn)(p:Pl)(hfew:Ie t)(hp:p.fine):Au Tryz.prog 26 [.agg (cSyn t),uQ p] (.tuple [.str (Ba t p).1,.int .i64 (Ba t p).2]):=by
 obtain ⟨f,first,cap,hv,hfn,hP⟩:=pl_fn p;have hck:=w_check t p hfew;rw [hv] at hck ⊢;refine G3 30 Tryz.func26 rfl fun H=>?_
 refine Ab (Qp (Ji Aj) (Qp Nb (Qp A3 (A7 (Cj (Qp (C8 Aj) (Qp (Ai (v:=.fn _ _ _) rfl) (Qp (Qc rfl (hck)) (Qp A3 (Cf (Qp Ax (Qp Cq (Br (fun hc1=>Ab (Qp Ax (Qp Nb (Qp A3 (Rc (Py (.str _) (Iq _) ?_)))))) fun hc1=>?_)))))))))))))
 .
  have h9:Ba t p=([],Ag t p):=if_pos hc1;rw [h9];rfl
 have h0:Ag t p=0:=by simpa using hc1
 have hkd:=hp _ (Bz (Bx h0).1).1;have hwl:=med_big h0 hfew;refine B8 (Cj (Qp (C8 Aj) (Qp (Qc rfl (w_depth t hfew)) (Qp Jj (Br (fun hc2=>Ab (Qp Nb (Qp A3 (Rc (Py (.str _) (Iq _) ?_))))) fun hc2=>B8 (Ab (Qe (D2 rfl (w_new _)) ?_)))))))
 .
  have h9:Ba t p=([],12):=(Bu hc1).trans (if_pos hc2);rw [h9];rfl
 rintro _ _ ⟨b17,rfl,rfl⟩;refine Qp Tm (Cf (Qp B3 (Qp (C8 Aj) ?_)));refine Qe (D2 rfl (node_ok b17 t p h0 hfew hkd.1 hkd.2.1 hkd.2.2 [] _ _ (.inl rfl) _ (by show 0+(Ad t).length<=oT;unfold oT;omega))) ?_;rintro _ _ ⟨v20,a20,rfl,ha20,rfl⟩;refine A7 (Cj (Qp B3 (Qp (Aa rfl) (Qp Dg (Rcl (k_blen b17 148 _ _ _ _ _) (Qp Jj (Br (fun hc3=>Ab (Qp Nb (Qp A3 (Rc ?_)))) fun hc3=>B8 (Ab (Qp B3 (Qp (Aa rfl) (Qp Dg (Rcl (k_string b17 148 _ _ _ _ _) (Qp Nb (Qp A3 (Rb ?_)))))))))))))))
 .
  refine Yx J6 Zf S2 ?_;have h9:Ba t p=([],13):=((Bu hc1).trans (Bu hc2)).trans (if_pos hc3);rw [h9];rfl
 refine Yx J6 Zf S2 ?_;have h9:Ba t p=(Ad t,0):=((Bu hc1).trans (Bu hc2)).trans (Bu hc3);rw [h9];rfl
theorem lZ (t:Syn)(hfew:Ie t):Au Tryz.prog 9 [.agg (cSyn t)] (.tuple [.str (Ba t (.only 0)).1,.int .i64 (Ba t (.only 0)).2]):=by
 refine G3 9 Tryz.func9 rfl fun H=>?_
 refine Ab (Qp (Ji Aj) (Qp Nb (Qp A3 (Re ?_))));refine Oe ?_;refine Qn 0 rfl (C8 Aj) (Qn 1 rfl (Qc rfl (X1 _)) (Qn 2 rfl (Qc rfl (rD t (.only 0) hfew sM)) (Qn 3 rfl Qxt (Qn 4 rfl Wt (Qn 5 rfl Nb (Qn 6 rfl A3 ?_))))));refine Jr ?_;refine Ap (AW.ret (Py (.str _) (Iq _) ?_));rfl
theorem m_Query (t:Syn)(hfew:Ie t):Au Tryz.prog 63 [.agg (cSyn t)] (.tuple [.str (Ba t (.only 3)).1,.int .i64 (Ba t (.only 3)).2]):=by
 refine G3 9 Tryz.func63 rfl fun H=>?_
 refine Ab (Qp (Ji Aj) (Qp Nb (Qp A3 (Re ?_))));refine Oe ?_;refine Qn 0 rfl (C8 Aj) (Qn 1 rfl (Qc rfl (X1 _)) (Qn 2 rfl (Qc rfl (rD t (.only 3) hfew wJ)) (Qn 3 rfl Qxt (Qn 4 rfl Wt (Qn 5 rfl Nb (Qn 6 rfl A3 ?_))))));refine Jr ?_;refine Ap (AW.ret (Py (.str _) (Iq _) ?_));rfl
theorem yT (t:Syn)(ht:Ie t):Au Tryz.prog 18 [.agg (cSyn t)] (.int .i64 (Ba t (.only 0)).2):=by
 refine G3 11 Tryz.func18 rfl fun H=>?_
 refine Ab (Qp (Ji Aj) (Qp A3 (Cf (Qp (C8 Aj) (Qp (Qc rfl (lZ t ht)) (Qp Wz (Qp Qxt (Qp Wt (Qp Nb (Qp A3 (Cf (Qp Ax (Qp A3 (Rb (Qr (Iq _) ?_)))))))))))))));rfl
abbrev Yf (q:List e8Sc×Fa):AV:=AV.tuple [.sl 2 (q.1.map Oh),.agg (rR q.2)]
theorem rf_types (t:Syn)(ht:Ie t):Au Tryz.prog 19 [.agg (cSyn t)] (.tuple [.sl 2 ((Ga t).1.map Oh),.agg (rR (Ga t).2)]):=by
 have hkl:=cO ht;refine G3 85 Tryz.func19 rfl fun H=>?_
 refine Ab (Qp (Ji Aj) (Qp (Ck (z:=2) rfl) (E8 oF fun b3=>Cf (Qp Tm ?_))));refine AOL.ghost (GS.row (t:=4) 65 2 rfl) ?_;refine Cf (Qe (Jm) ?_);rintro _ _ ⟨b12,rfl,rfl⟩;refine Qp Tm (A7 (Cj (Qp (Qf Po) (Qp Eg ?_))));refine Qp (G6 t.kids.length rfl rfl (by simp)) ?_;refine Qp Ax (A7 (AW.block ?_));refine AW.Aan (fun (q:Nat×List e8Sc×List (List AV)×List Ac×Value)=>(⟨[(1,.ptr (cSyn t)),(2,.sl 2 []),(3,.val (.pointer (some ⟨b3,0,none⟩))),(4,.row q.2.2.2.2 2 q.2.2.1),(5,.val (.map (some b12))),(14,.sl 6 (t.kids.map Df)),(15,.int .i64 t.kids.length),(16,.int .i64 (q.1:Int))],.smap b12 (Wp q.2.2.2.1) :: .row q.2.2.2.2 q.2.2.1.length 65 2 :: .box b3 72 oF::H,85⟩:St)) (fun q=>q.1<=t.kids.length/\Fw [] t.kids=Fw q.2.1 (t.kids.drop q.1)/\q.2.1.length<=16/\q.2.2.1=q.2.1.map Oh/\q.2.2.2.1=H4 q.2.1) (fun q=>t.kids.length-q.1) ((0,[],[],[],.slice none 0 0)) ?_ Dp ?_
 . exact ⟨Bk _,rfl,Bk _,rfl,rfl⟩
 rintro q hR;refine Ab (Qp C5 (Re (Hs (fun hc1=>?_) fun hc1=>?_)))
 .
  obtain ⟨a,ha⟩:=De hc1;have hlt:=Ch ha;have hm:=Ak ha;have ho16:=hR.2.2.1;have hrw:=hR.2.2.2.1;have hnw:=hR.2.2.2.2;have hrl:q.2.2.1.length=q.2.1.length:=by rw [hrw,Bg]
  have hso:∀c∈q.2.2.1,Av c=true:=by rw [hrw];exact scSc _
  have hma:=Vm ht hm;have hak:=cO hma;refine B8 (AW.seq (AW.block (Ab ?_)));refine Qp (F5 Aj rfl rfl (by omega) (Je ha)) ?_;refine Qp (C8 Aj) ?_;refine E8 Kb fun b7=>?_
  refine B4 0 Aj (_::_::_::_::_) ?_;refine Me 7 0 rfl ?_;refine A7 (Cj (Qp (Qf Aj) (Qp B7 (Qp Cq (Br (fun hc2=>AW.exit (Ri (AW.region (Qp Ii (Qp Ax (A7 ?_)))))) fun hc2=>B8 (Cj (Qp (Ai (v:=.row _ _ _) rfl) (Qp (Ho (n:=q.2.1.length) tok rfl rfl rfl (hrl)) (Qp Bv (Br (fun hc3=>AW.seq ?_) fun hc3=>B8 (Cj (Qp B3 (Qp (Qf Zr) (Qp Hn ?_))))))))))))))
  .
   refine ⟨(q.1+1,q.2.1,q.2.2.1,q.2.2.2.1,q.2.2.2.2),?_,?_,Dp⟩
   . exact ⟨hlt,hR.2.1.trans (typ_skip ha hc2),hR.2.2⟩
   simp only;omega
  .
   refine Oe ?_;refine Qn 0 rfl (Qf [Iq _]) (Qn 1 rfl B7 (Qn 2 rfl (Gz Jb) (Qn 3 rfl (Ck (z:=2) rfl) ?_)));refine Qz 4 rfl (Mf 2 (.agg _) Jb (_::_::_::_) rfl) ?_;refine Jr ?_;refine Ap (oN (Rj (Bc ?_)));refine Yx [.sl _ _,.agg Jb] (.cons Yt <| .cons (Yb 2) <| .nil) S3 ?_;exact Ye Yf (hR.2.1.trans (typ_5 ha hc2 hc3))
  refine AOL.Aaq (Nl (i:=0) (ks:=q.2.2.2.1) tok rfl rfl rfl rfl rfl (by kernel_rfl) rfl rfl rfl) rfl rfl ?_;refine Br (fun hc4=>?_) fun hc4=>?_
  .
   have hc4n:(H4 q.2.1).contains a.text=true:=by rw [<-hnw];exact hc4
   refine AW.seq ?_;refine Oe ?_;refine Qn 0 rfl (Qf [Iq _]) (Qn 1 rfl B7 (Qn 2 rfl (Gz Jb) (Qn 3 rfl (Ck (z:=2) rfl) ?_)));refine Qz 4 rfl (Mf 2 (.agg _) Jb (_::_::_::_) rfl) ?_;refine Jr ?_;refine Ap (oN (Rj (Bc ?_)));refine Yx [.sl _ _,.agg Jb] (.cons Yt <| .cons (Yb 2) <| .nil) S3 ?_;exact Ye Yf (hR.2.1.trans (typ_7 ha hc2 hc3 hc4n))
  have hc4n:(H4 q.2.1).contains a.text=false:=by rw [<-hnw];exact hc4
  refine B8 (Ab (Qp B3 (Qp (Qf Zr) (Qp Hn (Rt (Qu (i:=0) (H2:=_::_::_::_) tok rfl rfl rfl rfl rfl rfl rfl rfl (hc4) rfl) (Cf (Qp (Qf Zr) (Qp Hn ?_))))))));refine Qp (Kj (l0:=[.str [],.val (.slice none 0 0)]) (l:=Pn) tok rfl rfl (by kernel_rfl) rfl) ?_;refine E8 [.str [],.sl 2 []] fun b8=>?_
  refine B4 0 Pn (_::_::_::_::_) ?_;refine AOL.ghost (GS.cellRow 0 1 82 2 rfl rfl rfl rfl) ?_;refine Cf (Qe (Jm) ?_);rintro _ _ ⟨b42,rfl,rfl⟩;refine Qp Tm (A7 (Cj (Qp (Qf Po) (Qp Eg ?_))));refine Qp (G6 a.kids.length rfl rfl (by simp)) ?_;refine Qp Ax (A7 (AW.block ?_));refine AW.ghost (GS.perm (List.perm_append_comm.append_right _:(([_] ++ [_,_])++_).Perm _)) ?_;refine AW.Aan (fun (p:Nat×List Fi×List (List AV)×List Ac×Value)=>(⟨[(1,.ptr (cSyn t)),(2,.sl 2 []),(3,.val (.pointer (some ⟨b3,0,none⟩))),(4,.row q.2.2.2.2 2 q.2.2.1),(5,.val (.map (some b12))),(14,.sl 6 (t.kids.map Df)),(15,.int .i64 t.kids.length),(16,.int .i64 (q.1:Int)),(7,.ptr (cSyn a)),(8,.val (.pointer (some ⟨b8,0,none⟩))),(9,.val (.map (some b42))),(44,.sl 6 (a.kids.map Df)),(45,.int .i64 a.kids.length),(46,.int .i64 (p.1:Int))],.row p.2.2.2.2 p.2.2.1.length 82 2 :: .box b8 65 [.str a.text,.row p.2.2.2.2 2 p.2.2.1] :: .smap b42 (Wp p.2.2.2.1) :: .smap b12 (Wp (q.2.2.2.1 ++ [a.text])) :: .row q.2.2.2.2 q.2.2.1.length 65 2 :: .box b3 72 oF::H,85⟩:St)) (fun p=>p.1<=a.kids.length/\Fy [] a.kids=Fy p.2.1 (a.kids.drop p.1)/\p.2.1.length<=8/\p.2.2.1=p.2.1.map cFi/\p.2.2.2.1=p.2.1.map (·.name)) (fun p=>a.kids.length-p.1) ((0,[],[],[],.slice none 0 0)) ?_ Dp ?_
  . exact ⟨Bk _,rfl,Bk _,rfl,rfl⟩
  rintro p hP;refine Ab (Qp C5 (Re (Hs (fun hc5=>?_) fun hc5=>?_)))
  .
   obtain ⟨x,hax⟩:=De hc5;have hltx:=Ch hax;have hmx:=Ak hax;have hf8:=hP.2.2.1;have hfw:=hP.2.2.2.1;have hfn:=hP.2.2.2.2;have hfl:p.2.2.1.length=p.2.1.length:=by rw [hfw,Bg]
   have hsf:∀c∈p.2.2.1,Av c=true:=by rw [hfw];exact scFi _
   refine B8 (AW.seq (AW.block (Ab ?_)));refine Qp (F5 Aj rfl rfl (by omega) (Je hax)) ?_;refine Qp (C8 Aj) ?_;refine E8 Kb fun b11=>?_
   refine B4 0 Aj (_::_::_::_::_::_::_::_) ?_;refine Me 11 0 rfl ?_;refine A7 (Cj (Qp Dg (Ua 1 (.row _ _ _) rfl (Qp (Ho (n:=p.2.1.length) tok rfl rfl rfl (hfl)) (Qp Bv (Br (fun hc6=>AW.seq ?_) fun hc6=>B8 (Cj (Qp B3 (Qp (Qf Zr) (Qp Hn ?_))))))))))
   .
    refine Oe ?_;refine Qn 0 rfl (Qf [Iq _]) (Qn 1 rfl B7 (Qn 2 rfl (Gz Jb) (Qn 3 rfl (Ck (z:=2) rfl) ?_)));refine Qz 4 rfl (Mf 5 (.agg _) Jb (_::_::_::_::_::_::_) rfl) ?_;refine Jr ?_;refine Ap (oN (Rj (Bc (Ep (Bc (Bc (Ep (Bc ?_))))))));refine Yx [.sl _ _,.agg Jb] (.cons Yt <| .cons (Yb 5) <| .nil) S6 ?_;exact Ye Yf (hR.2.1.trans (typ_f ha hc2 hc3 hc4n (hP.2.1.trans (fld_5 hax hc6)) (show (5:Int)≠0 by decide)))
   refine AOL.Aaq (Nl (i:=2) (ks:=p.2.2.2.1) tok rfl rfl rfl rfl rfl (by kernel_rfl) rfl rfl rfl) rfl rfl ?_;refine Br (fun hc7=>?_) fun hc7=>?_
   .
    have hc7n:(p.2.1.map (·.name)).contains x.text=true:=by rw [<-hfn];exact hc7
    refine AW.seq ?_;refine Oe ?_;refine Qn 0 rfl (Qf [Iq _]) (Qn 1 rfl B7 (Qn 2 rfl (Gz Jb) (Qn 3 rfl (Ck (z:=2) rfl) ?_)));refine Qz 4 rfl (Mf 5 (.agg _) Jb (_::_::_::_::_::_::_) rfl) ?_;refine Jr ?_;refine Ap (oN (Rj (Bc (Ep (Bc (Bc (Ep (Bc ?_))))))));refine Yx [.sl _ _,.agg Jb] (.cons Yt <| .cons (Yb 5) <| .nil) S6 ?_;exact Ye Yf (hR.2.1.trans (typ_f ha hc2 hc3 hc4n (hP.2.1.trans (fld_7 hax hc6 hc7n)) (show (7:Int)≠0 by decide)))
   have hc7n:(p.2.1.map (·.name)).contains x.text=false:=by rw [<-hfn];exact hc7
   refine B8 (Ab (Qp B3 (Qp (Qf Zr) (Qp Hn (Rt (Qu (i:=2) (H2:=_::_::_::_::_::_::_) tok rfl rfl rfl rfl rfl rfl rfl rfl (hc7) rfl) (A7 (AW.region (Qp Dg (Ua 1 (.row _ _ _) rfl (Qp (Qf Zr) (Qp Hn (Qp (Qf bK) (Qp B7 (Qp (Gz J6) (Qp (Kf [J6] rfl) ?_)))))))))))))));refine Qe (Zq 0 rfl (Ff rfl) (hsf) (by simp;omega) (by simp [maxLen];omega)) ?_;rintro _ _ ⟨v75,rfl,rfl⟩;refine Qp Dg ?_;refine B4 1 Pn (_::_::_::_::_::_::_) (Rk (AW.region (Qp Ii (Qp Ax (A7 ?_)))));refine ⟨(p.1+1,p.2.1 ++ [⟨x.text,x.num⟩],p.2.2.1 ++ [cFi ⟨x.text,x.num⟩],p.2.2.2.1 ++ [x.text],v75),?_,?_,Dp⟩
   . exact ⟨hltx,hP.2.1.trans (fld_on hax hc6 hc7n),by simp only [Al,E6];exact len8 hf8 hc6,by simp [hfw],by simp [hfn]⟩
   simp only;omega
  have hdx:=Hk hc5;have hfx:=hP.2.1;rw [hdx,Fy] at hfx;have hfw:=hP.2.2.2.1;have htn:=typ_on ha hc2 hc3 hc4n hfx;refine AW.exit ?_;refine B9 (Ri (AW.region ?_));refine Qp (Ai (v:=.row _ _ _) rfl) ?_;refine AOL.ghost (GS.cell (H2:=_::_::_::_::_::_::_) 1 1 rfl rfl rfl rfl Fg) ?_;refine Tn 1 Pn rfl (Qp (Kf [Pn] rfl) ?_);refine Qe (Zq 4 rfl (Ff rfl) (hso) (by simp;omega) (by simp [maxLen];omega)) ?_;rintro _ _ ⟨v81,rfl,rfl⟩;refine Qp (An (v:=.row _ _ _) rfl) (Rk (AW.region (Qp Ii (Qp Ax (A7 ?_)))));refine ⟨(q.1+1,q.2.1 ++ [⟨a.text,p.2.1⟩],q.2.2.1 ++ [[.str a.text,.sl 2 p.2.2.1]],q.2.2.2.1 ++ [a.text],v81),?_,?_,GS.weaken ⟨rfl,rfl,rfl,rfl,rfl,rfl,rfl,rfl,trivial⟩ (.cons _ (.cons _ (.cons _ (.refl _))))⟩
  . exact ⟨hlt,hR.2.1.trans htn,by simp only [Al,E6];exact len16 ho16 hc3,by simp [hrw,hfw,Oh],by simp [hnw]⟩
  simp only;omega
 have hde:=Hk hc1;have hall:=hR.2.1;rw [hde] at hall;refine AW.exit ?_;refine B9 (Ri (Ab ?_));refine Qp (Ai (v:=.row _ _ _) rfl) ?_;refine AOL.ghost (GS.unrow 83 rfl) ?_;refine Qp (Qc rfl (Te)) (Qp rL ?_);refine B4 2 Jb (_::_::_::_) (Rb ?_);refine Yx [.sl _ _,.agg Jb] (.cons Yt <| .cons (Yb 2) <| .nil) S3 ?_;exact Eq.trans (congrArg (fun l:List (List AV)=>AV.tuple [.sl 2 l,.agg (rR Np)]) hR.2.2.2.1) (congrArg (fun q:List e8Sc×Fa=>AV.tuple [.sl 2 (q.1.map Oh),.agg (rR q.2)]) (hall:Ga t=(q.2.1,Np))).symm
abbrev T9 (q:Pg×Int×Int):AV:=AV.tuple [.agg (cPg q.1),.int .i64 q.2.1,.int .i64 q.2.2]
theorem aW (t:Syn)(ht:Ie t):Au Tryz.prog 7 [.agg (cSyn t)] (.tuple [.agg (cPg (Jt t).1),.int .i64 (Jt t).2.1,.int .i64 (Jt t).2.2]):=by
 have hkl:=cO ht;have htp:=typ_ts t;refine G3 82 Tryz.func7 rfl fun H=>?_
 refine Ab (Qp (Ji Aj) (E8 [.sl 2 [],.sl 18 []] fun b2=>Qp A3 (Qp A3 (A7 (Cj (Qp (C8 Aj) (Qp (Qc rfl (yT t ht)) (Qp Cq (Br (fun hc1=>Ab (Qp (Gz [_,_]) ?_)) fun hc1=>B8 (Ab (Qp (C8 Aj) (Qp (Qc rfl (rf_types t ht)) (Qp Wz (Qp Qxs (Qp (Bm (v:=.agg Jb) rfl rfl) (E8 oF fun b6=>Qp rL ?_))))))))))))))))
 .
  refine B4 0 [_,_] (_::_) (Qp A3 (Qp A3 (Rc ?_)));refine Yx [.agg [_,_],Iq _,Iq _] (Zd 0) S1 ?_;exact Ye T9 (pp_1 hc1)
 refine B4 0 Jb (_::_::_) ?_;refine Me 6 0 rfl ?_;refine A7 (Cj (Qp (Qf [Iq _]) (Qp B7 (Qp Cq (Br (fun hc2=>AW.seq ?_) fun hc2=>B8 (Ab (Qp Ng ?_)))))))
 .
  refine Oe ?_;refine Qn 0 rfl (Gz [_,_]) (Qn 1 rfl (Qf Jb) (Qn 2 rfl B7 (Qn 3 rfl (Qf [Iq _]) (Qn 4 rfl B7 ?_))));refine Qz 5 rfl (Mf 0 (.agg _) [_,_] (_::_) rfl) ?_;refine Qn 6 rfl A3 (Qn 7 rfl A3 ?_);refine Jr ?_;refine Ap (oN ?_);refine Yx [.agg [_,_],Iq _,Iq _] (Zd 0) S1 ?_;exact Ye T9 (pp_2 hc1 hc2)
 refine Qp (Kj (l0:=[.sl 2 [],.val (.slice none 0 0)]) (l:=[_,_]) tok rfl rfl (by kernel_rfl) rfl) ?_;refine E8 [.sl 2 [],.sl 18 []] fun b7=>?_
 refine B4 0 [_,_] (_::_::_) ?_;refine AOL.ghost (GS.cellRow 0 1 57 18 rfl rfl rfl rfl) ?_;refine Cf (Qe (Jm) ?_);rintro _ _ ⟨b32,rfl,rfl⟩;refine Qp Tm (A7 (Cj (Qp (Qf Po) (Qp Eg ?_))));refine Qp (G6 t.kids.length rfl rfl (by simp)) ?_;refine Qp Ax (A7 (AW.block ?_));refine AW.Aan (fun (q:Nat×List Qy×List (List AV)×List Ac×Value)=>(⟨[(1,.ptr (cSyn t)),(2,.val (.pointer (some ⟨b2,0,none⟩))),(3,.int .i64 0),(4,.int .i64 0),(5,.sl 2 ((Ga t).1.map Oh)),(7,.val (.pointer (some ⟨b7,0,none⟩))),(8,.val (.map (some b32))),(34,.sl 6 (t.kids.map Df)),(35,.int .i64 t.kids.length),(36,.int .i64 (q.1:Int))],.smap b32 (Wp q.2.2.2.1) :: .row q.2.2.2.2 q.2.2.1.length 57 18 :: .box b7 32 [.sl 2 ((Ga t).1.map Oh),.row q.2.2.2.2 18 q.2.2.1] :: .box b2 32 [.sl 2 [],.sl 18 []]::H,82⟩:St)) (fun q=>q.1<=t.kids.length/\Dr (Ga t).1 [] t.kids=Dr (Ga t).1 q.2.1 (t.kids.drop q.1)/\q.2.1.length<=16/\q.2.2.1=q.2.1.map cQy/\q.2.2.2.1=q.2.1.map (·.name)) (fun q=>t.kids.length-q.1) ((0,[],[],[],.slice none 0 0)) ?_ Dp ?_
 . exact ⟨Bk _,rfl,Bk _,rfl,rfl⟩
 rintro q hR;refine Ab (Qp C5 (Re (Hs (fun hc3=>?_) fun hc3=>?_)))
 .
  obtain ⟨a,ha⟩:=De hc3;have hlt:=Ch ha;have hm:=Ak ha;have ho16:=hR.2.2.1;have hrw:=hR.2.2.2.1;have hnw:=hR.2.2.2.2;have hrl:q.2.2.1.length=q.2.1.length:=by rw [hrw,Bg]
  have hso:∀c∈q.2.2.1,Av c=true:=by rw [hrw];exact scQy _
  have hma:=med_sm ht hm;refine B8 (AW.seq (AW.block (Ab ?_)));refine Qp (F5 Aj rfl rfl (by omega) (Je ha)) ?_;refine Qp (C8 Aj) ?_;refine E8 Kb fun b10=>?_
  refine B4 0 Aj (_::_::_::_::_::_) ?_;refine Me 10 0 rfl ?_;refine A7 (Cj (Qp (Qf Aj) (Qp B7 (Qp Cq (Br (fun hc4=>AW.exit (Ri (AW.region (Qp Ii (Qp Ax (A7 ?_)))))) fun hc4=>?_)))))
  .
   refine ⟨(q.1+1,q.2.1,q.2.2.1,q.2.2.2.1,q.2.2.2.2),?_,?_,Dp⟩
   . exact ⟨hlt,hR.2.1.trans (prg_skip ha hc4),hR.2.2⟩
   simp only;omega
  have hqa:=Y1 (Sj hc1) ha (by simpa using hc4);refine B8 (Cj (Qp Dg (Ua 2 (.row _ _ _) rfl (Qp (Ho (n:=q.2.1.length) tok rfl rfl rfl (hrl)) (Qp Bv (Br (fun hc5=>AW.seq ?_) fun hc5=>B8 (Cj (Qp B3 (Qp (Qf Zr) (Qp Hn ?_))))))))))
  .
   refine Oe ?_;refine Qn 0 rfl (Gz [_,_]) (Qn 1 rfl (Qf [Iq _]) (Qn 2 rfl B7 ?_));refine Qz 3 rfl (Mf 3 (.agg _) [_,_] (_::_::_::_::_) rfl) ?_;refine Qn 4 rfl A3 (Qn 5 rfl A3 ?_);refine Jr ?_;refine Ap (oN (Rj (Bc ?_)));refine Yx [.agg [_,_],Iq _,Iq _] (Zd 3) S4 ?_;exact Ye T9 (pp_e hc1 hc2 (hR.2.1.trans (prg_5 ha hc4 hc5)) rfl)
  refine AOL.Aaq (Nl (i:=0) (ks:=q.2.2.2.1) tok rfl rfl rfl rfl rfl (by kernel_rfl) rfl rfl rfl) rfl rfl ?_;refine Br (fun hc6=>?_) fun hc6=>?_
  .
   have hc6n:(q.2.1.map (·.name)).contains a.text=true:=by rw [<-hnw];exact hc6
   refine AW.seq ?_;refine Oe ?_;refine Qn 0 rfl (Gz [_,_]) (Qn 1 rfl (Qf [Iq _]) (Qn 2 rfl B7 ?_));refine Qz 3 rfl (Mf 3 (.agg _) [_,_] (_::_::_::_::_) rfl) ?_;refine Qn 4 rfl A3 (Qn 5 rfl A3 ?_);refine Jr ?_;refine Ap (oN (Rj (Bc ?_)));refine Yx [.agg [_,_],Iq _,Iq _] (Zd 3) S4 ?_;exact Ye T9 (pp_e hc1 hc2 (hR.2.1.trans (prg_7 ha hc4 hc5 hc6n)) rfl)
  have hc6n:(q.2.1.map (·.name)).contains a.text=false:=by rw [<-hnw];exact hc6
  refine B8 (Ab (Qp B3 (Qp (Qf Zr) (Qp Hn (Rt (Qu (i:=0) (H2:=_::_::_::_::_) tok rfl rfl rfl rfl rfl rfl rfl rfl (hc6) rfl) (Cf (Qp Ng (Qp (C8 Aj) (Qp (Qc rfl (rf_query (Ga t).1 htp a ⟨hma,hqa⟩)) (Qp Wz (Qp (Bm (v:=.agg O8) rfl rfl) (Qp (Bm (v:=.agg Jb) rfl rfl) (E8 gky fun b11=>E8 oF fun b12=>?_)))))))))))));refine B4 1 O8 (_::_::_::_::_::_::_) ?_;refine B4 0 Jb (_::_::_::_::_::_::_) ?_;refine Me 12 0 rfl ?_;refine Me 11 0 rfl ?_;refine A7 (Cj (Qp (Qf [Iq _]) (Qp B7 (Qp Cq (Br (fun hc7=>AW.seq ?_) fun hc7=>?_)))))
  .
   refine Oe ?_;refine Qn 0 rfl (Gz [_,_]) (Qn 1 rfl (Qf Jb) (Qn 2 rfl B7 (Qn 3 rfl (Qf [Iq _]) (Qn 4 rfl B7 ?_))));refine Qz 5 rfl (Mf 3 (.agg _) [_,_] (_::_::_::_::_) rfl) ?_;refine Qn 6 rfl A3 (Qn 7 rfl A3 ?_);refine Jr ?_;refine Ap (oN (Rj (Bc ?_)));refine Yx [.agg [_,_],Iq _,Iq _] (Zd 3) S4 ?_;exact Ye T9 (pp_e hc1 hc2 (hR.2.1.trans (prg_f ha hc4 hc5 hc6n hc7)) hc7)
  have hqn:=mU hc7;refine B8 (AW.region (Qp Dg (Ua 2 (.row _ _ _) rfl (Qp (C8 O8) (Qp (Kf [O8] rfl) ?_)))));refine Qe (Zq 1 rfl (Ff rfl) (hso) (by simp;omega) (by simp [maxLen];omega)) ?_;rintro _ _ ⟨v78,rfl,rfl⟩;refine Qp Dg ?_;refine B4 2 [_,_] (_::_::_::_::_) (Rk (AW.region (Qp Ii (Qp Ax (A7 ?_)))));refine ⟨(q.1+1,q.2.1 ++ [(Co (Ga t).1 a).1],q.2.2.1 ++ [cQy (Co (Ga t).1 a).1],q.2.2.2.1 ++ [a.text],v78),?_,?_,Dp⟩
  . exact ⟨hlt,hR.2.1.trans (prg_on ha hc4 hc5 hc6n hc7),by simp only [Al,E6];exact len16 ho16 hc5,by simp [hrw],by simp [hnw,hqn.1]⟩
  simp only;omega
 have hde:=Hk hc3;have hall:=hR.2.1;rw [hde] at hall;refine AW.exit ?_;refine B9 (Ri (Ab ?_));refine AOL.ghost (GS.cell (H2:=_::_::_::_::_) 2 1 rfl rfl rfl rfl Fg) ?_;refine Tn 2 [_,_] rfl ?_;refine B4 3 [_,_] (_::_::_::_::_) (Qp A3 (Qp A3 (Rb ?_)));refine Yx [.agg [_,_],Iq _,Iq _] (Zd 3) S4 ?_;exact Eq.trans (congrArg (fun l:List (List AV)=>AV.tuple [.agg [.sl 2 ((Ga t).1.map Oh),.sl 18 l],.int .i64 0,.int .i64 0]) hR.2.2.2.1) (congrArg (fun q:Pg×Int×Int=>AV.tuple [.agg (cPg q.1),.int .i64 q.2.1,.int .i64 q.2.2]) (pp_y hc1 hc2 (hall.trans (by rw [Dr])))).symm
theorem med_arg {p a:Pt}(hp:medP p)(h:a∈p.args):medP a:=⟨by have:=Rw h;have:=hp.n;omega,fun q hq=>hp.cond q (mA h hq)⟩
theorem smPs_on {l m:List Pt}{k:Nat}{x y:Pt}(hx:l[k]? = some x)(hy:m[k]? = some y)(h:(!smP x y)=false):dK (l.drop k) (m.drop k)=dK (l.drop (k+1)) (m.drop (k+1)):=by
 rw [A4 hx,A4 hy,dK];exact Bu h
theorem smPs_no {l m:List Pt}{k:Nat}{x y:Pt}(hx:l[k]? = some x)(hy:m[k]? = some y)(h:(!smP x y)=true):dK (l.drop k) (m.drop k)=false:=by
 rw [A4 hx,A4 hy,dK];exact if_pos h
theorem siL_on {l m:List Int}{k:Nat}{x y:Int}(hx:l[k]? = some x)(hy:m[k]? = some y)(h:(x != y)=false):siL (l.drop k) (m.drop k)=siL (l.drop (k+1)) (m.drop (k+1)):=by
 rw [A4 hx,A4 hy,siL];exact Bu h
theorem siL_no {l m:List Int}{k:Nat}{x y:Int}(hx:l[k]? = some x)(hy:m[k]? = some y)(h:(x != y)=true):siL (l.drop k) (m.drop k)=false:=by
 rw [A4 hx,A4 hy,siL];exact if_pos h
theorem n9_Same (p q:Pt)(hp:medP p)(hq:medP q):Au Tryz.prog 71 [.agg (cPt p),.agg (cPt q)] (.bool (smP p q)):=by
 revert q
 induction p using Pt.ind
 rename_i p ih;intro q hq;have hal:=Vt p;have hpn:=hp.n;have hql:=Vt q;have hqn:=hq.n;refine G3 75 Tryz.func71 rfl fun H=>?_
 refine Ab (Qp (Ji Hp) (Qp (Ji Hp) (Qp Bl (A7 (Cj (Qp (Qf Hp) (Qp B7 (Qp (Qf Hp) ?_))))))));refine Qp B7 (Qp Cq (Qp Cw (Qg [] Qw (Qf giz) (Qg [(12,_)] Qw B7 (Qg [] Qw (Qf giz) (Qg [(14,_)] Qw B7 (Qg [(13,_),(15,_)] Yw Cq (Qp G4 (Qp Cw (Qg [] Qw (Qf gix) (Qg [(19,_)] Qw B7 (Qg [] Qw (Qf gix) (Qg [(21,_)] Qw B7 ?_)))))))))))));refine Qg [(20,_),(22,_)] Yw Cq (Qp G4 (Qp Cw (Qg [] Qw (Qf gjx) (Qg [(26,_)] Qw B7 (Qg [] Qw (Qf gjx) (Qg [(28,_)] Qw B7 (Qg [(27,_),(29,_)] Yw Cq (Qp G4 (Qp Cw (Qg [] Qw (Qf gkx) (Qg [(33,_)] Qw B7 (Qg [] Qw (Qf gkx) (Qg [(35,_)] Qw B7 ?_)))))))))))));refine Qg [(34,_),(36,_)] Yw Cq (Qp G4 (Qp Cw (Qg [] Qw jY (Qg [(40,_)] Qw Ws (Qg [] Qw jY (Qg [(42,_)] Qw Ws (Qg [(41,_),(43,_)] Yw (Qc rfl (e8c20 p.cond q.cond (hp.cond p (Vn p)))) (Qg [(44,_)] Qw Ke (Qp G4 (Qp Cw (Qg [] Qw (Qf ggx) (Qg [(48,_)] Qw Eg ?_))))))))))));refine Yh [(49,_)] Qw (fun hG=>G6 p.args.length rfl rfl (by simp)) ?_;refine Qg [] Qw (Qf ggx) (Qg [(51,_)] Qw Eg ?_);refine Yh [(52,_)] Qw (fun hG=>G6 q.args.length rfl rfl (by simp)) ?_;refine Qg [(50,_),(53,_)] Yw Cq (Qp G4 (Br (fun hc1=>Ab (Qp Bl (Rc (Qr (.bool _) ?_)))) fun hc1=>?_))
 . exact Ye AV.bool ((uE p q).trans (if_pos hc1))
 have hlen:=hdP_len hc1;refine B8 (Cj (Qp A3 (A7 (AW.block ?_))));refine AW.Aan (fun (k:Nat)=>(⟨[(2,.ptr (cPt p)),(3,.ptr (cPt q)),(5,.int .i64 (k:Int))],H,75⟩:St)) (fun k=>k<=p.args.length/\dK p.args q.args=dK (p.args.drop k) (q.args.drop k)) (fun k=>p.args.length-k) (0) ?_ Dp ?_
 . exact ⟨Bk _,rfl⟩
 rintro k hR;refine Cj (Qp Ax (Qp (Qf ggx) (Qp Eg ?_)));refine Qp (G6 p.args.length rfl rfl (by simp)) ?_;refine Qp C5 (Br (fun hc2=>?_) fun hc2=>?_)
 .
  obtain ⟨x,hax⟩:=De hc2;have hltx:=Ch hax;have hmx:=Ak hax;have hay:=List.getElem?_eq_getElem (l:=q.args) (i:=k) (by omega);generalize q.args[k]=y at hay;refine B8 (AW.seq (AW.block (AW.seq ?_)));refine Oe ?_;refine Qn 0 rfl (Qf ggx) (Qn 1 rfl Eg (Qn 2 rfl Ax ?_));refine Qn 3 rfl (F5 Hp rfl rfl (by omega) (gW hax)) ?_;refine Qn 4 rfl (C8 Hp) (Qn 5 rfl (Qf ggx) (Qn 6 rfl Eg (Qn 7 rfl Ax ?_)));refine Qn 8 rfl (F5 Hp rfl rfl (by omega) (gW hay)) ?_;refine Qn 9 rfl (C8 Hp) (Qn 10 rfl (Qc rfl (ih x hmx (med_arg hp hmx) y (med_arg hq (Ak hay)))) (Qn 11 rfl Ke ?_));refine Jr ?_;refine Ap (Hs (fun hc3=>Ab (Qp Bl (Ra (Bc (Ep (Bc (Qr (.bool _) ?_))))))) fun hc3=>Rf (AW.region (Qp Ax (Qp Ii (Qp A3 (A7 ?_))))))
  . exact Ye AV.bool ((uE p q).trans ((Bu hc1).trans (hR.2.trans (smPs_no hax hay hc3))))
  refine ⟨k+1,?_,?_,Dp⟩
  . exact ⟨hltx,hR.2.trans (smPs_on hax hay hc3)⟩
  omega
 have hde:=Hk hc2;have hall:=hR.2;rw [hde,dK] at hall;refine AW.exit ?_;refine B9 (Ri (Ab (Qp Bl (Rb ?_))));refine Qr (.bool _) ?_;exact Ye AV.bool ((uE p q).trans ((Bu hc1).trans hall))
theorem xN (x y:List Int)(hx:x.length<=1048576)(hy:y.length<=1048576):Au Tryz.prog 70 [.sl 1 (x.map cI),.sl 1 (y.map cI)] (.bool (siB x y)):=by
 refine G3 26 Tryz.func70 rfl fun H=>?_
 refine Ab (Qp Bl (A7 (Cj (Qp Ng ?_))));refine Qp (G6 x.length rfl rfl (by simp)) ?_;refine Qp Ng ?_;refine Qp (G6 y.length rfl rfl (by simp)) ?_;refine Qp Cq (Br (fun hc1=>Ab (Qp Bl (Rc (Qr (.bool _) ?_)))) fun hc1=>?_)
 . exact Ye AV.bool ((if_pos hc1:siB x y=false))
 have hlen:x.length=y.length:=by simp at hc1;omega
 refine B8 (Cj (Qp A3 (A7 (AW.block ?_))));refine AW.Aan (fun (k:Nat)=>(⟨[(0,.sl 1 (x.map cI)),(1,.sl 1 (y.map cI)),(5,.int .i64 (k:Int))],H,26⟩:St)) (fun k=>k<=x.length/\siL x y=siL (x.drop k) (y.drop k)) (fun k=>x.length-k) (0) ?_ Dp ?_
 . exact ⟨Bk _,rfl⟩
 rintro k hR;refine Cj (Qp Ax (Qp Ng ?_));refine Qp (G6 x.length rfl rfl (by simp)) ?_;refine Qp C5 (Br (fun hc2=>?_) fun hc2=>?_)
 .
  obtain ⟨a,ha⟩:=De hc2;have hlt:=Ch ha;have hm:=Ak ha;have hay:=List.getElem?_eq_getElem (l:=y) (i:=k) (by omega);generalize y[k]=c at hay;refine B8 (AW.seq (AW.block (AW.seq ?_)));refine Oe ?_;refine Qn 0 rfl Ng (Qn 1 rfl Ax ?_);refine Qn 2 rfl (F5 [Iq _] rfl rfl (by omega) (si_get ha)) ?_;refine Qn 3 rfl B7 (Qn 4 rfl Ng (Qn 5 rfl Ax ?_));refine Qn 6 rfl (F5 [Iq _] rfl rfl (by omega) (si_get hay)) ?_;refine Qn 7 rfl B7 (Qn 8 rfl Cq ?_);refine Jr ?_;refine Ap (Hs (fun hc3=>Ab (Qp Bl (Ra (Bc (Ep (Bc (Qr (.bool _) ?_))))))) fun hc3=>Rf (AW.region (Qp Ax (Qp Ii (Qp A3 (A7 ?_))))))
  . exact Ye AV.bool (((Bu hc1).trans (hR.2.trans (siL_no ha hay hc3)):siB x y=false))
  refine ⟨k+1,?_,?_,Dp⟩
  . exact ⟨hlt,hR.2.trans (siL_on ha hay hc3)⟩
  omega
 have hde:=Hk hc2;have hall:=hR.2;rw [hde,siL] at hall;refine AW.exit ?_;refine B9 (Ri (Ab (Qp Bl (Rb ?_))));refine Qr (.bool _) ?_;exact Ye AV.bool (((Bu hc1).trans hall:siB x y=true))
theorem wE {l:List Ex}{k:Nat}{a:Ex}(h:l[k]? = some a):(l.map Ix)[k]? = some (cE a):=by rw [List.getElem?_map,h];exact congrArg some (Pm a)
theorem n3_ss (s:e8Sc)(hl:s.fields.length<=1048576):Au Tryz.prog 35 [.agg (Oh s),.agg (Oh s)] (.bool true):=by
 refine G3 38 Tryz.func35 rfl fun H=>?_
 refine Ab (Qp (Ji Pn) (Qp (Ji Pn) (Qp Bl (A7 (Cj (Qp (Qf Pn) (Qp Hn (Qp (Qf Pn) (Qp Hn (Qp (Gl rfl rfl) (Qp Cw (Qg [] Qw (Qf [_]) (Qg [(12,_)] Qw Eg ?_)))))))))))));refine Yh [(13,_)] Qw (fun hG=>G6 s.fields.length rfl rfl (by simp)) ?_;refine Qg [] Qw (Qf [_]) (Qg [(15,_)] Qw Eg ?_);refine Yh [(16,_)] Qw (fun hG=>G6 s.fields.length rfl rfl (by simp)) ?_;refine Qg [(14,_),(17,_)] Yw Cq (Qp G4 (Br (fun hc1=>?_) fun hc1=>B8 (Cj (Qp A3 (A7 (AW.block ?_))))))
 . simp [] at hc1
 refine AW.Aan (fun (k:Nat)=>(⟨[(2,.ptr (Oh s)),(3,.ptr (Oh s)),(5,.int .i64 (k:Int))],H,38⟩:St)) (fun k=>k<=s.fields.length) (fun k=>s.fields.length-k) (0) ?_ Dp ?_
 . exact Bk _
 rintro k hR;refine Cj (Qp Ax (Qp (Qf [_]) (Qp Eg ?_)));refine Qp (G6 s.fields.length rfl rfl (by simp)) ?_;refine Qp C5 (Br (fun hc2=>?_) fun hc2=>AW.exit ?_)
 .
  obtain ⟨a,ha⟩:=De hc2;have hlt:=Ch ha;have hm:=Ak ha;refine B8 (AW.seq (AW.block (AW.seq ?_)));refine Oe ?_;refine Qn 0 rfl (Qf [_]) (Qn 1 rfl Eg (Qn 2 rfl Ax ?_));refine Qn 3 rfl (F5 J6 rfl rfl (by omega) (C2 ha)) ?_;refine Qn 4 rfl (C8 J6) (Qn 5 rfl (Qf [_]) (Qn 6 rfl Eg (Qn 7 rfl Ax ?_)));refine Qn 8 rfl (F5 J6 rfl rfl (by omega) (C2 ha)) ?_;refine Qn 9 rfl (C8 J6) (Qn 10 rfl (Nk tok rfl rfl rfl rfl rfl) ?_);refine Jr ?_;refine Ap (Hs (fun hc3=>?_) fun hc3=>Rf (AW.region (Qp Ax (Qp Ii (Qp A3 (A7 ?_))))))
  . simp [] at hc3
  refine ⟨k+1,?_,?_,Dp⟩
  . exact hlt
  omega
 refine B9 (Ri (Ab (Qp Bl (Rb ?_))));refine Qr (.bool _) ?_;rfl
theorem n3_same (T:List e8Sc)(hl:T.length<=1048576)(hf:∀s∈T,s.fields.length<=1048576):Au Tryz.prog 14 [.sl 2 (T.map Oh),.sl 2 (T.map Oh)] (.bool true):=by
 refine G3 27 Tryz.func14 rfl fun H=>?_
 refine Ab (Qp Bl (A7 (Cj (Qp Ng ?_))));refine Qp (G6 T.length rfl rfl (by simp)) ?_;refine Qp Ng ?_;refine Qp (G6 T.length rfl rfl (by simp)) ?_;refine Qp Cq (Br (fun hc1=>?_) fun hc1=>B8 (Cj (Qp A3 (A7 (AW.block ?_)))))
 . simp [] at hc1
 refine AW.Aan (fun (k:Nat)=>(⟨[(0,.sl 2 (T.map Oh)),(1,.sl 2 (T.map Oh)),(5,.int .i64 (k:Int))],H,27⟩:St)) (fun k=>k<=T.length) (fun k=>T.length-k) (0) ?_ Dp ?_
 . exact Bk _
 rintro k hR;refine Cj (Qp Ax (Qp Ng ?_));refine Qp (G6 T.length rfl rfl (by simp)) ?_;refine Qp C5 (Br (fun hc2=>?_) fun hc2=>AW.exit ?_)
 .
  obtain ⟨a,ha⟩:=De hc2;have hlt:=Ch ha;have hm:=Ak ha;refine B8 (AW.seq (AW.block (AW.seq ?_)));refine Oe ?_;refine Qn 0 rfl Ng (Qn 1 rfl Ax ?_);refine Qn 2 rfl (F5 Pn rfl rfl (by omega) (C2 ha)) ?_;refine Qn 3 rfl (C8 Pn) (Qn 4 rfl Ng (Qn 5 rfl Ax ?_));refine Qn 6 rfl (F5 Pn rfl rfl (by omega) (C2 ha)) ?_;refine Qn 7 rfl (C8 Pn) (Qn 8 rfl (Qc rfl (n3_ss a (hf a hm))) (Qn 9 rfl Ke ?_));refine Jr ?_;refine Ap (Hs (fun hc3=>?_) fun hc3=>Rf (AW.region (Qp Ax (Qp Ii (Qp A3 (A7 ?_))))))
  . cases hc3
  refine ⟨k+1,?_,?_,Dp⟩
  . exact hlt
  omega
 refine B9 (Ri (Ab (Qp Bl (Rb ?_))));refine Qr (.bool _) ?_;rfl
theorem n4_sq (q:Qy)(hq:medQ q):Au Tryz.prog 28 [.agg (cQy q),.agg (cQy q)] (.bool true):=by
 have hv:=hq.v;have hr:=hq.r;refine G3 83 Tryz.func28 rfl fun H=>?_
 refine Ab (Qp (Ji O8) (Qp (Ji O8) (Qp Bl (A7 (Cj (Qp (Qf O8) (Qp Hn (Qp (Qf O8) (Qp Hn (Qp (Gl rfl rfl) (Qp Cw (Qg [] Qw (Qf ggy) (Qg [(13,_)] Qw Eg ?_)))))))))))));refine Yh [(14,_)] Qw (fun hG=>G6 q.vars.length rfl rfl (by simp)) ?_;refine Qg [] Qw (Qf ggy) (Qg [(16,_)] Qw Eg ?_);refine Yh [(17,_)] Qw (fun hG=>G6 q.vars.length rfl rfl (by simp)) ?_;refine Qg [(15,_),(18,_)] Yw Cq (Qp G4 (Qp Cw (Qg [] Qw (Qf gjz) (Qg [(22,_)] Qw Eg (Qg [] Qw (Qf gjz) (Qg [(24,_)] Qw Eg ?_))))));refine Qg [(23,_),(25,_)] Yw (Qc rfl (xN q.key q.key hq.k hq.k)) (Qg [(26,_)] Qw Ke (Qp G4 (Qp Cw (Qg [] Qw (Qf gkz) (Qg [(30,_)] Qw (C8 Hp) (Qg [] Qw (Qf gkz) (Qg [(32,_)] Qw (C8 Hp) (Qg [(31,_),(33,_)] Yw (Qc rfl (n9_Same q.pattern q.pattern hq.p hq.p)) (Qg [(34,_)] Qw Ke (Qp G4 (Qp Cw (Qg [] Qw (Qf [_]) (Qg [(38,_)] Qw Eg ?_)))))))))))));refine Yh [(39,_)] Qw (fun hG=>G6 q.returns.length rfl rfl (by simp)) ?_;refine Qg [] Qw (Qf [_]) (Qg [(41,_)] Qw Eg ?_);refine Yh [(42,_)] Qw (fun hG=>G6 q.returns.length rfl rfl (by simp)) ?_;refine Qg [(40,_),(43,_)] Yw Cq (Qp G4 (Br (fun hc1=>?_) fun hc1=>B8 (Cj (Qp A3 (A7 (AW.block ?_))))))
 . simp [siB_refl,smP_refl] at hc1
 refine AW.Aan (fun (k:Nat)=>(⟨[(2,.ptr (cQy q)),(3,.ptr (cQy q)),(5,.int .i64 (k:Int))],H,83⟩:St)) (fun k=>k<=q.vars.length) (fun k=>q.vars.length-k) (0) ?_ Dp ?_
 . exact Bk _
 rintro k hR;refine Cj (Qp Ax (Qp (Qf ggy) (Qp Eg ?_)));refine Qp (G6 q.vars.length rfl rfl (by simp)) ?_;refine Qp C5 (Br (fun hc2=>?_) fun hc2=>AW.exit ?_)
 .
  obtain ⟨a,ha⟩:=De hc2;have hlt:=Ch ha;have hm:=Ak ha;refine B8 (AW.seq (AW.block (AW.seq ?_)));refine Oe ?_;refine Qn 0 rfl (Qf ggy) (Qn 1 rfl Eg (Qn 2 rfl Ax ?_));refine Qn 3 rfl (F5 J6 rfl rfl (by omega) (C2 ha)) ?_;refine Qn 4 rfl (C8 J6) (Qn 5 rfl (Qf ggy) (Qn 6 rfl Eg (Qn 7 rfl Ax ?_)));refine Qn 8 rfl (F5 J6 rfl rfl (by omega) (C2 ha)) ?_;refine Qn 9 rfl (C8 J6) (Qn 10 rfl (Nk tok rfl rfl rfl rfl rfl) ?_);refine Jr ?_;refine Ap (Hs (fun hc3=>?_) fun hc3=>Rf (AW.region (Qp Ax (Qp Ii (Qp A3 (A7 ?_))))))
  . simp [] at hc3
  refine ⟨k+1,?_,?_,Dp⟩
  . exact hlt
  omega
 refine B9 (Ri (Cj (Qp A3 (A7 (AW.block ?_)))));refine AW.Aan (fun (k:Nat)=>(⟨[(2,.ptr (cQy q)),(3,.ptr (cQy q)),(6,.int .i64 (k:Int))],H,83⟩:St)) (fun k=>k<=q.returns.length) (fun k=>q.returns.length-k) (0) ?_ Dp ?_
 . exact Bk _
 rintro k hR;refine Cj (Qp Ax (Qp (Qf [_]) (Qp Eg ?_)));refine Qp (G6 q.returns.length rfl rfl (by simp)) ?_;refine Qp C5 (Br (fun hc4=>?_) fun hc4=>AW.exit ?_)
 .
  obtain ⟨a,ha⟩:=De hc4;have hlt:=Ch ha;have hm:=Ak ha;refine B8 (AW.seq (AW.block (AW.seq ?_)));refine Oe ?_;refine Qn 0 rfl (Qf [_]) (Qn 1 rfl Eg (Qn 2 rfl Ax ?_));refine Qn 3 rfl (F5 Nd rfl rfl (by omega) (wE ha)) ?_;refine Qn 4 rfl Ws (Qn 5 rfl (Qf [_]) (Qn 6 rfl Eg (Qn 7 rfl Ax ?_)));refine Qn 8 rfl (F5 Nd rfl rfl (by omega) (wE ha)) ?_;refine Qn 9 rfl Ws (Qn 10 rfl (Qc rfl (e8c20 a a (hq.e a hm))) (Qn 11 rfl Ke ?_));refine Jr ?_;refine Ap (Hs (fun hc5=>?_) fun hc5=>Rf (AW.region (Qp Ax (Qp Ii (Qp A3 (A7 ?_))))))
  . rw [nC] at hc5;cases hc5
  refine ⟨k+1,?_,?_,Dp⟩
  . exact hlt
  omega
 refine B9 (Ri (Ab (Qp Bl (Rb ?_))));refine Qr (.bool _) ?_;rfl
theorem n4_sp (p:Pg)(hp:medG p):Au Tryz.prog 10 [.agg (cPg p),.agg (cPg p)] (.bool true):=by
 have hql:=hp.q;refine G3 40 Tryz.func10 rfl fun H=>?_
 refine Ab (Qp (Ji [_,_]) (Qp (Ji [_,_]) (Qp Bl (A7 (Cj (Qp (Qf [_,_]) (Qp Eg (Qp (Qf [_,_]) (Qp Eg (Qp (Qc rfl (n3_same p.types hp.t hp.f)) (Qp Ke (Qp Cw (Qg [] Qw (Qf [_]) (Qg [(13,_)] Qw Eg ?_))))))))))))));refine Yh [(14,_)] Qw (fun hG=>G6 p.queries.length rfl rfl (by simp)) ?_;refine Qg [] Qw (Qf [_]) (Qg [(16,_)] Qw Eg ?_);refine Yh [(17,_)] Qw (fun hG=>G6 p.queries.length rfl rfl (by simp)) ?_;refine Qg [(15,_),(18,_)] Yw Cq (Qp G4 (Br (fun hc1=>?_) fun hc1=>B8 (Cj (Qp A3 (A7 (AW.block ?_))))))
 . simp [] at hc1
 refine AW.Aan (fun (k:Nat)=>(⟨[(2,.ptr (cPg p)),(3,.ptr (cPg p)),(5,.int .i64 (k:Int))],H,40⟩:St)) (fun k=>k<=p.queries.length) (fun k=>p.queries.length-k) (0) ?_ Dp ?_
 . exact Bk _
 rintro k hR;refine Cj (Qp Ax (Qp (Qf [_]) (Qp Eg ?_)));refine Qp (G6 p.queries.length rfl rfl (by simp)) ?_;refine Qp C5 (Br (fun hc2=>?_) fun hc2=>AW.exit ?_)
 .
  obtain ⟨a,ha⟩:=De hc2;have hlt:=Ch ha;have hm:=Ak ha;refine B8 (AW.seq (AW.block (AW.seq ?_)));refine Oe ?_;refine Qn 0 rfl (Qf [_]) (Qn 1 rfl Eg (Qn 2 rfl Ax ?_));refine Qn 3 rfl (F5 O8 rfl rfl (by omega) (C2 ha)) ?_;refine Qn 4 rfl (C8 O8) (Qn 5 rfl (Qf [_]) (Qn 6 rfl Eg (Qn 7 rfl Ax ?_)));refine Qn 8 rfl (F5 O8 rfl rfl (by omega) (C2 ha)) ?_;refine Qn 9 rfl (C8 O8) (Qn 10 rfl (Qc rfl (n4_sq a (hp.m a hm))) (Qn 11 rfl Ke ?_));refine Jr ?_;refine Ap (Hs (fun hc3=>?_) fun hc3=>Rf (AW.region (Qp Ax (Qp Ii (Qp A3 (A7 ?_))))))
  . cases hc3
  refine ⟨k+1,?_,?_,Dp⟩
  . exact hlt
  omega
 refine B9 (Ri (Ab (Qp Bl (Rb ?_))));refine Qr (.bool _) ?_;rfl
theorem iB {V:List Va}{v:Int}(h0:0<=v)(h1:v<(V.length:Int)):V[v.toNat]? = some ((V[v.toNat]?).getD va0):=by
 rw [List.getElem?_eq_getElem (show v.toNat<V.length by omega)];rfl
theorem sc_in {T:List e8Sc}{V:List Va}(hrv:RvOK T V){v:Int}(h0:0<=v)(h1:v<(V.length:Int)):0<=((V[v.toNat]?).getD va0).type/\T[((V[v.toNat]?).getD va0).type.toNat]? = some (Qt T V v)/\(Qt T V v).fields.length<=1048576/\Qt T V v∈T:=by
 have h:=hrv.ty _ (Ak (iB h0 h1))
 have hs:T[((V[v.toNat]?).getD va0).type.toNat]? = some (Qt T V v):=by
  unfold Qt;rw [List.getElem?_eq_getElem (show ((V[v.toNat]?).getD va0).type.toNat<T.length by omega)];rfl
 exact ⟨h.1,hs,hrv.fl _ (Ak hs),Ak hs⟩
theorem fi_in {T:List e8Sc}{V:List Va}{v f:Int}(h0:0<=f)(h1:f<((Qt T V v).fields.length:Int)):(Qt T V v).fields[f.toNat]? = some (((Qt T V v).fields[f.toNat]?).getD fi0):=by
 rw [List.getElem?_eq_getElem (show f.toNat<(Qt T V v).fields.length by omega)];rfl
theorem fg1 {v f:Int}{n:Nat}(hG:Ow [(((decide (v<0)||decide ((n:Int)<=v))||decide (f<0)),false)]):0<=v/\v<(n:Int)/\0<=f:=by
 have h:((decide (v<0)||decide ((n:Int)<=v))||decide (f<0))=false:=hG _ (Jg ..);simp only [Ey,Jh] at h;omega
theorem fld_no {T:List e8Sc}{V:List Va}{v f:Int}(h:Wo T V v f=false):0<=v/\v<(V.length:Int)/\0<=f/\f<((Qt T V v).fields.length:Int):=by
 unfold Wo at h;simp only [Ey,Jh] at h;omega
theorem fnm_len {T:List e8Sc}{V:List Va}(hrv:RvOK T V)(hsn:∀s∈T,fO s){v f:Int}(h:Wo T V v f=false):(pY T V v f).length<=1048576:=by
 obtain ⟨h1,h2,h3,h4⟩:=fld_no h;exact (hsn _ (sc_in hrv h1 h2).2.2.2).2.2 _ (Ak (fi_in h3 h4))
theorem knm_at {k:Int}(h0:0<=k)(h2:k<=2):([.str [105,110,116],.str [98,111,111,108],.str [115,116,114,105,110,103]]:List AV)[k.toNat]? = some (.str (knm k)):=by
 have:k=0\/k=1\/k=2:=by omega
 rcases this with rfl | rfl | rfl <;> rfl
abbrev oP (q:Ac×Bool):AV:=AV.tuple [.str q.1,.bool q.2]
abbrev Yg (q:Int×Bool):AV:=AV.tuple [.int .i64 q.1,.bool q.2]
theorem nA (T:List e8Sc)(V:List Va)(hrv:RvOK T V)(v f:Int):Au Tryz.prog 114 [.agg (cNm T V),.int .i64 v,.int .i64 f] (.tuple [.str (cF T V v f).1,.bool (cF T V v f).2]):=by
 have hvl:=hrv.vl;refine G3 52 Tryz.func114 rfl fun H=>?_
 refine Ab (Qp (Ji [_,_]) (Qp Nb (Qp Bl (Re (AW.seq ?_)))));refine Oe ?_;refine Qn 0 rfl Ax (Qn 1 rfl C5 (Qn 2 rfl Cw (Qo 3 rfl [] Qw Ax (Qo 4 rfl [] Qw (Qf [_]) (Qo 5 rfl [(12,_)] Qw Eg ?_)))));refine Yo 6 rfl [(13,_)] Qw (fun hG=>G6 V.length rfl rfl (by simp)) ?_;refine Qo 7 rfl [(11,_),(14,_)] Yw Lm (Qn 8 rfl G4 (Qn 9 rfl Cw (Qo 10 rfl [] Qw Ax (Qo 11 rfl [(18,_)] Qw C5 (Qn 12 rfl G4 (Qn 13 rfl Cw (Qo 14 rfl [] Qw Ax (Qo 15 rfl [] Qw (Qf [_,_]) (Qo 16 rfl [(23,_)] Qw Eg (Qo 17 rfl [] Qw (Qf [_]) (Qo 18 rfl [(25,_)] Qw Eg (Qo 19 rfl [] Qw Ax ?_))))))))))));refine Yo 20 rfl [(26,_),(27,_)] (Yv rfl Es Es) (fun hG=>F5 J6 rfl rfl ((fg1 hG).1) (C2 (iB (fg1 hG).1 (fg1 hG).2.1))) ?_;refine Qo 21 rfl [(28,_)] Qw (Qf [Iq _]) (Qo 22 rfl [(29,_)] Qw B7 (Yo 23 rfl [(24,_),(30,_)] (Yv rfl Es Es) (fun hG=>F5 Pn rfl rfl ((sc_in hrv (fg1 hG).1 (fg1 hG).2.1).1) (C2 (sc_in hrv (fg1 hG).1 (fg1 hG).2.1).2.1)) ?_));refine Qo 24 rfl [(31,_)] Qw (Qf [_]) (Qo 25 rfl [(32,_)] Qw Eg ?_);refine Yo 26 rfl [(33,_)] Qw (fun hG=>G6 ((Qt T V v).fields.length) rfl rfl (by simp)) ?_;refine Qo 27 rfl [(22,_),(34,_)] Yw Lm (Qn 28 rfl G4 ?_);refine Jr ?_;refine Ap (Hs (fun hc1=>Ab (Qp Nb (Qp Bl (Rc (Py (.str _) (.bool _) ?_))))) fun hc1=>?_)
 . exact Ye oP ((if_pos hc1:cF T V v f=([],false)))
 have hc1n:Wo T V v f=false:=hc1;have hfg:=fld_no hc1n;have hsi:=sc_in hrv hfg.1 hfg.2.1;refine B8 (AW.seq ?_);refine Oe ?_;refine Qn 0 rfl (Qf [_,_]) (Qn 1 rfl Eg (Qn 2 rfl (Qf [_]) (Qn 3 rfl Eg (Qn 4 rfl Ax ?_))));refine Qn 5 rfl (F5 J6 rfl rfl (hfg.1) (C2 (iB hfg.1 hfg.2.1))) (Qn 6 rfl (Qf [Iq _]) (Qn 7 rfl B7 (Qn 8 rfl (F5 Pn rfl rfl (hsi.1) (C2 hsi.2.1)) (Qn 9 rfl (Qf [_]) (Qn 10 rfl Eg (Qn 11 rfl Ax ?_))))));refine Qn 12 rfl (F5 J6 rfl rfl (hfg.2.2.1) (C2 (fi_in hfg.2.2.1 hfg.2.2.2))) (Qn 13 rfl (Qf J6) (Qn 14 rfl Hn (Qn 15 rfl Nb (Qn 16 rfl Bl ?_))));refine Jr ?_;refine Ap (AW.ret (Py (.str _) (.bool _) ?_));exact Ye oP ((Bu hc1:cF T V v f=(pY T V v f,true)))
theorem hJ (x:Vl)(h0:0<=x.kind)(h2:x.kind<=2):Au Tryz.prog 113 [.agg (cV x)] (.agg (cSyn (iJ x))):=by
 refine G3 15 Tryz.func113 rfl fun H=>?_
 refine Ab (Qp (Ji Z0) ?_);refine E8 Kb fun b2=>?_
 refine Cf (Qp Qf6 (Qp B7 (Qp Qf7 (Qp Hn (Qp (Gz Aj) ?_)))));refine E8 Kb fun b3=>?_
 refine B4 0 Aj (_::_::_) (Cf (Qp (jT (l:=[.str _,.str _,.str _]) tok rfl rfl rfl rfl) (Qp Qf5 (Qp B7 ?_))));refine Qp (Wx (c:=.str (knm x.kind)) tok rfl rfl rfl rfl rfl rfl rfl (h0) (by omega) (knm_at h0 h2)) ?_;refine Qp Dg ?_;refine B4 0 Aj (_::_::_) (Cf (Tn 0 Aj rfl ?_));refine B4 1 Aj (_::_::_) (Rb ?_);refine Yx [.agg Aj] (Zb 1) S2 ?_;rfl
theorem use_6 {T:List e8Sc}{V:List Va}{e:Ex}(h:aH T V e=true):Wq T V e=(6,false):=by rw [uJ,if_pos h]
theorem use_n {T:List e8Sc}{V:List Va}{e:Ex}(h:aH T V e=false):Wq T V e=Tz T V e.args (Zs T V e):=by rw [uJ,Bu h]
theorem has_1 {T:List e8Sc}{V:List Va}{e:Ex}(h:((e.op==1)||(e.op==4))=true):aH T V e=Wo T V e.var e.field/\Zs T V e=Ru (pY T V e.var e.field):=by unfold aH Zs;rw [if_pos h,if_pos h];exact ⟨rfl,rfl⟩
theorem has_2 {T:List e8Sc}{V:List Va}{e:Ex}(h:((e.op==1)||(e.op==4))=false)(h2:((e.op==2)||(e.op==3))=true):aH T V e=decide ((V.length:Int)<=e.var)/\Zs T V e=true:=by unfold aH Zs;rw [Bu h,Bu h,if_pos h2];exact ⟨rfl,rfl⟩
theorem has_3 {T:List e8Sc}{V:List Va}{e:Ex}(h:((e.op==1)||(e.op==4))=false)(h2:((e.op==2)||(e.op==3))=false):aH T V e=false/\Zs T V e=true:=by unfold aH Zs;rw [Bu h,Bu h,Bu h2];exact ⟨rfl,rfl⟩
theorem sP {T:List e8Sc}{V:List Va}{v f:Int}(h:Wo T V v f=false):cF T V v f=(pY T V v f,true):=Bu h
theorem fldS_2 {T:List e8Sc}{V:List Va}{v f:Int}:(!(cF T V v f).2)=Wo T V v f:=by
 unfold cF;cases Wo T V v f <;> rfl
theorem useL_on {T:List e8Sc}{V:List Va}{l:List Ex}{k:Nat}{a:Ex}{b:Bool}(ha:l[k]? = some a)(h:((Wq T V a).1 != 0)=false):Tz T V (l.drop k) b=Tz T V (l.drop (k+1)) (b&&(Wq T V a).2):=by rw [A4 ha,Tz,Bu h]
theorem useL_no {T:List e8Sc}{V:List Va}{l:List Ex}{k:Nat}{a:Ex}{b:Bool}(ha:l[k]? = some a)(h:((Wq T V a).1 != 0)=true):Tz T V (l.drop k) b=((Wq T V a).1,false):=by rw [A4 ha,Tz,if_pos h]
theorem e_at {l:List Ex}{k:Nat}{a:Ex}(h:l[k]? = some a):(l.map Ix)[k]? = some (cE a):=by rw [List.getElem?_map,h];exact congrArg some (Pm a)
theorem rf_uses (T:List e8Sc)(V:List Va)(hrv:RvOK T V)(hsn:∀s∈T,fO s)(e:Ex)(hs:Ef e<=1048576):Au Tryz.prog 111 [.agg (cNm T V),.agg (cE e)] (.tuple [.int .i64 (Wq T V e).1,.bool (Wq T V e).2]):=by
 induction e using Ex.ind
 rename_i e ih;have hal:=iS e hs;have hvl:=hrv.vl;refine G3 63 Tryz.func111 rfl fun H=>?_
 refine Ab (Qp (Ji [_,_]) (Qp Qbe (Qp A3 (Qp Bl (Cf (Qp Bl (A7 ?_)))))));refine AW.Aat (fun (m:Bool)=>(⟨[(2,.ptr (cNm T V)),(3,.ptr (cE e)),(4,.int .i64 0),(5,.bool false),(6,.bool m)],H,63⟩:St)) (fun m=>aH T V e=false/\m=Zs T V e) ?_ ?_
 .
  refine Ab (Qp jY (Qp B7 (A7 (AW.block ?_))));refine AW.Aat (fun (b:Bool)=>(⟨[(2,.ptr (cNm T V)),(3,.ptr (cE e)),(4,.int .i64 0),(5,.bool false),(6,.bool true),(14,.int .i64 e.op),(15,.bool b)],H,63⟩:St)) (fun b=>b=((e.op==1)||(e.op==4))) ?_ ?_
  .
   refine Ab (Qp Bv (Qp Bl (Br (fun hc1=>B8 ?_) fun hc1=>AW.region (Qp Bv (Qp Bl (A7 ?_))))))
   .
    refine ⟨(e.op==1),?_,Dp⟩;rw [hc1];rfl
   refine ⟨(e.op==4),?_,Dp⟩;rw [hc1];rfl
  rintro b hb;refine Hs (fun hc2=>Ab (Qp (C8 [_,_]) (Qp Qf2 (Qp B7 (Qp Qf3 (Qp B7 (Qp (Qc rfl (nA T V hrv e.var e.field)) (Qp Wz (Qp Qxt (Qp oB (Qp Nb (Qp Bl (A7 (Cj (Qp Cw (Qp Ke (Br (fun hc3=>?_) fun hc3=>?_))))))))))))))))) fun hc2=>?_
  .
   have h3:aH T V e=true:=by rw [(has_1 (hb.symm.trans hc2)).1,<-fldS_2];exact hc3
   refine Ab (Qp A3 (Qp Bl (Rc (Ep (Bc (Py (Iq _) (.bool _) ?_))))));exact Ye Yg (use_6 h3)
  .
   have h3n:Wo T V e.var e.field=false:=by rw [<-fldS_2];exact hc3
   have hfl:(cF T V e.var e.field).1.length<=1048576:=by rw [sP h3n];exact fnm_len hrv hsn h3n
   refine B8 (AW.region (Qp Iw (Qp (Qc rfl (c20 (cF T V e.var e.field).1 hfl)) (Qp Bv (Qp Bl (Rk ?_))))));refine ⟨(Ib (cF T V e.var e.field).1==0),?_,Dp⟩;subst hc2;exact ⟨(has_1 hb.symm).1.trans h3n,by rw [sP h3n,(has_1 hb.symm).2];rfl⟩
  refine AW.Aat (fun (d:Bool)=>(⟨[(2,.ptr (cNm T V)),(3,.ptr (cE e)),(4,.int .i64 0),(5,.bool false),(6,.bool true),(32,.bool d)],H,63⟩:St)) (fun d=>d=((e.op==2)||(e.op==3))) ?_ ?_
  .
   refine Ab (Qp Bv (Qp Bl (Br (fun hc4=>B8 ?_) fun hc4=>AW.region (Qp Bv (Qp Bl (A7 ?_))))))
   .
    refine ⟨(e.op==2),?_,Dp⟩;rw [hc4];rfl
   refine ⟨(e.op==3),?_,Dp⟩;rw [hc4];rfl
  rintro d hd;refine Hs (fun hc5=>Ab (Qp Qf2 (Qp B7 (Qp (Qf [_]) (Qp Eg ?_))))) fun hc5=>Rf ?_
  .
   refine Qp (G6 V.length rfl rfl (by simp)) ?_;refine Qp Lm (Br (fun hc6=>Ab (Qp A3 (Qp Bl (Ra (Py (Iq _) (.bool _) ?_))))) fun hc6=>Rf ?_)
   . exact Ye Yg (use_6 ((has_2 (by rw [<-hb];exact hc2) (by rw [<-hd];exact hc5)).1.trans hc6))
   refine ⟨true,?_,Dp⟩;subst hc5;rw [hc2] at hb;exact ⟨(has_2 hb.symm hd.symm).1.trans hc6,(has_2 hb.symm hd.symm).2.symm⟩
  refine ⟨true,?_,Dp⟩;rw [hc2] at hb;rw [hc5] at hd;exact ⟨(has_3 hb.symm hd.symm).1,(has_3 hb.symm hd.symm).2.symm⟩
 rintro m hM;have hun:=use_n hM.1;have hmn:=hM.2;refine Cj (Qp Qf1 (Qp Eg ?_));refine Qp (G6 e.args.length rfl rfl (by simp)) ?_;refine Qp Ax (A7 (AW.block ?_));refine AW.Aan (fun (q:Nat×Bool)=>(⟨[(2,.ptr (cNm T V)),(3,.ptr (cE e)),(4,.int .i64 0),(5,.bool false),(6,.bool q.2),(42,.sl 8 (e.args.map Ix)),(43,.int .i64 e.args.length),(44,.int .i64 (q.1:Int))],H,63⟩:St)) (fun q=>q.1<=e.args.length/\Wq T V e=Tz T V (e.args.drop q.1) q.2) (fun q=>e.args.length-q.1) ((0,m)) ?_ Dp ?_
 . exact ⟨Bk _,by rw [hun,<-hmn];rfl⟩
 rintro q hR;refine Ab (Qp C5 (Re (Hs (fun hc7=>?_) fun hc7=>?_)))
 .
  obtain ⟨a,ha⟩:=De hc7;have hlt:=Ch ha;have hm:=Ak ha;refine B8 (AW.seq (AW.block (Ab ?_)));refine Qp (F5 Nd rfl rfl (by omega) (e_at ha)) ?_;refine Qp Ws (E8 ghx fun b10=>?_);refine B4 0 Nd (_::_) ?_;refine Me 10 0 rfl ?_;refine Cf (Qp (C8 [_,_]) (Qp Ws ?_));refine Qp (Qc rfl (ih a hm (by have:=Ut hm;omega))) ?_;refine Qp Wz (Qp Wt (Qp oB (Qp A3 (Qp Bl (A7 (Cj (Qp Ax (Qp Cq ?_))))))));refine Br (fun hc8=>Ab (Qp Ax (Qp A3 (Qp Bl (Rc (Rj (Bc (Py (Iq _) (.bool _) ?_)))))))) fun hc8=>B8 (AW.region (Qp Cw (Qp Cw (Qg [] Qw Cw (Qp Mu (Qp Bl (Rk (AW.region (Qp Ii (Qp Ax (A7 ?_)))))))))))
  . exact Ye Yg (hR.2.trans (useL_no ha hc8))
  refine ⟨(q.1+1,q.2&&(Wq T V a).2),?_,?_,Dp⟩
  . exact ⟨hlt,hR.2.trans (useL_on ha hc8)⟩
  simp only;omega
 have hde:=Hk hc7;have hall:=hR.2;rw [hde] at hall;refine AW.exit ?_;refine B9 (Ri (Ab (Qp Cw (Qp A3 (Qp Bl (Rb ?_))))));refine Py (Iq _) (.bool _) ?_;exact Ye Yg ((hall.trans (by rw [Tz]):Wq T V e=(0,q.2)))
theorem scLe (l:List Syn):∀c∈l.map Df,Av c=true:=fun c hc=>by
 obtain ⟨x,_,rfl⟩:=Cd.1 hc;rw [Bi];rfl
section
variable {T:List e8Sc} {V:List Va} {e:Ex}
theorem sh_0 (h:(e.op==0)=true):Pa T V e=iJ e.val:=by rw [Lj];exact if_pos h
theorem sh_1 (h0:(e.op==0)=false)(h:(e.op==1)=true)(hf:Wo T V e.var e.field=false):Pa T V e=⟨14,gB V e.var,(cF T V e.var e.field).1,0,[],0⟩:=by rw [Lj,sP hf];exact (Bu h0).trans (if_pos h)
theorem sh_2 (h0:(e.op==0)=false)(h1:(e.op==1)=false)(h:(e.op==2)=true):Pa T V e=⟨14,gB V e.var,Ej,0,[],0⟩:=by rw [Lj];exact (Bu h0).trans ((Bu h1).trans (if_pos h))
theorem sh_3 (h0:(e.op==0)=false)(h1:(e.op==1)=false)(h2:(e.op==2)=false)(h:(e.op==3)=true):Pa T V e=⟨15,gB V e.var,[],0,[],0⟩:=by rw [Lj];exact (Bu h0).trans ((Bu h1).trans ((Bu h2).trans (if_pos h)))
theorem sh_4 (h0:(e.op==0)=false)(h1:(e.op==1)=false)(h2:(e.op==2)=false)(h3:(e.op==3)=false)(h:(e.op==4)=true)(hf:Wo T V e.var e.field=false):Pa T V e=⟨16,gB V e.var,(cF T V e.var e.field).1,e.kind,if (e.kind != 1) then [iJ e.val] else [],0⟩:=by rw [Lj,sP hf];exact (Bu h0).trans ((Bu h1).trans ((Bu h2).trans ((Bu h3).trans (if_pos h))))
theorem sh_4y (h0:(e.op==0)=false)(h1:(e.op==1)=false)(h2:(e.op==2)=false)(h3:(e.op==3)=false)(h:(e.op==4)=true)(hf:Wo T V e.var e.field=false)(hk:(e.kind != 1)=true):Pa T V e=⟨16,gB V e.var,(cF T V e.var e.field).1,e.kind,[iJ e.val],0⟩:=by rw [sh_4 h0 h1 h2 h3 h hf,if_pos hk]
theorem sh_4n (h0:(e.op==0)=false)(h1:(e.op==1)=false)(h2:(e.op==2)=false)(h3:(e.op==3)=false)(h:(e.op==4)=true)(hf:Wo T V e.var e.field=false)(hk:(e.kind != 1)=false):Pa T V e=⟨16,gB V e.var,(cF T V e.var e.field).1,e.kind,[],0⟩:=by rw [sh_4 h0 h1 h2 h3 h hf,Bu hk]
def shK (e:Ex):Int×Int:=if (e.op==12) then (18,0) else (17,e.op)
theorem sh_n (h0:(e.op==0)=false)(h1:(e.op==1)=false)(h2:(e.op==2)=false)(h3:(e.op==3)=false)(h4:(e.op==4)=false):Pa T V e=⟨(shK e).1,[],[],(shK e).2,e.args.map (Pa T V),0⟩:=by
 rw [Lj];refine (Bu h0).trans ((Bu h1).trans ((Bu h2).trans ((Bu h3).trans ((Bu h4).trans ?_))));unfold shK;split <;> rfl
theorem kno_fld (hn:Ip e=0)(hk:iL T V e=true)(ho:e.op=1\/e.op=4):Wo T V e.var e.field=false:=by
 obtain ⟨k1,k2⟩:=Y3 hk (Ir hn).1;have hp:=Xn hn;have h1:=k1 (by omega);have h2:=k2 ho;unfold Wo;simp only [Ey,Jh];omega
theorem Aac (hn:Ip e=0)(ho:e.op=0\/e.op=4):0<=e.val.kind/\e.val.kind<=2:=by
 have h:=(qL (Ir hn).1).2.1 ho;unfold H6 at h;split at h
 . rename_i h1;simp at h1;omega
 split at h
 . rename_i h1;simp at h1;omega
 cases h
end
theorem sh_enc {T:List e8Sc}{V:List Va}(l:List Ex):(l.map (Pa T V)).map Df=l.map (fun a=>cSyn (Pa T V a)):=by rw [Hd];exact Kw fun a _=>Bi _
abbrev Nm (q:Syn):AV:=AV.agg (cSyn q)
theorem rf_shE (T:List e8Sc)(V:List Va)(hrv:RvOK T V)(hsn:∀s∈T,fO s)(e:Ex)(hs:Ef e<=1048576)(hn:Ip e=0)(hk:Tt T V e=true):Au Tryz.prog 62 [.agg (cNm T V),.agg (cE e)] (.agg (cSyn (Pa T V e))):=by
 induction e using Ex.ind
 rename_i e ih;have hal:=iS e hs;have hp:=Xn hn;have hna:=(Ir hn).2;rw [N9,Ce] at hk;have hko:=hk.1;have hka:=F3.1 hk.2;have hkp:=Y3 hko (Ir hn).1;refine G3 115 Tryz.func62 rfl fun H=>?_
 refine Ab (Qp (Ji [_,_]) (Qp Qbe ?_));refine E8 Kb fun b4=>?_
 refine A7 (Cj (Qp jY (Qp B7 (A7 (AW.block (Ab (Qp Bv (Qp Bl ?_))))))));refine Br (fun hc1=>?_) fun hc1=>Ab (Qp Bv (Qp Bl (Br (fun hc2=>?_) fun hc2=>Ab (Qp Bv (Qp Bl (Br (fun hc3=>?_) fun hc3=>Ab (Qp Bv (Qp Bl (Br (fun hc4=>?_) fun hc4=>Ab (Qp Bv (Qp Bl (Br (fun hc5=>?_) fun hc5=>Rf (Ab (Qp jY (Qp B7 ?_)))))))))))))))
 .
  have ho:e.op=0:=by simpa using hc1
  have hvk:=Aac hn (.inl ho);refine Ab (Qp Qf5 (Qp (C8 Z0) (Qp (Qc rfl (hJ e.val hvk.1 hvk.2)) ?_)));refine B4 0 Aj (_::_) (Ra ?_);refine Yx [.agg Aj] (Zb 0) S1 ?_;exact Ye Nm (sh_0 hc1)
 .
  have ho:e.op=1:=by simpa using hc2
  have hv1:=hkp.1 (.inl ho);have hfn:=kno_fld hn hko (.inl ho);refine Ab (Qp (C8 [_,_]) (Qp Qf2 (Qp B7 (Qp Qf3 (Qp B7 (Qp (Qc rfl (nA T V hrv e.var e.field)) (Qp Wz (Qp Qxt (Qp oB (Qp Nb (Qp Bl (Cf (Qp (Qf [_]) (Qp Eg (Qp Qf2 (Qp B7 ?_))))))))))))))));refine Qp (F5 J6 rfl rfl (hp.1) (C2 (iB hp.1 hv1))) (Qp (Qf J6) (Qp Hn (Qp Iw (Qp (Gz Aj) ?_))));refine B4 0 Aj (_::_) (Ra ?_);refine Yx [.agg Aj] (Zb 0) S1 ?_;exact Ye Nm (sh_1 hc1 hc2 hfn)
 .
  have ho:e.op=2:=by simpa using hc3
  have hv1:=hkp.1 (.inr (.inl ho));refine Ab (Qp (Qf [_]) (Qp Eg (Qp Qf2 (Qp B7 ?_))));refine Qp (F5 J6 rfl rfl (hp.1) (C2 (iB hp.1 hv1))) (Qp (Qf J6) (Qp Hn (Qp (Gz Aj) ?_)));refine B4 0 Aj (_::_) (Ra ?_);refine Yx [.agg Aj] (Zb 0) S1 ?_;exact Ye Nm (sh_2 hc1 hc2 hc3)
 .
  have ho:e.op=3:=by simpa using hc4
  have hv1:=hkp.1 (.inr (.inr (.inl ho)));refine Ab (Qp (Qf [_]) (Qp Eg (Qp Qf2 (Qp B7 ?_))));refine Qp (F5 J6 rfl rfl (hp.1) (C2 (iB hp.1 hv1))) (Qp (Qf J6) (Qp Hn (Qp (Gz Aj) ?_)));refine B4 0 Aj (_::_) (Ra ?_);refine Yx [.agg Aj] (Zb 0) S1 ?_;exact Ye Nm (sh_3 hc1 hc2 hc3 hc4)
 .
  have ho:e.op=4:=by simpa using hc5
  have hv1:=hkp.1 (.inr (.inr (.inr ho)));have hfn:=kno_fld hn hko (.inr ho);have hvk:=Aac hn (.inr ho);refine Ab (Qp (C8 [_,_]) (Qp Qf2 (Qp B7 (Qp Qf3 (Qp B7 (Qp (Qc rfl (nA T V hrv e.var e.field)) (Qp Wz (Qp Qxt (Qp oB (Qp Nb (Qp Bl (Re ?_))))))))))));refine Oe ?_;refine Qn 0 rfl (Qf [_]) (Qn 1 rfl Eg (Qn 2 rfl Qf2 (Qn 3 rfl B7 ?_)));refine Qn 4 rfl (F5 J6 rfl rfl (hp.1) (C2 (iB hp.1 hv1))) (Qn 5 rfl (Qf J6) (Qn 6 rfl Hn (Qn 7 rfl Iw (Qn 8 rfl Qf4 (Qn 9 rfl B7 (Qn 10 rfl (Gz Aj) ?_))))));refine Sef 11 rfl (G5 (l:=Kb) (by kernel_rfl)) ?_;rintro _ _ ⟨b9,rfl,rfl⟩;refine Qz 12 rfl (Mf 0 (.agg _) Aj (_::_::_) rfl) ?_;refine Jr ?_;refine Ap (Cj (Qp Qf4 (Qp B7 (Qp Cq (Br (fun hc6=>AW.region (Qp Qf5 (Qp (C8 Z0) (Qp (Qc rfl (hJ e.val hvk.1 hvk.2)) (Qp (Kf [Aj] rfl) (Qp Dg ?_)))))) fun hc6=>B8 (Ab (Tn 0 Aj rfl ?_)))))))
  .
   refine B4 0 Aj (_::_::_) (Cf (Tn 0 Aj rfl ?_));refine B4 1 Aj (_::_::_) (Ra ?_);refine Yx [.agg Aj] (Zb 1) S2 ?_;exact Ye Nm (sh_4y hc1 hc2 hc3 hc4 hc5 hfn hc6)
  refine B4 1 Aj (_::_::_) (Ra ?_);refine Yx [.agg Aj] (Zb 1) S2 ?_;exact Ye Nm (sh_4n hc1 hc2 hc3 hc4 hc5 hfn hc6)
 refine Qp (Kj (l0:=[.int .i64 0,.str [],.str [],.int .i64 0,.val (.slice none 0 0),.int .i64 0]) (l:=Aj) tok rfl rfl (by kernel_rfl) rfl) ?_;refine E8 Kb fun b10=>?_
 refine B4 0 Aj (_::_::_) (A7 ?_);refine AW.Aat (fun (z:Int×Int)=>(⟨[(2,.ptr (cNm T V)),(3,.ptr (cE e)),(4,.val (.pointer (some ⟨b4,0,none⟩))),(10,.val (.pointer (some ⟨b10,0,none⟩)))],.box b10 25 [.int .i64 z.1,.str [],.str [],.int .i64 z.2,.val (.slice none 0 0),.int .i64 0] :: .box b4 25 Kb::H,115⟩:St)) (fun z=>z=shK e) ?_ ?_
 .
  refine Ab (Qp jY (Qp B7 (Qp Bv (Br (fun hc7=>AW.region ?_) fun hc7=>B8 ?_))))
  .
   refine Qp (Kj (l0:=[.int .i64 0,.str [],.str [],.int .i64 0,.val (.slice none 0 0),.int .i64 0]) (l:=Aj) tok rfl rfl (by kernel_rfl) rfl) ?_;refine B4 0 Aj (_::_::_) (A7 ?_);refine ⟨(18,0),?_,Dp⟩;exact (if_pos hc7).symm
  refine ⟨(17,e.op),?_,Dp⟩;exact (Bu hc7).symm
 rintro z hz;subst hz;refine AW.seq (AW.seq ?_);refine AW.ghost (GS.cellRow 0 4 25 6 rfl rfl rfl rfl) ?_
 skip
 refine AW.region (Qp Qf1 (Qp Eg ?_));refine Qp (G6 e.args.length rfl rfl (by simp)) ?_;refine Qp Ax (A7 (AW.block ?_));refine AW.Aan (fun (q:Nat×List (List AV)×Value)=>(⟨[(2,.ptr (cNm T V)),(3,.ptr (cE e)),(4,.val (.pointer (some ⟨b4,0,none⟩))),(10,.val (.pointer (some ⟨b10,0,none⟩))),(99,.sl 8 (e.args.map Ix)),(100,.int .i64 e.args.length),(101,.int .i64 (q.1:Int))],.row q.2.2 q.2.1.length 25 6 :: .box b10 25 [.int .i64 (shK e).1,.str [],.str [],.int .i64 (shK e).2,.row q.2.2 6 q.2.1,.int .i64 0] :: .box b4 25 Kb::H,115⟩:St)) (fun q=>q.1<=e.args.length/\q.2.1=(e.args.take q.1).map (fun a=>cSyn (Pa T V a))/\q.2.1.length<=q.1) (fun q=>e.args.length-q.1) ((0,[],.slice none 0 0)) ?_ Dp ?_
 . exact ⟨Bk _,rfl,Be _⟩
 rintro q hR;refine Ab (Qp C5 (Re (Hs (fun hc8=>?_) fun hc8=>?_)))
 .
  obtain ⟨a,ha⟩:=De hc8;have hlt:=Ch ha;have hm:=Ak ha;have hsc:∀c∈q.2.1,Av c=true:=by rw [hR.2.1];exact fun c hc=>by obtain ⟨x,_,rfl⟩:=Cd.1 hc;rfl
  have hql:=hR.2.2;refine B8 (AW.seq (AW.block (Ab ?_)));refine Qp (F5 Nd rfl rfl (by omega) (e_at ha)) ?_;refine Qp Ws (E8 ghx fun b12=>?_);refine B4 0 Nd (_::_::_::_::_) ?_;refine Me 12 0 rfl ?_;refine A7 (T6 1 rfl (Qn 0 rfl Dg (Qn 1 rfl (Nc (.row _ _ _) rfl) (Qn 2 rfl (C8 [_,_]) (Qn 3 rfl Ws ?_)))));refine Qn 4 rfl (Qc rfl (ih a hm (by have:=Ut hm;omega) (hna a hm) (hka a hm))) ?_;refine Qn 5 rfl (Kf [Aj] rfl) ?_;refine aB 6 rfl (Zq 0 rfl (Ff rfl) (hsc) (by simp;omega) (by simp [maxLen];omega)) (by rintro _ _ ⟨v111,rfl,rfl⟩;simp) ?_;rintro _ _ ⟨v111,rfl,rfl⟩;refine Qn 7 rfl Dg ?_;refine iR 8 rfl (Mf 1 (.row _ _ _) Aj (_::_::_::_) rfl) ?_;rintro _ _ ⟨rfl,rfl⟩;refine Km (Ap (AW.region (Qp Ii (Qp Ax (A7 ?_)))));refine ⟨(q.1+1,q.2.1 ++ [cSyn (Pa T V a)],v111),?_,?_,Dp⟩
  . exact ⟨hlt,by simp only;rw [El ha,hR.2.1];simp,by simp;omega⟩
  simp only;omega
 have hte:=F1 hc8;have hall:=hR.2.1;rw [hte] at hall;refine AW.exit ?_;refine B9 (Ri (Ab ?_));refine AOL.ghost (GS.cell (H2:=_::_::_::_) 1 4 rfl rfl rfl rfl Fg) ?_;refine Tn 1 Aj rfl ?_;refine B4 2 Aj (_::_::_::_) (Rb ?_);refine Yx [.agg Aj] (Zb 2) S3 ?_;exact Eq.trans (congrArg (fun l:List (List AV)=>AV.agg [.int .i64 (shK e).1,.str [],.str [],.int .i64 (shK e).2,.sl 6 l,.int .i64 0]) (hall.trans (sh_enc e.args).symm)) (congrArg (fun q:Syn=>AV.agg (cSyn q)) (sh_n hc1 hc2 hc3 hc4 hc5)).symm
theorem ty_in {T:List e8Sc}{k:Int}(h:0<=k/\k<(T.length:Int)):T[k.toNat]? = some ((T[k.toNat]?).getD Zt):=by
 rw [List.getElem?_eq_getElem (show k.toNat<T.length by omega)];rfl
theorem evT_y {T:List e8Sc}{V:List Va}{p:Pt}(h:(!(Fx p.cond Jp))=true):Wm T V p=⟨5,((T[p.type.toNat]?).getD Zt).name,gB V p.var,0,[Pa T V p.cond],0⟩:=by unfold Wm;rw [if_pos h]
theorem evT_n {T:List e8Sc}{V:List Va}{p:Pt}(h:(!(Fx p.cond Jp))=false):Wm T V p=⟨5,((T[p.type.toNat]?).getD Zt).name,gB V p.var,0,[],0⟩:=by unfold Wm;rw [Bu h]
theorem yU (T:List e8Sc)(V:List Va)(hrv:RvOK T V)(hsn:∀s∈T,fO s)(p:Pt)(hs:Ef p.cond<=1048576)(hn:Ip p.cond=0)(hk:Tt T V p.cond=true)(ht:0<=p.type/\p.type<(T.length:Int))(hv:0<=p.var/\p.var<(V.length:Int)):Au Tryz.prog 112 [.agg (cNm T V),.agg (cPt p)] (.agg (cSyn (Wm T V p))):=by
 refine G3 33 Tryz.func112 rfl fun H=>?_
 refine Ab (Qp (Ji [_,_]) (Qp (Ji Hp) ?_));refine E8 Kb fun b4=>?_
 refine Re ?_;refine Oe ?_;refine Qn 0 rfl (Qf [_,_]) (Qn 1 rfl Eg (Qn 2 rfl (Qf giz) (Qn 3 rfl B7 ?_)));refine Qn 4 rfl (F5 Pn rfl rfl (ht.1) (C2 (ty_in ht))) (Qn 5 rfl (Qf Pn) (Qn 6 rfl Hn (Qn 7 rfl (Qf [_]) (Qn 8 rfl Eg (Qn 9 rfl (Qf gix) (Qn 10 rfl B7 ?_))))));refine Qn 11 rfl (F5 J6 rfl rfl (hv.1) (C2 (iB hv.1 hv.2))) (Qn 12 rfl (Qf J6) (Qn 13 rfl Hn (Qn 14 rfl (Gz Aj) ?_)));refine Sef 15 rfl (G5 (l:=Kb) (by kernel_rfl)) ?_;rintro _ _ ⟨b5,rfl,rfl⟩;refine Qz 16 rfl (Mf 0 (.agg _) Aj (_::_::_) rfl) ?_;refine Jr ?_;refine Ap (AW.seq (AW.seq ?_));refine Oe ?_;refine Qn 0 rfl jY (Qn 1 rfl Ws (Qn 2 rfl (Qc rfl (yX)) (Qn 3 rfl (Qc rfl (e8c22 p.cond Jp hs)) (Qn 4 rfl Ke ?_))));refine Jr ?_;refine Ap (Hs (fun hc1=>AW.region (Qp (C8 [_,_]) (Qp jY (Qp Ws (Qp (Qc rfl (rf_shE T V hrv hsn p.cond hs hn hk)) (Qp (Kf [Aj] rfl) (Qp Dg ?_))))))) fun hc1=>B8 (Ab (Tn 0 Aj rfl ?_)))
 .
  refine B4 0 Aj (_::_::_) (Cf (Tn 0 Aj rfl ?_));refine B4 1 Aj (_::_::_) (Rb ?_);refine Yx [.agg Aj] (Zb 1) S2 ?_;exact Eq.trans (congrArg (fun c:List AV=>AV.agg [.int .i64 5,.str ((T[p.type.toNat]?).getD Zt).name,.str (gB V p.var),.int .i64 0,.sl 6 [c],.int .i64 0]) (Bi (Pa T V p.cond)).symm) (congrArg (fun q:Syn=>AV.agg (cSyn q)) (evT_y hc1)).symm
 refine B4 1 Aj (_::_::_) (Rb ?_);refine Yx [.agg Aj] (Zb 1) S2 ?_;exact Ye Nm (evT_n hc1)
theorem rV (p:Pt):(U0 p).length<=L2 p:=by
 unfold U0;rw [Bg,<-nd_len];exact List.length_filter_le _ _
theorem co_part {p:Pt}(k:Nat):((p.args.take k).flatMap U0).length<=L2 p:=by
 have h:∀l:List Pt,(l.flatMap U0).length<=(l.map L2).sum:=by
  intro l
  induction l with
  | nil=>simp
  | cons x r ih=>rw [J9,Al,Ao,Jq];have:=rV x;omega
 have h1:=h (p.args.take k);have h2:=tT p.args k;have h3:=Oy p;omega
theorem scEx (l:List Ex):∀c∈l.map Ix,Av c=true:=fun c hc=>by
 obtain ⟨x,_,rfl⟩:=Cd.1 hc;rw [Pm];rfl
def coH (p:Pt):List Ex:=if Wl p then [p.cond] else []
theorem coP_H (p:Pt):U0 p=coH p++p.args.flatMap U0:=coP_eq p
theorem coH_len (p:Pt):(coH p).length<=1:=by unfold coH;split <;> simp
theorem rf_conds (p:Pt)(hp:L2 p<=1048576):Au Tryz.prog 110 [.agg (cPt p)] (.sl 8 ((U0 p).map Ix)):=by
 induction p using Pt.ind
 rename_i p ih;have hal:=Vt p;refine G3 37 Tryz.func110 rfl fun H=>?_
 refine Ab (Qp (Ji Hp) (Qp (Ck (z:=8) rfl) (Cf (Qp Tm ?_))));refine AOL.ghost (GS.row (t:=3) 53 8 rfl) ?_;refine A7 ?_;refine AW.Aat (fun (z:List (List AV)×Value)=>(⟨[(1,.ptr (cPt p)),(2,.sl 8 []),(3,.row z.2 8 z.1)],.row z.2 z.1.length 53 8::H,37⟩:St)) (fun z=>z.1=(coH p).map Ix) ?_ ?_
 .
  refine Ab (Qp (Qf Hp) (Qp B7 (Qp Bv (Qp Cw (Qg [] Qw (Qf Hp) (Qg [(10,_)] Qw B7 (Qg [(11,_)] Qw Bv (Qp G4 (Qp Cw ?_)))))))));refine Qg [] Qw (Qf Hp) (Qg [(15,_)] Qw B7 (Qg [(16,_)] Qw Bv (Qp G4 (Br (fun hc1=>AW.region (Qp (Ai (v:=.row _ _ _) rfl) (Qp jY (Qp Ws (Qp (Kf [Nd] rfl) ?_))))) fun hc1=>B8 ?_))))
  .
   refine Qe (Zq 0 rfl (Ff rfl) (by simp) (by simp) (by simp [maxLen])) ?_;rintro _ _ ⟨v23,rfl,rfl⟩;refine Qp (An (v:=.row _ _ _) rfl) (A7 ?_);refine ⟨([cE p.cond],v23),?_,Dp⟩;show [cE p.cond]=_;unfold coH;rw [show Wl p=true from hc1];exact congrArg (fun c=>[c]) (Pm _).symm
  refine ⟨([],.slice none 0 0),?_,Dp⟩;show []=_;unfold coH;rw [show Wl p=false from hc1];rfl
 rintro z hz;refine Cj (Qp (Qf ggx) (Qp Eg ?_));refine Qp (G6 p.args.length rfl rfl (by simp)) ?_;refine Qp Ax (A7 (AW.block ?_));refine AW.Aan (fun (q:Nat×List (List AV)×Value)=>(⟨[(1,.ptr (cPt p)),(2,.sl 8 []),(3,.row q.2.2 8 q.2.1),(25,.sl 14 (p.args.map Xa)),(26,.int .i64 p.args.length),(27,.int .i64 (q.1:Int))],.row q.2.2 q.2.1.length 53 8::H,37⟩:St)) (fun q=>q.1<=p.args.length/\q.2.1=(coH p++(p.args.take q.1).flatMap U0).map Ix) (fun q=>p.args.length-q.1) ((0,z.1,z.2)) ?_ Dp ?_
 . exact ⟨Bk _,by rw [hz];simp⟩
 rintro q hR;refine Ab (Qp C5 (Re (Hs (fun hc2=>?_) fun hc2=>?_)))
 .
  obtain ⟨a,ha⟩:=De hc2;have hlt:=Ch ha;have hm:=Ak ha;have hsc:∀c∈q.2.1,Av c=true:=by rw [hR.2];exact scEx _
  have hb1:q.2.1.length<=1048577:=by have h:=co_part (p:=p) q.1;have h2:=coH_len p;rw [hR.2,Bg,Al];omega
  have hb2:((U0 a).map Ix).length<=1048576:=by have:=rV a;have:=Rw hm;rw [Bg];omega
  refine B8 (AW.seq (AW.block (Ab ?_)));refine Qp (F5 Hp rfl rfl (by omega) (gW ha)) ?_;refine Qp (C8 Hp) (E8 ggz fun b5=>?_);refine B4 0 Hp (_::_::_) ?_;refine Me 5 0 rfl ?_;refine A7 (AW.region (Qp (Ai (v:=.row _ _ _) rfl) (Qp (C8 Hp) ?_)));refine Qp (Qc rfl (ih a hm (by have:=Rw hm;omega))) ?_;refine Qe (Zq 0 rfl (scEx _) (hsc) (by simp at hb2 ⊢;omega) (by simp [maxLen] at hb2 ⊢;omega)) ?_;rintro _ _ ⟨v34,rfl,rfl⟩;refine Qp (An (v:=.row _ _ _) rfl) (Rk (AW.region (Qp Ii (Qp Ax (A7 ?_)))));refine ⟨(q.1+1,q.2.1++(U0 a).map Ix,v34),?_,?_,Dp⟩
  . exact ⟨hlt,by simp only;rw [El ha,hR.2];simp⟩
  simp only;omega
 have hte:=F1 hc2;have hall:=hR.2;rw [hte] at hall;refine AW.exit ?_;refine B9 (Ri (Ab ?_));refine Qp (Ai (v:=.row _ _ _) rfl) ?_;refine AOL.ghost (GS.unrow 36 rfl) ?_;refine Qp rL (Rb ?_);refine Yx [.sl _ _] Ze S1 ?_;exact (congrArg (AV.sl 8) hall).trans (congrArg (fun q:List Ex=>AV.sl 8 (q.map Ix)) (coP_H p)).symm
end Go.Proofs.YtibcelnfkhdjaaaGreatDoor
