/-
  Several texts in one: V1, V2, V3, V4, F12, W13a, R2, Q0, R3, Ay, Ar, As. No condition.
-/
import Derived.Test.YtibcelnfkhdjaaaGreatDoorK03
import Derived.Test.YtibcelnfkhdjaaaGreatDoorK02
import Derived.KernelRfl
import Derived.Test.YtibcelnfkhdjaaaGreatDoorTab
import Derived.Test.YtibcelnfkhdjaaaGreatDoorAx
import Derived.RangeFuncIn
import Derived.RangeFuncLeaves
import Derived.RangeFuncRecord
import Derived.TacticsIn
set_option linter.unusedVariables false
set_option linter.unusedSimpArgs false
set_option maxHeartbeats 3200000
set_option maxRecDepth 100000
namespace Go.Proofs.YtibcelnfkhdjaaaGreatDoor
open Go Go.Aw
def okT (l:List Tok):Prop:=l.length<=1048576/\∀t∈l,t.text.length<=1048576
def Sz (st:PS):Prop:=okT st.toks
theorem Aaa {st:PS}(h:st.pos<st.toks.length):st.toks[st.pos]? = some (lD st):=by
 simp [lD,E6,List.getElem?_eq_getElem h]
theorem Xh {st:PS}(h:st.pos<st.toks.length):(st.toks.map nU)[st.pos]? = some (cTok (lD st)):=by rw [List.getElem?_map,Aaa h];rfl
theorem oE {st:PS}(h:Sz st)(hp:st.pos<st.toks.length):(lD st).text.length<=1048576:=h.2 _ (Aj (Aaa hp))
theorem X1 {st:PS}(h:endP st=false):st.pos<st.toks.length:=by
 unfold endP at h;rw [Ft,I6] at h;omega
theorem Vk {w:Ag}{st:PS}(h:G6 w st=true):st.pos<st.toks.length:=by
 unfold G6 at h;cases he:endP st with
 | true=>rw [he] at h;cases h
 | false=>exact X1 he
theorem nxt_lt {k:Int}{st:PS}(h:Ta k st=true):st.pos<st.toks.length:=by
 unfold Ta at h;cases he:endP st with
 | true=>rw [he] at h;cases h
 | false=>exact X1 he
theorem acc_bad {w:Ag}{st:PS}(h:¬Mn [((st.bad==0),true)]):st=Ol w st:=by
 have hb:(st.bad==0)=false:=by
  cases hq:(st.bad==0) with
  | false=>rfl
  | true=>exact absurd (fun p hp=>by simp only [Ep] at hp;subst hp;exact hq) h
 have:G6 w st=false:=by
  unfold G6 endP;have:(st.bad != 0)=true:=by simp only [bne,hb];rfl
  rw [this];rfl
 unfold Ol;rw [this];rfl
theorem G2 {w:Ag}{st:PS}(h:G6 w st=false):Ol w st=st:=by unfold Ol;rw [h];rfl
theorem and_snd {a b:Bool}(h:(a&&b)=true):b=true:=by rw [Cy] at h;exact h.2
theorem txt_le {k:Int}{st:PS}(h:Sz st):(G7 k st).length<=1048576:=by
 unfold G7;cases hn:Ta k st with
 | true=>exact oE h (nxt_lt hn)
 | false=>exact A7 _
theorem Lx (e:Int)(st:PS):(Fy e st).toks=st.toks:=by unfold Fy;split <;> rfl
theorem Zz (w:Ag)(st:PS):(Ol w st).toks=st.toks:=by unfold Ol;split <;> rfl
theorem Z0 (w:Ag)(st:PS):(Bn w st).toks=st.toks:=by unfold Bn;split;exact Lx _ _;exact Zz _ _
theorem Z1 (k:Int)(st:PS):(Ck k st).toks=st.toks:=by unfold Ck;split;rfl;exact Lx _ _
theorem Pe {a b:PS}(h:a.toks=b.toks):Sz a↔Sz b:=by unfold Sz;rw [h]
@[simp] theorem okS_adv (st : PS) : Sz (adv st) ↔ Sz st := Pe rfl
@[simp] theorem okS_deep (st : PS) : Sz (deep st) ↔ Sz st := Pe rfl
@[simp] theorem okS_shallow (st : PS) : Sz (shallow st) ↔ Sz st := Pe rfl
@[simp] theorem okS_failP (e : Int) (st : PS) : Sz (Fy e st) ↔ Sz st := Pe (Lx _ _)
@[simp] theorem okS_accP (w : Ag) (st : PS) : Sz (Ol w st) ↔ Sz st := Pe (Zz _ _)
@[simp] theorem okS_expP (w : Ag) (st : PS) : Sz (Bn w st) ↔ Sz st := Pe (Z0 _ _)
@[simp] theorem okS_tokP (k : Int) (st : PS) : Sz (Ck k st) ↔ Sz st := Pe (Z1 _ _)
theorem Jy (st:PS)(bp:Nat):Bf Tryz.prog 83 bp 116 (cP st) (cP (st)) [.val (.pointer (some ⟨bp,0,none⟩))] (.int .i64 (D0 st)):=by
 intro H;refine H7 28 Tryz.func83 rfl ?_;refine Af (Qp Ax (Re (AW.seq (Pq 0 rfl (Qn 0 rfl Bu (Qn 1 rfl (Ae rfl) (Qn 2 rfl Cw (Qn 3 rfl (Lb (Iq _) rfl) (Qn 4 rfl Bu (Qn 5 rfl (Ae rfl) (Qn 6 rfl Cw (Qn 7 rfl (Lb (.sl _ _) rfl) ?_))))))))))));refine Qn 8 rfl (G1 st.toks.length rfl rfl (by simp)) ?_;refine Qn 9 rfl Cv ?_;refine Iw ?_;refine Aa (Gn (fun hc1=>?_) fun hc1=>?_)
 .
  try simp only [A5,Bg] at hc1
  have hlt:st.pos<st.toks.length:=by simpa using hc1
  refine AW.seq (Pq 0 rfl (Qn 0 rfl Bu (Qn 1 rfl (Ae rfl) (Qn 2 rfl Cw (Qn 3 rfl (Lb (.sl _ _) rfl) (Qn 4 rfl Bu (Qn 5 rfl (Ae rfl) (Qn 6 rfl Cw (Qn 7 rfl (Lb (Iq _) rfl) ?_)))))))));refine Qn 8 rfl (E9 nA rfl rfl (by omega) (Xh hlt)) ?_;refine Qn 9 rfl (Qf [Iq _]) (Qn 10 rfl Cd (Qn 11 rfl Ax ?_));refine Iw ?_;refine Aa (gH ?_);refine ⟨.inr rfl,[Iq _],Ze,_,S0,?_⟩;refine ⟨?_,congrArg (fun c=>HO.box bp 116 c::H) ?_⟩
  .
   try simp only [Ah,D0,cSyn,Be,Bw,Ba,hc1,↓reduceIte,Al,Av,Bk]
   try rfl
  try simp only [cP,D0,hc1,↓reduceIte,Al,Av,Bk]
  try rfl
 try simp only [A5,Bg] at hc1
 refine B6 (Af (Qp Bu (Qp (Ae rfl) (Qp Cw (Pz 0 (Iq _) rfl (Qp Ax (Rb ?_)))))));refine ⟨.inr rfl,[Iq _],Ze,_,S0,?_⟩;refine ⟨?_,congrArg (fun c=>HO.box bp 116 c::H) ?_⟩
 .
  try simp only [Ah,D0,cSyn,Be,Bw,Ba,hc1,↓reduceIte,Al,Av,Bk]
  try rfl
 try simp only [cP,D0,hc1,↓reduceIte,Al,Av,Bk]
 try rfl
theorem rY (st:PS)(bp:Nat)(w:Ag)(hS:Sz st)(hw:w.length<=1048576):Bf Tryz.prog 40 bp 116 (cP st) (cP (st)) [.val (.pointer (some ⟨bp,0,none⟩)),.str w] (.bool (G6 w st)):=by
 intro H;refine H7 51 Tryz.func40 rfl ?_;refine Af (Qp Bh (Re (AW.seq ?_)));refine Pq 0 rfl ?_;refine Qn 0 rfl Bu ?_;refine Qn 1 rfl (Ae rfl) ?_;refine Qn 2 rfl Cw ?_;refine Qn 3 rfl (Lb (Iq _) rfl) ?_;refine Qn 4 rfl C3 (Qn 5 rfl Co (Qo 6 rfl [] Qw Bu ?_));refine Qo 7 rfl [(12,_)] Qw (Ae rfl) ?_;refine Qo 8 rfl [(13,_)] Qw Cw ?_;refine Qo 9 rfl [(14,_)] Qw (Lb (Iq _) rfl) ?_;refine Qo 10 rfl [] Qw Bu ?_;refine Qo 11 rfl [(16,_)] Qw (Ae rfl) ?_;refine Qo 12 rfl [(17,_)] Qw Cw ?_;refine Qo 13 rfl [(18,_)] Qw (Lb (.sl _ _) rfl) ?_;refine Yo 14 rfl [(19,_)] Qw (fun hG=>G1 st.toks.length rfl rfl (by simp)) ?_;refine Qo 15 rfl [(15,_),(20,_)] Yw Jt ?_;refine Qn 16 rfl Gv ?_;refine Iw ?_;refine Aa (Gn (fun hc1=>?_) fun hc1=>?_)
 .
  try simp only [A5,Bg] at hc1
  refine Af (Qp Bh (Rc ?_));refine ⟨.inr rfl,[.bool _],Ze,_,S0,?_⟩;refine ⟨?_,congrArg (fun c=>HO.box bp 116 c::H) ?_⟩
  .
   try simp only [Ah,G6,endP,cSyn,Be,Bw,Ba,hc1,↓reduceIte,Al,Av,Bk]
   try rfl
  try simp only [cP,G6,endP,hc1,↓reduceIte,Al,Av,Bk]
  try rfl
 try simp only [A5,Bg] at hc1
 have hlt:=X1 (st:=st) hc1;refine B6 (AW.seq ?_);refine Pq 0 rfl ?_;refine Qn 0 rfl Bu ?_;refine Qn 1 rfl (Ae rfl) ?_;refine Qn 2 rfl Cw ?_;refine Qn 3 rfl (Lb (.sl _ _) rfl) ?_;refine Qn 4 rfl Bu ?_;refine Qn 5 rfl (Ae rfl) ?_;refine Qn 6 rfl Cw ?_;refine Qn 7 rfl (Lb (Iq _) rfl) ?_;refine Qn 8 rfl (E9 nA rfl rfl (by omega) (Xh hlt)) ?_;refine Qn 9 rfl (C1 nA) ?_;refine Vr 10 rfl (Dg (l:=[.int .i64 0,.str [],.int .i64 0]) (by kernel_rfl)) (by rintro _ _ ⟨b5,rfl,rfl⟩;simp) ?_;rintro _ _ ⟨b5,rfl,rfl⟩;refine bF 11 rfl (Ki 0 (.agg _) nA (_::_::_) rfl) ?_;rintro _ _ ⟨rfl,rfl⟩;refine Aa ?_;refine AW.ghost (GS.freeze (t:=5) 0 rfl rfl) ?_;refine Af (Qp (Qf Iy) (Qp F4 (Qp Gu ?_)));refine Qp (Dx rfl rfl) ?_;refine Qp Co (Qg [] Qw (Qf nA) (Qg [(38,_)] Qw Cd (Qg [(39,_)] Qw Bq (Qg [(40,_)] Qw Co (Qg [] Qw (Qf nA) (Qg [(42,_)] Qw Cd (Qg [(43,_)] Qw Bq (Qg [(44,_)] Qw Co (Qg [] Qw Gu ?_)))))))));refine Qg [(46,_)] Qw (Qc rfl (c22 w hw)) ?_;refine Qg [(45,_),(47,_)] Qw Ks (Qg [(41,_),(48,_)] Qw Gv (Qp Ks (Qp Bh (Rb ?_))));refine ⟨.inr rfl,[.bool _],Ze,_,S0,?_⟩;refine ⟨?_,congrArg (fun c=>HO.box bp 116 c::H) ?_⟩
 .
  try simp only [Ah,G6,endP,cSyn,Be,Bw,Ba,hc1,↓reduceIte,Al,Av,Bk]
  try rfl
 try simp only [cP,G6,endP,hc1,↓reduceIte,Al,Av,Bk]
 try rfl
theorem Ed (st:PS)(bp:Nat)(w:Ag)(hS:Sz st)(hw:w.length<=1048576):Bf Tryz.prog 88 bp 116 (cP st) (cP (Ol w st)) [.val (.pointer (some ⟨bp,0,none⟩)),.str w] (.bool (G6 w st)):=by
 intro H;refine H7 16 Tryz.func88 rfl ?_;refine Af (Qp Bh (A2 (Cg (Qp Bu (Qp Gu ?_)))));refine AOL.Aaz (Cj (k:=0) (by kernel_rfl) rfl rfl (rY _ _ _ (by simpa using hS) (by assumption))) rfl rfl ?_;refine Qp J4 (Bp (fun hc1=>?_) fun hc1=>?_)
 .
  try simp only [A5,Bg] at hc1
  refine Af (Qp Bh (Rc ?_));refine ⟨.inr rfl,[.bool _],Ze,_,S0,?_⟩;refine ⟨?_,congrArg (fun c=>HO.box bp 116 c::H) ?_⟩
  .
   try simp only [Ah,Ol,cSyn,Be,Bw,Ba,hc1,↓reduceIte,Al,Av,Bk]
   try rfl
  try simp only [cP,Ol,hc1,↓reduceIte,Al,Av,Bk]
  try rfl
 try simp only [A5,Bg] at hc1
 have hlt:=Vk (w:=w) (st:=st) hc1;have hml:=hS.1;refine B6 (Af (Qp Bu (Qp (Ae rfl) (Qp Cw (Pz 0 (Iq _) rfl (Qp Hb (Qp (Ae rfl) (Qp Cw ?_))))))));refine Bz 0 ghx (_::_) (B7 (Qp Bh (Rb ?_)));refine ⟨.inr rfl,[.bool _],Ze,_,S0,?_⟩;refine ⟨?_,congrArg (fun c=>HO.box bp 116 c::H) ?_⟩
 .
  try simp only [Ah,Ol,cSyn,Be,Bw,Ba,hc1,↓reduceIte,Al,Av,Bk]
  try rfl
 try simp only [cP,Ol,hc1,↓reduceIte,Al,Av,Bk]
 try rfl
theorem eG (st:PS)(bp:Nat)(e:Int):Bf Tryz.prog 39 bp 116 (cP st) (cP (Fy e st)) [.val (.pointer (some ⟨bp,0,none⟩)),.int .i64 e] (.tuple []):=by
 intro H;refine H7 18 Tryz.func39 rfl ?_;refine Af (Qp Bu (Qp (Ae rfl) (Qp Cw (Pz 0 (Iq _) rfl (Qp Bq (Bp (fun hc1=>?_) fun hc1=>?_))))))
 .
  try simp only [A5,Bg] at hc1
  refine AW.region (Qp Bu (Qp Bu (Qp A0 (Qp Bu ?_))));refine AOL.Aaz (Cj (k:=0) (by kernel_rfl) rfl rfl (Jy _ _)) rfl rfl ?_;refine Qp (Ae rfl) (Qp Cw ?_);refine Bz 0 ghx (_::_) (Qp (Ae rfl) (Qp Cw ?_));refine Bz 0 ghx (_::_) (AOL.nil ?_);refine ⟨.inl rfl,[],.nil,_,.refl _,?_⟩;refine ⟨?_,congrArg (fun c=>HO.box bp 116 c::H) ?_⟩
  .
   try simp only [Ah,Fy,cSyn,Be,Bw,Ba,hc1,↓reduceIte,Al,Av,Bk]
   try rfl
  try simp only [cP,Fy,hc1,↓reduceIte,Al,Av,Bk]
  try rfl
 try simp only [A5,Bg] at hc1
 refine AW.skip ?_;refine ⟨.inl rfl,[],.nil,_,.refl _,?_⟩;refine ⟨?_,congrArg (fun c=>HO.box bp 116 c::H) ?_⟩
 .
  try simp only [Ah,Fy,cSyn,Be,Bw,Ba,hc1,↓reduceIte,Al,Av,Bk]
  try rfl
 try simp only [cP,Fy,hc1,↓reduceIte,Al,Av,Bk]
 try rfl
theorem Dk (st:PS)(bp:Nat)(w:Ag)(hS:Sz st)(hw:w.length<=1048576):Bf Tryz.prog 84 bp 116 (cP st) (cP (Bn w st)) [.val (.pointer (some ⟨bp,0,none⟩)),.str w] (.tuple []):=by
 intro H;refine H7 17 Tryz.func84 rfl ?_;refine Af (Qp Bu (Qp (Ae rfl) (Qp Cw (Pz 0 (Iq _) rfl (Qp Bq (Qp Co (Qg [] Qw Bu (Qg [] Qw Gu ?_))))))));refine AOL.ge _ [(10,_),(11,_)] rfl (bW.all ⟨Ent.Aax _ _,Ent.Aax _ _,trivial⟩) (fun hG=>Dc rfl ((Ed _ _ _ (by simpa using hS) (by assumption)).at (k:=0) (H2:=_::_) rfl rfl)) (fun hG=>congrArg (fun s=>HO.box bp 116 (cP s)::H) (acc_bad hG)) rfl ?_;refine Qg [(12,_)] Qw J4 (Qp Ks (Bp (fun hc1=>?_) fun hc1=>?_))
 .
  try simp only [A5,Bg] at hc1
  refine AW.region (Qp Bu (qD ((eG _ _ _).at (k:=0) (H2:=_::_) rfl rfl) (AOL.nil ?_)));refine ⟨.inl rfl,[],.nil,_,.refl _,?_⟩;refine ⟨?_,congrArg (fun c=>HO.box bp 116 c::H) ?_⟩
  .
   try simp only [Ah,Bn,cSyn,Be,Bw,Ba,hc1,↓reduceIte,Al,Av,Bk]
   try rfl
  try simp only [cP,Bn,G2 (by simpa using and_snd hc1),hc1,↓reduceIte,Al,Av,Bk]
  try rfl
 try simp only [A5,Bg] at hc1
 refine AW.skip ?_;refine ⟨.inl rfl,[],.nil,_,.refl _,?_⟩;refine ⟨?_,congrArg (fun c=>HO.box bp 116 c::H) ?_⟩
 .
  try simp only [Ah,Bn,cSyn,Be,Bw,Ba,hc1,↓reduceIte,Al,Av,Bk]
  try rfl
 try simp only [cP,Bn,hc1,↓reduceIte,Al,Av,Bk]
 try rfl
theorem rZ (st:PS)(bp:Nat)(k:Int)(hS:Sz st):Bf Tryz.prog 187 bp 116 (cP st) (cP (st)) [.val (.pointer (some ⟨bp,0,none⟩)),.int .i64 k] (.bool (Ta k st)):=by
 intro H;refine H7 47 Tryz.func187 rfl ?_;refine Af (Qp Bh (Re (AW.seq ?_)));refine Pq 0 rfl ?_;refine Qn 0 rfl Bu ?_;refine Qn 1 rfl (Ae rfl) ?_;refine Qn 2 rfl Cw ?_;refine Qn 3 rfl (Lb (Iq _) rfl) ?_;refine Qn 4 rfl C3 (Qn 5 rfl Co (Qo 6 rfl [] Qw Bu ?_));refine Qo 7 rfl [(12,_)] Qw (Ae rfl) ?_;refine Qo 8 rfl [(13,_)] Qw Cw ?_;refine Qo 9 rfl [(14,_)] Qw (Lb (Iq _) rfl) ?_;refine Qo 10 rfl [] Qw Bu ?_;refine Qo 11 rfl [(16,_)] Qw (Ae rfl) ?_;refine Qo 12 rfl [(17,_)] Qw Cw ?_;refine Qo 13 rfl [(18,_)] Qw (Lb (.sl _ _) rfl) ?_;refine Yo 14 rfl [(19,_)] Qw (fun hG=>G1 st.toks.length rfl rfl (by simp)) ?_;refine Qo 15 rfl [(15,_),(20,_)] Yw Jt ?_;refine Qn 16 rfl Gv ?_;refine Iw ?_;refine Aa (Gn (fun hc1=>?_) fun hc1=>?_)
 .
  try simp only [A5,Bg] at hc1
  refine Af (Qp Bh (Rc ?_));refine ⟨.inr rfl,[.bool _],Ze,_,S0,?_⟩;refine ⟨?_,congrArg (fun c=>HO.box bp 116 c::H) ?_⟩
  .
   try simp only [Ah,Ta,endP,cSyn,Be,Bw,Ba,hc1,↓reduceIte,Al,Av,Bk]
   try rfl
  try simp only [cP,Ta,endP,hc1,↓reduceIte,Al,Av,Bk]
  try rfl
 try simp only [A5,Bg] at hc1
 have hlt:=X1 (st:=st) hc1;refine B6 (AW.seq ?_);refine Pq 0 rfl ?_;refine Qn 0 rfl Bu ?_;refine Qn 1 rfl (Ae rfl) ?_;refine Qn 2 rfl Cw ?_;refine Qn 3 rfl (Lb (.sl _ _) rfl) ?_;refine Qn 4 rfl Bu ?_;refine Qn 5 rfl (Ae rfl) ?_;refine Qn 6 rfl Cw ?_;refine Qn 7 rfl (Lb (Iq _) rfl) ?_;refine Qn 8 rfl (E9 nA rfl rfl (by omega) (Xh hlt)) ?_;refine Qn 9 rfl (C1 nA) ?_;refine Vr 10 rfl (Dg (l:=[.int .i64 0,.str [],.int .i64 0]) (by kernel_rfl)) (by rintro _ _ ⟨b5,rfl,rfl⟩;simp) ?_;rintro _ _ ⟨b5,rfl,rfl⟩;refine bF 11 rfl (Ki 0 (.agg _) nA (_::_::_) rfl) ?_;rintro _ _ ⟨rfl,rfl⟩;refine Aa ?_;refine AW.ghost (GS.freeze (t:=5) 0 rfl rfl) ?_;refine Af (Qp (Qf nA) (Qp Cd (Qp A0 (Qp Bq (Qp Co (Qg [] Qw A0 (Qg [(38,_)] Qw C3 (Qg [(39,_)] Qw Co (Qg [] Qw (Qf Iy) ?_)))))))));refine Qg [(41,_)] Qw F4 ?_;refine Qg [(42,_)] Qw (Qc rfl (c22 (lD st).text (oE hS hlt))) ?_;refine Qg [(43,_)] Qw J4 (Qg [(40,_),(44,_)] Qw Gv (Qp Ks (Qp Bh (Rb ?_))));refine ⟨.inr rfl,[.bool _],Ze,_,S0,?_⟩;refine ⟨?_,congrArg (fun c=>HO.box bp 116 c::H) ?_⟩
 .
  try simp only [Ah,Ta,endP,cSyn,Be,Bw,Ba,hc1,↓reduceIte,Al,Av,Bk]
  try rfl
 try simp only [cP,Ta,endP,hc1,↓reduceIte,Al,Av,Bk]
 try rfl
theorem kS (st:PS)(bp:Nat)(k:Int)(hS:Sz st):Bf Tryz.prog 149 bp 116 (cP st) (cP (Ck k st)) [.val (.pointer (some ⟨bp,0,none⟩)),.int .i64 k] (.tuple [.str (G7 k st),.bool (Ta k st)]):=by
 intro H;refine H7 31 Tryz.func149 rfl ?_;refine Af (Qp La (Qp Bh (A2 (Cg (Qp Bu (Qp A0 ?_))))));refine AOL.Aaz (Cj (k:=0) (by kernel_rfl) rfl rfl (rZ _ _ _ (by simpa using hS))) rfl rfl ?_;refine Qp J4 (Bp (fun hc1=>?_) fun hc1=>?_)
 .
  try simp only [A5,Bg] at hc1
  refine Af (Qp Bu (qD ((eG _ _ _).at (k:=0) (H2:=_::_) rfl rfl) (B7 (Qp La (Qp Bh (Rc ?_))))));refine ⟨.inr rfl,[.str _,.bool _],Zf,_,S0,?_⟩;refine ⟨?_,congrArg (fun c=>HO.box bp 116 c::H) ?_⟩
  .
   try simp only [Ah,Ck,G7,cSyn,Be,Bw,Ba,hc1,↓reduceIte,Al,Av,Bk]
   try rfl
  try simp only [cP,Ck,G7,hc1,↓reduceIte,Al,Av,Bk]
  try rfl
 try simp only [A5,Bg] at hc1
 have hlt:=nxt_lt (k:=k) (st:=st) hc1;have hml:=hS.1;refine B6 (Af (Qp Bu (Qp (Ae rfl) (Qp Cw (Pz 0 (Iq _) rfl (Qp Hb (Qp (Ae rfl) (Qp Cw ?_))))))));refine Bz 0 ghx (_::_) (Re (Pq 0 rfl (Qn 0 rfl Bu (Qn 1 rfl (Ae rfl) (Qn 2 rfl Cw (Qn 3 rfl (Lb (.sl _ _) rfl) (Qn 4 rfl Bu (Qn 5 rfl (Ae rfl) (Qn 6 rfl Cw (Qn 7 rfl (Lb (Iq _) rfl) ?_))))))))));refine Qn 8 rfl (zU rfl rfl rfl (by constructor <;> omega)) ?_;refine Qn 9 rfl (E9 nA rfl rfl (by omega) (by rw [show ((st.pos:Int)+1-1).toNat=st.pos by omega];exact Xh hlt)) ?_;refine Qn 10 rfl (Qf Iy) (Qn 11 rfl F4 (Qn 12 rfl La (Qn 13 rfl Bh ?_)));refine Iw ?_;refine Aa (AW.ret ?_);refine ⟨.inr rfl,[.str _,.bool _],Zf,_,S0,?_⟩;refine ⟨?_,congrArg (fun c=>HO.box bp 116 c::H) ?_⟩
 .
  try simp only [Ah,Ck,G7,cSyn,Be,Bw,Ba,hc1,↓reduceIte,Al,Av,Bk]
  try rfl
 try simp only [cP,Ck,G7,hc1,↓reduceIte,Al,Av,Bk]
 try rfl
theorem N4 (st:PS)(bp:Nat)  (hS:Sz st):Bf Tryz.prog 85 bp 116 (cP st) (cP (Ck 0 st)) [.val (.pointer (some ⟨bp,0,none⟩))] (.str (G7 0 st)):=by
 intro H;refine H7 11 Tryz.func85 rfl ?_;refine Af (Qp La (B7 (Qp Bu ?_)));refine Rt (Dc rfl ((kS _ _ _ (by simpa using hS)).at (k:=0) (H2:=_::_) rfl rfl)) ?_;refine Qp Th (Qp wV (Qp fU (Qp La (Qp Bh (B7 (Qp Gu (Qp La (Rb ?_))))))));refine ⟨.inr rfl,[.str _],Ze,_,S0,?_⟩;refine ⟨?_,congrArg (fun c=>HO.box bp 116 c::H) ?_⟩
 .
  try simp only [Ah,cSyn,Be,Bw,Ba,↓reduceIte,Al,Av,Bk]
  try rfl
 try simp only [cP,↓reduceIte,Al,Av,Bk]
 try rfl
theorem eH (st:PS)(bp:Nat)  (hS:Sz st):Bf Tryz.prog 192 bp 116 (cP st) (cP (Ck 1 st)) [.val (.pointer (some ⟨bp,0,none⟩))] (.int .i64 (eA st)):=by
 intro H;refine H7 20 Tryz.func192 rfl ?_;refine Af (Qp Ax (B7 (Qp Bu ?_)));refine Rt (Dc rfl ((kS _ _ _ (by simpa using hS)).at (k:=0) (H2:=_::_) rfl rfl)) ?_;refine Qp Th (Qp wV (Qp fU (Qp La (Qp Bh (A2 (Cg (Qp Co (Qp J4 (Bp (fun hc1=>?_) fun hc1=>?_)))))))))
 .
  try simp only [A5,Bg] at hc1
  refine Af (Qp Ax (Rc ?_));refine ⟨.inr rfl,[Iq _],Ze,_,S0,?_⟩;refine ⟨?_,congrArg (fun c=>HO.box bp 116 c::H) ?_⟩
  .
   try simp only [Ah,eA,G7,cSyn,Be,Bw,Ba,hc1,↓reduceIte,Al,Av,Bk]
   try rfl
  try simp only [cP,eA,G7,hc1,↓reduceIte,Al,Av,Bk]
  try rfl
 try simp only [A5,Bg] at hc1
 refine B6 (Af (Qp Gu (Qp (Qc rfl (c18 _ (txt_le hS))) (Qp Th (Qp Td (Qp Td (Qp Ax (Qp Ax (B7 (Qp A0 (Qp Ax (Rb ?_))))))))))));refine ⟨.inr rfl,[Iq _],Ze,_,S0,?_⟩;refine ⟨?_,congrArg (fun c=>HO.box bp 116 c::H) ?_⟩
 .
  try simp only [Ah,eA,G7,cSyn,Be,Bw,Ba,hc1,↓reduceIte,Al,Av,Bk]
  try rfl
 try simp only [cP,eA,G7,hc1,↓reduceIte,Al,Av,Bk]
 try rfl
theorem Et {w:Ag}{st:PS}(h:G6 w st=true):Ol w st=adv st:=by unfold Ol;rw [h];rfl
def okD (D:Int)(st:PS):Prop:=Sz st/\D<=st.depth/\st.depth<=64
def C5 (F:PS->Syn×PS):Prop:=∀st,0<=st.depth->st.depth<=64->(F st).2.toks=st.toks/\st.pos<=(F st).2.pos/\(F st).2.depth=st.depth
theorem P9 (e:Int)(st:PS):(Fy e st).depth=st.depth:=by unfold Fy;split <;> rfl
theorem mH (w:Ag)(st:PS):(Ol w st).depth=st.depth:=by unfold Ol;split <;> rfl
theorem mI (w:Ag)(st:PS):(Bn w st).depth=st.depth:=by unfold Bn;split;exact P9 _ _;exact mH _ _
theorem mJ (k:Int)(st:PS):(Ck k st).depth=st.depth:=by unfold Ck;split;rfl;exact P9 _ _
theorem Zo {D:Int}{a b:PS}(h:a.toks=b.toks)(h2:a.depth=b.depth):okD D a↔okD D b:=by unfold okD Sz;rw [h,h2]
@[simp] theorem okD_adv (D : Int) (st : PS) : okD D (adv st) ↔ okD D st := Zo rfl rfl
@[simp] theorem okD_failP (D : Int) (e : Int) (st : PS) : okD D (Fy e st) ↔ okD D st := Zo (Lx _ _) (P9 _ _)
@[simp] theorem okD_accP (D : Int) (w : Ag) (st : PS) : okD D (Ol w st) ↔ okD D st := Zo (Zz _ _) (mH _ _)
@[simp] theorem okD_expP (D : Int) (w : Ag) (st : PS) : okD D (Bn w st) ↔ okD D st := Zo (Z0 _ _) (mI _ _)
@[simp] theorem okD_tokP (D : Int) (k : Int) (st : PS) : okD D (Ck k st) ↔ okD D st := Zo (Z1 _ _) (mJ _ _)
theorem C5.okD {F:PS->Syn×PS}(h:C5 F){D:Int}(hD:0<=D){st:PS}(ho:okD D st):okD D (F st).2:=by
 obtain ⟨h1,h2,h3⟩:=ho;obtain ⟨k1,k2,k3⟩:=h st (by omega) h3;exact ⟨(Pe k1).2 h1,by omega,by omega⟩
theorem U0 (e:Int)(st:PS):(Fy e st).pos=st.pos:=by unfold Fy;split <;> rfl
theorem pos_accP (w:Ag)(st:PS):st.pos<=(Ol w st).pos:=by
 unfold Ol;split
 . exact Nat.le_succ _
 exact Bc _
theorem pos_expP (w:Ag)(st:PS):st.pos<=(Bn w st).pos:=by unfold Bn;split;exact Nat.le_of_eq (U0 _ _).symm;exact pos_accP _ _
theorem pos_tokP (k:Int)(st:PS):st.pos<=(Ck k st).pos:=by unfold Ck;split;exact Nat.le_succ _;exact Nat.le_of_eq (U0 _ _).symm
theorem Md {e:Int}(he:e≠0)(st:PS):((Fy e st).bad != 0)=true:=by
 unfold Fy;split
 . simpa using he
 rename_i h;simpa using h
def F8 (st:PS):PS:=if decide (64<=st.depth) then Fy 12 st else st
theorem Nz {F:PS->Syn×PS}{n:Nat}{st:PS}{out:List Syn}(h:0<n):Hr F n st out=if G6 C8 st then Hr F (n-1) (F (adv st)).2 (out ++ [(F (adv st)).1]) else (out,st):=by
 obtain ⟨m,rfl⟩:∃m,n=m+1:=⟨n-1,by omega⟩;rfl
theorem T4 (l:List Syn):∀x∈l.map Cu,Au x=true:=kZ fun a=>by rw [Ba];rfl
theorem J1 {es:List (List AV)}{out:List Syn}{t:Syn}(h:es=out.map Cu):es ++ [cSyn t]=(out ++ [t]).map Cu:=by rw [h,E5,Wy,Ba]
theorem p_nested (st st2 st3:PS)(bp:Nat)(R R3:List HO)(f:Nat)(hf:Tn Tryz.prog f=true)(first cap:List AV)(hlt:st.pos<st.toks.length)(hS:Sz st)(hcl:(F8 st).bad=0->Bt Tryz.prog f (.box bp 116 (cP (adv (deep st)))::R) (first ++ []++cap) (fun _ H'=>H' = .box bp 116 (cP st2)::R3/\st3=shallow st2))(hno:(F8 st).bad≠0->st3=F8 st/\R3=R):Bt Tryz.prog 151 (.box bp 116 (cP st)::R) [.val (.pointer (some ⟨bp,0,none⟩)),.fn (.func f) first cap] (fun r H'=>r = .tuple []/\H' = .box bp 116 (cP st3)::R3):=by
 refine H7 39 Tryz.func151 rfl ?_;refine Cg (Qp Bu ?_);refine Qp (Ae rfl) ?_;refine Qp Cw ?_;refine Pz 0 (Iq _) rfl ?_;refine Qp Jt (Bp (fun hc1=>?_) fun hc1=>?_)
 .
  try simp only [A5,Bg] at hc1
  refine AW.region (Qp Bu ?_);refine qD ((eG _ _ _).at (k:=0) (H2:=_::_) rfl rfl) ?_;refine A2 (Cg (Qp Bu ?_));refine Qp (Ae rfl) ?_;refine Qp Cw ?_;refine Pz 0 (Iq _) rfl ?_;refine Qp C3 (Bp (fun hc2=>?_) fun hc2=>?_)
  .
   try simp only [A5,Bg] at hc2
   have hml:=hS.1;refine gH ?_;refine ⟨.inr rfl,[],.nil,_,.refl _,?_⟩;obtain ⟨e1,e2⟩:=hno (by unfold F8;rw [hc1];simpa using hc2);subst e1;subst e2;exact ⟨rfl,congrArg (fun s=>HO.box bp 116 (cP s)::R3) (by unfold F8;rw [hc1];rfl)⟩
  try simp only [A5,Bg] at hc2
  exact absurd ((Md (e:=12) (by decide) st).symm.trans hc2) (by decide)
 try simp only [A5,Bg] at hc1
 refine B6 (Cg (Qp Bu ?_));refine Qp (Ae rfl) ?_;refine Qp Cw ?_;refine Pz 0 (Iq _) rfl ?_;refine Qp C3 (Bp (fun hc3=>?_) fun hc3=>?_)
 .
  try simp only [A5,Bg] at hc3
  refine gH ?_;refine ⟨.inr rfl,[],.nil,_,.refl _,?_⟩;obtain ⟨e1,e2⟩:=hno (by unfold F8;rw [hc1];simpa using hc3);subst e1;subst e2;exact ⟨rfl,congrArg (fun s=>HO.box bp 116 (cP s)::R3) (by unfold F8;rw [hc1];rfl)⟩
 try simp only [A5,Bg] at hc3
 have hml:=hS.1;have h9:(F8 st).bad=0:=by unfold F8;rw [hc1];simpa using hc3
 refine B6 (Af (Qp Bu ?_));refine Qp (Ae rfl) ?_;refine Qp Cw ?_;refine Pz 0 (Iq _) rfl ?_;refine Qp (zR rfl rfl) ?_;refine Qp (Ae rfl) ?_;refine Qp Cw ?_;refine Bz 0 ghx (_::_) ?_;refine B7 (Qp Bu ?_);refine Qp (Ae rfl) ?_;refine Qp Cw ?_;refine Pz 0 (Iq _) rfl ?_;refine Qp Hb ?_;refine Qp (Ae rfl) ?_;refine Qp Cw ?_;refine Bz 0 ghx (_::_) ?_;refine B7 ?_;refine Qp (Ab (v:=.fn _ _ _) rfl) ?_;refine Qe (Kr hf rfl rfl rfl (hcl h9)) ?_;rintro _ _ ⟨rfl,h3⟩;refine A2 (AW.region (Qp Bu ?_));refine Qp (Ae rfl) ?_;refine Qp Cw ?_;refine Pz 0 (Iq _) rfl ?_;refine Qp (qK rfl rfl) ?_;refine Qp (Ae rfl) ?_;refine Qp Cw ?_;refine Bz 0 ghx (_::_) ?_;refine AOL.nil ?_;refine ⟨.inl rfl,[],.nil,_,.refl _,?_⟩;subst h3;exact ⟨rfl,rfl⟩
theorem p_list (st:PS)(bp:Nat)(D:Int)(hD:0<=D)(f:Nat)(hf:Tn Tryz.prog f=true)(first cap:List AV)(F:PS->Syn×PS)(hF:C5 F)(hc:∀st,okD D st->Bf Tryz.prog f bp 116 (cP st) (cP (F st).2) (first ++ []++cap) (.agg (cSyn (F st).1)))(hO:okD D st):Bf Tryz.prog 86 bp 116 (cP st) (cP ((Mh F st).2)) [.val (.pointer (some ⟨bp,0,none⟩)),.fn (.func f) first cap] (.sl 6 ((Mh F st).1.map Cu)):=by
 intro H;refine H7 17 Tryz.func86 rfl ?_;refine Af (Qp (Cb (z:=6) rfl) (B7 (Qp (Ab (v:=.fn _ _ _) rfl) (Rt (Kr (hf) rfl rfl rfl ((hc st hO).at (k:=0) (H2:=_::_) rfl rfl)) (Qe (Hk (es:=[Ak]) tok rfl rfl rfl rfl rfl rfl rfl rfl rfl) ?_)))));rintro _ _ ⟨v8,rfl,rfl⟩;refine Qp (Ad (v:=.row _ _ _) rfl) (Re (AW.block ?_));refine AW.loopS (fun (p:Nat×PS×List Syn×List (List AV)×Value)=>(⟨[(0,.val (.pointer (some ⟨bp,0,none⟩))),(1,.fn (.func f) first cap),(5,.row p.2.2.2.2 6 p.2.2.2.1)],.row p.2.2.2.2 p.2.2.2.1.length 25 6 :: .box bp 116 (cP p.2.1)::H,17⟩:St)) (fun p=>p.2.2.2.1=p.2.2.1.map Cu/\okD D p.2.1/\B1 p.2.1<=p.1/\p.2.2.1.length<=p.2.1.pos+1/\Mh F st=Hr F p.1 p.2.1 p.2.2.1) (fun p=>p.1) ((B1 (F st).2,(F st).2,[(F st).1],[cSyn (F st).1],v8)) ?_ Dh ?_
 . exact ⟨by rw [Wy,Ba],hF.okD hD hO,Bc _,by simp,rfl⟩
 rintro p hR;have hes:p.2.2.2.1=p.2.2.1.map Cu:=hR.1;have hO2:okD D p.2.1:=hR.2.1;have hS:=hO2.1;have hfu:B1 p.2.1<=p.1:=hR.2.2.1;have hn:0<p.1:=by unfold B1 at hfu;omega
 have hol:p.2.2.1.length<=p.2.1.pos+1:=hR.2.2.2.1;have hsc:∀c∈p.2.2.2.1,Au c=true:=by rw [hes];exact T4 _
 have hel:p.2.2.2.1.length=p.2.2.1.length:=by rw [hes,By]
 refine Cg (Qp Bu ?_);refine Rt (Dc rfl ((Ed _ _ _ (by simpa using hS) (by first | assumption | decide)).at (k:=1) (H2:=_::_::_) rfl rfl)) ?_;refine Bp (fun hc1=>?_) fun hc1=>?_
 .
  try simp only [A5,Bg] at hc1
  have hlt:=Vk hc1;have hml:=hS.1;have hFa:=hF (adv p.2.1) (by have:=hO2.2.1;show (0:Int)<=p.2.1.depth;omega) hO2.2.2;have hps:p.2.1.pos+1<=(F (adv p.2.1)).2.pos:=hFa.2.1;have hts:(F (adv p.2.1)).2.toks=p.2.1.toks:=hFa.1;refine AW.ghost (GS.Aay (H2:=_::_::_) 1 rfl (congrArg cP (Et hc1)) rfl) ?_;refine B6 (AW.block (AW.region (Qp (Ab (v:=.row _ _ _) rfl) (Qp (Ab (v:=.fn _ _ _) rfl) ?_))));refine Rt (Kr (hf) rfl rfl rfl ((hc _ (by simpa using hO2)).at (k:=1) (H2:=_::_::_) rfl rfl)) ?_;refine Qp (Ir [Ak] rfl) ?_;refine Qe (Vc 0 rfl (D5 rfl) (hsc) (by simp;omega) (by simp [maxLen];omega)) ?_;rintro _ _ ⟨v15,rfl,rfl⟩;refine Qp (Ad (v:=.row _ _ _) rfl) (Rk ?_);refine ⟨(p.1-1,(F (adv p.2.1)).2,p.2.2.1 ++ [(F (adv p.2.1)).1],p.2.2.2.1 ++ [cSyn (F (adv p.2.1)).1],v15),?_,?_,Dh⟩
  . exact ⟨J1 hes,hF.okD hD (by simpa using hO2),by unfold B1 at hfu ⊢;rw [hts];simp only;omega,by simp only [Ao,D2];omega,hR.2.2.2.2.trans (by rw [Nz hn,if_pos hc1])⟩
  simp only;omega
 try simp only [A5,Bg] at hc1
 refine AW.ghost (GS.Aay (H2:=_::_::_) 1 rfl (congrArg cP (G2 hc1)) rfl) ?_;refine AW.exit ?_;refine Br (Ri (Af ?_));refine AOL.ghost (GS.unrow 5 rfl) ?_;refine Qp Mm (Qp jF (Rb ?_));refine ⟨.inr rfl,[.sl _ _],Ze,_,S1,?_⟩;have h9:Mh F st=(p.2.2.1,p.2.1):=hR.2.2.2.2.trans (by rw [Nz hn,iN hc1]);exact ⟨by rw [h9,<-hes];rfl,congrArg (fun s=>HO.box bp 116 (cP s)::H) (by rw [h9])⟩
abbrev cSg (s:Ag×Int):List AV:=[.str s.1,.int .i64 s.2]
theorem sg_at {sg:List (Ag×Int)}{k:Nat}{s:Ag×Int}(h:sg[k]? = some s):(sg.map cSg)[k]? = some [.str s.1,.int .i64 s.2]:=by rw [List.getElem?_map,h];rfl
theorem Xo {α:Type}{p:α->Bool}:∀{l:List α} {k:Nat} {x:α},(∀j y,j<k->l[j]? = some y->p y=false)->l[k]? = some x->p x=true->l.find? p=some x
  | [],k,x,_,h,_=>by simp at h
  | a::l,0,x,_,h,hp=>by
    simp only [List.getElem?_cons_zero,Option.some.injEq] at h;subst h;rw [List.find?_cons,hp]
  | a::l,k+1,x,hn,h,hp=>by
    rw [List.find?_cons,hn 0 a (by omega) rfl];exact Xo (l:=l) (k:=k) (fun j y hj hy=>hn (j+1) y (by omega) hy) h hp
theorem iC {α:Type}{p:α->Bool}{l:List α}(hn:∀j y,j<l.length->l[j]? = some y->p y=false):l.find? p=none:=by
 rw [List.find?_eq_none];intro x hx;obtain ⟨k,hk⟩:=List.getElem?_of_mem hx;have:=hn k x (List.getElem?_eq_some_iff.1 hk).1 hk;rw [this];decide
theorem aK {F:PS->Syn×PS}{sg:List (Ag×Int)}{n:Nat}{st:PS}{out:Syn}(h:0<n):Il F sg n st out=match sg.find? (fun s=>G6 s.1 st) with
  | some s=>Il F sg (n-1) (F (adv st)).2 (Ti s.2 out (F (adv st)).1 out.pos)
  | none=>(out,st):=by
 obtain ⟨m,rfl⟩:∃m,n=m+1:=⟨n-1,by omega⟩;rfl
theorem Lt (op:Int)(x y:Syn)(k:Int):Ap Tryz.prog 194 [.int .i64 op,.agg (cSyn x),.agg (cSyn y),.int .i64 k] (.agg (cSyn (Ti op x y k))):=by
 refine Fl 15 Tryz.func194 rfl fun H=>?_
 refine Af (Qp (Ik Ak) (Qp (Ik Ak) (D7 In fun b8=>B7 (Qp A0 (Qp (C1 Ak) (Qp (C1 Ak) (Qp (Ir [Ak,Ak] rfl) (Qp A0 (Qp (E2 Ak) ?_)))))))));refine Bz 0 Ak (_::_) (Rb ?_);refine Yx [.agg Ak] (Zb 0) S1 ?_;exact congrArg (fun l=>AV.agg [.int .i64 17,.str [],.str [],.int .i64 op,.sl 6 l,.int .i64 k]) (by rw [Be,Be,Bw,Ba,Ba]:[cSyn x,cSyn y] = [x,y].map Cu)
theorem kR (st:PS)(bp:Nat)(D:Int)(hD:0<=D)(f:Nat)(hf:Tn Tryz.prog f=true)(first cap:List AV)(F:PS->Syn×PS)(hF:C5 F)(hc:∀st,okD D st->Bf Tryz.prog f bp 116 (cP st) (cP (F st).2) (first ++ []++cap) (.agg (cSyn (F st).1)))(hO:okD D st)(sg:List (Ag×Int))(hsg:∀s∈sg,s.1.length<=1048576)(hsl:sg.length<=100):Bf Tryz.prog 154 bp 116 (cP st) (cP ((Nu F sg st).2)) [.val (.pointer (some ⟨bp,0,none⟩)),.fn (.func f) first cap,.sl 2 (sg.map cSg)] (.agg (cSyn (Nu F sg st).1)):=by
 intro H;refine H7 34 Tryz.func154 rfl ?_;refine Af (D7 In fun b6=>B7 (Qp (Ab (v:=.fn _ _ _) rfl) (Rt (Kr (hf) rfl rfl rfl ((hc st hO).at (k:=1) (H2:=_::_::_) rfl rfl)) (D7 In fun b7=>?_))));refine Bz 0 Ak (_::_::_::_) (A2 (Cg (Qp Bh (A2 (AW.block ?_)))));refine AW.loopS (fun (p:Nat×PS×Syn×Bool)=>(⟨[(0,.val (.pointer (some ⟨bp,0,none⟩))),(1,.fn (.func f) first cap),(2,.sl 2 (sg.map cSg)),(6,.val (.pointer (some ⟨b6,0,none⟩))),(7,.val (.pointer (some ⟨b7,0,none⟩))),(8,.bool p.2.2.2)],.box b7 25 (cSyn p.2.2.1) :: .box b6 25 (cSyn He) :: .box bp 116 (cP p.2.1)::H,34⟩:St)) (fun p=>okD D p.2.1/\B1 p.2.1<=p.1/\(p.2.2.2=true->Nu F sg st=Il F sg p.1 p.2.1 p.2.2.1)/\(p.2.2.2=false->Nu F sg st=(p.2.2.1,p.2.1))) (fun p=>(if p.2.2.2 then p.1+1 else 0)) ((B1 (F st).2,(F st).2,(F st).1,true)) ?_ Dh ?_
 . exact ⟨hF.okD hD hO,Bc _,fun _=>rfl,fun h=>(by cases h)⟩
 rintro p hR;have hO2:okD D p.2.1:=hR.1;have hS:=hO2.1;have hfu:B1 p.2.1<=p.1:=hR.2.1;have hn:0<p.1:=by unfold B1 at hfu;omega
 refine Cg (Qp Co (Bp (fun hc1=>?_) fun hc1=>?_))
 .
  try simp only [A5,Bg] at hc1
  refine B6 (AW.block (Af (Qp Bh (B7 (Qp Mm ?_)))));refine Qp (G1 sg.length rfl rfl (by simp)) ?_;refine Qp A0 (A2 (AW.block ?_));refine AW.loopS (fun (k:Nat)=>(⟨[(0,.val (.pointer (some ⟨bp,0,none⟩))),(1,.fn (.func f) first cap),(2,.sl 2 (sg.map cSg)),(6,.val (.pointer (some ⟨b6,0,none⟩))),(7,.val (.pointer (some ⟨b7,0,none⟩))),(8,.bool false),(14,.sl 2 (sg.map cSg)),(15,.int .i64 (sg.length:Int)),(16,.int .i64 (k:Int))],.box b7 25 (cSyn p.2.2.1) :: .box b6 25 (cSyn He) :: .box bp 116 (cP p.2.1)::H,34⟩:St)) (fun k=>k<=sg.length/\∀j y,j<k->sg[j]? = some y->G6 y.1 p.2.1=false) (fun k=>sg.length-k) (0) ?_ Dh ?_
  . exact ⟨A7 _,fun j y hj=>absurd hj (Nat.not_lt_zero _)⟩
  rintro k hK;refine Af (Qp Cv (Re (Gn (fun hc2=>?_) fun hc2=>?_)))
  .
   try simp only [A5,Bg] at hc2
   have hk:k<sg.length:=by simpa using hc2
   refine (get_ex hk).elim fun x hx=>?_
   have hwx:x.1.length<=1048576:=hsg x (Aj hx);refine B6 (AW.seq (AW.block (Af ?_)));refine Qp (E9 Iy rfl rfl (by omega) (sg_at hx)) ?_;refine Qp (C1 Iy) (D7 gix fun b10=>?_);refine Bz 0 Iy (_::_::_::_::_) ?_;refine Kh 10 0 rfl ?_;refine B7 (Qp Bu (Qp (Qf Iy) (Qp F4 ?_)));refine Rt (Dc rfl ((Ed _ _ _ (by simpa using hS) (by first | assumption | decide)).at (k:=2) (H2:=_::_::_::_) rfl rfl)) ?_;refine Bp (fun hc3=>?_) fun hc3=>?_
   .
    try simp only [A5,Bg] at hc3
    have hfd:sg.find? (fun s=>G6 s.1 p.2.1)=some x:=Xo hK.2 hx hc3;have hlt:=Vk hc3;have hml:=hS.1;have hFa:=hF (adv p.2.1) (by have:=hO2.2.1;show (0:Int)<=p.2.1.depth;omega) hO2.2.2;have hps:p.2.1.pos+1<=(F (adv p.2.1)).2.pos:=hFa.2.1;have hts:(F (adv p.2.1)).2.toks=p.2.1.toks:=hFa.1;refine AW.ghost (GS.Aay (H2:=_::_::_::_) 2 rfl (congrArg cP (Et hc3)) rfl) ?_;refine AW.seq (Pq 0 rfl (Qn 0 rfl (Qf [Iq _]) (Qn 1 rfl Cd (Qn 2 rfl (Db.mem (fun k=>Iu (k:=k) (l:=Ak) tok rfl rfl rfl rfl rfl) (fun _ h=>h)) ?_))));refine Qn 3 rfl (Ab (v:=.fn _ _ _) rfl) (Qn 5 rfl Cw (Qn 6 rfl (Lb (Iq _) rfl) ?_));refine Vr 4 rfl (Kr (hf) rfl rfl rfl ((hc _ (by simpa using hO2)).at (k:=2) (H2:=_::_::_::_) rfl rfl)) (by rintro _ _ ⟨rfl,rfl⟩;simp) ?_;rintro _ _ ⟨rfl,rfl⟩;refine Qn 7 rfl (Qc rfl (Lt _ _ _ _)) ?_;refine bF 8 rfl (Ki 0 (.agg _) Ak (_::_::_::_) rfl) ?_;rintro _ _ ⟨rfl,rfl⟩;refine Aa (Af (Qp Bh (A2 (AW.exit ?_))));refine blkMiss rfl ?_;refine Br (Br (Gp (Ff (Aa ?_))));refine ⟨(p.1-1,(F (adv p.2.1)).2,Ti x.2 p.2.2.1 (F (adv p.2.1)).1 p.2.2.1.pos,true),?_,?_,Dh⟩
    . exact ⟨hF.okD hD (by simpa using hO2),by unfold B1 at hfu ⊢;rw [hts];simp only;omega,fun _=>(hR.2.2.1 hc1).trans (by rw [aK hn,hfd]),fun h=>(by cases h)⟩
    simp only [hc1,↓reduceIte,Al];omega
   try simp only [A5,Bg] at hc3
   refine AW.ghost (GS.Aay (H2:=_::_::_::_) 2 rfl (congrArg cP (G2 hc3)) rfl) ?_;refine Rf (AW.region (Qp Hb (Qp A0 (A2 ?_))));refine ⟨k+1,?_,?_,Dh⟩
   . exact ⟨hk,fun j y hj hy=>by rcases Ym.1 hj with h | rfl;exact hK.2 j y h hy;rw [hx] at hy;cases hy;exact hc3⟩
   omega
  try simp only [A5,Bg] at hc2
  have hkn:¬k<sg.length:=by simpa using hc2
  have hfd:sg.find? (fun s=>G6 s.1 p.2.1)=none:=iC fun j y hj hy=>hK.2 j y (by omega) hy
  refine AW.exit ?_;refine Br (Br (Gp (Ff (Aa ?_))));refine ⟨(p.1,p.2.1,p.2.2.1,false),?_,?_,Dh⟩
  . exact ⟨hO2,hfu,fun h=>(by cases h),fun _=>(hR.2.2.1 hc1).trans (by rw [aK hn,hfd])⟩
  simp only [hc1,↓reduceIte,Al];omega
 try simp only [A5,Bg] at hc1
 refine AW.exit ?_;refine Br (Ri (Af ?_));refine O3 0 Ak rfl ?_;refine Bz 1 Ak (_::_::_::_) (Rb ?_);refine ⟨.inr rfl,[.agg Ak],Zb 1,_,S2,?_⟩;have h9:=hR.2.2.2 hc1;exact ⟨by rw [h9];rfl,congrArg (fun s=>HO.box bp 116 (cP s)::H) (by rw [h9])⟩
theorem u8_all' {p:UInt8->Bool}(h:(List.range 256).all (fun n=>p (UInt8.ofNat n))=true)(c:UInt8):p c=true:=by
 rw [Ht] at h;have:=h c.toNat (K9.2 c.toNat_lt)
 rwa [UInt8.ofNat_toNat] at this
def kindW:List Ag:=[I4,Gj,Fe]
theorem kind_get (k:Nat)(h:k<3):Lq[k]? = some (.str (kindW.getD k [])):=by
 match k,h with
 | 0,_=>rfl
 | 1,_=>rfl
 | 2,_=>rfl
theorem kind_len (k:Nat)(h:k<3):(kindW.getD k []).length<=1048576:=by
 match k,h with
 | 0,_=>decide
 | 1,_=>decide
 | 2,_=>decide
abbrev fS (st:PS):PS:=Bn J6 (Ck 0 st)
theorem xH {st:PS}{k:Nat}(h:k<3)(hn:∀j,j<k->G6 (kindW.getD j []) (fS st)=false)(hp:G6 (kindW.getD k []) (fS st)=true):Jk st=(⟨2,G7 0 st,[],(k:Int),[],D0 st⟩,adv (fS st)):=by
 unfold Jk
 match k,h with
 | 0,_=>rw [if_pos (show G6 I4 (fS st)=true from hp)];rfl
 | 1,_=>rw [if_neg (Oe.mp (show G6 I4 (fS st)=false from hn 0 (by omega))),if_pos (show G6 Gj (fS st)=true from hp)];rfl
 | 2,_=>rw [if_neg (Oe.mp (show G6 I4 (fS st)=false from hn 0 (by omega))),if_neg (Oe.mp (show G6 Gj (fS st)=false from hn 1 (by omega))),if_pos (show G6 Fe (fS st)=true from hp)];rfl
theorem rG {st:PS}(hn:∀j,j<3->G6 (kindW.getD j []) (fS st)=false):Jk st=(⟨2,G7 0 st,[],0,[],D0 st⟩,Fy 4 (fS st)):=by
 unfold Jk;rw [if_neg (Oe.mp (show G6 I4 (fS st)=false from hn 0 (by omega))),if_neg (Oe.mp (show G6 Gj (fS st)=false from hn 1 (by omega))),if_neg (Oe.mp (show G6 Fe (fS st)=false from hn 2 (by omega)))]
theorem oB:∀(s:Ag) (n:Int),0<=n->n<=1099511627776->0<=(Qq s n).1/\(Qq s n).1<=1099511627776
  | [],n,h0,h1=>⟨h0,h1⟩
  | c::r,n,h0,h1=>by
    unfold Qq;split
    . decide
    . rename_i h
      have hd:0<=dvS c:=by
        have:=u8_all' (p:=fun c=>decide (0<=dvS c)) (by kernel_rfl) c;exact C6 this
      simp only [Ea,Int.not_lt] at h;exact oB r _ (by omega) h
theorem numP_le (st:PS):0<=eA st/\eA st<=1099511627776:=by
 unfold eA;split
 .
  unfold Ve;split
  . decide
  exact oB _ _ (by decide) (by decide)
 decide
theorem p_field (st:PS)(bp:Nat)  (hS:Sz st):Bf Tryz.prog 87 bp 116 (cP st) (cP ((Jk st).2)) [.val (.pointer (some ⟨bp,0,none⟩))] (.agg (cSyn (Jk st).1)):=by
 intro H;refine H7 28 Tryz.func87 rfl ?_;refine Af (D7 In fun b2=>B7 (Qp Bu ?_));refine AOL.Aaz (Cj (k:=1) (by kernel_rfl) rfl rfl (Jy _ _)) rfl rfl ?_;refine Qp Bu ?_;refine Rt (Dc rfl ((N4 _ _ (by simpa using hS)).at (k:=1) (H2:=_::_::_) rfl rfl)) ?_;refine Qp (E2 Ak) (D7 In fun b3=>?_);refine Bz 0 Ak (_::_::_::_) (B7 (Qp Bu ?_));refine Rt (Dc rfl ((Dk _ _ _ (by simpa using hS) (by decide)).at (k:=2) (H2:=_::_::_::_) rfl rfl)) ?_;refine A2 (Cg ?_);refine Qp (Oo (l:=Lq) tok (⟨_,by simp [globals],fun _ h=>h⟩) rfl rfl rfl rfl) ?_;refine Qp A0 (A2 (AW.block ?_));refine AW.loopS (fun (k:Nat)=>(⟨[(0,.val (.pointer (some ⟨bp,0,none⟩))),(2,.val (.pointer (some ⟨b2,0,none⟩))),(3,.val (.pointer (some ⟨b3,0,none⟩))),(13,.agg Lq),(14,.int .i64 (k:Int))],.box b3 25 (cSyn ⟨2,G7 0 st,[],0,[],D0 st⟩) :: .box b2 25 (cSyn He) :: .box bp 116 (cP (fS st))::H,28⟩:St)) (fun k=>k<=3/\∀j,j<k->G6 (kindW.getD j []) (fS st)=false) (fun k=>3-k) (0) ?_ Dh ?_
 . exact ⟨A7 _,fun j hj=>absurd hj (Nat.not_lt_zero _)⟩
 rintro k hR;refine Af (Qp Cv (Re (Gn (fun hc1=>?_) fun hc1=>?_)))
 .
  try simp only [A5,Bg] at hc1
  have hk:k<3:=by have:=C6 hc1;omega
  have hwx:=kind_len k hk;refine B6 (AW.seq (AW.block (Af (Qp A0 ?_))));refine Qp (On (c:=.str (kindW.getD k [])) tok rfl rfl rfl rfl rfl rfl rfl (by omega) (by omega) (kind_get k hk)) ?_;refine Qp Ax (Qp La (B7 (Qp Bu (Qp Gu ?_))));refine Rt (Dc rfl ((Ed _ _ _ (by simpa using hS) (by assumption)).at (k:=2) (H2:=_::_::_::_) rfl rfl)) ?_;refine Bp (fun hc2=>?_) fun hc2=>?_
  .
   try simp only [A5,Bg] at hc2
   refine AW.ghost (GS.Aay (H2:=_::_::_::_) 2 rfl (congrArg cP (Et hc2)) rfl) ?_;refine Af (Qp A0 (Qp Cw ?_));refine Bz 0 Ak (_::_::_::_) (B7 (O3 0 Ak rfl ?_));refine Bz 1 Ak (_::_::_::_) (Ra (A4 (Dw (A4 ?_))));refine ⟨.inr rfl,[.agg Ak],Zb 1,_,S2,?_⟩;have h9:=xH hk hR.2 hc2;exact ⟨by rw [h9];rfl,congrArg (fun s=>HO.box bp 116 (cP s)::H) (by rw [h9])⟩
  try simp only [A5,Bg] at hc2
  refine AW.ghost (GS.Aay (H2:=_::_::_::_) 2 rfl (congrArg cP (G2 hc2)) rfl) ?_;refine Rf (AW.region (Qp Hb (Qp A0 (A2 ?_))));refine ⟨k+1,?_,?_,Dh⟩
  . exact ⟨hk,fun j hj=>by rcases Ym.1 hj with h | rfl;exact hR.2 j h;exact hc2⟩
  omega
 try simp only [A5,Bg] at hc1
 have hkn:¬k<3:=by have:=Er hc1;omega
 refine AW.exit ?_;refine Br (Ri (Af (Qp Bu ?_)));refine qD ((eG _ _ _).at (k:=2) (H2:=_::_::_::_) rfl rfl) (B7 (O3 0 Ak rfl ?_));refine Bz 1 Ak (_::_::_::_) (Rb ?_);refine ⟨.inr rfl,[.agg Ak],Zb 1,_,S2,?_⟩;have h9:=rG (st:=st) (fun j hj=>hR.2 j (by omega));exact ⟨by rw [h9];rfl,congrArg (fun s=>HO.box bp 116 (cP s)::H) (by rw [h9])⟩
theorem eF (st:PS)(bp:Nat)  (hS:Sz st):Bf Tryz.prog 232 bp 116 (cP st) (cP ((Fh st).2)) [.val (.pointer (some ⟨bp,0,none⟩))] (.agg (cSyn (Fh st).1)):=by
 intro H;refine H7 37 Tryz.func232 rfl ?_;refine Af (D7 In fun b2=>B7 (Qp Bu ?_));refine AOL.Aaz (Cj (k:=1) (by kernel_rfl) rfl rfl (Jy _ _)) rfl rfl ?_;refine Qp (E2 Ak) (D7 In fun b3=>?_);refine Bz 0 Ak (_::_::_::_) (Re (AW.block (Af (Qp Bu ?_))));refine Rt (Dc rfl ((Ed _ _ _ (by simpa using hS) (by decide)).at (k:=2) (H2:=_::_::_::_) rfl rfl)) ?_;refine Qp Bh (Bp (fun hc1=>?_) fun hc1=>?_)
 .
  try simp only [A5,Bg] at hc1
  refine AW.ghost (GS.Aay (H2:=_::_::_::_) 2 rfl (congrArg cP (Et hc1)) rfl) ?_;refine AW.region (Qp Bu ?_);refine Rt (Dc rfl ((eH _ _ (by simpa using hS)).at (k:=2) (H2:=_::_::_::_) rfl rfl)) ?_;refine Qp (P_neg rfl rfl (by have:=numP_le (adv st);constructor <;> omega)) ?_;refine Qp Cw ?_;refine Bz 0 Ak (_::_::_::_) (Rk (Af (O3 0 Ak rfl ?_)));refine Bz 1 Ak (_::_::_::_) (Rb ?_);refine ⟨.inr rfl,[.agg Ak],Zb 1,_,S2,?_⟩;refine ⟨?_,congrArg (fun c=>HO.box bp 116 c::H) ?_⟩
  .
   try simp only [Ah,Fh,cSyn,Be,Bw,Ba,hc1,↓reduceIte,Al,Av,Bk]
   try rfl
  try simp only [cP,Fh,hc1,↓reduceIte,Al,Av,Bk]
  try rfl
 try simp only [A5,Bg] at hc1
 refine AW.ghost (GS.Aay (H2:=_::_::_::_) 2 rfl (congrArg cP (G2 hc1)) rfl) ?_;refine Af (Qp Bu ?_);refine AOL.Aaz (Cj (k:=2) (by kernel_rfl) rfl rfl (rZ _ _ _ (by simpa using hS))) rfl rfl ?_;refine Qp Bh (Bp (fun hc2=>?_) fun hc2=>?_)
 .
  try simp only [A5,Bg] at hc2
  refine AW.region (Qp Bu ?_);refine Rt (Dc rfl ((eH _ _ (by simpa using hS)).at (k:=2) (H2:=_::_::_::_) rfl rfl)) ?_;refine Qp Cw ?_;refine Bz 0 Ak (_::_::_::_) (Rk (Af (O3 0 Ak rfl ?_)));refine Bz 1 Ak (_::_::_::_) (Rb ?_);refine ⟨.inr rfl,[.agg Ak],Zb 1,_,S2,?_⟩;refine ⟨?_,congrArg (fun c=>HO.box bp 116 c::H) ?_⟩
  .
   try simp only [Ah,Fh,cSyn,Be,Bw,Ba,hc1,hc2,↓reduceIte,Al,Av,Bk]
   try rfl
  try simp only [cP,Fh,hc1,hc2,↓reduceIte,Al,Av,Bk]
  try rfl
 try simp only [A5,Bg] at hc2
 refine Af (Qp Bu ?_);refine Rt (Dc rfl ((Ed _ _ _ (by simpa using hS) (by decide)).at (k:=2) (H2:=_::_::_::_) rfl rfl)) ?_;refine Qp Bh (Bp (fun hc3=>?_) fun hc3=>?_)
 .
  try simp only [A5,Bg] at hc3
  refine AW.ghost (GS.Aay (H2:=_::_::_::_) 2 rfl (congrArg cP (Et hc3)) rfl) ?_;refine AW.region (Qp Cw ?_);refine Bz 0 Ak (_::_::_::_) (Qp Cw ?_);refine Bz 0 Ak (_::_::_::_) (Rk (Af (O3 0 Ak rfl ?_)));refine Bz 1 Ak (_::_::_::_) (Rb ?_);refine ⟨.inr rfl,[.agg Ak],Zb 1,_,S2,?_⟩;refine ⟨?_,congrArg (fun c=>HO.box bp 116 c::H) ?_⟩
  .
   try simp only [Ah,Fh,cSyn,Be,Bw,Ba,hc1,hc2,hc3,↓reduceIte,Al,Av,Bk]
   try rfl
  try simp only [cP,Fh,hc1,hc2,hc3,↓reduceIte,Al,Av,Bk]
  try rfl
 try simp only [A5,Bg] at hc3
 refine AW.ghost (GS.Aay (H2:=_::_::_::_) 2 rfl (congrArg cP (G2 hc3)) rfl) ?_;refine Af (Qp Bu ?_);refine Rt (Dc rfl ((Ed _ _ _ (by simpa using hS) (by decide)).at (k:=2) (H2:=_::_::_::_) rfl rfl)) ?_;refine Qp Bh (Bp (fun hc4=>?_) fun hc4=>?_)
 .
  try simp only [A5,Bg] at hc4
  refine AW.ghost (GS.Aay (H2:=_::_::_::_) 2 rfl (congrArg cP (Et hc4)) rfl) ?_;refine AW.region (Qp Cw ?_);refine Bz 0 Ak (_::_::_::_) (Rk (Af (O3 0 Ak rfl ?_)));refine Bz 1 Ak (_::_::_::_) (Rb ?_);refine ⟨.inr rfl,[.agg Ak],Zb 1,_,S2,?_⟩;refine ⟨?_,congrArg (fun c=>HO.box bp 116 c::H) ?_⟩
  .
   try simp only [Ah,Fh,cSyn,Be,Bw,Ba,hc1,hc2,hc3,hc4,↓reduceIte,Al,Av,Bk]
   try rfl
  try simp only [cP,Fh,hc1,hc2,hc3,hc4,↓reduceIte,Al,Av,Bk]
  try rfl
 try simp only [A5,Bg] at hc4
 refine AW.ghost (GS.Aay (H2:=_::_::_::_) 2 rfl (congrArg cP (G2 hc4)) rfl) ?_;refine Af (Qp Cw ?_);refine Bz 0 Ak (_::_::_::_) (A2 (AW.region (Qp Bu ?_)));refine Rt (Dc rfl ((kS _ _ _ (by simpa using hS)).at (k:=2) (H2:=_::_::_::_) rfl rfl)) ?_;refine Qp Th (Qp wV (Qp fU (Qp Cw ?_)));refine Bz 0 Ak (_::_::_::_) (Rk (Af (O3 0 Ak rfl ?_)));refine Bz 1 Ak (_::_::_::_) (Rb ?_);refine ⟨.inr rfl,[.agg Ak],Zb 1,_,S2,?_⟩;refine ⟨?_,congrArg (fun c=>HO.box bp 116 c::H) ?_⟩
 .
  try simp only [Ah,Fh,cSyn,Be,Bw,Ba,hc1,hc2,hc3,hc4,↓reduceIte,Al,Av,Bk]
  try rfl
 try simp only [cP,Fh,hc1,hc2,hc3,hc4,↓reduceIte,Al,Av,Bk]
 try rfl
theorem oH (st:PS)(bp:Nat)(z:Syn)(bo:Nat)(hS:Sz st)(R:List HO):Bt Tryz.prog 231 (.box bp 116 (cP st) :: .box bo 25 (cSyn z)::R) [.val (.pointer (some ⟨bp,0,none⟩)),.val (.pointer (some ⟨bo,0,none⟩))] (fun r H'=>r = .tuple []/\H' = .box bp 116 (cP (Ts st).2) :: .box bo 25 (cSyn { z with text:=(Ts st).1.1,name:=(Ts st).1.2 })::R):=by
 refine H7 18 Tryz.func231 rfl ?_;refine Af (Qp Bu ?_);refine Rt (Dc rfl ((Dk _ _ _ (by simpa using hS) (by decide)).at (k:=0) (H2:=_::_::_) rfl rfl)) ?_;refine B7 (Qp Bu (Qp Bu ?_));refine Rt (Dc rfl ((N4 _ _ (by simpa using hS)).at (k:=0) (H2:=_::_::_) rfl rfl)) ?_;refine Qp (Ae rfl) (Qp Cw ?_);refine Bz 1 Ak (_::_::_) (B7 (Qp Bu ?_));refine Rt (Dc rfl ((Dk _ _ _ (by simpa using hS) (by decide)).at (k:=0) (H2:=_::_::_) rfl rfl)) ?_;refine A2 (AW.region (Qp Bu (Qp Bu ?_)));refine Rt (Dc rfl ((N4 _ _ (by simpa using hS)).at (k:=0) (H2:=_::_::_) rfl rfl)) ?_;refine Qp (Ae rfl) (Qp Cw ?_);refine Bz 1 Ak (_::_::_) (AOL.nil ?_);refine ⟨.inl rfl,[],.nil,_,.refl _,?_⟩;exact ⟨rfl,rfl⟩
def I9 (a b:PS):Prop:=b.toks=a.toks/\a.pos<=b.pos/\b.depth=a.depth
theorem I9.refl (a:PS):I9 a a:=⟨rfl,Bc _,rfl⟩
theorem I9.trans {a b c:PS}(h:I9 a b)(k:I9 b c):I9 a c:=⟨k.1.trans h.1,E7 h.2.1 k.2.1,k.2.2.trans h.2.2⟩
theorem I9.adv (a:PS):I9 a (adv a):=⟨rfl,Nat.le_succ _,rfl⟩
theorem I9.fail (e:Int)(a:PS):I9 a (Fy e a):=⟨Lx _ _,Nat.le_of_eq (U0 _ _).symm,P9 _ _⟩
theorem I9.exp (w:Ag)(a:PS):I9 a (Bn w a):=⟨Z0 _ _,pos_expP _ _,mI _ _⟩
theorem I9.tok (k:Int)(a:PS):I9 a (Ck k a):=⟨Z1 _ _,pos_tokP _ _,mJ _ _⟩
def bE (a:PS):Prop:=0<=a.depth/\a.depth<=64
theorem I9.rng {a b:PS}(h:I9 a b)(r:bE a):bE b:=by unfold bE;rw [h.2.2];exact r
theorem C5.goes {F:PS->Syn×PS}(h:C5 F){a:PS}(r:bE a):I9 a (F a).2:=h a r.1 r.2
theorem I9.read {F:PS->Syn×PS}(h:C5 F){a b:PS}(r:bE a)(k:I9 a b):I9 a (F b).2:=k.trans (h.goes (k.rng r))
theorem C5.of {F:PS->Syn×PS}(h:∀st,bE st->I9 st (F st).2):C5 F:=fun st h0 h1=>h st ⟨h0,h1⟩
theorem Rx:C5 Jk:=.of fun st r=>by
 have h:I9 st (Bn J6 (Ck 0 st)):=(I9.tok _ _).trans (.exp _ _);unfold Jk;split
 . exact h.trans (.adv _)
 split
 . exact h.trans (.adv _)
 split
 . exact h.trans (.adv _)
 exact h.trans (.fail _ _)
theorem Tq {F:PS->Syn×PS}(hF:C5 F):∀(n:Nat) (st:PS) (out:List Syn),bE st->I9 st (Hr F n st out).2
  | 0,st,out,r=>.refl _
  | n+1,st,out,r=>by
    unfold Hr;split
    . have h:=I9.read hF r (.adv st)
      exact h.trans (Tq hF n _ _ (h.rng r))
    exact .refl _
theorem Ng {F:PS->Syn×PS}(hF:C5 F){st:PS}(r:bE st):I9 st (Mh F st).2:=by
 have h:=hF.goes r;exact h.trans (Tq hF _ _ _ (h.rng r))
theorem xI:C5 H0:=.of fun st r=>by
 have h:I9 st (Bn H1 (Ck 0 (Bn Dq st))):=((I9.exp _ _).trans (.tok _ _)).trans (.exp _ _);unfold H0;simp only;split
 . exact (h.trans (Ng Rx (h.rng r))).trans (.exp _ _)
 exact h.trans (.exp _ _)
theorem dD (st:PS):I9 st (Fh st).2:=by
 unfold Fh;split
 . exact (I9.adv _).trans (.tok _ _)
 split
 . exact .tok _ _
 split
 . exact .adv _
 split
 . exact .adv _
 exact .tok _ _
theorem fine_const:C5 Fh:=.of fun st _=>dD st
theorem dE (st:PS):I9 st (Ts st).2:=((((I9.exp _ _).trans (.tok _ _)).trans (.exp _ _)).trans (.tok _ _))
@[simp] theorem okS_insP (st : PS) : Sz (Ts st).2 ↔ Sz st := Pe (dE st).1
@[simp] theorem okS_constP (st : PS) : Sz (Fh st).2 ↔ Sz st := Pe (dD st).1
theorem U9 {n:Int}(h0 : -1000<=n)(h1:n<=1000):IntKind.i64.wrap n=n:=by
 unfold IntKind.wrap IntKind.signed IntKind.bits;simp only [↓reduceIte,Fj,Ea,ge_iff_le];split <;> omega
theorem Y7 {read:Syn->PS->Syn×PS}{z:Syn}{st:PS}(r:bE st)(h:∀s:PS,bE s->I9 s (read z s).2):I9 st (Mw read z st).2:=by
 have hf:I9 st (F8 st):=by
  unfold F8;split
  . exact .fail _ _
  exact .refl _
 have e0:Mw read z st=if ((F8 st).bad != 0) then (z,F8 st) else ((read z (adv (deep st))).1,shallow (read z (adv (deep st))).2):=rfl
 rw [e0];split
 . exact hf
 rename_i hb;by_cases hd:64<=st.depth
 .
  exfalso
  apply hb
  unfold F8;rw [if_pos (Gc hd)];exact Md (by decide) _
 have e1:(deep st).depth=st.depth+1:=U9 (by have:=r.1;omega) (by omega);have k:=h (adv (deep st)) ⟨show 0<=(deep st).depth by rw [e1];have:=r.1;omega,show (deep st).depth<=64 by rw [e1];omega⟩;refine ⟨k.1,E7 (Nat.le_succ _) k.2.1,?_⟩;show IntKind.i64.wrap ((read z (adv (deep st))).2.depth-1)=st.depth;rw [k.2.2,show (adv (deep st)).depth=(deep st).depth from rfl,e1,U9 (by have:=r.1;omega) (by omega)];omega
theorem iD {E:PS->Syn×PS}(hE:C5 E):C5 (Ip E):=.of fun st r=>by
 unfold Ip;split
 . exact Y7 r fun s r=>(hE.goes r).trans (.exp _ _)
 split
 .
  simp only;have h:=((I9.adv st).trans (dE _)).trans (.exp C8 _);exact (h.trans (fine_const.goes (h.rng r))).trans (.exp _ _)
 split
 . exact ((I9.adv st).trans (dE _)).trans (.exp _ _)
 split
 . exact (((I9.adv st).trans (.exp _ _)).trans (.tok _ _)).trans (.exp _ _)
 split
 .
  simp only;split
  . exact ((I9.tok _ _).trans (.exp _ _)).trans (.adv _)
  exact ((I9.tok _ _).trans (.exp _ _)).trans (.tok _ _)
 exact fine_const.goes r
theorem Xs {F:PS->Syn×PS}(hF:C5 F){sg:List (Ag×Int)}:∀(n:Nat) (st:PS) (out:Syn),bE st->I9 st (Il F sg n st out).2
  | 0,st,out,r=>.refl _
  | n+1,st,out,r=>by
    unfold Il;split
    . have h:=I9.read hF r (.adv st)
      exact h.trans (Xs hF n _ _ (h.rng r))
    exact .refl _
theorem Rw {F:PS->Syn×PS}(hF:C5 F)(sg:List (Ag×Int)):C5 (Nu F sg):=.of fun st r=>by
 have h:=hF.goes r;exact h.trans (Xs hF _ _ _ (h.rng r))
theorem cY {E:PS->Syn×PS}(hE:C5 E):C5 (Hd E):=Rw (iD hE) sumL
theorem fine_cmp {E:PS->Syn×PS}(hE:C5 E):C5 (Nv E):=.of fun st r=>by
 have h:=(cY hE).goes r;have h2:=(h.trans (.adv _)).trans ((cY hE).goes ((h.trans (.adv _)).rng r));unfold Nv;simp only
 repeat' split
 all_goals first | exact h2 | exact h
theorem Tm {E N:PS->Syn×PS}(hE:C5 E)(hN:C5 N):C5 (Vd E N):=.of fun st r=>by
 unfold Vd;split
 . exact (fine_cmp hE).goes r
 exact Y7 r fun s r=>hN.goes r
theorem uQ {E N:PS->Syn×PS}(hE:C5 E)(hN:C5 N):C5 (orP E N):=Rw (Rw (Tm hE hN) qO) orL
theorem H9:C5 F5:=.of fun st _=>.refl _
theorem Kx:∀n,C5 (Se n).1/\C5 (Se n).2
 | 0=>⟨Tm H9 H9,uQ H9 H9⟩
 | n+1=>⟨Tm (Kx n).2 (Kx n).1,uQ (Kx n).2 (Kx n).1⟩
theorem cW {E:PS->Syn×PS}(hE:C5 E):C5 (Jj E):=.of fun st r=>by
 have h:I9 st (Ck 0 (Ck 0 st)):=(I9.tok _ _).trans (.tok _ _);unfold Jj;simp only;split
 . exact I9.read hE r (h.trans (.adv _))
 exact h
theorem goes_sev {T:PS->Syn×PS}(hT:C5 T)(z:Syn){st:PS}(r:bE st):I9 st (gE T z st).2:=by
 have h:=I9.read hT r (.exp C8 st);exact h.trans (Tq hT _ _ _ (h.rng r))
theorem iI {E T:PS->Syn×PS}(hE:C5 E)(hT:C5 T)(k:Int)(z:Syn){st:PS}(r:bE st):I9 st (Fz E T k z st).2:=by
 unfold Fz;split
 . exact goes_sev hT z r
 split
 . exact .refl _
 split
 . exact I9.read (cW hE) r (.exp _ _)
 split
 . exact (I9.exp _ _).trans (.tok _ _)
 exact I9.read hE r (.exp _ _)
theorem mR {E T:PS->Syn×PS}(hE:C5 E)(hT:C5 T):C5 (X3 E T):=.of fun st r=>by
 unfold X3;split
 .
  refine Y7 r fun s r=>?_
  have h:=I9.read hT r (.exp Fq s);exact (h.trans (iI hE hT _ _ (h.rng r))).trans (.exp _ _)
 exact (cW hE).goes r
theorem Y4 {E:PS->Syn×PS}(hE:C5 E):∀n,C5 (oJ E n)
 | 0=>mR hE H9
 | n+1=>mR hE (Y4 hE n)
theorem dF (st:PS)(k:Int):I9 st (O9 st k).2:=by
 unfold O9;split
 . exact (I9.adv _).trans (.tok _ _)
 exact .refl _
theorem cX {E T:PS->Syn×PS}(hE:C5 E)(hT:C5 T):C5 (I1 E T):=.of fun st r=>by
 have h1:I9 st (Bn Gk (O9 (Ck 0 (Bn Dm st)) (D0 st)).2):=(((I9.exp _ _).trans (.tok _ _)).trans (dF _ _)).trans (.exp _ _);have h2:=(I9.read hT r h1).trans (.exp G9 _);exact (h2.trans (Ng hE (h2.rng r))).trans (.exp _ _)
theorem B2 {α:Type}{c:Bool}{a b:α}(h:c=false):(if c=true then a else b)=b:=iN h
theorem gt2 {α:Type}{l:List α}{k:Nat}(h:k<l.length):∃x,l[k]? = some x:=⟨_,List.getElem?_eq_getElem h⟩
theorem iK {α:Type}{l:List α}{k:Nat}{x:α}(h:l[k]? = some x):k<l.length:=(List.getElem?_eq_some_iff.1 h).1
theorem vB {t:Syn}{k:Nat}(h:k<t.kids.length):t.kids[k]? = some (B5 t k):=by simp [B5,E6,List.getElem?_eq_getElem h]
theorem nG {t:Syn}{i:Nat}{x:Bool}(hi:i<t.kids.length)(hG:Mn [(x,true),((((i:Int)==0)),false)]):0<=(i:Int)-1/\(t.kids.map Cu)[((i:Int)-1).toNat]? = some (cSyn (B5 t (i-1))):=by
 have h0:((i:Int)==0)=false:=hG (((i:Int)==0),false) (by simp);have h1:i≠0:=by intro e;subst e;cases h0
 have hw:(i:Int)-1=((i-1:Nat):Int):=by omega
 rw [hw,Sq];exact ⟨by omega,Im (vB (by omega))⟩
def lP:Pl->AV
 | .only k=>.fn (.func 69) [] [.ptr [.int .i64 k]]
 | .pats=>.fn (.func 120) [] []
 | .exps=>.fn (.func 172) [] []
theorem w_pats (k:Int):Ap Tryz.prog 120 [.int .i64 k] (.bool (isPat k)):=by
 refine Fl 9 Tryz.func120 rfl fun H=>?_
 refine Af (Qp Bh (B7 (Qp A0 (Qp Jt (Qp Co (Qg [] Qw A0 (Qg [(6,_)] Qw fX (Qp Ks (Qp Bh (Rb (Qr (.bool _) ?_)))))))))));rfl
theorem w_exps (k:Int):Ap Tryz.prog 172 [.int .i64 k] (.bool (isExp k)):=by
 refine Fl 9 Tryz.func172 rfl fun H=>?_
 refine Af (Qp Bh (B7 (Qp A0 (Qp Jt (Qp Co (Qg [] Qw A0 (Qg [(6,_)] Qw fX (Qp Ks (Qp Bh (Rb (Qr (.bool _) ?_)))))))))));rfl
theorem T9 (k:Int):Ap Tryz.prog 27 [.int .i64 k] (lP (.only k)):=by
 refine Fl 4 Tryz.func27 rfl fun H=>?_
 refine Af (Qp (Sw (v:=Iq _) (cs:=[Iq _]) rfl rfl rfl) (Qp O2 (B7 (Qp (B0 (l:=[]) (l':=[.ptr _]) rfl rfl) (Qp (Ad (v:=.fn _ _ _) rfl) (Rb (Qr (.fn _ _ _) ?_)))))));rfl
theorem w_only1 (k x:Int):Ap Tryz.prog 69 [.int .i64 x,.ptr [.int .i64 k]] (.bool (x==k)):=by
 refine Fl 7 Tryz.func69 rfl fun H=>?_
 refine Af (Qp Bh (B7 (Qp A0 (Qp Cd (Qp Bq (Qp Bh (Rb (Qr (.bool _) ?_))))))));rfl
theorem pY (p k:Int):Ap Tryz.prog 119 [.int .i64 p,.int .i64 k] (.bool (M3 p k)):=by
 refine Fl 18 Tryz.func119 rfl fun H=>?_
 refine Af (Qp Bh (A2 (Cg (Qp A0 (A2 (AW.block (Af (Qp Bq (Qp Bh (Bp (fun hc1=>Af (Qp A0 (Qp Bq (Qp Co (Qg [] Qw A0 (Qg [(11,_)] Qw Bq (Qp Gv (Qp Bh (Rb (Dw (A4 (Qr (.bool _) ?_)))))))))))) fun hc1=>?_))))))))))
 . simp only [Ah,M3,hc1,↓reduceIte,Al]
 refine Af (Qp Bq (Qp Bh (Bp (fun hc2=>Af (Qp A0 (Qp Bq (Qp Bh (Ra (Qr (.bool _) ?_)))))) fun hc2=>Rf (Af (Qp Bh (Rb (Qr (.bool _) ?_)))))))
 . simp only [Ah,M3,hc1,hc2,↓reduceIte,Al]
 simp only [Ah,M3,hc1,hc2,↓reduceIte,Al]
theorem pl_fn (p:Pl):∃f first cap,lP p = .fn (.func f) first cap/\Tn Tryz.prog f=true/\∀k,Ap Tryz.prog f (first ++ [.int .i64 k]++cap) (.bool (p.at k)):=by
 cases p with
 | only k=>exact ⟨_,_,_,rfl,by kernel_rfl,fun x=>w_only1 k x⟩
 | pats=>exact ⟨_,_,_,rfl,by kernel_rfl,fun x=>w_pats x⟩
 | exps=>exact ⟨_,_,_,rfl,by kernel_rfl,fun x=>w_exps x⟩
theorem w_shaped (t:Syn):Ap Tryz.prog 115 [.agg (cSyn t)] (.bool (Gr t)):=by
 refine Fl 49 Tryz.func115 rfl fun H=>?_
 refine Af (Qp (Ik Ak) (Qp Bh (B7 (Qp (Qf Oq) (Qp Ew ?_)))));refine Qp (G1 t.kids.length rfl rfl (by simp)) ?_;refine Qp Ax (A2 (Cg (Qp (Qf Ak) (Qp Cd (A2 (AW.block ?_))))));refine AW.cut (fun (_:Unit)=>(⟨[(1,.ptr (cSyn t)),(3,.int .i64 (t.kids.length:Int)),(8,.int .i64 t.kind),(9,.bool (((t.kind==0)||(t.kind==1))))],H,49⟩:St)) (fun _=>True) ?_ ?_
 .
  refine Af (Qp Bq (Qp Bh (Bp (fun hc1=>B6 ?_) fun hc1=>AW.region (Qp Bq (Qp Bh (A2 ?_))))))
  .
   refine ⟨(),?_,GS.weaken ⟨rfl,rfl,rfl,congrArg AV.bool (by simp [*]),trivial⟩ (.refl _)⟩
   trivial
  refine ⟨(),?_,GS.weaken ⟨rfl,rfl,rfl,congrArg AV.bool (by simp [*]),trivial⟩ (.refl _)⟩
  trivial
 rintro _ _;refine Gn (fun hc2=>Af (Qp Bh (Ra (Qr (.bool _) ?_)))) fun hc2=>Af (Qp Bq (Qp Bh (Bp (fun hc3=>Af (Qp A0 (Qp Jt (Qp Bh (Ra (Qr (.bool _) ?_)))))) fun hc3=>Af (Qp Bq (Qp Bh (Bp (fun hc4=>Af (Qp A0 (Qp fX (Qp Bh (Ra (Qr (.bool _) ?_)))))) fun hc4=>?_))))))
 . simp only [Ah,Gr,hc2,↓reduceIte,Al]
 . simp only [Ah,Gr,hc2,hc3,↓reduceIte,Al]
 . simp only [Ah,Gr,hc2,hc3,hc4,↓reduceIte,Al]
 refine AW.cut (fun (_:Unit)=>(⟨[(1,.ptr (cSyn t)),(3,.int .i64 (t.kids.length:Int)),(8,.int .i64 t.kind),(20,.bool ((((t.kind==6)||(t.kind==7))||(t.kind==8))))],H,49⟩:St)) (fun _=>True) ?_ ?_
 .
  refine Af (Qp Bq (Qp Bh (Bp (fun hc5=>B6 ?_) fun hc5=>Af (Qp Bq (Qp Bh (Bp (fun hc6=>B6 ?_) fun hc6=>AW.region (Qp Bq (Qp Bh (A2 ?_)))))))))
  .
   refine ⟨(),?_,GS.weaken ⟨rfl,rfl,rfl,congrArg AV.bool (by simp [*]),trivial⟩ (.refl _)⟩
   trivial
  .
   refine ⟨(),?_,GS.weaken ⟨rfl,rfl,rfl,congrArg AV.bool (by simp [*]),trivial⟩ (.refl _)⟩
   trivial
  refine ⟨(),?_,GS.weaken ⟨rfl,rfl,rfl,congrArg AV.bool (by simp [*]),trivial⟩ (.refl _)⟩
  trivial
 rintro _ _;refine Gn (fun hc7=>Af (Qp A0 (Qp Jt (Qp Bh (Ra (Qr (.bool _) ?_)))))) fun hc7=>?_
 . simp only [Ah,Gr,hc2,hc3,hc4,hc7,↓reduceIte,Al]
 refine AW.cut (fun (_:Unit)=>(⟨[(1,.ptr (cSyn t)),(3,.int .i64 (t.kids.length:Int)),(8,.int .i64 t.kind),(26,.bool ((((t.kind==9)||(t.kind==11))||(t.kind==18))))],H,49⟩:St)) (fun _=>True) ?_ ?_
 .
  refine Af (Qp Bq (Qp Bh (Bp (fun hc8=>B6 ?_) fun hc8=>Af (Qp Bq (Qp Bh (Bp (fun hc9=>B6 ?_) fun hc9=>AW.region (Qp Bq (Qp Bh (A2 ?_)))))))))
  .
   refine ⟨(),?_,GS.weaken ⟨rfl,rfl,rfl,congrArg AV.bool (by simp [*]),trivial⟩ (.refl _)⟩
   trivial
  .
   refine ⟨(),?_,GS.weaken ⟨rfl,rfl,rfl,congrArg AV.bool (by simp [*]),trivial⟩ (.refl _)⟩
   trivial
  refine ⟨(),?_,GS.weaken ⟨rfl,rfl,rfl,congrArg AV.bool (by simp [*]),trivial⟩ (.refl _)⟩
  trivial
 rintro _ _;refine Gn (fun hc10=>Af (Qp A0 (Qp Bq (Qp Bh (Ra (Qr (.bool _) ?_)))))) fun hc10=>?_
 . simp only [Ah,Gr,hc2,hc3,hc4,hc7,hc10,↓reduceIte,Al]
 refine AW.cut (fun (_:Unit)=>(⟨[(1,.ptr (cSyn t)),(3,.int .i64 (t.kids.length:Int)),(8,.int .i64 t.kind),(32,.bool ((((t.kind==10)||(t.kind==12))||(t.kind==17))))],H,49⟩:St)) (fun _=>True) ?_ ?_
 .
  refine Af (Qp Bq (Qp Bh (Bp (fun hc11=>B6 ?_) fun hc11=>Af (Qp Bq (Qp Bh (Bp (fun hc12=>B6 ?_) fun hc12=>AW.region (Qp Bq (Qp Bh (A2 ?_)))))))))
  .
   refine ⟨(),?_,GS.weaken ⟨rfl,rfl,rfl,congrArg AV.bool (by simp [*]),trivial⟩ (.refl _)⟩
   trivial
  .
   refine ⟨(),?_,GS.weaken ⟨rfl,rfl,rfl,congrArg AV.bool (by simp [*]),trivial⟩ (.refl _)⟩
   trivial
  refine ⟨(),?_,GS.weaken ⟨rfl,rfl,rfl,congrArg AV.bool (by simp [*]),trivial⟩ (.refl _)⟩
  trivial
 rintro _ _;refine Gn (fun hc13=>Af (Qp A0 (Qp Bq (Qp Bh (Ra (Qr (.bool _) ?_)))))) fun hc13=>?_
 . simp only [Ah,Gr,hc2,hc3,hc4,hc7,hc10,hc13,↓reduceIte,Al]
 refine Af (Qp Bq (Qp Bh (Bp (fun hc14=>Cg (Qp (Qf Yn) (Qp Cd (Qp Bq (Bp (fun hc15=>Af (Qp A0 (Qp Bq (Qp Bh (Rc (Dw (A4 (Qr (.bool _) ?_)))))))) fun hc15=>B6 (Af (Qp A0 (Qp Bq (Qp Bh (Ra (Qr (.bool _) ?_))))))))))) fun hc14=>?_)))
 . simp only [Ah,Gr,hc2,hc3,hc4,hc7,hc10,hc13,hc14,hc15,↓reduceIte,Al]
 . simp only [Ah,Gr,hc2,hc3,hc4,hc7,hc10,hc13,hc14,hc15,↓reduceIte,Al]
 refine Rf (Af (Qp A0 (Qp Bq (Qp Bh (Rb (Qr (.bool _) ?_))))));simp only [Ah,Gr,hc2,hc3,hc4,hc7,hc10,hc13,hc14,↓reduceIte,Al]
theorem w_uses (k:Int):Ap Tryz.prog 169 [.int .i64 k] (.tuple [.bool (Oy k).1,.bool (Oy k).2]):=by
 refine Fl 15 Tryz.func169 rfl fun H=>?_
 refine Af (Qp Bh (Qp Bh (A2 (Cg (Qp A0 (A2 (AW.block ?_)))))));refine AW.cut (fun (_:Unit)=>(⟨[(4,.int .i64 k),(5,.bool ((((k==5)||(k==14))||(k==16))))],H,15⟩:St)) (fun _=>True) ?_ ?_
 .
  refine Af (Qp Bq (Qp Bh (Bp (fun hc1=>B6 ?_) fun hc1=>Af (Qp Bq (Qp Bh (Bp (fun hc2=>B6 ?_) fun hc2=>AW.region (Qp Bq (Qp Bh (A2 ?_)))))))))
  .
   refine ⟨(),?_,GS.weaken ⟨rfl,congrArg AV.bool (by simp [*]),trivial⟩ (.refl _)⟩
   trivial
  .
   refine ⟨(),?_,GS.weaken ⟨rfl,congrArg AV.bool (by simp [*]),trivial⟩ (.refl _)⟩
   trivial
  refine ⟨(),?_,GS.weaken ⟨rfl,congrArg AV.bool (by simp [*]),trivial⟩ (.refl _)⟩
  trivial
 rintro _ _;refine Gn (fun hc3=>Af (Qp Bh (Qp Bh (Ra (Nb (.bool _) (.bool _) ?_))))) fun hc3=>?_
 . simp only [Ah,Oy,hc3,↓reduceIte,Al]
 refine AW.cut (fun (_:Unit)=>(⟨[(4,.int .i64 k),(9,.bool ((((((k==1)||(k==2))||(k==3))||(k==4))||(k==15))))],H,15⟩:St)) (fun _=>True) ?_ ?_
 .
  refine Af (Qp Bq (Qp Bh (Bp (fun hc4=>B6 ?_) fun hc4=>Af (Qp Bq (Qp Bh (Bp (fun hc5=>B6 ?_) fun hc5=>Af (Qp Bq (Qp Bh (Bp (fun hc6=>B6 ?_) fun hc6=>Af (Qp Bq (Qp Bh (Bp (fun hc7=>B6 ?_) fun hc7=>AW.region (Qp Bq (Qp Bh (A2 ?_)))))))))))))))
  .
   refine ⟨(),?_,GS.weaken ⟨rfl,congrArg AV.bool (by simp [*]),trivial⟩ (.refl _)⟩
   trivial
  .
   refine ⟨(),?_,GS.weaken ⟨rfl,congrArg AV.bool (by simp [*]),trivial⟩ (.refl _)⟩
   trivial
  .
   refine ⟨(),?_,GS.weaken ⟨rfl,congrArg AV.bool (by simp [*]),trivial⟩ (.refl _)⟩
   trivial
  .
   refine ⟨(),?_,GS.weaken ⟨rfl,congrArg AV.bool (by simp [*]),trivial⟩ (.refl _)⟩
   trivial
  refine ⟨(),?_,GS.weaken ⟨rfl,congrArg AV.bool (by simp [*]),trivial⟩ (.refl _)⟩
  trivial
 rintro _ _;refine Gn (fun hc8=>Af (Qp Bh (Qp Bh (Ra (Nb (.bool _) (.bool _) ?_))))) fun hc8=>Rf (Af (Qp Bh (Qp Bh (Rb (Nb (.bool _) (.bool _) ?_)))))
 . simp only [Ah,Oy,hc3,hc8,↓reduceIte,Al]
 simp only [Ah,Oy,hc3,hc8,↓reduceIte,Al]
theorem w_is (s:Ag)(hl:s.length<=1048576):Ap Tryz.prog 168 [.str s] (.bool (bC s)):=by
 refine Fl 6 Tryz.func168 rfl fun H=>?_
 refine Af (Qp Bh (B7 (Qp Gu (Qp (Qc rfl (c20 s hl)) (Qp Bq (Qp Bh (Rb (Qr (.bool _) ?_))))))));rfl
theorem w_named (t:Syn)(ht:t.text.length<=1048576)(hn:t.name.length<=1048576):Ap Tryz.prog 116 [.agg (cSyn t)] (.bool (We t)):=by
 refine Fl 48 Tryz.func116 rfl fun H=>?_
 refine Af (Qp (Ik Ak) (Qp Bh (B7 (Qp (Ad (v:=.fn _ _ _) rfl) (B7 (Qp (Qf Ak) (Qp Cd (Qp (Qc rfl (w_uses t.kind)) (Qp Th (Qp fU (Qp fU (Qp Bh (Qp Bh (A2 (Cg (Qp Co (Qp Co (Qg [] Qw (Ab (v:=.fn _ _ _) rfl) (Qg [] Qw (Qf Vx) (Qg [(15,_)] Qw F4 ?_))))))))))))))))))));refine Yh [(16,_),(14,_)] Yw (fun hG=>O1 (by kernel_rfl) rfl rfl rfl (w_is t.text ht)) ?_;refine Qg [(17,_)] Qw J4 (Qp Ks (Qp Co (Qg [] Qw (Qf Ak) (Qg [(21,_)] Qw Cd (Qg [(22,_)] Qw C3 (Qg [(23,_)] Qw Co (Qg [] Qw (Qf Vx) (Qg [(25,_)] Qw F4 ?_))))))));refine Qg [(26,_)] Qw (Ge rfl rfl) (Qg [(24,_),(27,_)] Qw Gv (Qp Ks (Bp (fun hc1=>Af (Qp Bh (Rc (Qr (.bool _) ?_)))) fun hc1=>B6 (Af (Qp Co (Qp J4 (Qp Co (Qg [] Qw (Ab (v:=.fn _ _ _) rfl) (Qg [] Qw (Qf nB) (Qg [(34,_)] Qw F4 ?_))))))))))
 .
  simp only [Ah,We];rw [if_pos hc1]
 refine Yh [(35,_),(33,_)] Yw (fun hG=>O1 (by kernel_rfl) rfl rfl rfl (w_is t.name hn)) ?_;refine Qp Gv (Qp Co (Qg [] Qw (Qf Ak) (Qg [(39,_)] Qw Cd (Qg [(40,_)] Qw Bq (Qg [(41,_)] Qw Co (Qg [] Qw (Qf nB) (Qg [(43,_)] Qw F4 (Qg [(44,_)] Qw (Dx rfl rfl) (Qg [(42,_),(45,_)] Qw Ks (Qp Gv (Qp Bh (Rb (Qr (.bool _) ?_)))))))))))));simp only [Ah,We];rw [B2 hc1]
theorem w_const (t:Syn):Ap Tryz.prog 170 [.agg (cSyn t)] (.int .i64 (Kv t)):=by
 refine Fl 37 Tryz.func170 rfl fun H=>?_
 refine Af (Qp (Ik Ak) (Qp Ax (B7 (Qp Ax (Qp Ax (A2 (Cg (Qp (Qf nB) ?_))))))));refine Qp F4 (A2 (AW.block (Af (Qp (Dx rfl rfl) (Qp Bh (Bp (fun hc1=>Rf (AW.seq (AW.block (Af (Qp (Qf Yn) (Qp Cd (Qp A0 (Qp Cv (Qp Co (Qg [] Qw (Qf Yn) (Qg [(28,_)] Qw Cd (Qg [] Qw A0 ?_)))))))))))) fun hc1=>?_))))))
 .
  refine Qg [(29,_),(30,_)] Yw Hc (Qp Gv (Qp Bh (Bp (fun hc2=>Af (Qp Ax (Ra (Qr (Iq _) ?_)))) fun hc2=>Af (Qp (Qf Vx) (Qp F4 (Qp (Ge rfl rfl) (Qp Bh (Bp (fun hc3=>Af (Qp Ax (Ra (Qr (Iq _) ?_)))) fun hc3=>Rf (Af (Qp Ax (Rb (Qr (Iq _) ?_))))))))))))
  .
   simp only [Ah,Kv];rw [if_pos hc1,if_pos hc2]
  .
   simp only [Ah,Kv];rw [if_pos hc1,B2 hc2,if_pos hc3]
  simp only [Ah,Kv];rw [if_pos hc1,B2 hc2,B2 hc3]
 refine Af (Qp (Dx rfl rfl) (Qp Bh (Bp (fun hc4=>AW.region (Qp Ax (Qp Ax (Rk (AW.seq (AW.block (Af (Qp (Qf Yn) (Qp Cd (Qp A0 (Qp Cv (Qp Co (Qg [] Qw (Qf Yn) (Qg [(28,_)] Qw Cd (Qg [] Qw A0 ?_))))))))))))))) fun hc4=>?_)))
 .
  refine Qg [(29,_),(30,_)] Yw Hc (Qp Gv (Qp Bh (Bp (fun hc5=>Af (Qp Ax (Ra (Qr (Iq _) ?_)))) fun hc5=>Af (Qp (Qf Vx) (Qp F4 (Qp (Ge rfl rfl) (Qp Bh (Bp (fun hc6=>Af (Qp Ax (Ra (Qr (Iq _) ?_)))) fun hc6=>Rf (Af (Qp Ax (Rb (Qr (Iq _) ?_))))))))))))
  .
   simp only [Ah,Kv];rw [B2 hc1,if_pos hc4,if_pos hc5]
  .
   simp only [Ah,Kv];rw [B2 hc1,if_pos hc4,B2 hc5,if_pos hc6]
  simp only [Ah,Kv];rw [B2 hc1,if_pos hc4,B2 hc5,B2 hc6]
 refine Af (Qp (Dx rfl rfl) (Qp Bh (Bp (fun hc7=>?_) fun hc7=>Af (Qp Ax (Ra (Qr (Iq _) ?_))))))
 .
  refine AW.seq (AW.block (Af (Qp (Qf Vx) (Qp F4 (Qp (Cz tok rfl rfl rfl rfl) (Qp Hc (Qp Bh (Bp (fun hc8=>Af (Qp Ax (Ra (Dw (A4 (Qr (Iq _) ?_)))))) fun hc8=>Af (Qp (Qf Yn) (Qp Cd (Qp C3 (Qp Bh (Bp (fun hc9=>Af (Qp Ax (Ra (Dw (A4 (Qr (Iq _) ?_)))))) fun hc9=>Rf (Af (Qp Ax (Ra (Qr (Iq _) ?_)))))))))))))))))
  .
   simp only [Ah,Kv];rw [B2 hc1,B2 hc4,if_pos hc7,if_pos hc8]
  .
   simp only [Ah,Kv];rw [B2 hc1,B2 hc4,if_pos hc7,B2 hc8,if_pos hc9]
  simp only [Ah,Kv];rw [B2 hc1,B2 hc4,if_pos hc7,B2 hc8,B2 hc9]
 simp only [Ah,Kv];rw [B2 hc1,B2 hc4,B2 hc7]
theorem w_number (t:Syn):Ap Tryz.prog 171 [.agg (cSyn t)] (.int .i64 (Sf t)):=by
 refine Fl 27 Tryz.func171 rfl fun H=>?_
 refine Af (Qp (Ik Ak) (Qp Ax (B7 (Qp Ax (Qp Ax (Qp Ax (A2 (Cg ?_))))))));refine Qp (Qf Ak) (Qp Cd (A2 (AW.block (Af (Qp Bq (Qp Bh (Bp (fun hc1=>AW.region (Qp Ax (Qp Ax (Qp Ax (Rk (Cg (Qp (Qf Yn) ?_))))))) fun hc1=>Af (Qp Bq (Qp Bh (Bp (fun hc3=>AW.region (Qp Ax (Qp Ax (Qp Ax (Rk (Cg (Qp (Qf Yn) ?_))))))) fun hc3=>?_))))))))))
 .
  refine Qp Cd (Qp A0 (Qp Cv (Qp Co (Qg [] Qw (Qf Yn) (Qg [(21,_)] Qw Cd (Qg [] Qw A0 (Qg [(22,_),(23,_)] Yw Hc (Qp Gv (Bp (fun hc2=>Af (Qp A0 (Qp Ax (Rc (Qr (Iq _) ?_))))) fun hc2=>B6 (Af (Qp Ax (Rb (Qr (Iq _) ?_)))))))))))))
  . simp only [Ah,Sf,hc1,hc2,↓reduceIte,Al]
  simp only [Ah,Sf,hc1,hc2,↓reduceIte,Al]
 .
  refine Qp Cd (Qp A0 (Qp Cv (Qp Co (Qg [] Qw (Qf Yn) (Qg [(21,_)] Qw Cd (Qg [] Qw A0 (Qg [(22,_),(23,_)] Yw Hc (Qp Gv (Bp (fun hc4=>Af (Qp A0 (Qp Ax (Rc (Qr (Iq _) ?_))))) fun hc4=>B6 (Af (Qp Ax (Rb (Qr (Iq _) ?_)))))))))))))
  . simp only [Ah,Sf,hc1,hc3,hc4,↓reduceIte,Al]
  simp only [Ah,Sf,hc1,hc3,hc4,↓reduceIte,Al]
 refine Af (Qp Bq (Qp Bh (Bp (fun hc5=>AW.region (Qp Ax (Qp Ax (Qp Ax (Rk (Cg (Qp (Qf Yn) ?_))))))) fun hc5=>Af (Qp Bq (Qp Bh (Bp (fun hc7=>AW.region (Qp Ax (Qp Ax (Rk (Cg (Qp (Qf Yn) (Qp Cd ?_))))))) fun hc7=>?_))))))
 .
  refine Qp Cd (Qp A0 (Qp Cv (Qp Co (Qg [] Qw (Qf Yn) (Qg [(21,_)] Qw Cd (Qg [] Qw A0 (Qg [(22,_),(23,_)] Yw Hc (Qp Gv (Bp (fun hc6=>Af (Qp A0 (Qp Ax (Rc (Qr (Iq _) ?_))))) fun hc6=>B6 (Af (Qp Ax (Rb (Qr (Iq _) ?_)))))))))))))
  . simp only [Ah,Sf,hc1,hc3,hc5,hc6,↓reduceIte,Al]
  simp only [Ah,Sf,hc1,hc3,hc5,hc6,↓reduceIte,Al]
 .
  refine Qp A0 (Qp Cv (Qp Co (Qg [] Qw (Qf Yn) (Qg [(21,_)] Qw Cd (Qg [] Qw A0 (Qg [(22,_),(23,_)] Yw Hc (Qp Gv (Bp (fun hc8=>Af (Qp A0 (Qp Ax (Rc (Qr (Iq _) ?_))))) fun hc8=>B6 (Af (Qp Ax (Rb (Qr (Iq _) ?_))))))))))))
  . simp only [Ah,Sf,hc1,hc3,hc5,hc7,hc8,↓reduceIte,Al]
  simp only [Ah,Sf,hc1,hc3,hc5,hc7,hc8,↓reduceIte,Al]
 refine Rf (Cg (Qp (Qf Yn) (Qp Cd (Qp A0 (Qp Cv (Qp Co (Qg [] Qw (Qf Yn) (Qg [(21,_)] Qw Cd (Qg [] Qw A0 (Qg [(22,_),(23,_)] Yw Hc (Qp Gv (Bp (fun hc9=>Af (Qp A0 (Qp Ax (Rc (Qr (Iq _) ?_))))) fun hc9=>B6 (Af (Qp Ax (Rb (Qr (Iq _) ?_))))))))))))))))
 . simp only [Ah,Sf,hc1,hc3,hc5,hc7,hc9,↓reduceIte,Al]
 simp only [Ah,Sf,hc1,hc3,hc5,hc7,hc9,↓reduceIte,Al]
theorem w_fields (t:Syn):Ap Tryz.prog 117 [.agg (cSyn t)] (.int .i64 (Eu t)):=by
 refine Fl 38 Tryz.func117 rfl fun H=>?_
 refine Af (Qp (Ik Ak) (Qp Ax (A2 (Cg (Qp (Qf Ak) (Qp Cd (Qp Bq (Bp (fun hc1=>Af (Qp (C1 Ak) (Qp (Qc rfl (w_const t)) (Qp Ax (Rc (Qr (Iq _) ?_)))))) fun hc1=>?_))))))))
 .
  simp only [Ah,Eu];rw [if_pos hc1]
 refine B6 (Cg (Qp (C1 Ak) (Qp (Qc rfl (w_number t)) (Qp Ax (B7 (Qp A0 (Qp C3 (Bp (fun hc2=>Af (Qp A0 (Qp Ax (Rc (Qr (Iq _) ?_))))) fun hc2=>?_))))))))
 .
  simp only [Ah,Eu];rw [B2 hc1,if_pos hc2]
 refine B6 (Cg (Qp (Qf Ak) (Qp Cd (Qp (Qc rfl (w_uses t.kind)) (Qp Th (Qp fU (Qp fU (Qp Bh (Qp Bh (B7 (Qp Co (Qp J4 (Qp Co (Qg [] Qw (Qf Vx) (Qg [(25,_)] Qw F4 ?_)))))))))))))));refine Qg [(26,_)] Qw (Ge rfl rfl) (Qp Ks (Qp Co (Qg [] Qw Co (Qg [(30,_)] Qw J4 (Qg [(31,_)] Qw Co (Qg [] Qw (Qf nB) (Qg [(33,_)] Qw F4 (Qg [(34,_)] Qw (Ge rfl rfl) (Qg [(32,_),(35,_)] Qw Ks (Qp Gv (Bp (fun hc3=>Af (Qp Ax (Rc (Qr (Iq _) ?_)))) fun hc3=>B6 (Af (Qp Ax (Rb (Qr (Iq _) ?_)))))))))))))))
 .
  simp only [Ah,Eu];rw [B2 hc1,B2 hc2,if_pos hc3]
 simp only [Ah,Eu];rw [B2 hc1,B2 hc2,B2 hc3]
theorem w_kid (t:Syn)(i:Nat)(hi:i<t.kids.length)(hl:t.kids.length<=1048576):Ap Tryz.prog 118 [.agg (cSyn t),.int .i64 (i:Int)] (lP (Id t i)):=by
 refine Fl 59 Tryz.func118 rfl fun H=>?_
 refine Af (Qp (Ik Ak) (Qp O2 (A2 (Cg (Qp (Qf Ak) (Qp Cd (A2 (AW.block (Af (Qp Bq (Qp Bh (Bp (fun hc1=>Cg (Qp (Qf Oq) (Qp Ew (Qp A0 ?_)))) fun hc1=>Af (Qp Bq (Qp Bh (Bp (fun hc3=>Af (Qp (Qc rfl (T9 _)) (Qp (Ad (v:=.fn _ _ _) rfl) (Ra (Qr (.fn _ _ _) ?_))))) fun hc3=>?_)))))))))))))))
 .
  refine Qp (E9 (cSyn (B5 t i)) rfl rfl (by omega) (Im (vB hi))) ?_;refine Qp (Qf Ak) (Qp Cd (Qp Bq (Qp Co (Qg [] Qw A0 (Qg [(17,_)] Qw Bq (Qg [(18,_)] Qw Co (Qg [] Qw (Qf Oq) (Qg [(20,_)] Qw Ew (Qg [] Qw A0 ?_)))))))));refine Yh [(22,_)] Qw (fun hG=>zU rfl rfl rfl (by constructor <;> omega)) ?_;refine Yh [(21,_),(23,_)] (Yv rfl Es Es) (fun hG=>E9 (cSyn (B5 t (i-1))) rfl rfl ((nG hi hG).1) ((nG hi hG).2)) ?_;refine Qg [(24,_)] Qw (Qf Ak) (Qg [(25,_)] Qw Cd (Qg [(26,_)] Qw Bq (Qg [(19,_),(27,_)] Qw Gv (Qp Ks (Bp (fun hc2=>Af (Qp (Qc rfl (T9 _)) (Qp (Ad (v:=.fn _ _ _) rfl) (Rc (Dw (A4 (Qr (.fn _ _ _) ?_))))))) fun hc2=>B6 (Af (Qp (Qc rfl (T9 _)) (Qp (Ad (v:=.fn _ _ _) rfl) (Ra (Qr (.fn _ _ _) ?_))))))))))
  . simp only [Ah,Id,lP,hc1,hc2,↓reduceIte,Al]
  simp only [Ah,Id,lP,hc1,hc2,↓reduceIte,Al]
 . simp only [Ah,Id,lP,hc1,hc3,↓reduceIte,Al]
 refine Af (Qp Bq (Qp Bh (Bp (fun hc4=>Cg (Qp A0 (A2 (AW.block (Af (Qp Bq (Qp Bh (Bp (fun hc5=>Af (Qp (Qc rfl (T9 _)) (Qp (Ad (v:=.fn _ _ _) rfl) (Ra (Dw (A4 (Qr (.fn _ _ _) ?_))))))) fun hc5=>Af (Qp Bq (Qp Bh (Bp (fun hc6=>Af (Qp (Ad (v:=.fn _ _ _) rfl) (Ra (Dw (A4 (Qr (.fn _ _ _) ?_)))))) fun hc6=>Rf (Af (Qp (Ad (v:=.fn _ _ _) rfl) (Ra (Qr (.fn _ _ _) ?_))))))))))))))) fun hc4=>?_)))
 . simp only [Ah,Id,lP,hc1,hc3,hc4,hc5,↓reduceIte,Al]
 . simp only [Ah,Id,lP,hc1,hc3,hc4,hc5,hc6,↓reduceIte,Al]
 . simp only [Ah,Id,lP,hc1,hc3,hc4,hc5,hc6,↓reduceIte,Al]
 refine Af (Qp Bq (Qp Bh (Bp (fun hc7=>Af (Qp A0 (Qp Bq (Bp (fun hc8=>Af (Qp (Qc rfl (T9 _)) (Qp (Ad (v:=.fn _ _ _) rfl) (Ra (Qr (.fn _ _ _) ?_))))) fun hc8=>Rf (Af (Qp (Ad (v:=.fn _ _ _) rfl) (Rb (Qr (.fn _ _ _) ?_)))))))) fun hc7=>?_)))
 . simp only [Ah,Id,lP,hc1,hc3,hc4,hc7,hc8,↓reduceIte,Al]
 . simp only [Ah,Id,lP,hc1,hc3,hc4,hc7,hc8,↓reduceIte,Al]
 refine Af (Qp Bq (Qp Bh (Bp (fun hc9=>Af (Qp A0 (Qp Bq (Bp (fun hc10=>Af (Qp (Ad (v:=.fn _ _ _) rfl) (Ra (Qr (.fn _ _ _) ?_)))) fun hc10=>Rf (Af (Qp (Ad (v:=.fn _ _ _) rfl) (Rb (Qr (.fn _ _ _) ?_)))))))) fun hc9=>Af (Qp Bq (Qp Bh (Bp (fun hc11=>Af (Qp (Qc rfl (T9 _)) (Qp (Ad (v:=.fn _ _ _) rfl) (Ra (Qr (.fn _ _ _) ?_))))) fun hc11=>?_))))))
 . simp only [Ah,Id,lP,hc1,hc3,hc4,hc7,hc9,hc10,↓reduceIte,Al]
 . simp only [Ah,Id,lP,hc1,hc3,hc4,hc7,hc9,hc10,↓reduceIte,Al]
 . simp only [Ah,Id,lP,hc1,hc3,hc4,hc7,hc9,hc11,↓reduceIte,Al]
 refine AW.cut (fun (_:Unit)=>(⟨[(2,.ptr (cSyn t)),(55,.bool ((((t.kind==5)||(t.kind==17))||(t.kind==18))))],H,59⟩:St)) (fun _=>True) ?_ ?_
 .
  refine Af (Qp Bq (Qp Bh (Bp (fun hc12=>B6 ?_) fun hc12=>Af (Qp Bq (Qp Bh (Bp (fun hc13=>B6 ?_) fun hc13=>AW.region (Qp Bq (Qp Bh (A2 ?_)))))))))
  .
   refine ⟨(),?_,GS.weaken ⟨rfl,congrArg AV.bool (by simp [*]),trivial⟩ (.refl _)⟩
   trivial
  .
   refine ⟨(),?_,GS.weaken ⟨rfl,congrArg AV.bool (by simp [*]),trivial⟩ (.refl _)⟩
   trivial
  refine ⟨(),?_,GS.weaken ⟨rfl,congrArg AV.bool (by simp [*]),trivial⟩ (.refl _)⟩
  trivial
 rintro _ _;refine Gn (fun hc14=>Af (Qp (Ad (v:=.fn _ _ _) rfl) (Ra (Qr (.fn _ _ _) ?_)))) fun hc14=>Rf (Af (Qp (Ad (v:=.fn _ _ _) rfl) (Rb (Qr (.fn _ _ _) ?_))))
 . simp only [Ah,Id,lP,hc1,hc3,hc4,hc7,hc9,hc11,hc14,↓reduceIte,Al]
 simp only [Ah,Id,lP,hc1,hc3,hc4,hc7,hc9,hc11,hc14,↓reduceIte,Al]
end Go.Proofs.YtibcelnfkhdjaaaGreatDoor
namespace Go.Aw
open Go
section
variable {P:Program} {T:List (Nat×TD)} {d:Option Nat} {ty:TypeId} {pos:String} {aft:Array Edge} {gd:Option (Nat×Bool)} {ρ:Operand->AV} {K:List HO->Prop}
theorem lW {t:TypeId}{m k v:Operand}{kt et b i:Nat}{td tk:TD}{n:List UInt8}{ks:List (List UInt8)}{x:Int}{H H2:List HO}(hT:H6 P T)(ht:Bl T t=some td)(hk:td.kind = .map kt et)(htk:Bl T kt=some tk)(hkk:tk.kind = .str)
  (hm:ρ m = .val (.map (some b))) (hkey:ρ k = .str n) (hv:ρ v = .int .i64 x) (hH:H[i]? = some (.smap b (Pj ks))) (hx:x=(ks.length:Int)) (hnew:ks.contains n=false) (hH2:H.set i (.smap b (Pj (ks ++ [n])))=H2) :
  L7 P ⟨d,.mapUpdate t m k v,ty,pos,aft,gd⟩ ρ H (fun y H'=>y = .junk/\H'=H2):=by
 subst hx;exact aE hT ht hk htk hkk hm hkey hv hH (smI_new hnew) (by rw [smI_add];exact hH2)
end
end Go.Aw
namespace Go.Proofs.YtibcelnfkhdjaaaGreatDoor
open Go Go.Aw
def Vz {α:Type}(p:α->Bool):List α->Int
 | []=>-1
 | a::r=>if p a then 0 else if Vz p r<0 then -1 else Vz p r+1
theorem dG {α:Type}(p:α->Bool):∀l:List α,(-1<=Vz p l)/\decide (0<=Vz p l)=l.any p
  | []=>⟨Fr _,rfl⟩
  | a::r=>by
    obtain ⟨h0,h1⟩:=dG p r;rw [Vz,L0];cases h:p a with
    | true=>exact ⟨by rw [if_pos rfl];decide,by rw [if_pos rfl];rfl⟩
    | false=>
      rw [if_neg (by decide),Ke,<-h1];by_cases h2:Vz p r<0
      . rw [if_pos h2]
        exact ⟨Fr _,by rw [decide_eq_decide];constructor <;> intro h <;> omega⟩
      . rw [if_neg h2]
        exact ⟨by omega,by rw [decide_eq_decide];constructor <;> intro h <;> omega⟩
theorem dH {α:Type}{p:α->Bool}:∀{l:List α} {k:Nat} {a:α},l[k]? = some a->(l.take k).any p=false->p a=true->Vz p l=(k:Int)
  | [],k,a,h,_,_=>by simp at h
  | b::r,0,a,h,_,hp=>by simp at h;subst h;rw [Vz,if_pos hp];rfl
  | b::r,k+1,a,h,hn,hp=>by
    rw [Ue,L0,Ft] at hn;have ih:=dH (l:=r) (k:=k) (by simpa using h) hn.2 hp;rw [Vz,if_neg (by rw [hn.1];decide),ih,if_neg (by omega)];omega
theorem Y8 {α:Type}{p:α->Bool}:∀{l:List α},l.any p=false->Vz p l = -1
  | [],_=>rfl
  | b::r,h=>by
    rw [L0,Ft] at h;rw [Vz,if_neg (by rw [h.1];decide),Y8 h.2];rfl
theorem dI {α:Type}(f:α->Ag)(n:Ag):∀l:List α,Vz (fun a=>f a==n) l=Kb (l.map f) n
  | []=>rfl
  | a::r=>by
    have ih:=dI f n r;unfold Kb at ih ⊢;rw [Vz,Be,List.contains_cons,List.idxOf_cons,ih];by_cases h:f a=n
    . subst h;simp
    . have h1:(f a==n)=false:=by rw [Fs];exact h
      have h2:(n==f a)=false:=by rw [Fs];exact fun e=>h e.symm
      rw [h1,h2,if_neg (by decide),Ke];cases hc:(r.map f).contains n with
      | false=>simp
      | true=>simp;omega
theorem N7 {α:Type}{l:List α}{k:Nat}{a:α}{p:α->Bool}(h:(l.take k).any p=false)(ha:l[k]? = some a)(hp:p a=false):(l.take (k+1)).any p=false:=by
 rw [List.take_add_one,ha];simp [h,hp]
theorem cQ {f:Syn->Fa}:∀{l:List Syn} {k:Nat} {a:Syn},l[k]? = some a->(l.take k).any (fun x=>(f x).err != 0)=false->((f a).err != 0)=true->Mc f l=f a
  | [],k,a,h,_,_=>by simp at h
  | b::r,0,a,h,_,hp=>by simp at h;subst h;rw [Mc,if_pos hp]
  | b::r,k+1,a,h,hn,hp=>by
    rw [Ue,L0,Ft] at hn;rw [Mc,if_neg (by rw [hn.1];decide)];exact cQ (by simpa using h) hn.2 hp
theorem Y0 {f:Syn->Fa}:∀{l:List Syn},l.any (fun x=>(f x).err != 0)=false->Mc f l=Tk
  | [],_=>rfl
  | b::r,h=>by
    rw [L0,Ft] at h;rw [Mc,if_neg (by rw [h.1];decide)];exact Y0 h.2
theorem F1 {l:List Syn}{k:Nat}{a:Syn}(h:l[k]? = some a):(l.map Cu)[k]? = some (cSyn a):=by rw [List.getElem?_map,h];exact congrArg some (Ba a)
theorem Hq {t:Syn}{k:Nat}(h:k<t.kids.length):t.kids[k]? = some (B5 t k):=by unfold B5;rw [E6,List.getElem?_eq_getElem h];rfl
def Ys (T:List e8Sc)(V:List Va)(s:Nx):List AV:=[.sl 2 (T.map Fx),.smapv (Pj (G0 T)),.sl 2 (V.map Rd),.smapv (Pj (Mp V)),.int .i64 s.next,.int .i64 s.scopes]
theorem Ka {t:Syn}{p:Pl}(h:B4 t p=0):eE p t=0/\Ot t 0 t.kids=0:=by
 rw [Yu] at h;split at h
 . rename_i h1;rw [h] at h1;cases h1
 rename_i h1;exact ⟨by simpa using h1,h⟩
theorem nH {t:Syn}:∀(l:List Syn) (i:Nat),Ot t i l=0->∀j a,l[j]? = some a->B4 a (Id t (i+j))=0
  | [],i,_,j,a,h=>by simp at h
  | x::r,i,h,j,a,ha=>by
    rw [Ot] at h;split at h
    . rename_i h1;rw [h] at h1;cases h1
    . rename_i h1
      cases j with
      | zero=>rw [List.getElem?_cons_zero] at ha;cases ha;simpa using h1
      | succ j=>rw [List.getElem?_cons_succ] at ha;have:=nH r (i+1) h j a ha;rwa [show i+1+j=i+(j+1) by omega] at this
theorem K1 {p:Pl}{t:Syn}(h:eE p t=0):p.at t.kind=true/\Gr t=true/\We t=true/\Eu t=0:=by
 unfold eE at h;split at h
 . cases h
 split at h
 . cases h
 split at h
 . cases h
 rename_i h1 h2 h3;exact ⟨by simpa using h1,by simpa using h2,by simpa using h3,h⟩
theorem Pa {t:Syn}{p:Pl}(h:B4 t p=0){j:Nat}{a:Syn}(ha:t.kids[j]? = some a):B4 a (Id t j)=0/\(Id t j).at a.kind=true:=by
 have h1:=nH t.kids 0 (Ka h).2 j a ha;rw [Do] at h1;exact ⟨h1,(K1 (Ka h1).1).1⟩
theorem rF {k:Int}(h:Pl.at .exps k=true):13<=k/\k<=18:=by
 simp only [Pl.at,isExp,Cy,Ea] at h;exact h
theorem kT {k:Int}(h:Pl.at .pats k=true):5<=k/\k<=12:=by
 simp only [Pl.at,isPat,Cy,Ea] at h;exact h
theorem Jf {n k:Int}(h:Pl.at (.only n) k=true):k=n:=by
 simpa [Pl.at] using h
theorem kid_kind {t:Syn}{j:Nat}{k:Int}(h:(Id t j).at k=true):1<=k/\k<=18:=by
 unfold Id at h
 repeat' split at h
 all_goals first | (have:=Jf h;omega) | (have:=rF h;omega) | (have:=kT h;omega)
section
variable {t:Syn} {p:Pl}
theorem kids_one (h:(t.kids.length:Int)=1):∃a,t.kids = [a]:=by
 match hk:t.kids with
 | []=>rw [hk] at h;cases h
 | [a]=>exact ⟨a,rfl⟩
 | a::b::r=>rw [hk] at h;simp only [A1] at h;omega
theorem kids_two (h:(t.kids.length:Int)=2):∃a b,t.kids = [a,b]:=by
 match hk:t.kids with
 | []=>rw [hk] at h;cases h
 | [a]=>rw [hk] at h;simp only [A1,Bi] at h;omega
 | [a,b]=>exact ⟨a,b,rfl⟩
 | a::b::c::r=>rw [hk] at h;simp only [A1] at h;omega
theorem uC (hf:Eu t=0)(hk:t.kind=17):t.num=5\/t.num=6\/t.num=7\/t.num=8\/t.num=9\/t.num=10\/t.num=11:=by
 unfold Eu Sf at hf;rw [hk] at hf
 have hf2:(decide (t.num<5)||decide (11<t.num))=false:=by
  cases hq:(decide (t.num<5)||decide (11<t.num)) with
  | false=>rfl
  | true=>rw [hq] at hf;cases hf
 simp only [Ft,I6] at hf2;omega
theorem Y3 (hf:Eu t=0)(hk:t.kind=2):0<=t.num/\t.num<=2:=by
 unfold Eu Sf at hf;rw [hk] at hf
 have hf2:(decide (t.num<0)||decide (2<t.num))=false:=by
  cases hq:(decide (t.num<0)||decide (2<t.num)) with
  | false=>rfl
  | true=>rw [hq] at hf;cases hf
 simp only [Ft,I6] at hf2;omega
theorem iW (hf:Eu t=0)(hk:t.kind=16):1<=t.num/\t.num<=5:=by
 unfold Eu Sf at hf;rw [hk] at hf
 have hf2:(decide (t.num<1)||decide (5<t.num))=false:=by
  cases hq:(decide (t.num<1)||decide (5<t.num)) with
  | false=>rfl
  | true=>rw [hq] at hf;cases hf
 simp only [Ft,I6] at hf2;omega
theorem tL (hf:Eu t=0)(hk:t.kind=11):0<=t.num/\t.num<=1099511627776:=by
 unfold Eu Sf at hf;rw [hk] at hf
 have hf2:(decide (t.num<0)||decide (1099511627776<t.num))=false:=by
  cases hq:(decide (t.num<0)||decide (1099511627776<t.num)) with
  | false=>rfl
  | true=>rw [hq] at hf;cases hf
 simp only [Ft,I6] at hf2;omega
theorem zero_num (hf:Eu t=0)(hk:t.kind≠13/\t.kind≠2/\t.kind≠16/\t.kind≠17/\t.kind≠11):t.num=0:=by
 obtain ⟨k1,k2,k3,k4,k5⟩:=hk;have e:∀k:Int,t.kind≠k->¬(t.kind==k)=true:=fun k h=>by simpa using h
 unfold Eu at hf;rw [if_neg (e _ k1)] at hf;split at hf
 . rename_i h1;rw [hf] at h1;cases h1
 rename_i h1;have h2:Sf t=0:=by simpa using h1
 unfold Sf at h2;rw [if_neg (e _ k2),if_neg (e _ k3),if_neg (e _ k4),if_neg (e _ k5)] at h2;split at h2
 . cases h2
 rename_i h3;simp only [Ii,Ea,not_or] at h3;omega
theorem qY (hf:Eu t=0)(hk:t.kind=13) : -1099511627776<=t.num/\t.num<=1099511627776:=by
 unfold Eu at hf;rw [hk] at hf
 replace hf:Kv t=0:=hf
 unfold Kv at hf
 repeat' split at hf
 all_goals first
  | exact absurd hf (by decide)
  | (simp only [Ii,Ea,not_or,Bool.not_eq_true,bne_eq_false_iff_eq] at *;omega)
end
mutual
def Jd:Syn->Nat
 | ⟨_,_,_,_,kids,_⟩=>1+G3 kids
def G3:List Syn->Nat
 | []=>0
 | x::r=>Jd x+G3 r
end
theorem Ho (t:Syn):Jd t=1+G3 t.kids:=by cases t;rw [Jd]
theorem cM:∀l:List Syn,l.length<=G3 l
  | []=>A7 _
  | x::r=>by
    have:=cM r;have h:=Ho x;rw [G3,A1];omega
theorem jN:∀{l:List Syn} {a:Syn},a∈l->Jd a<=G3 l
  | x::r,a,h=>by
    rw [G3];rcases Cn.1 h with rfl | h
    . omega
    have:=jN h;omega
mutual
theorem gT:∀t:Syn,Lo t<=2*Jd t
  | ⟨k,_,_,_,kids,_⟩=>by
    have h:=cN k kids;rw [Lo,Jd];split <;> omega
theorem cN (k:Int):∀l:List Syn,Mo k l<=2*G3 l+1
  | []=>by rw [Mo];omega
  | x::r=>by
    have h1:=gT x;have h2:=cN k r;have h3:=Ho x;rw [Mo,G3];split <;> omega
end
def dR (ws:List Ag):Nat:=(ws.map List.length).sum
theorem Uv (x:Ag)(r:List Ag):dR (x::r)=x.length+dR r:=rfl
theorem dL:∀ws:List Ag,(En ws).length<=dR ws+2*ws.length
  | []=>by simp [En]
  | [x]=>by simp [En,dR]
  | x::y::r=>by
    have:=dL (y::r);rw [En,Uv];simp only [Ao,A1,Bi] at this ⊢;omega
theorem get3_len:∀ws:List Ag,(ws.getD 0 []).length+(ws.getD 1 []).length+(En (ws.drop 2)).length<=dR ws+2*ws.length
  | []=>by simp [En]
  | [x]=>by simp [En,dR]
  | x::y::r=>by
    have:=dL r;simp only [List.getD_cons_zero,List.getD_cons_succ,List.drop_succ_cons,Oi,Uv,A1];omega
theorem mU:∀ws:List Ag,ws.flatten.length=dR ws
 | []=>rfl
 | x::r=>by rw [Bd,Ao,mU r,Uv]
theorem qB (p k:Syn)(s:Ag):(J2 p k s).length<=s.length+2:=by
 unfold J2;split
 . simp only [Ao,A1,Bi];omega
 omega
theorem yH (c:UInt8):(Fm c).length<=4:=by
 unfold Fm;split
 . simp
 split <;> simp
theorem eN:∀s:Ag,(Bx s).length<=4*s.length
  | []=>by simp [Bx]
  | c::r=>by
    have h1:=eN r;have h2:=yH c;rw [Bx];simp only [Ao,A1];omega
theorem zH:(∀n,(Xv n).length<=8)/\(∀n,(fY n).length<=8)/\(∀n,(X2 n).length<=8)/\(∀n,(Aao n).length<=8):=by
 refine ⟨fun n=>?_,fun n=>?_,fun n=>?_,fun n=>?_⟩
 .
  unfold Xv;repeat' split
  all_goals decide
 .
  unfold fY;repeat' split
  all_goals decide
 .
  unfold X2;repeat' split
  all_goals decide
 unfold Aao;repeat' split
 all_goals decide
theorem Jl {c:Prop}[Decidable c]{a b:Ag}{n:Nat}(ha:a.length<=n)(hb:b.length<=n):(if c then a else b).length<=n:=by split <;> assumption
theorem ok_num {t:Syn}{p:Pl}(h:B4 t p=0) : -1099511627776<=t.num/\t.num<=1099511627776:=by
 obtain ⟨_,_,_,hf⟩:=K1 (Ka h).1;by_cases k1:t.kind=13
 . exact qY hf k1
 by_cases k2:t.kind=2
 . have:=Y3 hf k2;omega
 by_cases k3:t.kind=16
 . have:=iW hf k3;omega
 by_cases k4:t.kind=17
 . have:=uC hf k4;omega
 by_cases k5:t.kind=11
 . have:=tL hf k5;omega
 have:=zero_num hf ⟨k1,k2,k3,k4,k5⟩;omega
mutual
def wC:Syn->Nat
 | ⟨_,x,n,_,kids,_⟩=>1+x.length+n.length+wL kids
def wL:List Syn->Nat
 | []=>0
 | x::r=>wC x+wL r
end
theorem wC_eq (t:Syn):wC t=1+t.text.length+t.name.length+wL t.kids:=by cases t;rw [wC]
theorem w_mem:∀{l:List Syn} {a:Syn},a∈l->wC a<=wL l
  | x::r,a,h=>by
    rw [wL];rcases Cn.1 h with rfl | h
    . omega
    have:=w_mem h;omega
mutual
theorem Aau:∀t:Syn,Jd t<=wC t
  | ⟨_,x,n,_,kids,_⟩=>by
    have:=qX kids;rw [Jd,wC];omega
theorem qX:∀l:List Syn,G3 l<=wL l
  | []=>by rw [G3,wL];exact Bc _
  | x::r=>by
    have h1:=Aau x;have h2:=qX r;rw [G3,wL];omega
end
def U7 (t:Syn):Prop:=wC t<=1000000
theorem Lw {t a:Syn}(h:U7 t)(ha:a∈t.kids):U7 a:=by
 have h1:=w_mem ha;have h2:=wC_eq t;unfold U7 at h ⊢;omega
theorem Sm {t:Syn}(h:U7 t):Jd t<=1000000:=E7 (Aau t) h
theorem Wq {t:Syn}(h:U7 t):t.kids.length<=1000000:=by
 have h1:=Sm h;have h2:=cM t.kids;rw [Ho] at h1;omega
def J9 (t:Syn):Prop:=((t.text.length<=1000000/\t.name.length<=1000000)/\t.kids.length<=1000000/\wC t<=20000000)/\∀a∈t.kids,U7 a
theorem Zk {t:Syn}(h:U7 t):J9 t:=by
 have h2:=wC_eq t;have h3:=Wq h;exact ⟨⟨⟨by unfold U7 at h;omega,by unfold U7 at h;omega⟩,h3,by unfold U7 at h;omega⟩,fun a ha=>Lw h ha⟩
theorem rR {t a:Syn}(h:J9 t)(ha:a∈t.kids):U7 a:=h.2 a ha
theorem Sd {t a:Syn}(h:J9 t)(ha:a∈t.kids):J9 a:=Zk (h.2 a ha)
theorem nW {t:Syn}(h:J9 t):t.text.length<=1048576/\t.name.length<=1048576:=⟨by have:=h.1.1.1;omega,by have:=h.1.1.2;omega⟩
theorem vH {t:Syn}(h:J9 t):Jd t<=20000000:=E7 (Aau t) h.1.2.2
theorem Xx {t:Syn}(h:J9 t):t.kids.length<=1000000:=h.1.2.1
theorem lit_len' {t:Syn}{B:Nat}(hi : -1099511627776<=t.num/\t.num<=1099511627776)(hx:t.text.length<=B):(dT t).length<=4*B+30:=by
 unfold dT;split
 . have:=Lib.itoa_length_le t.num (by omega) (by omega);omega
 split
 .
  split
  . show (4:Nat)<=_;omega
  show (5:Nat)<=_;omega
 unfold Pi;split
 . simp
 have:=eN t.text;simp only [Ao,A1,Bi];omega
theorem xW {t:Syn}{ws:List Ag}{B:Nat}(hi : -1099511627776<=t.num/\t.num<=1099511627776)(hx:t.text.length<=B)(hn:t.name.length<=B)(h0:(B5 t 0).text.length<=B):(Jh t ws).length<=dR ws+2*ws.length+(4*B+60):=by
 have h1:=dL ws;have h2:=get3_len ws;have h3:=mU ws;have h4:=lit_len' hi hx;obtain ⟨w1,w2,w3,w4⟩:=zH;have k1:=w1 t.num;have k2:=w2 t.num;have k3:=w3 t.num;have k4:=w4 t.kind;have h5:=Lib.itoa_length_le t.num (by omega) (by omega);have r0:=qB t (B5 t 0) (ws.getD 0 []);have r1:=qB t (B5 t 1) (ws.getD 1 []);have q1:Dq.length=4:=rfl;have q2:Dm.length=5:=rfl;have q3:tF.length=2:=rfl;have q4:Gk.length=5:=rfl;have q5:G9.length=6:=rfl;have q6:wO.length=2:=rfl;have q7:pZ.length=5:=rfl;have q8:lL.length=3:=rfl;unfold Jh;refine Jl (by omega) (Jl ?_ (Jl ?_ (Jl ?_ (Jl ?_ (Jl (by omega) (Jl ?_ (Jl ?_ (Jl ?_ (Jl ?_ (Jl ?_ ?_))))))))))
 .
  have:(if (ws == [])=true then [] else [32]++En ws ++ [32]:Ag).length<=(En ws).length+2:=Jl (by simp) (by simp);simp only [Ao,A1,Bi] at this ⊢;omega
 . simp only [Ao,A1,Bi];omega
 .
  have:(if ((B5 t 0).text == [])=true then [] else [32]++tF ++ [32]++(B5 t 0).text:Ag).length<=B+4:=Jl (by simp) (by simp only [Ao,A1,Bi];omega);simp only [Ao,A1,Bi] at this ⊢;omega
 .
  have:(if (ws == [])=true then [] else [32]++wO ++ [32]++ws.getD 0 []:Ag).length<=(ws.getD 0 []).length+6:=Jl (by simp) (by simp only [Ao,A1,Bi];omega);simp only [Ao,A1,Bi] at this ⊢;omega
 . simp only [Ao,A1,Bi];omega
 . simp only [Ao,A1,Bi];omega
 .
  have:(if (ws == [])=true then [] else [44,32]++ws.getD 0 []:Ag).length<=(ws.getD 0 []).length+2:=Jl (by simp) (by simp only [Ao,A1,Bi];omega);simp only [Ao,A1,Bi] at this ⊢;omega
 . simp only [Ao,A1,Bi];omega
 . simp only [Ao,A1,Bi];omega
 have:(if (t.kind==11)=true then [44,32]++Lib.itoa t.num else []:Ag).length<=30:=Jl (by simp only [Ao,A1,Bi];omega) (by simp);simp only [Ao,A1,Bi] at this ⊢;omega
theorem tN (t:Syn):∀p,B4 t p=0->J9 t->(An t).length+2<=4000064*Jd t:=by
  refine Syn.ind (P:=fun t=>∀p,B4 t p=0->J9 t->(An t).length+2<=4000064*Jd t) (fun t ih p h hf=>?_) t
  have hk0:(B5 t 0).text.length<=1000000:=by
    unfold B5;rw [E6];cases hq:t.kids[0]? with
    | none=>simp [He]
    | some a=>exact (Sd hf (Aj hq)).1.1.1
  rw [jC];have h1:=xW (B:=1000000) (ws:=t.kids.map An) (ok_num h) hf.1.1.1 hf.1.1.2 hk0
  have h2:dR (t.kids.map An)+2*t.kids.length<=4000064*G3 t.kids:=by
    have key:∀l:List Syn,(∀a∈l,(An a).length+2<=4000064*Jd a)->dR (l.map An)+2*l.length<=4000064*G3 l:=by
      intro l
      induction l with
      | nil=>intro _;simp [dR]
      | cons x r ihl=>
        intro hl;have h3:=hl x (I7 ..);have h4:=ihl fun a ha=>hl a (Ha _ ha)
        rw [Be,Uv,G3,A1];omega
    refine key _ fun a ha=>?_
    obtain ⟨j,hj⟩:=Jp.1 ha;exact ih a ha _ (Pa h hj).1 (Sd hf ha)
  have h4:=Ho t;rw [By] at h1;rw [h4,Nat.mul_add];omega
theorem med_big {t:Syn}{p:Pl}(h:B4 t p=0)(hf:J9 t):(An t).length<=100000000000000:=by
 have h1:=tN t p h hf;have h2:=vH hf;omega
structure RvOK (T:List e8Sc) (V:List Va):Prop where
 tl:T.length<=1048576
 fl:∀s∈T,s.fields.length<=1048576
 vl:V.length<=1048576
 ty:∀v∈V,0<=v.type/\v.type<(T.length:Int)
theorem fA {T:List e8Sc}{V:List Va}(h:RvOK T V){v:Va}(hv:v∈V):∃sc,T[v.type.toNat]? = some sc:=by
 have:=h.ty v hv;exact ⟨_,List.getElem?_eq_getElem (show v.type.toNat<T.length by omega)⟩
theorem Nh {l:List Ag}{n:Ag}(h:l.contains n=true):0<=Tr l n/\Tr l n<(l.length:Int):=by
 unfold Tr;rw [if_pos h];have:=List.idxOf_lt_length_iff.2 (List.contains_iff_mem.1 h);omega
theorem rL {V:List Va}{n:Ag}(h:(Mp V).contains n=true):∃va,V[(Tr (Mp V) n).toNat]? = some va:=by
 have:=Nh h;rw [By] at this;exact ⟨_,List.getElem?_eq_getElem (show (Tr (Mp V) n).toNat<V.length by omega)⟩
theorem sS {T:List e8Sc}{V:List Va}{v:Int}{va:Va}{sc:e8Sc}(h:V[v.toNat]? = some va)(hs:T[va.type.toNat]? = some sc):Yp T V v=sc:=by
 unfold Yp;rw [h];show (T[va.type.toNat]?).getD Zs=sc;rw [hs];rfl
section
variable {T:List e8Sc} {V:List Va} {t:Syn}
theorem look_1 (h:(((t.kind != 14)&&(t.kind != 15))&&(t.kind != 16))=true):Mi T V t=Tk:=if_pos h
theorem dW (h:(((t.kind != 14)&&(t.kind != 15))&&(t.kind != 16))=false):Mi T V t=if !((Mp V).contains t.text) then ⟨t.pos,8⟩ else if (t.kind==15)||((t.kind==14)&&(t.name==Hs)) then Tk else if decide (Ey (Yp T V (Tr (Mp V) t.text)) t.name<0) then ⟨t.pos,6⟩ else Tk:=B2 h
theorem look_2 (h:(((t.kind != 14)&&(t.kind != 15))&&(t.kind != 16))=false)(h2:(!((Mp V).contains t.text))=true):Mi T V t=⟨t.pos,8⟩:=(dW h).trans (if_pos h2)
theorem look_3 (h:(((t.kind != 14)&&(t.kind != 15))&&(t.kind != 16))=false)(h2:(!((Mp V).contains t.text))=false)(h3:((t.kind==15)||((t.kind==14)&&(t.name==Hs)))=true):Mi T V t=Tk:=(dW h).trans ((B2 h2).trans (if_pos h3))
theorem look_4 (h:(((t.kind != 14)&&(t.kind != 15))&&(t.kind != 16))=false)(h2:(!((Mp V).contains t.text))=false)(h3:((t.kind==15)||((t.kind==14)&&(t.name==Hs)))=false)(h4:decide (Ey (Yp T V (Tr (Mp V) t.text)) t.name<0)=true):Mi T V t=⟨t.pos,6⟩:=(dW h).trans ((B2 h2).trans ((B2 h3).trans (if_pos h4)))
theorem look_5 (h:(((t.kind != 14)&&(t.kind != 15))&&(t.kind != 16))=false)(h2:(!((Mp V).contains t.text))=false)(h3:((t.kind==15)||((t.kind==14)&&(t.name==Hs)))=false)(h4:decide (Ey (Yp T V (Tr (Mp V) t.text)) t.name<0)=false):Mi T V t=Tk:=(dW h).trans ((B2 h2).trans ((B2 h3).trans (B2 h4)))
theorem walk_1 (h:((Mi T V t).err != 0)=true):H4 T V t=Mi T V t:=(fJ T V t).trans (if_pos h)
theorem walk_2 (h:((Mi T V t).err != 0)=false):H4 T V t=Mc (H4 T V) t.kids:=(fJ T V t).trans (B2 h)
theorem gV {f:Syn->Fa}:∀{l:List Syn},(Mc f l).err=0->∀a∈l,(f a).err=0
  | [],_,a,ha=>by cases ha
  | x::r,h,a,ha=>by
    rw [Mc] at h;by_cases hx:(f x).err=0
    . rw [if_neg (by simp [hx])] at h
      rcases Cn.1 ha with rfl | ha
      . exact hx
      exact gV h a ha
    rw [if_pos (by simpa using hx)] at h;exact absurd h hx
theorem Kn (h:(H4 T V t).err=0):(Mi T V t).err=0/\∀a∈t.kids,(H4 T V a).err=0:=by
 rw [fJ] at h;by_cases hx:(Mi T V t).err=0
 . rw [if_neg (by simp [hx])] at h;exact ⟨hx,gV h⟩
 rw [if_pos (by simpa using hx)] at h;exact absurd h hx
theorem nT (h:(Mi T V t).err=0)(hk:t.kind=14\/t.kind=15\/t.kind=16):(Mp V).contains t.text=true:=by
 have h0:(((t.kind != 14)&&(t.kind != 15))&&(t.kind != 16))=false:=by rcases hk with h | h | h <;> simp [h]
 rw [dW h0] at h;cases hc:(Mp V).contains t.text with
 | true=>rfl
 | false=>rw [hc,if_pos (by decide)] at h;cases h
theorem leafx_1 {xs:List Ex}(h1:(t.kind==13)=true):Sy T V t xs=⟨0,[],0,0,0,pW t⟩:=if_pos h1
theorem leafx_2 {xs:List Ex}(h1:(t.kind==13)=false)(h2:(t.kind==14)=true)(h3:(t.name==Hs)=true):Sy T V t xs=⟨2,[],Tr (Mp V) t.text,0,0,v0⟩:=(B2 h1).trans ((if_pos h2).trans (if_pos h3))
theorem leafx_3 {xs:List Ex}{sc:e8Sc}(h1:(t.kind==13)=false)(h2:(t.kind==14)=true)(h3:(t.name==Hs)=false)(hs:Yp T V (Tr (Mp V) t.text)=sc):Sy T V t xs=⟨1,[],Tr (Mp V) t.text,Ey sc t.name,0,v0⟩:=by subst hs;exact (B2 h1).trans ((if_pos h2).trans (B2 h3))
theorem leafx_4 {xs:List Ex}(h1:(t.kind==13)=false)(h2:(t.kind==14)=false)(h4:(t.kind==15)=true):Sy T V t xs=⟨3,[],Tr (Mp V) t.text,0,0,v0⟩:=(B2 h1).trans ((B2 h2).trans (if_pos h4))
theorem leafx_5 {xs:List Ex}{sc:e8Sc}(h1:(t.kind==13)=false)(h2:(t.kind==14)=false)(h4:(t.kind==15)=false)(h5:(t.kind==16)=true)(hs:Yp T V (Tr (Mp V) t.text)=sc)(h6:decide ((0:Int)<(t.kids.length:Int))=true) :
  Sy T V t xs=⟨4,[],Tr (Mp V) t.text,Ey sc t.name,t.num,pW (B5 t 0)⟩:=by
 subst hs;refine (B2 h1).trans ((B2 h2).trans ((B2 h4).trans ((if_pos h5).trans ?_)));rw [if_pos h6]
theorem leafx_6 {xs:List Ex}{sc:e8Sc}(h1:(t.kind==13)=false)(h2:(t.kind==14)=false)(h4:(t.kind==15)=false)(h5:(t.kind==16)=true)(hs:Yp T V (Tr (Mp V) t.text)=sc)(h6:decide ((0:Int)<(t.kids.length:Int))=false) :
  Sy T V t xs=⟨4,[],Tr (Mp V) t.text,Ey sc t.name,t.num,v0⟩:=by
 subst hs;refine (B2 h1).trans ((B2 h2).trans ((B2 h4).trans ((if_pos h5).trans ?_)));rw [B2 h6]
theorem leafx_7 {xs:List Ex}(h1:(t.kind==13)=false)(h2:(t.kind==14)=false)(h4:(t.kind==15)=false)(h5:(t.kind==16)=false)(h7:(t.kind==18)=true):Sy T V t xs=⟨12,xs,0,0,0,v0⟩:=(B2 h1).trans ((B2 h2).trans ((B2 h4).trans ((B2 h5).trans (if_pos h7))))
theorem leafx_8 {xs:List Ex}(h1:(t.kind==13)=false)(h2:(t.kind==14)=false)(h4:(t.kind==15)=false)(h5:(t.kind==16)=false)(h7:(t.kind==18)=false):Sy T V t xs=⟨t.num,xs,0,0,0,v0⟩:=(B2 h1).trans ((B2 h2).trans ((B2 h4).trans ((B2 h5).trans (B2 h7))))
end
end Go.Proofs.YtibcelnfkhdjaaaGreatDoor
namespace Go.Aw
section
variable {P:Program} {T:List (Nat×TD)} {d:Option Nat} {ty:TypeId} {pos:String} {aft:Array Edge} {gd:Option (Nat×Bool)} {ρ:Operand->AV}
theorem Bt.front3 {f:FuncId}{args:List AV}{H R:List HO}{Q:AV->List HO->Prop}{o1 o2 o3:HO}(k3 k2 k1:Nat)(hk3:H[k3]? = some o3)(hk2:(H.eraseIdx k3)[k2]? = some o2)(hk1:((H.eraseIdx k3).eraseIdx k2)[k1]? = some o1)(hR:((H.eraseIdx k3).eraseIdx k2).eraseIdx k1=R)
  (h:Bt P f (o1::o2::o3::R) args Q):Bt P f H args Q:=by
 subst hR;refine h.perm ?_;have h1:=Jc hk3;have h2:=Jc hk2;have h3:=Jc hk1;refine h1.trans ((h2.cons o3).trans (((h3.cons o2).cons o3).trans ?_));exact (List.Perm.swap o2 o3 _).trans (((List.Perm.swap o1 o3 _).cons o2).trans (List.Perm.swap o1 o2 _))
end
end Go.Aw
namespace Go.Aw
open Go
def Ux (l:List Oper):Bool:=l.all fun o=>match o.op with | .defer _=>false | _=>true
theorem Tv {l:List Oper}(h:Ux l=true):∀o∈l,∀c,o.op≠.defer c:=fun o ho c e=>by
 have:=(Ht.1 h) o ho;rw [e] at this;cases this
theorem kP {ro:Option Nat}{n:Nat}{P:Program}{o:Oper}{a:Act}{w:World}{next:Act->World->Prop}{Q Q':Exit->Act->World->Prop}(hd:∀c,o.op≠.defer c)
    (hp:∀c a w,Q (.panic c) a w->Q' (.panic c) a w) (ho:LetsOut Q->LetsOut Q') (h:o.wp P a w next Q):o.wpIn { Fence.wide with round:=ro } n P a w next Q':=by
  refine ⟨fun _ _=>trivial,?_⟩;rw [Oper.semAt_eq _ _ _ hd];unfold Oper.wp at h;generalize (execOp a.eval o).run P w=r at h ⊢;cases r with
  | ok x w'=>
    cases x with
    | value v=>exact h
    | skip=>exact h
    | defer d=>exact h
    | enter f args=>
      have h':Calls P f args w' _:=h;refine ⟨fun e=>(by cases e),callsIn_wide.2 (h'.mono ?_)⟩;intro e w'' hr;cases e with
      | returned v=>exact hr
      | panicked c=>exact hp _ _ _ hr
      | outgrown=>exact ho hr
    | row row args=>
      have h':Rows P row args w' _:=h;exact ⟨fun e=>(by cases e),fun c cs _=>let ⟨v,w'',r,s⟩:=h' c cs;⟨v,w'',r,stepsIn_wide.2 s⟩⟩
    | _=>exact h.elim
  | halt e w'=>
    cases e with
    | panic v=>exact hp _ _ _ h
    | _=>exact h.elim
theorem H5 {ro:Option Nat}{n:Nat}{P:Program}{ops:Array Oper}{Q:Exit->Act->World->Prop}:∀(l rest:List Oper) (a:Act) (w:World),(∀o∈l,∀c,o.op≠.defer c)->
    zW P ops (fun e a w=>match e with | .normal=>wpListIn { Fence.wide with round:=ro } n P ops Q rest a w | e=>Q e a w) l a w->wpListIn { Fence.wide with round:=ro } n P ops Q (l++rest) a w
  | [],rest,a,w,_,h=>h
  | o::r,rest,a,w,hd,h=>by
    unfold zW at h;show wpListIn _ n P ops Q (o::(r++rest)) a w;unfold wpListIn;split
    . rename_i hw;rw [if_pos hw] at h
      exact kP (hd o (I7 ..)) (fun c a w h=>h) (fun h=>h) (Oper.wp_mono (fun a' w' h'=>H5 r rest a' w' (fun x hx=>hd x (Ha _ hx)) h') h)
    . rename_i hw;rw [if_neg hw] at h
      exact ⟨fun _ _=>trivial,H5 r rest _ w (fun x hx=>hd x (Ha _ hx)) h⟩
def Nm (P:Program)(l:Nat)(rec:Loop)(H:List HO)(args:List AV)(R:AV->List HO->Prop):Prop:=
 ∀(n:Nat) (g:Gh) (w:World) (vs:Array Value),HOK g w H->Di g w vs args->
  RoundIn { Fence.wide with round:=none } n P l rec.fn ((rec.params.zip vs).foldl (fun t (p,v)=>t.setIfInBounds p v) rec.tmps) rec.assign rec.body w
   fun e w'=>∃v g' r H',e = .returned v/\Rep g' w' v r/\HOK g' w' H'/\Ext g w g' w'/\R r H'
theorem wideN:({ Fence.wide with round:=none }:Fence)=Fence.wide:=rfl
def fT (l:Nat)(P:Program)(c:Code)(Q:Exit->St->Prop)(s:St):Prop:=
 ∀(n:Nat) (Q':Exit->Act->World->Prop) (g:Gh) (a:Act) (w:World),Gm g s a w->(∀e g' s' a' w',Gm g' s' a' w'->Ext g w g' w'->Q e s'->Q' e a' w')->c.wpIn { Fence.wide with round:=some l } n P Q' a w
theorem fT.region {l:Nat}{P:Program}{Q:Exit->St->Prop}{s:St}{id:Nat}{ops:Array Oper}(hnd:Ux ops.toList=true)(h:AOL P ops (Q .normal) ops.toList s):fT l P (.region id ops false) Q s:=by
 intro n Q' g a w hG hQ;refine wpIn_region_list ?_;have:=H5 (ro:=some l) (n:=n) (Q:=Q') ops.toList [] a w (Tv hnd) (h.run _ g a w hG fun g' s' a' w' h1 h2 h3=>hQ _ g' s' a' w' h1 h2 h3);simpa using this
theorem fT.block {l:Nat}{P:Program}{Q:Exit->St->Prop}{s:St}{id:Nat}{c:Code}(h:fT l P c (Ji id Q) s):fT l P (.block id c) Q s:=by
  intro n Q' g a w hG hQ;refine wpIn_block (h n _ g a w hG fun e g' s' a' w' hG' hx hq=>?_);cases e with
  | exit j=>
    simp only [Ji] at hq;simp only [Exit.inBlock];by_cases e:j=id
    . subst e;simp at hq;simp;exact hQ _ g' s' a' w' hG' hx hq
    . simp only [e,if_false]
      have:Nat.beq j id=false:=by
        cases hq':Nat.beq j id with
        | false=>rfl
        | true=>exact absurd (D6 hq') e
      simp only [this,cond_false] at hq;exact hQ _ g' s' a' w' hG' hx hq
  | _=>exact hQ _ g' s' a' w' hG' hx hq
theorem Ty {g:Gh}{w:World}{H:List HO}(hH:HOK g w H){i b:Nat}{o:Obj}(o':Obj)(hi:H[i]? = some (.obj b o)) :
  HOK g (w.putObj b o') (H.set i (.obj b o'))/\Ext g w g (w.putObj b o'):=by
 have hob:(HO.obj b o).ok g w:=hH.ok _ (Aj hi);have hlt:b<w.heap.size:=(Array.getElem?_eq_some_iff.1 hob.2).1
 have hx:Ext g w g (w.putObj b o'):=by
  refine ⟨rfl,rfl,rfl,by simp,fun c hc hg=>⟨hg,World.putObj_heap_other (fun e=>by rw [e,hob.1] at hg;cases hg)⟩,fun c n hc hg=>⟨fun m hm=>by rw [hg] at hm;cases hm;exact Bc _,fun x hx=>?_⟩⟩;have hne:c≠b:=fun e=>by rw [e,hob.1] at hg;cases hg;omega
  unfold World.cell?;rw [World.putObj_heap_other hne]
 refine ⟨hH.set hx hi (fun c hc=>.inl hc) ⟨hob.1,World.putObj_heap_same hlt⟩ fun c hc hne _=>⟨rfl,World.putObj_heap_other (fun e=>hne (by rw [e];rfl))⟩,hx⟩
theorem Gm.putObj {g:Gh}{s:St}{a:Act}{w:World}(hG:Gm g s a w){i b:Nat}{o:Obj}(o':Obj)(hi:s.H[i]? = some (.obj b o)) :
  Gm g ⟨s.sl,s.H.set i (.obj b o'),s.n⟩ a (w.putObj b o')/\Ext g w g (w.putObj b o'):=by
 obtain ⟨h1,h2⟩:=Ty hG.heap o' hi;exact ⟨⟨hG.size,hG.defers,fun j=>(hG.sl j).mono h2,h1⟩,h2⟩
def AWX (P:Program)(c:Code)(Q:Exit->St->Prop)(X:Gh->World->Exit->Act->World->Prop)(s:St):Prop:=
 ∀(Q':Exit->Act->World->Prop) (g:Gh) (a:Act) (w:World),Gm g s a w->(∀e g' s' a' w',Gm g' s' a' w'->Ext g w g' w'->Q e s'->Q' e a' w')->(∀e a' w',X g w e a' w'->Q' e a' w')->c.wp P Q' a w
def Ie (D:Nat):Deferred:={ target:=.collected D,args:=#[] }
def oG (P:Program)(fn:Func)(R:AV->List HO->Prop)(g:Gh)(w:World)(e:Exit)(a:Act)(w':World):Prop:=
 e = .ret/\∃D,a.defers = [Ie D]/\w'.heap[D]? = some (.deferred (some []))/\∃v g' r H',(results fn a.tmps).run P (w'.putObj D (.deferred none)) = .ok v (w'.putObj D (.deferred none))/\
  Rep g' (w'.putObj D (.deferred none)) v r/\HOK g' (w'.putObj D (.deferred none)) H'/\Ext g w g' (w'.putObj D (.deferred none))/\R r H'
section
variable {P:Program} {fn:Func} {R:AV->List HO->Prop} {Q:Exit->St->Prop} {s:St}
theorem oG.mono {g g1:Gh}{w w1:World}(h:Ext g w g1 w1){e:Exit}{a:Act}{w':World}(k:oG P fn R g1 w1 e a w'):oG P fn R g w e a w':=by
 obtain ⟨he,D,h1,h2,v,g',r,H',h3,h4,h5,h6,h7⟩:=k;exact ⟨he,D,h1,h2,v,g',r,H',h3,h4,h5,h.trans h6,h7⟩
theorem AWX.seq {x y:Code}(h:AW P x (Ej (AWX P y Q (oG P fn R)) Q) s):AWX P (.seq x y) Q (oG P fn R) s:=by
 intro Q' g a w hG hQ hX;refine wp_seq (h _ g a w hG fun e g' s' a' w' hG' hx hq=>?_);cases e with
 | normal=>exact hq Q' g' a' w' hG' (fun e g'' s'' a'' w'' h1 h2 h3=>hQ e g'' s'' a'' w'' h1 (hx.trans h2) h3) (fun e a'' w'' hk=>hX e a'' w'' (hk.mono hx))
 | _=>exact hQ _ g' s' a' w' hG' hx hq
def AWX2 (P:Program)(y z:Code)(Q:Exit->St->Prop)(X:Gh->World->Exit->Act->World->Prop)(s:St):Prop:=
 ∀(Q':Exit->Act->World->Prop) (g:Gh) (a:Act) (w:World),Gm g s a w->(∀e g' s' a' w',Gm g' s' a' w'->Ext g w g' w'->Q e s'->Q' e a' w')->(∀e a' w',X g w e a' w'->Q' e a' w')->y.wp P (Exit.then (z.wp P Q') Q') a w
theorem AWX.assoc {x y z:Code}(h:AW P x (Ej (AWX2 P y z Q (oG P fn R)) Q) s):AWX P (.seq (.seq x y) z) Q (oG P fn R) s:=by
 intro Q' g a w hG hQ hX;refine wp_seq (wp_seq (h _ g a w hG fun e g' s' a' w' hG' hx hq=>?_));cases e with
 | normal=>exact hq Q' g' a' w' hG' (fun e g'' s'' a'' w'' h1 h2 h3=>hQ e g'' s'' a'' w'' h1 (hx.trans h2) h3) (fun e a'' w'' hk=>hX e a'' w'' (hk.mono hx))
 | _=>exact hQ _ g' s' a' w' hG' hx hq
theorem Bt.bodyX {T:List (Nat×TD)}(hT:H6 P T){f:FuncId}{c:Code}{args:List AV}{H:List HO}(hf:P.funcs[f]? = some fn)(hb:fn.body=some c){n:Nat}(hn:fn.ntmps=n)(hle:Nat.ble args.length n=true)
    (h:AWX P c (fun e s=>(e = .normal\/e = .ret)/\∃xs,ResL P T s fn.results.toList xs/\∃H',H'.Sublist s.H/\R (Ah xs) H') (oG P fn R) ⟨Gg 0 args,H,n⟩):Bt P f H args R:=by
  intro g w vs hH hr;have hle':=B9 hle;refine (callsIn_wide (n:=1)).1 (callsIn_of_wp_marks hf hb trivial ?_);refine wpIn_wide.2 ?_;refine h _ g _ w ⟨?_,rfl,?_,hH⟩ ?_ ?_
  . simp only [L3,Array.size_replicate,hn,hr.1];omega
  . intro i
    show Rep g w _ (get (Gg 0 args) i);rw [Sa];simp only [A7,if_true,Nat.sub_zero];cases hi:args[i]? with
    | none=>exact .junk _
    | some x=>
      have hlt:i<vs.size:=by rw [hr.1];exact (List.getElem?_eq_some_iff.1 hi).1
      have:=hr.2 i x hi;simp only [Ct,Array.getElem?_append,hlt,if_true] at this ⊢;exact this
  . rintro e g' s' a' w' hG' hx ⟨he,xs,hr',H',hs,hq⟩
    obtain ⟨v,h1,h2⟩:=Ow hT hr' hG'
    have key:LeavesInM Fence.wide 1 P fn a'.tmps (fun e w'=>∃v g' r H',e = .returned v/\Rep g' w' v r/\HOK g' w' H'/\Ext g w g' w'/\R r H') a'.defers .returning w':=by
      rw [hG'.defers];exact ⟨v,h1,v,g',_,H',rfl,h2,hG'.heap.sub hs,hx,hq⟩
    rcases he with rfl | rfl <;> exact key
  . rintro e a' w' ⟨rfl,D,hD,hk,v,g',r,H',h1,h2,h3,h4,h5⟩
    show LeavesInM Fence.wide 1 P fn a'.tmps _ a'.defers .returning w';rw [hD];exact ⟨by simp,.inl ⟨D,_,rfl,run_takeDeferred hk,v,h1,v,g',r,H',rfl,h2,h3,h4,h5⟩⟩
end
def Act.Aa2 (a:Act)(ds:List Deferred):Act:={ a with defers:=a.defers++ds }
theorem Ql (a:Act)(ds:List Deferred)(d:Option Nat)(v:Value):(Act.Aa2 a ds).put d v=Act.Aa2 (a.put d v) ds:=by cases d <;> rfl
theorem Uw (a:Act)(ds:List Deferred):(Act.Aa2 a ds).eval=a.eval:=by funext y;cases y <;> rfl
def nX (ds:List Deferred)(Q:Exit->Act->World->Prop)(e:Exit)(a:Act)(w:World):Prop:=∃a0,a=Act.Aa2 a0 ds/\Q e a0 w
theorem jB {P:Program}{ops:Array Oper}{Q:Exit->Act->World->Prop}{ds:List Deferred}{i:Nat}{K K':Act->World->Prop}(hK:∀a w,K a w->K' (Act.Aa2 a ds) w){a:Act}{w:World}
    (h:wpOp P ops Q i K a w):wpOp P ops (nX ds Q) i K' (Act.Aa2 a ds) w:=by
  have hL:LetsOut Q->LetsOut (nX ds Q):=fun ⟨a,w,h⟩=>⟨_,w,a,rfl,h⟩
  unfold wpOp at h ⊢;cases ho:ops[i]? with
  | none=>rw [ho] at h;exact hK _ _ h
  | some o=>
    rw [ho] at h;simp only at h ⊢;have ht:yielded ops (Act.Aa2 a ds).tmps=yielded ops a.tmps:=rfl;rw [ht];by_cases hw:Region.wanted o (yielded ops a.tmps)=true
    . rw [if_pos hw] at h ⊢
      rcases h with h | ⟨h,h'⟩
      . left
        unfold Oper.wp at h ⊢;rw [Uw];generalize (execOp a.eval o).run P w=r at h ⊢;cases r with
        | ok x w'=>
          cases x with
          | value v=>show K' _ w';rw [Ql];exact hK _ _ h
          | skip=>show K' _ w';rw [Ql];exact hK _ _ h
          | defer d=>
            have:=hK _ _ h;rw [<-Ql] at this;exact this
          | enter f args=>
            have h':Calls P f args w' _:=h;show Calls P f args w' _;refine h'.mono ?_;intro e w'' hr;cases e with
            | returned v=>show K' _ w'';rw [Ql];exact hK _ _ hr
            | panicked c=>exact ⟨a,rfl,hr⟩
            | outgrown=>exact hL hr
          | row row args=>
            have h':Rows P row args w' _:=h;show Rows P row args w' _;exact h'.mono fun v w'' hr=>by rw [Ql];exact hK _ _ hr
          | _=>exact h.elim
        | halt e w'=>
          cases e with
          | panic v=>exact ⟨a,rfl,h⟩
          | _=>exact h.elim
      . right
        refine ⟨?_,hL h'⟩;unfold Oper.asks at h ⊢;rw [Uw];exact h
    . rw [if_neg hw] at h ⊢
      rw [Ql];exact hK _ _ h
theorem fN {P:Program}{md:Region.Mode}{ops:Array Oper}{Q:Exit->Act->World->Prop}{ds:List Deferred}:∀(B1:Nat) (listed:Array Bool) (a:Act) (w:World),wpAny P md ops Q B1 listed a w->
  wpAny P md ops (nX ds Q) B1 listed (Act.Aa2 a ds) w
 | 0,listed,a,w,h=>⟨h.1,a,rfl,h.2⟩
 | B1+1,listed,a,w,h=>⟨fun hr=>⟨a,rfl,h.1 hr⟩,fun i hi=>jB (fun a w h=>fN B1 _ a w h) (h.2 i hi)⟩
section
variable {P:Program} {ops:Array Oper}
theorem zE (hm:P.follows .mixedOrders=true){id:Nat}{Qs:St->Prop}{s:St}(K:List HO->Prop)(hK:K s.H)(hdd:Em ops=true)(h:F3 P ops K Qs (Array.replicate ops.size false) s)
  {Q':Exit->Act->World->Prop} {g:Gh} {a:Act} {w:World} (hG:Gm g s a w) (ds:List Deferred) (hQ:∀g' s' a' w',Gm g' s' a' w'->Ext g w g' w'->Qs s'->Q' .ret (Act.Aa2 a' ds) w') :
  ((Code.region id ops true).seq .ret).wp P Q' (Act.Aa2 a ds) w:=by
 have hx:=Ext.drew g w;have hG':Gm g s a w.drew:=⟨hG.size,hG.defers,fun i=>(hG.sl i).mono hx,hG.heap.drew⟩
 have key:=CanonI.any hdd h ops.size [] (Array.replicate ops.size false) s.sl g a w.drew (fun e a' w'=>match e with | .normal=>Q' .ret (Act.Aa2 a' ds) w' | _=>False)
  ⟨by simp,by simp,by simp,by simp,fun t _=>rfl,by simp,by simp,by simp,by simp,by simp,by simp,by simp,by simp,fun j o hj hl=>by
   have hlt:j<ops.size:=(Array.getElem?_eq_some_iff.1 hj).1;simp [hlt] at hl⟩ hG' (fun _=>hK) (by
   unfold tB;have:=List.length_filter_le (fun j=>!(Array.replicate ops.size false).getD j true) (List.range ops.size);simpa using this) fun g' s' a' w' k1 k2 k3=>hQ g' s' a' w' k1 (hx.trans k2) k3
 have key2:=fN (ds:=ds) _ _ _ _ key;refine wp_seq (wp_mono (wp_region_any hm key2) ?_);rintro e a' w' ⟨a0,rfl,hq⟩;cases e with
 | normal=>exact wp_ret hq
 | _=>exact hq.elim
inductive AWD (P:Program):Code->(St->Prop)->St->Prop where
 | draw (hm:P.follows .mixedOrders=true) {id:Nat} {ops:Array Oper} {Qs:St->Prop} {s:St} (K:List HO->Prop) (hK:K s.H) (hdd:Em ops=true) (h:F3 P ops K Qs (Array.replicate ops.size false) s):AWD P (.region id ops true) Qs s
def endX (P:Program)(T:List (Nat×TD))(fn:Func)(R:AV->List HO->Prop)(D:Nat)(s:St):Prop:=
 ∃i:Nat,s.H[i]? = some (HO.obj D (Obj.deferred (some [])))/\∃xs,ResL P T ⟨s.sl,s.H.set i (.obj D (.deferred none)),s.n⟩ fn.results.toList xs/\∃H3,H3.Sublist (s.H.set i (.obj D (.deferred none)))/\R (Ah xs) H3
end
end Go.Aw
namespace Go.Aw
open Go
theorem AW.ghostPost {P:Program}{c:Code}{Q:Exit->St->Prop}{s:St}(h:AW P c (fun e s=>∃s',GS s s'/\Q e s') s):AW P c Q s:=by
 intro Q' g a w hG hQ;refine h Q' g a w hG fun e g' s' a' w' h1 h2 ⟨s2,h3,h4⟩=>?_
 obtain ⟨g2,k1,k2⟩:=h3 g' a' w' h1;exact hQ e g2 s2 a' w' k1 (h2.trans k2) h4
section
variable {P:Program} {T:List (Nat×TD)} {d:Option Nat} {ty:TypeId} {pos:String} {aft:Array Edge} {gd:Option (Nat×Bool)} {ρ:Operand->AV}
end
end Go.Aw
