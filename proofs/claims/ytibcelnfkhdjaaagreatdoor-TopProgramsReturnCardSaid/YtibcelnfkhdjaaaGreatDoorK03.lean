/-
  Several texts in one: V1, V2, V3, V4, F12, W13a, R2, Q0, R3, Ay, Ar, As. No condition.
-/
import Derived.Test.YtibcelnfkhdjaaaGreatDoorK02
import Derived.Test.YtibcelnfkhdjaaaGreatDoorK01
import Derived.KernelRfl
import Derived.Test.YtibcelnfkhdjaaaGreatDoorTab
import Derived.Test.YtibcelnfkhdjaaaGreatDoorAx
import Derived.RangeFuncIn
import Derived.RangeFuncLeaves
import Derived.RangeFuncRecord
import Derived.TacticsIn
set_option linter.unusedVariables false
set_option linter.unusedSimpArgs false
set_option maxHeartbeats 3200000
set_option maxRecDepth 100000
namespace Go.Proofs.YtibcelnfkhdjaaaGreatDoor
open Go Go.Aw
def okT (l:List Tok):Prop:=l.length<=1048576/\∀t∈l,t.text.length<=1048576
def Wi (st:PS):Prop:=okT st.toks
theorem at_get {st:PS}(h:st.pos<st.toks.length):st.toks[st.pos]? = some (jM st):=by
 simp [jM,Dm,List.getElem?_eq_getElem h]
theorem bQ {st:PS}(h:st.pos<st.toks.length):(st.toks.map xK)[st.pos]? = some (cTok (jM st)):=by rw [List.getElem?_map,at_get h];rfl
theorem xV {st:PS}(h:Wi st)(hp:st.pos<st.toks.length):(jM st).text.length<=1048576:=h.2 _ (Ak (at_get hp))
theorem cU {st:PS}(h:endP st=false):st.pos<st.toks.length:=by
 unfold endP at h;rw [Ey,Jh] at h;omega
theorem Z2 {w:Ac}{st:PS}(h:Ea w st=true):st.pos<st.toks.length:=by
 unfold Ea at h;cases he:endP st with
 | true=>rw [he] at h;cases h
 | false=>exact cU he
theorem nxt_lt {k:Int}{st:PS}(h:Nt k st=true):st.pos<st.toks.length:=by
 unfold Nt at h;cases he:endP st with
 | true=>rw [he] at h;cases h
 | false=>exact cU he
theorem acc_bad {w:Ac}{st:PS}(h:¬Ow [((st.bad==0),true)]):st=Ov w st:=by
 have hb:(st.bad==0)=false:=by
  cases hq:(st.bad==0) with
  | false=>rfl
  | true=>exact absurd (fun p hp=>by simp only [D5] at hp;subst hp;exact hq) h
 have:Ea w st=false:=by
  unfold Ea endP;have:(st.bad != 0)=true:=by simp only [bne,hb];rfl
  rw [this];rfl
 unfold Ov;rw [this];rfl
theorem I4 {w:Ac}{st:PS}(h:Ea w st=false):Ov w st=st:=by unfold Ov;rw [h];rfl
theorem and_snd {a b:Bool}(h:(a&&b)=true):b=true:=by rw [Ce] at h;exact h.2
theorem txt_le {k:Int}{st:PS}(h:Wi st):(Hw k st).length<=1048576:=by
 unfold Hw;cases hn:Nt k st with
 | true=>exact xV h (nxt_lt hn)
 | false=>exact Bk _
theorem N2 (e:Int)(st:PS):(Gw e st).toks=st.toks:=by unfold Gw;split <;> rfl
theorem fU (w:Ac)(st:PS):(Ov w st).toks=st.toks:=by unfold Ov;split <;> rfl
theorem fV (w:Ac)(st:PS):(Bb w st).toks=st.toks:=by unfold Bb;split;exact N2 _ _;exact fU _ _
theorem fW (k:Int)(st:PS):(Cm k st).toks=st.toks:=by unfold Cm;split;rfl;exact N2 _ _
theorem Tv {a b:PS}(h:a.toks=b.toks):Wi a↔Wi b:=by unfold Wi;rw [h]
@[simp] theorem okS_adv (st : PS) : Wi (adv st) ↔ Wi st := Tv rfl
@[simp] theorem okS_deep (st : PS) : Wi (deep st) ↔ Wi st := Tv rfl
@[simp] theorem okS_shallow (st : PS) : Wi (shallow st) ↔ Wi st := Tv rfl
@[simp] theorem okS_failP (e : Int) (st : PS) : Wi (Gw e st) ↔ Wi st := Tv (N2 _ _)
@[simp] theorem okS_accP (w : Ac) (st : PS) : Wi (Ov w st) ↔ Wi st := Tv (fU _ _)
@[simp] theorem okS_expP (w : Ac) (st : PS) : Wi (Bb w st) ↔ Wi st := Tv (fV _ _)
@[simp] theorem okS_tokP (k : Int) (st : PS) : Wi (Cm k st) ↔ Wi st := Tv (fW _ _)
theorem Lr (st:PS)(bp:Nat):Bp Tryz.prog 83 bp 116 (cP st) (cP (st)) [.val (.pointer (some ⟨bp,0,none⟩))] (.int .i64 (D4 st)):=by
 intro H;refine Jz 28 Tryz.func83 rfl ?_;refine Ab (Qp A3 (Re (AW.seq (T6 0 rfl (Qn 0 rfl B3 (Qn 1 rfl (Aa rfl) (Qn 2 rfl Dg (Qn 3 rfl (Nc (Iq _) rfl) (Qn 4 rfl B3 (Qn 5 rfl (Aa rfl) (Qn 6 rfl Dg (Qn 7 rfl (Nc (.sl _ _) rfl) ?_))))))))))));refine Qn 8 rfl (G6 st.toks.length rfl rfl (by simp)) ?_;refine Qn 9 rfl C5 ?_;refine Jr ?_;refine Ap (Hs (fun hc1=>?_) fun hc1=>?_)
 .
  try simp only [A2,Bf] at hc1
  have hlt:st.pos<st.toks.length:=by simpa using hc1
  refine AW.seq (T6 0 rfl (Qn 0 rfl B3 (Qn 1 rfl (Aa rfl) (Qn 2 rfl Dg (Qn 3 rfl (Nc (.sl _ _) rfl) (Qn 4 rfl B3 (Qn 5 rfl (Aa rfl) (Qn 6 rfl Dg (Qn 7 rfl (Nc (Iq _) rfl) ?_)))))))));refine Qn 8 rfl (F5 wP rfl rfl (by omega) (bQ hlt)) ?_;refine Qn 9 rfl (Qf [Iq _]) (Qn 10 rfl B7 (Qn 11 rfl A3 ?_));refine Jr ?_;refine Ap (oN ?_);refine ⟨.inr rfl,[Iq _],Ze,_,S0,?_⟩;refine ⟨?_,congrArg (fun c=>HO.box bp 116 c::H) ?_⟩
  .
   try simp only [Af,D4,cSyn,Ao,A0,Bi,hc1,↓reduceIte,Ah,A6,Bs]
   try rfl
  try simp only [cP,D4,hc1,↓reduceIte,Ah,A6,Bs]
  try rfl
 try simp only [A2,Bf] at hc1
 refine B8 (Ab (Qp B3 (Qp (Aa rfl) (Qp Dg (Ua 0 (Iq _) rfl (Qp A3 (Rb ?_)))))));refine ⟨.inr rfl,[Iq _],Ze,_,S0,?_⟩;refine ⟨?_,congrArg (fun c=>HO.box bp 116 c::H) ?_⟩
 .
  try simp only [Af,D4,cSyn,Ao,A0,Bi,hc1,↓reduceIte,Ah,A6,Bs]
  try rfl
 try simp only [cP,D4,hc1,↓reduceIte,Ah,A6,Bs]
 try rfl
theorem p_is (st:PS)(bp:Nat)(w:Ac)(hS:Wi st)(hw:w.length<=1048576):Bp Tryz.prog 40 bp 116 (cP st) (cP (st)) [.val (.pointer (some ⟨bp,0,none⟩)),.str w] (.bool (Ea w st)):=by
 intro H;refine Jz 51 Tryz.func40 rfl ?_;refine Ab (Qp Bl (Re (AW.seq ?_)));refine T6 0 rfl ?_;refine Qn 0 rfl B3 ?_;refine Qn 1 rfl (Aa rfl) ?_;refine Qn 2 rfl Dg ?_;refine Qn 3 rfl (Nc (Iq _) rfl) ?_;refine Qn 4 rfl Cq (Qn 5 rfl Cw (Qo 6 rfl [] Qw B3 ?_));refine Qo 7 rfl [(12,_)] Qw (Aa rfl) ?_;refine Qo 8 rfl [(13,_)] Qw Dg ?_;refine Qo 9 rfl [(14,_)] Qw (Nc (Iq _) rfl) ?_;refine Qo 10 rfl [] Qw B3 ?_;refine Qo 11 rfl [(16,_)] Qw (Aa rfl) ?_;refine Qo 12 rfl [(17,_)] Qw Dg ?_;refine Qo 13 rfl [(18,_)] Qw (Nc (.sl _ _) rfl) ?_;refine Yo 14 rfl [(19,_)] Qw (fun hG=>G6 st.toks.length rfl rfl (by simp)) ?_;refine Qo 15 rfl [(15,_),(20,_)] Yw Lm ?_;refine Qn 16 rfl G4 ?_;refine Jr ?_;refine Ap (Hs (fun hc1=>?_) fun hc1=>?_)
 .
  try simp only [A2,Bf] at hc1
  refine Ab (Qp Bl (Rc ?_));refine ⟨.inr rfl,[.bool _],Ze,_,S0,?_⟩;refine ⟨?_,congrArg (fun c=>HO.box bp 116 c::H) ?_⟩
  .
   try simp only [Af,Ea,endP,cSyn,Ao,A0,Bi,hc1,↓reduceIte,Ah,A6,Bs]
   try rfl
  try simp only [cP,Ea,endP,hc1,↓reduceIte,Ah,A6,Bs]
  try rfl
 try simp only [A2,Bf] at hc1
 have hlt:=cU (st:=st) hc1;refine B8 (AW.seq ?_);refine T6 0 rfl ?_;refine Qn 0 rfl B3 ?_;refine Qn 1 rfl (Aa rfl) ?_;refine Qn 2 rfl Dg ?_;refine Qn 3 rfl (Nc (.sl _ _) rfl) ?_;refine Qn 4 rfl B3 ?_;refine Qn 5 rfl (Aa rfl) ?_;refine Qn 6 rfl Dg ?_;refine Qn 7 rfl (Nc (Iq _) rfl) ?_;refine Qn 8 rfl (F5 wP rfl rfl (by omega) (bQ hlt)) ?_;refine Qn 9 rfl (C8 wP) ?_;refine aB 10 rfl (G5 (l:=[.int .i64 0,.str [],.int .i64 0]) (by kernel_rfl)) (by rintro _ _ ⟨b5,rfl,rfl⟩;simp) ?_;rintro _ _ ⟨b5,rfl,rfl⟩;refine iR 11 rfl (Mf 0 (.agg _) wP (_::_::_) rfl) ?_;rintro _ _ ⟨rfl,rfl⟩;refine Ap ?_;refine AW.ghost (GS.freeze (t:=5) 0 rfl rfl) ?_;refine Ab (Qp (Qf J6) (Qp Hn (Qp Iw ?_)));refine Qp (Gk rfl rfl) ?_;refine Qp Cw (Qg [] Qw (Qf wP) (Qg [(38,_)] Qw B7 (Qg [(39,_)] Qw Bv (Qg [(40,_)] Qw Cw (Qg [] Qw (Qf wP) (Qg [(42,_)] Qw B7 (Qg [(43,_)] Qw Bv (Qg [(44,_)] Qw Cw (Qg [] Qw Iw ?_)))))))));refine Qg [(46,_)] Qw (Qc rfl (c22 w hw)) ?_;refine Qg [(45,_),(47,_)] Qw Mu (Qg [(41,_),(48,_)] Qw G4 (Qp Mu (Qp Bl (Rb ?_))));refine ⟨.inr rfl,[.bool _],Ze,_,S0,?_⟩;refine ⟨?_,congrArg (fun c=>HO.box bp 116 c::H) ?_⟩
 .
  try simp only [Af,Ea,endP,cSyn,Ao,A0,Bi,hc1,↓reduceIte,Ah,A6,Bs]
  try rfl
 try simp only [cP,Ea,endP,hc1,↓reduceIte,Ah,A6,Bs]
 try rfl
theorem Fl (st:PS)(bp:Nat)(w:Ac)(hS:Wi st)(hw:w.length<=1048576):Bp Tryz.prog 88 bp 116 (cP st) (cP (Ov w st)) [.val (.pointer (some ⟨bp,0,none⟩)),.str w] (.bool (Ea w st)):=by
 intro H;refine Jz 16 Tryz.func88 rfl ?_;refine Ab (Qp Bl (A7 (Cj (Qp B3 (Qp Iw ?_)))));refine AOL.Aaq (C0 (k:=0) (by kernel_rfl) rfl rfl (p_is _ _ _ (by simpa using hS) (by assumption))) rfl rfl ?_;refine Qp Ke (Br (fun hc1=>?_) fun hc1=>?_)
 .
  try simp only [A2,Bf] at hc1
  refine Ab (Qp Bl (Rc ?_));refine ⟨.inr rfl,[.bool _],Ze,_,S0,?_⟩;refine ⟨?_,congrArg (fun c=>HO.box bp 116 c::H) ?_⟩
  .
   try simp only [Af,Ov,cSyn,Ao,A0,Bi,hc1,↓reduceIte,Ah,A6,Bs]
   try rfl
  try simp only [cP,Ov,hc1,↓reduceIte,Ah,A6,Bs]
  try rfl
 try simp only [A2,Bf] at hc1
 have hlt:=Z2 (w:=w) (st:=st) hc1;have hml:=hS.1;refine B8 (Ab (Qp B3 (Qp (Aa rfl) (Qp Dg (Ua 0 (Iq _) rfl (Qp Ii (Qp (Aa rfl) (Qp Dg ?_))))))));refine B4 0 ghz (_::_) (Cf (Qp Bl (Rb ?_)));refine ⟨.inr rfl,[.bool _],Ze,_,S0,?_⟩;refine ⟨?_,congrArg (fun c=>HO.box bp 116 c::H) ?_⟩
 .
  try simp only [Af,Ov,cSyn,Ao,A0,Bi,hc1,↓reduceIte,Ah,A6,Bs]
  try rfl
 try simp only [cP,Ov,hc1,↓reduceIte,Ah,A6,Bs]
 try rfl
theorem mJ (st:PS)(bp:Nat)(e:Int):Bp Tryz.prog 39 bp 116 (cP st) (cP (Gw e st)) [.val (.pointer (some ⟨bp,0,none⟩)),.int .i64 e] (.tuple []):=by
 intro H;refine Jz 18 Tryz.func39 rfl ?_;refine Ab (Qp B3 (Qp (Aa rfl) (Qp Dg (Ua 0 (Iq _) rfl (Qp Bv (Br (fun hc1=>?_) fun hc1=>?_))))))
 .
  try simp only [A2,Bf] at hc1
  refine AW.region (Qp B3 (Qp B3 (Qp Ax (Qp B3 ?_))));refine AOL.Aaq (C0 (k:=0) (by kernel_rfl) rfl rfl (Lr _ _)) rfl rfl ?_;refine Qp (Aa rfl) (Qp Dg ?_);refine B4 0 ghz (_::_) (Qp (Aa rfl) (Qp Dg ?_));refine B4 0 ghz (_::_) (AOL.nil ?_);refine ⟨.inl rfl,[],.nil,_,.refl _,?_⟩;refine ⟨?_,congrArg (fun c=>HO.box bp 116 c::H) ?_⟩
  .
   try simp only [Af,Gw,cSyn,Ao,A0,Bi,hc1,↓reduceIte,Ah,A6,Bs]
   try rfl
  try simp only [cP,Gw,hc1,↓reduceIte,Ah,A6,Bs]
  try rfl
 try simp only [A2,Bf] at hc1
 refine AW.skip ?_;refine ⟨.inl rfl,[],.nil,_,.refl _,?_⟩;refine ⟨?_,congrArg (fun c=>HO.box bp 116 c::H) ?_⟩
 .
  try simp only [Af,Gw,cSyn,Ao,A0,Bi,hc1,↓reduceIte,Ah,A6,Bs]
  try rfl
 try simp only [cP,Gw,hc1,↓reduceIte,Ah,A6,Bs]
 try rfl
theorem Ee (st:PS)(bp:Nat)(w:Ac)(hS:Wi st)(hw:w.length<=1048576):Bp Tryz.prog 84 bp 116 (cP st) (cP (Bb w st)) [.val (.pointer (some ⟨bp,0,none⟩)),.str w] (.tuple []):=by
 intro H;refine Jz 17 Tryz.func84 rfl ?_;refine Ab (Qp B3 (Qp (Aa rfl) (Qp Dg (Ua 0 (Iq _) rfl (Qp Bv (Qp Cw (Qg [] Qw B3 (Qg [] Qw Iw ?_))))))));refine AOL.ge _ [(10,_),(11,_)] rfl (jS.all ⟨Ent.Aas _ _,Ent.Aas _ _,trivial⟩) (fun hG=>D2 rfl ((Fl _ _ _ (by simpa using hS) (by assumption)).at (k:=0) (H2:=_::_) rfl rfl)) (fun hG=>congrArg (fun s=>HO.box bp 116 (cP s)::H) (acc_bad hG)) rfl ?_;refine Qg [(12,_)] Qw Ke (Qp Mu (Br (fun hc1=>?_) fun hc1=>?_))
 .
  try simp only [A2,Bf] at hc1
  refine AW.region (Qp B3 (Rcl ((mJ _ _ _).at (k:=0) (H2:=_::_) rfl rfl) (AOL.nil ?_)));refine ⟨.inl rfl,[],.nil,_,.refl _,?_⟩;refine ⟨?_,congrArg (fun c=>HO.box bp 116 c::H) ?_⟩
  .
   try simp only [Af,Bb,cSyn,Ao,A0,Bi,hc1,↓reduceIte,Ah,A6,Bs]
   try rfl
  try simp only [cP,Bb,I4 (by simpa using and_snd hc1),hc1,↓reduceIte,Ah,A6,Bs]
  try rfl
 try simp only [A2,Bf] at hc1
 refine AW.skip ?_;refine ⟨.inl rfl,[],.nil,_,.refl _,?_⟩;refine ⟨?_,congrArg (fun c=>HO.box bp 116 c::H) ?_⟩
 .
  try simp only [Af,Bb,cSyn,Ao,A0,Bi,hc1,↓reduceIte,Ah,A6,Bs]
  try rfl
 try simp only [cP,Bb,hc1,↓reduceIte,Ah,A6,Bs]
 try rfl
theorem p_next (st:PS)(bp:Nat)(k:Int)(hS:Wi st):Bp Tryz.prog 187 bp 116 (cP st) (cP (st)) [.val (.pointer (some ⟨bp,0,none⟩)),.int .i64 k] (.bool (Nt k st)):=by
 intro H;refine Jz 47 Tryz.func187 rfl ?_;refine Ab (Qp Bl (Re (AW.seq ?_)));refine T6 0 rfl ?_;refine Qn 0 rfl B3 ?_;refine Qn 1 rfl (Aa rfl) ?_;refine Qn 2 rfl Dg ?_;refine Qn 3 rfl (Nc (Iq _) rfl) ?_;refine Qn 4 rfl Cq (Qn 5 rfl Cw (Qo 6 rfl [] Qw B3 ?_));refine Qo 7 rfl [(12,_)] Qw (Aa rfl) ?_;refine Qo 8 rfl [(13,_)] Qw Dg ?_;refine Qo 9 rfl [(14,_)] Qw (Nc (Iq _) rfl) ?_;refine Qo 10 rfl [] Qw B3 ?_;refine Qo 11 rfl [(16,_)] Qw (Aa rfl) ?_;refine Qo 12 rfl [(17,_)] Qw Dg ?_;refine Qo 13 rfl [(18,_)] Qw (Nc (.sl _ _) rfl) ?_;refine Yo 14 rfl [(19,_)] Qw (fun hG=>G6 st.toks.length rfl rfl (by simp)) ?_;refine Qo 15 rfl [(15,_),(20,_)] Yw Lm ?_;refine Qn 16 rfl G4 ?_;refine Jr ?_;refine Ap (Hs (fun hc1=>?_) fun hc1=>?_)
 .
  try simp only [A2,Bf] at hc1
  refine Ab (Qp Bl (Rc ?_));refine ⟨.inr rfl,[.bool _],Ze,_,S0,?_⟩;refine ⟨?_,congrArg (fun c=>HO.box bp 116 c::H) ?_⟩
  .
   try simp only [Af,Nt,endP,cSyn,Ao,A0,Bi,hc1,↓reduceIte,Ah,A6,Bs]
   try rfl
  try simp only [cP,Nt,endP,hc1,↓reduceIte,Ah,A6,Bs]
  try rfl
 try simp only [A2,Bf] at hc1
 have hlt:=cU (st:=st) hc1;refine B8 (AW.seq ?_);refine T6 0 rfl ?_;refine Qn 0 rfl B3 ?_;refine Qn 1 rfl (Aa rfl) ?_;refine Qn 2 rfl Dg ?_;refine Qn 3 rfl (Nc (.sl _ _) rfl) ?_;refine Qn 4 rfl B3 ?_;refine Qn 5 rfl (Aa rfl) ?_;refine Qn 6 rfl Dg ?_;refine Qn 7 rfl (Nc (Iq _) rfl) ?_;refine Qn 8 rfl (F5 wP rfl rfl (by omega) (bQ hlt)) ?_;refine Qn 9 rfl (C8 wP) ?_;refine aB 10 rfl (G5 (l:=[.int .i64 0,.str [],.int .i64 0]) (by kernel_rfl)) (by rintro _ _ ⟨b5,rfl,rfl⟩;simp) ?_;rintro _ _ ⟨b5,rfl,rfl⟩;refine iR 11 rfl (Mf 0 (.agg _) wP (_::_::_) rfl) ?_;rintro _ _ ⟨rfl,rfl⟩;refine Ap ?_;refine AW.ghost (GS.freeze (t:=5) 0 rfl rfl) ?_;refine Ab (Qp (Qf wP) (Qp B7 (Qp Ax (Qp Bv (Qp Cw (Qg [] Qw Ax (Qg [(38,_)] Qw Cq (Qg [(39,_)] Qw Cw (Qg [] Qw (Qf J6) ?_)))))))));refine Qg [(41,_)] Qw Hn ?_;refine Qg [(42,_)] Qw (Qc rfl (c22 (jM st).text (xV hS hlt))) ?_;refine Qg [(43,_)] Qw Ke (Qg [(40,_),(44,_)] Qw G4 (Qp Mu (Qp Bl (Rb ?_))));refine ⟨.inr rfl,[.bool _],Ze,_,S0,?_⟩;refine ⟨?_,congrArg (fun c=>HO.box bp 116 c::H) ?_⟩
 .
  try simp only [Af,Nt,endP,cSyn,Ao,A0,Bi,hc1,↓reduceIte,Ah,A6,Bs]
  try rfl
 try simp only [cP,Nt,endP,hc1,↓reduceIte,Ah,A6,Bs]
 try rfl
theorem tQ (st:PS)(bp:Nat)(k:Int)(hS:Wi st):Bp Tryz.prog 149 bp 116 (cP st) (cP (Cm k st)) [.val (.pointer (some ⟨bp,0,none⟩)),.int .i64 k] (.tuple [.str (Hw k st),.bool (Nt k st)]):=by
 intro H;refine Jz 31 Tryz.func149 rfl ?_;refine Ab (Qp Nb (Qp Bl (A7 (Cj (Qp B3 (Qp Ax ?_))))));refine AOL.Aaq (C0 (k:=0) (by kernel_rfl) rfl rfl (p_next _ _ _ (by simpa using hS))) rfl rfl ?_;refine Qp Ke (Br (fun hc1=>?_) fun hc1=>?_)
 .
  try simp only [A2,Bf] at hc1
  refine Ab (Qp B3 (Rcl ((mJ _ _ _).at (k:=0) (H2:=_::_) rfl rfl) (Cf (Qp Nb (Qp Bl (Rc ?_))))));refine ⟨.inr rfl,[.str _,.bool _],Zf,_,S0,?_⟩;refine ⟨?_,congrArg (fun c=>HO.box bp 116 c::H) ?_⟩
  .
   try simp only [Af,Cm,Hw,cSyn,Ao,A0,Bi,hc1,↓reduceIte,Ah,A6,Bs]
   try rfl
  try simp only [cP,Cm,Hw,hc1,↓reduceIte,Ah,A6,Bs]
  try rfl
 try simp only [A2,Bf] at hc1
 have hlt:=nxt_lt (k:=k) (st:=st) hc1;have hml:=hS.1;refine B8 (Ab (Qp B3 (Qp (Aa rfl) (Qp Dg (Ua 0 (Iq _) rfl (Qp Ii (Qp (Aa rfl) (Qp Dg ?_))))))));refine B4 0 ghz (_::_) (Re (T6 0 rfl (Qn 0 rfl B3 (Qn 1 rfl (Aa rfl) (Qn 2 rfl Dg (Qn 3 rfl (Nc (.sl _ _) rfl) (Qn 4 rfl B3 (Qn 5 rfl (Aa rfl) (Qn 6 rfl Dg (Qn 7 rfl (Nc (Iq _) rfl) ?_))))))))));refine Qn 8 rfl (P_sub rfl rfl rfl (by constructor <;> omega)) ?_;refine Qn 9 rfl (F5 wP rfl rfl (by omega) (by rw [show ((st.pos:Int)+1-1).toNat=st.pos by omega];exact bQ hlt)) ?_;refine Qn 10 rfl (Qf J6) (Qn 11 rfl Hn (Qn 12 rfl Nb (Qn 13 rfl Bl ?_)));refine Jr ?_;refine Ap (AW.ret ?_);refine ⟨.inr rfl,[.str _,.bool _],Zf,_,S0,?_⟩;refine ⟨?_,congrArg (fun c=>HO.box bp 116 c::H) ?_⟩
 .
  try simp only [Af,Cm,Hw,cSyn,Ao,A0,Bi,hc1,↓reduceIte,Ah,A6,Bs]
  try rfl
 try simp only [cP,Cm,Hw,hc1,↓reduceIte,Ah,A6,Bs]
 try rfl
theorem Rv (st:PS)(bp:Nat)  (hS:Wi st):Bp Tryz.prog 85 bp 116 (cP st) (cP (Cm 0 st)) [.val (.pointer (some ⟨bp,0,none⟩))] (.str (Hw 0 st)):=by
 intro H;refine Jz 11 Tryz.func85 rfl ?_;refine Ab (Qp Nb (Cf (Qp B3 ?_)));refine Rt (D2 rfl ((tQ _ _ _ (by simpa using hS)).at (k:=0) (H2:=_::_) rfl rfl)) ?_;refine Qp Wz (Qp Qxt (Qp oB (Qp Nb (Qp Bl (Cf (Qp Iw (Qp Nb (Rb ?_))))))));refine ⟨.inr rfl,[.str _],Ze,_,S0,?_⟩;refine ⟨?_,congrArg (fun c=>HO.box bp 116 c::H) ?_⟩
 .
  try simp only [Af,cSyn,Ao,A0,Bi,↓reduceIte,Ah,A6,Bs]
  try rfl
 try simp only [cP,↓reduceIte,Ah,A6,Bs]
 try rfl
theorem mK (st:PS)(bp:Nat)  (hS:Wi st):Bp Tryz.prog 192 bp 116 (cP st) (cP (Cm 1 st)) [.val (.pointer (some ⟨bp,0,none⟩))] (.int .i64 (Up st)):=by
 intro H;refine Jz 20 Tryz.func192 rfl ?_;refine Ab (Qp A3 (Cf (Qp B3 ?_)));refine Rt (D2 rfl ((tQ _ _ _ (by simpa using hS)).at (k:=0) (H2:=_::_) rfl rfl)) ?_;refine Qp Wz (Qp Qxt (Qp oB (Qp Nb (Qp Bl (A7 (Cj (Qp Cw (Qp Ke (Br (fun hc1=>?_) fun hc1=>?_)))))))))
 .
  try simp only [A2,Bf] at hc1
  refine Ab (Qp A3 (Rc ?_));refine ⟨.inr rfl,[Iq _],Ze,_,S0,?_⟩;refine ⟨?_,congrArg (fun c=>HO.box bp 116 c::H) ?_⟩
  .
   try simp only [Af,Up,Hw,cSyn,Ao,A0,Bi,hc1,↓reduceIte,Ah,A6,Bs]
   try rfl
  try simp only [cP,Up,Hw,hc1,↓reduceIte,Ah,A6,Bs]
  try rfl
 try simp only [A2,Bf] at hc1
 refine B8 (Ab (Qp Iw (Qp (Qc rfl (c18 _ (txt_le hS))) (Qp Wz (Qp Wt (Qp Wt (Qp A3 (Qp A3 (Cf (Qp Ax (Qp A3 (Rb ?_))))))))))));refine ⟨.inr rfl,[Iq _],Ze,_,S0,?_⟩;refine ⟨?_,congrArg (fun c=>HO.box bp 116 c::H) ?_⟩
 .
  try simp only [Af,Up,Hw,cSyn,Ao,A0,Bi,hc1,↓reduceIte,Ah,A6,Bs]
  try rfl
 try simp only [cP,Up,Hw,hc1,↓reduceIte,Ah,A6,Bs]
 try rfl
theorem Gd {w:Ac}{st:PS}(h:Ea w st=true):Ov w st=adv st:=by unfold Ov;rw [h];rfl
def okD (D:Int)(st:PS):Prop:=Wi st/\D<=st.depth/\st.depth<=64
def Du (F:PS->Syn×PS):Prop:=∀st,0<=st.depth->st.depth<=64->(F st).2.toks=st.toks/\st.pos<=(F st).2.pos/\(F st).2.depth=st.depth
theorem Uc (e:Int)(st:PS):(Gw e st).depth=st.depth:=by unfold Gw;split <;> rfl
theorem vP (w:Ac)(st:PS):(Ov w st).depth=st.depth:=by unfold Ov;split <;> rfl
theorem vQ (w:Ac)(st:PS):(Bb w st).depth=st.depth:=by unfold Bb;split;exact Uc _ _;exact vP _ _
theorem vR (k:Int)(st:PS):(Cm k st).depth=st.depth:=by unfold Cm;split;rfl;exact Uc _ _
theorem fJ {D:Int}{a b:PS}(h:a.toks=b.toks)(h2:a.depth=b.depth):okD D a↔okD D b:=by unfold okD Wi;rw [h,h2]
@[simp] theorem okD_adv (D : Int) (st : PS) : okD D (adv st) ↔ okD D st := fJ rfl rfl
@[simp] theorem okD_failP (D : Int) (e : Int) (st : PS) : okD D (Gw e st) ↔ okD D st := fJ (N2 _ _) (Uc _ _)
@[simp] theorem okD_accP (D : Int) (w : Ac) (st : PS) : okD D (Ov w st) ↔ okD D st := fJ (fU _ _) (vP _ _)
@[simp] theorem okD_expP (D : Int) (w : Ac) (st : PS) : okD D (Bb w st) ↔ okD D st := fJ (fV _ _) (vQ _ _)
@[simp] theorem okD_tokP (D : Int) (k : Int) (st : PS) : okD D (Cm k st) ↔ okD D st := fJ (fW _ _) (vR _ _)
theorem Du.okD {F:PS->Syn×PS}(h:Du F){D:Int}(hD:0<=D){st:PS}(ho:okD D st):okD D (F st).2:=by
 obtain ⟨h1,h2,h3⟩:=ho;obtain ⟨k1,k2,k3⟩:=h st (by omega) h3;exact ⟨(Tv k1).2 h1,by omega,by omega⟩
theorem Y9 (e:Int)(st:PS):(Gw e st).pos=st.pos:=by unfold Gw;split <;> rfl
theorem pos_accP (w:Ac)(st:PS):st.pos<=(Ov w st).pos:=by
 unfold Ov;split
 . exact Nat.le_succ _
 exact Be _
theorem pos_expP (w:Ac)(st:PS):st.pos<=(Bb w st).pos:=by unfold Bb;split;exact Nat.le_of_eq (Y9 _ _).symm;exact pos_accP _ _
theorem pos_tokP (k:Int)(st:PS):st.pos<=(Cm k st).pos:=by unfold Cm;split;exact Nat.le_succ _;exact Nat.le_of_eq (Y9 _ _).symm
theorem Oi {e:Int}(he:e≠0)(st:PS):((Gw e st).bad != 0)=true:=by
 unfold Gw;split
 . simpa using he
 rename_i h;simpa using h
def Gj (st:PS):PS:=if decide (64<=st.depth) then Gw 12 st else st
theorem Rq {F:PS->Syn×PS}{n:Nat}{st:PS}{out:List Syn}(h:0<n):Gb F n st out=if Ea Cl st then Gb F (n-1) (F (adv st)).2 (out ++ [(F (adv st)).1]) else (out,st):=by
 obtain ⟨m,rfl⟩:∃m,n=m+1:=⟨n-1,by omega⟩;rfl
theorem Xx (l:List Syn):∀x∈l.map Df,Av x=true:=sc_map fun a=>by rw [Bi];rfl
theorem Lu {es:List (List AV)}{out:List Syn}{t:Syn}(h:es=out.map Df):es ++ [cSyn t]=(out ++ [t]).map Df:=by rw [h,Di,X6,Bi]
theorem p_nested (st st2 st3:PS)(bp:Nat)(R R3:List HO)(f:Nat)(hf:Y0 Tryz.prog f=true)(first cap:List AV)(hlt:st.pos<st.toks.length)(hS:Wi st)(hcl:(Gj st).bad=0->Cc Tryz.prog f (.box bp 116 (cP (adv (deep st)))::R) (first ++ []++cap) (fun _ H'=>H' = .box bp 116 (cP st2)::R3/\st3=shallow st2))(hno:(Gj st).bad≠0->st3=Gj st/\R3=R):Cc Tryz.prog 151 (.box bp 116 (cP st)::R) [.val (.pointer (some ⟨bp,0,none⟩)),.fn (.func f) first cap] (fun r H'=>r = .tuple []/\H' = .box bp 116 (cP st3)::R3):=by
 refine Jz 39 Tryz.func151 rfl ?_;refine Cj (Qp B3 ?_);refine Qp (Aa rfl) ?_;refine Qp Dg ?_;refine Ua 0 (Iq _) rfl ?_;refine Qp Lm (Br (fun hc1=>?_) fun hc1=>?_)
 .
  try simp only [A2,Bf] at hc1
  refine AW.region (Qp B3 ?_);refine Rcl ((mJ _ _ _).at (k:=0) (H2:=_::_) rfl rfl) ?_;refine A7 (Cj (Qp B3 ?_));refine Qp (Aa rfl) ?_;refine Qp Dg ?_;refine Ua 0 (Iq _) rfl ?_;refine Qp Cq (Br (fun hc2=>?_) fun hc2=>?_)
  .
   try simp only [A2,Bf] at hc2
   have hml:=hS.1;refine oN ?_;refine ⟨.inr rfl,[],.nil,_,.refl _,?_⟩;obtain ⟨e1,e2⟩:=hno (by unfold Gj;rw [hc1];simpa using hc2);subst e1;subst e2;exact ⟨rfl,congrArg (fun s=>HO.box bp 116 (cP s)::R3) (by unfold Gj;rw [hc1];rfl)⟩
  try simp only [A2,Bf] at hc2
  exact absurd ((Oi (e:=12) (by decide) st).symm.trans hc2) (by decide)
 try simp only [A2,Bf] at hc1
 refine B8 (Cj (Qp B3 ?_));refine Qp (Aa rfl) ?_;refine Qp Dg ?_;refine Ua 0 (Iq _) rfl ?_;refine Qp Cq (Br (fun hc3=>?_) fun hc3=>?_)
 .
  try simp only [A2,Bf] at hc3
  refine oN ?_;refine ⟨.inr rfl,[],.nil,_,.refl _,?_⟩;obtain ⟨e1,e2⟩:=hno (by unfold Gj;rw [hc1];simpa using hc3);subst e1;subst e2;exact ⟨rfl,congrArg (fun s=>HO.box bp 116 (cP s)::R3) (by unfold Gj;rw [hc1];rfl)⟩
 try simp only [A2,Bf] at hc3
 have hml:=hS.1;have h9:(Gj st).bad=0:=by unfold Gj;rw [hc1];simpa using hc3
 refine B8 (Ab (Qp B3 ?_));refine Qp (Aa rfl) ?_;refine Qp Dg ?_;refine Ua 0 (Iq _) rfl ?_;refine Qp (P_addw rfl rfl) ?_;refine Qp (Aa rfl) ?_;refine Qp Dg ?_;refine B4 0 ghz (_::_) ?_;refine Cf (Qp B3 ?_);refine Qp (Aa rfl) ?_;refine Qp Dg ?_;refine Ua 0 (Iq _) rfl ?_;refine Qp Ii ?_;refine Qp (Aa rfl) ?_;refine Qp Dg ?_;refine B4 0 ghz (_::_) ?_;refine Cf ?_;refine Qp (Ai (v:=.fn _ _ _) rfl) ?_;refine Qe (Ms hf rfl rfl rfl (hcl h9)) ?_;rintro _ _ ⟨rfl,h3⟩;refine A7 (AW.region (Qp B3 ?_));refine Qp (Aa rfl) ?_;refine Qp Dg ?_;refine Ua 0 (Iq _) rfl ?_;refine Qp (P_subw rfl rfl) ?_;refine Qp (Aa rfl) ?_;refine Qp Dg ?_;refine B4 0 ghz (_::_) ?_;refine AOL.nil ?_;refine ⟨.inl rfl,[],.nil,_,.refl _,?_⟩;subst h3;exact ⟨rfl,rfl⟩
theorem p_list (st:PS)(bp:Nat)(D:Int)(hD:0<=D)(f:Nat)(hf:Y0 Tryz.prog f=true)(first cap:List AV)(F:PS->Syn×PS)(hF:Du F)(hc:∀st,okD D st->Bp Tryz.prog f bp 116 (cP st) (cP (F st).2) (first ++ []++cap) (.agg (cSyn (F st).1)))(hO:okD D st):Bp Tryz.prog 86 bp 116 (cP st) (cP ((Kq F st).2)) [.val (.pointer (some ⟨bp,0,none⟩)),.fn (.func f) first cap] (.sl 6 ((Kq F st).1.map Df)):=by
 intro H;refine Jz 17 Tryz.func86 rfl ?_;refine Ab (Qp (Ck (z:=6) rfl) (Cf (Qp (Ai (v:=.fn _ _ _) rfl) (Rt (Ms (hf) rfl rfl rfl ((hc st hO).at (k:=0) (H2:=_::_) rfl rfl)) (Qe (Jl (es:=[Aj]) tok rfl rfl rfl rfl rfl rfl rfl rfl rfl) ?_)))));rintro _ _ ⟨v8,rfl,rfl⟩;refine Qp (An (v:=.row _ _ _) rfl) (Re (AW.block ?_));refine AW.Aan (fun (p:Nat×PS×List Syn×List (List AV)×Value)=>(⟨[(0,.val (.pointer (some ⟨bp,0,none⟩))),(1,.fn (.func f) first cap),(5,.row p.2.2.2.2 6 p.2.2.2.1)],.row p.2.2.2.2 p.2.2.2.1.length 25 6 :: .box bp 116 (cP p.2.1)::H,17⟩:St)) (fun p=>p.2.2.2.1=p.2.2.1.map Df/\okD D p.2.1/\B1 p.2.1<=p.1/\p.2.2.1.length<=p.2.1.pos+1/\Kq F st=Gb F p.1 p.2.1 p.2.2.1) (fun p=>p.1) ((B1 (F st).2,(F st).2,[(F st).1],[cSyn (F st).1],v8)) ?_ Dp ?_
 . exact ⟨by rw [X6,Bi],hF.okD hD hO,Be _,by simp,rfl⟩
 rintro p hR;have hes:p.2.2.2.1=p.2.2.1.map Df:=hR.1;have hO2:okD D p.2.1:=hR.2.1;have hS:=hO2.1;have hfu:B1 p.2.1<=p.1:=hR.2.2.1;have hn:0<p.1:=by unfold B1 at hfu;omega
 have hol:p.2.2.1.length<=p.2.1.pos+1:=hR.2.2.2.1;have hsc:∀c∈p.2.2.2.1,Av c=true:=by rw [hes];exact Xx _
 have hel:p.2.2.2.1.length=p.2.2.1.length:=by rw [hes,Bg]
 refine Cj (Qp B3 ?_);refine Rt (D2 rfl ((Fl _ _ _ (by simpa using hS) (by first | assumption | decide)).at (k:=1) (H2:=_::_::_) rfl rfl)) ?_;refine Br (fun hc1=>?_) fun hc1=>?_
 .
  try simp only [A2,Bf] at hc1
  have hlt:=Z2 hc1;have hml:=hS.1;have hFa:=hF (adv p.2.1) (by have:=hO2.2.1;show (0:Int)<=p.2.1.depth;omega) hO2.2.2;have hps:p.2.1.pos+1<=(F (adv p.2.1)).2.pos:=hFa.2.1;have hts:(F (adv p.2.1)).2.toks=p.2.1.toks:=hFa.1;refine AW.ghost (GS.Aap (H2:=_::_::_) 1 rfl (congrArg cP (Gd hc1)) rfl) ?_;refine B8 (AW.block (AW.region (Qp (Ai (v:=.row _ _ _) rfl) (Qp (Ai (v:=.fn _ _ _) rfl) ?_))));refine Rt (Ms (hf) rfl rfl rfl ((hc _ (by simpa using hO2)).at (k:=1) (H2:=_::_::_) rfl rfl)) ?_;refine Qp (Kf [Aj] rfl) ?_;refine Qe (Zq 0 rfl (Ff rfl) (hsc) (by simp;omega) (by simp [maxLen];omega)) ?_;rintro _ _ ⟨v15,rfl,rfl⟩;refine Qp (An (v:=.row _ _ _) rfl) (Rk ?_);refine ⟨(p.1-1,(F (adv p.2.1)).2,p.2.2.1 ++ [(F (adv p.2.1)).1],p.2.2.2.1 ++ [cSyn (F (adv p.2.1)).1],v15),?_,?_,Dp⟩
  . exact ⟨Lu hes,hF.okD hD (by simpa using hO2),by unfold B1 at hfu ⊢;rw [hts];simp only;omega,by simp only [Al,E6];omega,hR.2.2.2.2.trans (by rw [Rq hn,if_pos hc1])⟩
  simp only;omega
 try simp only [A2,Bf] at hc1
 refine AW.ghost (GS.Aap (H2:=_::_::_) 1 rfl (congrArg cP (I4 hc1)) rfl) ?_;refine AW.exit ?_;refine B9 (Ri (Ab ?_));refine AOL.ghost (GS.unrow 5 rfl) ?_;refine Qp Ng (Qp rL (Rb ?_));refine ⟨.inr rfl,[.sl _ _],Ze,_,S1,?_⟩;have h9:Kq F st=(p.2.2.1,p.2.1):=hR.2.2.2.2.trans (by rw [Rq hn,iN hc1]);exact ⟨by rw [h9,<-hes];rfl,congrArg (fun s=>HO.box bp 116 (cP s)::H) (by rw [h9])⟩
abbrev cSg (s:Ac×Int):List AV:=[.str s.1,.int .i64 s.2]
theorem sg_at {sg:List (Ac×Int)}{k:Nat}{s:Ac×Int}(h:sg[k]? = some s):(sg.map cSg)[k]? = some [.str s.1,.int .i64 s.2]:=by rw [List.getElem?_map,h];rfl
theorem cC {α:Type}{p:α->Bool}:∀{l:List α} {k:Nat} {x:α},(∀j y,j<k->l[j]? = some y->p y=false)->l[k]? = some x->p x=true->l.find? p=some x
  | [],k,x,_,h,_=>by simp at h
  | a::l,0,x,_,h,hp=>by
    simp only [List.getElem?_cons_zero,Option.some.injEq] at h;subst h;rw [List.find?_cons,hp]
  | a::l,k+1,x,hn,h,hp=>by
    rw [List.find?_cons,hn 0 a (by omega) rfl];exact cC (l:=l) (k:=k) (fun j y hj hy=>hn (j+1) y (by omega) hy) h hp
theorem pO {α:Type}{p:α->Bool}{l:List α}(hn:∀j y,j<l.length->l[j]? = some y->p y=false):l.find? p=none:=by
 rw [List.find?_eq_none];intro x hx;obtain ⟨k,hk⟩:=List.getElem?_of_mem hx;have:=hn k x (List.getElem?_eq_some_iff.1 hk).1 hk;rw [this];decide
theorem gQ {F:PS->Syn×PS}{sg:List (Ac×Int)}{n:Nat}{st:PS}{out:Syn}(h:0<n):Ge F sg n st out=match sg.find? (fun s=>Ea s.1 st) with
  | some s=>Ge F sg (n-1) (F (adv st)).2 (K6 s.2 out (F (adv st)).1 out.pos)
  | none=>(out,st):=by
 obtain ⟨m,rfl⟩:∃m,n=m+1:=⟨n-1,by omega⟩;rfl
theorem Nv (op:Int)(x y:Syn)(k:Int):Au Tryz.prog 194 [.int .i64 op,.agg (cSyn x),.agg (cSyn y),.int .i64 k] (.agg (cSyn (K6 op x y k))):=by
 refine G3 15 Tryz.func194 rfl fun H=>?_
 refine Ab (Qp (Ji Aj) (Qp (Ji Aj) ?_));refine E8 Kb fun b8=>?_
 refine Cf (Qp Ax (Qp (C8 Aj) (Qp (C8 Aj) (Qp (Kf [Aj,Aj] rfl) (Qp Ax (Qp (Gz Aj) ?_))))));refine B4 0 Aj (_::_) (Rb ?_);refine Yx [.agg Aj] (Zb 0) S1 ?_;exact congrArg (fun l=>AV.agg [.int .i64 17,.str [],.str [],.int .i64 op,.sl 6 l,.int .i64 k]) (by rw [Ao,Ao,A0,Bi,Bi]:[cSyn x,cSyn y] = [x,y].map Df)
theorem tP (st:PS)(bp:Nat)(D:Int)(hD:0<=D)(f:Nat)(hf:Y0 Tryz.prog f=true)(first cap:List AV)(F:PS->Syn×PS)(hF:Du F)(hc:∀st,okD D st->Bp Tryz.prog f bp 116 (cP st) (cP (F st).2) (first ++ []++cap) (.agg (cSyn (F st).1)))(hO:okD D st)(sg:List (Ac×Int))(hsg:∀s∈sg,s.1.length<=1048576)(hsl:sg.length<=100):Bp Tryz.prog 154 bp 116 (cP st) (cP ((I5 F sg st).2)) [.val (.pointer (some ⟨bp,0,none⟩)),.fn (.func f) first cap,.sl 2 (sg.map cSg)] (.agg (cSyn (I5 F sg st).1)):=by
 intro H;refine Jz 34 Tryz.func154 rfl ?_;refine Ab ?_;refine E8 Kb fun b6=>?_
 refine Cf (Qp (Ai (v:=.fn _ _ _) rfl) (Rt (Ms (hf) rfl rfl rfl ((hc st hO).at (k:=1) (H2:=_::_::_) rfl rfl)) ?_));refine E8 Kb fun b7=>?_
 refine B4 0 Aj (_::_::_::_) (A7 (Cj (Qp Bl (A7 (AW.block ?_)))));refine AW.Aan (fun (p:Nat×PS×Syn×Bool)=>(⟨[(0,.val (.pointer (some ⟨bp,0,none⟩))),(1,.fn (.func f) first cap),(2,.sl 2 (sg.map cSg)),(6,.val (.pointer (some ⟨b6,0,none⟩))),(7,.val (.pointer (some ⟨b7,0,none⟩))),(8,.bool p.2.2.2)],.box b7 25 (cSyn p.2.2.1) :: .box b6 25 (cSyn Iz) :: .box bp 116 (cP p.2.1)::H,34⟩:St)) (fun p=>okD D p.2.1/\B1 p.2.1<=p.1/\(p.2.2.2=true->I5 F sg st=Ge F sg p.1 p.2.1 p.2.2.1)/\(p.2.2.2=false->I5 F sg st=(p.2.2.1,p.2.1))) (fun p=>(if p.2.2.2 then p.1+1 else 0)) ((B1 (F st).2,(F st).2,(F st).1,true)) ?_ Dp ?_
 . exact ⟨hF.okD hD hO,Be _,fun _=>rfl,fun h=>(by cases h)⟩
 rintro p hR;have hO2:okD D p.2.1:=hR.1;have hS:=hO2.1;have hfu:B1 p.2.1<=p.1:=hR.2.1;have hn:0<p.1:=by unfold B1 at hfu;omega
 refine Cj (Qp Cw (Br (fun hc1=>?_) fun hc1=>?_))
 .
  try simp only [A2,Bf] at hc1
  refine B8 (AW.block (Ab (Qp Bl (Cf (Qp Ng ?_)))));refine Qp (G6 sg.length rfl rfl (by simp)) ?_;refine Qp Ax (A7 (AW.block ?_));refine AW.Aan (fun (k:Nat)=>(⟨[(0,.val (.pointer (some ⟨bp,0,none⟩))),(1,.fn (.func f) first cap),(2,.sl 2 (sg.map cSg)),(6,.val (.pointer (some ⟨b6,0,none⟩))),(7,.val (.pointer (some ⟨b7,0,none⟩))),(8,.bool false),(14,.sl 2 (sg.map cSg)),(15,.int .i64 (sg.length:Int)),(16,.int .i64 (k:Int))],.box b7 25 (cSyn p.2.2.1) :: .box b6 25 (cSyn Iz) :: .box bp 116 (cP p.2.1)::H,34⟩:St)) (fun k=>k<=sg.length/\∀j y,j<k->sg[j]? = some y->Ea y.1 p.2.1=false) (fun k=>sg.length-k) (0) ?_ Dp ?_
  . exact ⟨Bk _,fun j y hj=>absurd hj (Nat.not_lt_zero _)⟩
  rintro k hK;refine Ab (Qp C5 (Re (Hs (fun hc2=>?_) fun hc2=>?_)))
  .
   try simp only [A2,Bf] at hc2
   have hk:k<sg.length:=by simpa using hc2
   refine (get_ex hk).elim fun x hx=>?_
   have hwx:x.1.length<=1048576:=hsg x (Ak hx);refine B8 (AW.seq (AW.block (Ab ?_)));refine Qp (F5 J6 rfl rfl (by omega) (sg_at hx)) ?_;refine Qp (C8 J6) (E8 gjy fun b10=>?_);refine B4 0 J6 (_::_::_::_::_) ?_;refine Me 10 0 rfl ?_;refine Cf (Qp B3 (Qp (Qf J6) (Qp Hn ?_)));refine Rt (D2 rfl ((Fl _ _ _ (by simpa using hS) (by first | assumption | decide)).at (k:=2) (H2:=_::_::_::_) rfl rfl)) ?_;refine Br (fun hc3=>?_) fun hc3=>?_
   .
    try simp only [A2,Bf] at hc3
    have hfd:sg.find? (fun s=>Ea s.1 p.2.1)=some x:=cC hK.2 hx hc3;have hlt:=Z2 hc3;have hml:=hS.1;have hFa:=hF (adv p.2.1) (by have:=hO2.2.1;show (0:Int)<=p.2.1.depth;omega) hO2.2.2;have hps:p.2.1.pos+1<=(F (adv p.2.1)).2.pos:=hFa.2.1;have hts:(F (adv p.2.1)).2.toks=p.2.1.toks:=hFa.1;refine AW.ghost (GS.Aap (H2:=_::_::_::_) 2 rfl (congrArg cP (Gd hc3)) rfl) ?_;refine AW.seq (T6 0 rfl (Qn 0 rfl (Qf [Iq _]) (Qn 1 rfl B7 (Qn 2 rfl (D1.mem (fun k=>Mt (k:=k) (l:=Aj) tok rfl rfl rfl rfl rfl) (fun _ h=>h)) ?_))));refine Qn 3 rfl (Ai (v:=.fn _ _ _) rfl) (Qn 5 rfl Dg (Qn 6 rfl (Nc (Iq _) rfl) ?_));refine aB 4 rfl (Ms (hf) rfl rfl rfl ((hc _ (by simpa using hO2)).at (k:=2) (H2:=_::_::_::_) rfl rfl)) (by rintro _ _ ⟨rfl,rfl⟩;simp) ?_;rintro _ _ ⟨rfl,rfl⟩;refine Qn 7 rfl (Qc rfl (Nv _ _ _ _)) ?_;refine iR 8 rfl (Mf 0 (.agg _) Aj (_::_::_::_) rfl) ?_;rintro _ _ ⟨rfl,rfl⟩;refine Ap (Ab (Qp Bl (A7 (AW.exit ?_))));refine blkMiss rfl ?_;refine B9 (B9 (W0 (Km (Ap ?_))));refine ⟨(p.1-1,(F (adv p.2.1)).2,K6 x.2 p.2.2.1 (F (adv p.2.1)).1 p.2.2.1.pos,true),?_,?_,Dp⟩
    . exact ⟨hF.okD hD (by simpa using hO2),by unfold B1 at hfu ⊢;rw [hts];simp only;omega,fun _=>(hR.2.2.1 hc1).trans (by rw [gQ hn,hfd]),fun h=>(by cases h)⟩
    simp only [hc1,↓reduceIte,Ah];omega
   try simp only [A2,Bf] at hc3
   refine AW.ghost (GS.Aap (H2:=_::_::_::_) 2 rfl (congrArg cP (I4 hc3)) rfl) ?_;refine Rf (AW.region (Qp Ii (Qp Ax (A7 ?_))));refine ⟨k+1,?_,?_,Dp⟩
   . exact ⟨hk,fun j y hj hy=>by rcases dQ.1 hj with h | rfl;exact hK.2 j y h hy;rw [hx] at hy;cases hy;exact hc3⟩
   omega
  try simp only [A2,Bf] at hc2
  have hkn:¬k<sg.length:=by simpa using hc2
  have hfd:sg.find? (fun s=>Ea s.1 p.2.1)=none:=pO fun j y hj hy=>hK.2 j y (by omega) hy
  refine AW.exit ?_;refine B9 (B9 (W0 (Km (Ap ?_))));refine ⟨(p.1,p.2.1,p.2.2.1,false),?_,?_,Dp⟩
  . exact ⟨hO2,hfu,fun h=>(by cases h),fun _=>(hR.2.2.1 hc1).trans (by rw [gQ hn,hfd])⟩
  simp only [hc1,↓reduceIte,Ah];omega
 try simp only [A2,Bf] at hc1
 refine AW.exit ?_;refine B9 (Ri (Ab ?_));refine Tn 0 Aj rfl ?_;refine B4 1 Aj (_::_::_::_) (Rb ?_);refine ⟨.inr rfl,[.agg Aj],Zb 1,_,S2,?_⟩;have h9:=hR.2.2.2 hc1;exact ⟨by rw [h9];rfl,congrArg (fun s=>HO.box bp 116 (cP s)::H) (by rw [h9])⟩
theorem u8_all' {p:UInt8->Bool}(h:(List.range 256).all (fun n=>p (UInt8.ofNat n))=true)(c:UInt8):p c=true:=by
 rw [F3] at h;have:=h c.toNat (Lk.2 c.toNat_lt)
 rwa [UInt8.ofNat_toNat] at this
def kindW:List Ac:=[Ig,Gg,Ha]
theorem kind_get (k:Nat)(h:k<3):Nq[k]? = some (.str (kindW.getD k [])):=by
 match k,h with
 | 0,_=>rfl
 | 1,_=>rfl
 | 2,_=>rfl
theorem kind_len (k:Nat)(h:k<3):(kindW.getD k []).length<=1048576:=by
 match k,h with
 | 0,_=>decide
 | 1,_=>decide
 | 2,_=>decide
abbrev fS (st:PS):PS:=Bb G9 (Cm 0 st)
theorem field_hit {st:PS}{k:Nat}(h:k<3)(hn:∀j,j<k->Ea (kindW.getD j []) (fS st)=false)(hp:Ea (kindW.getD k []) (fS st)=true):Id st=(⟨2,Hw 0 st,[],(k:Int),[],D4 st⟩,adv (fS st)):=by
 unfold Id
 match k,h with
 | 0,_=>rw [if_pos (show Ea Ig (fS st)=true from hp)];rfl
 | 1,_=>rw [if_neg (zqal52.mp (show Ea Ig (fS st)=false from hn 0 (by omega))),if_pos (show Ea Gg (fS st)=true from hp)];rfl
 | 2,_=>rw [if_neg (zqal52.mp (show Ea Ig (fS st)=false from hn 0 (by omega))),if_neg (zqal52.mp (show Ea Gg (fS st)=false from hn 1 (by omega))),if_pos (show Ea Ha (fS st)=true from hp)];rfl
theorem field_none {st:PS}(hn:∀j,j<3->Ea (kindW.getD j []) (fS st)=false):Id st=(⟨2,Hw 0 st,[],0,[],D4 st⟩,Gw 4 (fS st)):=by
 unfold Id;rw [if_neg (zqal52.mp (show Ea Ig (fS st)=false from hn 0 (by omega))),if_neg (zqal52.mp (show Ea Gg (fS st)=false from hn 1 (by omega))),if_neg (zqal52.mp (show Ea Ha (fS st)=false from hn 2 (by omega)))]
theorem xS:∀(s:Ac) (n:Int),0<=n->n<=1099511627776->0<=(Jv s n).1/\(Jv s n).1<=1099511627776
  | [],n,h0,h1=>⟨h0,h1⟩
  | c::r,n,h0,h1=>by
    unfold Jv;split
    . decide
    . rename_i h
      have hd:0<=dvS c:=by
        have:=u8_all' (p:=fun c=>decide (0<=dvS c)) (by kernel_rfl) c;exact Ec this
      simp only [Cb,Int.not_lt] at h;exact xS r _ (by omega) h
theorem numP_le (st:PS):0<=Up st/\Up st<=1099511627776:=by
 unfold Up;split
 .
  unfold Tu;split
  . decide
  exact xS _ _ (by decide) (by decide)
 decide
theorem p_field (st:PS)(bp:Nat)  (hS:Wi st):Bp Tryz.prog 87 bp 116 (cP st) (cP ((Id st).2)) [.val (.pointer (some ⟨bp,0,none⟩))] (.agg (cSyn (Id st).1)):=by
 intro H;refine Jz 28 Tryz.func87 rfl ?_;refine Ab ?_;refine E8 Kb fun b2=>?_
 refine Cf (Qp B3 ?_);refine AOL.Aaq (C0 (k:=1) (by kernel_rfl) rfl rfl (Lr _ _)) rfl rfl ?_;refine Qp B3 ?_;refine Rt (D2 rfl ((Rv _ _ (by simpa using hS)).at (k:=1) (H2:=_::_::_) rfl rfl)) ?_;refine Qp (Gz Aj) ?_;refine E8 Kb fun b3=>?_
 refine B4 0 Aj (_::_::_::_) (Cf (Qp B3 ?_));refine Rt (D2 rfl ((Ee _ _ _ (by simpa using hS) (by decide)).at (k:=2) (H2:=_::_::_::_) rfl rfl)) ?_;refine A7 (Cj ?_);refine Qp (Wy (l:=Nq) tok (⟨_,by simp [globals],fun _ h=>h⟩) rfl rfl rfl rfl) ?_;refine Qp Ax (A7 (AW.block ?_));refine AW.Aan (fun (k:Nat)=>(⟨[(0,.val (.pointer (some ⟨bp,0,none⟩))),(2,.val (.pointer (some ⟨b2,0,none⟩))),(3,.val (.pointer (some ⟨b3,0,none⟩))),(13,.agg Nq),(14,.int .i64 (k:Int))],.box b3 25 (cSyn ⟨2,Hw 0 st,[],0,[],D4 st⟩) :: .box b2 25 (cSyn Iz) :: .box bp 116 (cP (fS st))::H,28⟩:St)) (fun k=>k<=3/\∀j,j<k->Ea (kindW.getD j []) (fS st)=false) (fun k=>3-k) (0) ?_ Dp ?_
 . exact ⟨Bk _,fun j hj=>absurd hj (Nat.not_lt_zero _)⟩
 rintro k hR;refine Ab (Qp C5 (Re (Hs (fun hc1=>?_) fun hc1=>?_)))
 .
  try simp only [A2,Bf] at hc1
  have hk:k<3:=by have:=Ec hc1;omega
  have hwx:=kind_len k hk;refine B8 (AW.seq (AW.block (Ab (Qp Ax ?_))));refine Qp (Wx (c:=.str (kindW.getD k [])) tok rfl rfl rfl rfl rfl rfl rfl (by omega) (by omega) (kind_get k hk)) ?_;refine Qp A3 (Qp Nb (Cf (Qp B3 (Qp Iw ?_))));refine Rt (D2 rfl ((Fl _ _ _ (by simpa using hS) (by assumption)).at (k:=2) (H2:=_::_::_::_) rfl rfl)) ?_;refine Br (fun hc2=>?_) fun hc2=>?_
  .
   try simp only [A2,Bf] at hc2
   refine AW.ghost (GS.Aap (H2:=_::_::_::_) 2 rfl (congrArg cP (Gd hc2)) rfl) ?_;refine Ab (Qp Ax (Qp Dg ?_));refine B4 0 Aj (_::_::_::_) (Cf (Tn 0 Aj rfl ?_));refine B4 1 Aj (_::_::_::_) (Ra (Bc (Ep (Bc ?_))));refine ⟨.inr rfl,[.agg Aj],Zb 1,_,S2,?_⟩;have h9:=field_hit hk hR.2 hc2;exact ⟨by rw [h9];rfl,congrArg (fun s=>HO.box bp 116 (cP s)::H) (by rw [h9])⟩
  try simp only [A2,Bf] at hc2
  refine AW.ghost (GS.Aap (H2:=_::_::_::_) 2 rfl (congrArg cP (I4 hc2)) rfl) ?_;refine Rf (AW.region (Qp Ii (Qp Ax (A7 ?_))));refine ⟨k+1,?_,?_,Dp⟩
  . exact ⟨hk,fun j hj=>by rcases dQ.1 hj with h | rfl;exact hR.2 j h;exact hc2⟩
  omega
 try simp only [A2,Bf] at hc1
 have hkn:¬k<3:=by have:=He hc1;omega
 refine AW.exit ?_;refine B9 (Ri (Ab (Qp B3 ?_)));refine Rcl ((mJ _ _ _).at (k:=2) (H2:=_::_::_::_) rfl rfl) (Cf (Tn 0 Aj rfl ?_));refine B4 1 Aj (_::_::_::_) (Rb ?_);refine ⟨.inr rfl,[.agg Aj],Zb 1,_,S2,?_⟩;have h9:=field_none (st:=st) (fun j hj=>hR.2 j (by omega));exact ⟨by rw [h9];rfl,congrArg (fun s=>HO.box bp 116 (cP s)::H) (by rw [h9])⟩
theorem mI (st:PS)(bp:Nat)  (hS:Wi st):Bp Tryz.prog 232 bp 116 (cP st) (cP ((D9 st).2)) [.val (.pointer (some ⟨bp,0,none⟩))] (.agg (cSyn (D9 st).1)):=by
 intro H;refine Jz 37 Tryz.func232 rfl ?_;refine Ab ?_;refine E8 Kb fun b2=>?_
 refine Cf (Qp B3 ?_);refine AOL.Aaq (C0 (k:=1) (by kernel_rfl) rfl rfl (Lr _ _)) rfl rfl ?_;refine Qp (Gz Aj) ?_;refine E8 Kb fun b3=>?_
 refine B4 0 Aj (_::_::_::_) (Re (AW.block (Ab (Qp B3 ?_))));refine Rt (D2 rfl ((Fl _ _ _ (by simpa using hS) (by decide)).at (k:=2) (H2:=_::_::_::_) rfl rfl)) ?_;refine Qp Bl (Br (fun hc1=>?_) fun hc1=>?_)
 .
  try simp only [A2,Bf] at hc1
  refine AW.ghost (GS.Aap (H2:=_::_::_::_) 2 rfl (congrArg cP (Gd hc1)) rfl) ?_;refine AW.region (Qp B3 ?_);refine Rt (D2 rfl ((mK _ _ (by simpa using hS)).at (k:=2) (H2:=_::_::_::_) rfl rfl)) ?_;refine Qp (P_neg rfl rfl (by have:=numP_le (adv st);constructor <;> omega)) ?_;refine Qp Dg ?_;refine B4 0 Aj (_::_::_::_) (Rk (Ab (Tn 0 Aj rfl ?_)));refine B4 1 Aj (_::_::_::_) (Rb ?_);refine ⟨.inr rfl,[.agg Aj],Zb 1,_,S2,?_⟩;refine ⟨?_,congrArg (fun c=>HO.box bp 116 c::H) ?_⟩
  .
   try simp only [Af,D9,cSyn,Ao,A0,Bi,hc1,↓reduceIte,Ah,A6,Bs]
   try rfl
  try simp only [cP,D9,hc1,↓reduceIte,Ah,A6,Bs]
  try rfl
 try simp only [A2,Bf] at hc1
 refine AW.ghost (GS.Aap (H2:=_::_::_::_) 2 rfl (congrArg cP (I4 hc1)) rfl) ?_;refine Ab (Qp B3 ?_);refine AOL.Aaq (C0 (k:=2) (by kernel_rfl) rfl rfl (p_next _ _ _ (by simpa using hS))) rfl rfl ?_;refine Qp Bl (Br (fun hc2=>?_) fun hc2=>?_)
 .
  try simp only [A2,Bf] at hc2
  refine AW.region (Qp B3 ?_);refine Rt (D2 rfl ((mK _ _ (by simpa using hS)).at (k:=2) (H2:=_::_::_::_) rfl rfl)) ?_;refine Qp Dg ?_;refine B4 0 Aj (_::_::_::_) (Rk (Ab (Tn 0 Aj rfl ?_)));refine B4 1 Aj (_::_::_::_) (Rb ?_);refine ⟨.inr rfl,[.agg Aj],Zb 1,_,S2,?_⟩;refine ⟨?_,congrArg (fun c=>HO.box bp 116 c::H) ?_⟩
  .
   try simp only [Af,D9,cSyn,Ao,A0,Bi,hc1,hc2,↓reduceIte,Ah,A6,Bs]
   try rfl
  try simp only [cP,D9,hc1,hc2,↓reduceIte,Ah,A6,Bs]
  try rfl
 try simp only [A2,Bf] at hc2
 refine Ab (Qp B3 ?_);refine Rt (D2 rfl ((Fl _ _ _ (by simpa using hS) (by decide)).at (k:=2) (H2:=_::_::_::_) rfl rfl)) ?_;refine Qp Bl (Br (fun hc3=>?_) fun hc3=>?_)
 .
  try simp only [A2,Bf] at hc3
  refine AW.ghost (GS.Aap (H2:=_::_::_::_) 2 rfl (congrArg cP (Gd hc3)) rfl) ?_;refine AW.region (Qp Dg ?_);refine B4 0 Aj (_::_::_::_) (Qp Dg ?_);refine B4 0 Aj (_::_::_::_) (Rk (Ab (Tn 0 Aj rfl ?_)));refine B4 1 Aj (_::_::_::_) (Rb ?_);refine ⟨.inr rfl,[.agg Aj],Zb 1,_,S2,?_⟩;refine ⟨?_,congrArg (fun c=>HO.box bp 116 c::H) ?_⟩
  .
   try simp only [Af,D9,cSyn,Ao,A0,Bi,hc1,hc2,hc3,↓reduceIte,Ah,A6,Bs]
   try rfl
  try simp only [cP,D9,hc1,hc2,hc3,↓reduceIte,Ah,A6,Bs]
  try rfl
 try simp only [A2,Bf] at hc3
 refine AW.ghost (GS.Aap (H2:=_::_::_::_) 2 rfl (congrArg cP (I4 hc3)) rfl) ?_;refine Ab (Qp B3 ?_);refine Rt (D2 rfl ((Fl _ _ _ (by simpa using hS) (by decide)).at (k:=2) (H2:=_::_::_::_) rfl rfl)) ?_;refine Qp Bl (Br (fun hc4=>?_) fun hc4=>?_)
 .
  try simp only [A2,Bf] at hc4
  refine AW.ghost (GS.Aap (H2:=_::_::_::_) 2 rfl (congrArg cP (Gd hc4)) rfl) ?_;refine AW.region (Qp Dg ?_);refine B4 0 Aj (_::_::_::_) (Rk (Ab (Tn 0 Aj rfl ?_)));refine B4 1 Aj (_::_::_::_) (Rb ?_);refine ⟨.inr rfl,[.agg Aj],Zb 1,_,S2,?_⟩;refine ⟨?_,congrArg (fun c=>HO.box bp 116 c::H) ?_⟩
  .
   try simp only [Af,D9,cSyn,Ao,A0,Bi,hc1,hc2,hc3,hc4,↓reduceIte,Ah,A6,Bs]
   try rfl
  try simp only [cP,D9,hc1,hc2,hc3,hc4,↓reduceIte,Ah,A6,Bs]
  try rfl
 try simp only [A2,Bf] at hc4
 refine AW.ghost (GS.Aap (H2:=_::_::_::_) 2 rfl (congrArg cP (I4 hc4)) rfl) ?_;refine Ab (Qp Dg ?_);refine B4 0 Aj (_::_::_::_) (A7 (AW.region (Qp B3 ?_)));refine Rt (D2 rfl ((tQ _ _ _ (by simpa using hS)).at (k:=2) (H2:=_::_::_::_) rfl rfl)) ?_;refine Qp Wz (Qp Qxt (Qp oB (Qp Dg ?_)));refine B4 0 Aj (_::_::_::_) (Rk (Ab (Tn 0 Aj rfl ?_)));refine B4 1 Aj (_::_::_::_) (Rb ?_);refine ⟨.inr rfl,[.agg Aj],Zb 1,_,S2,?_⟩;refine ⟨?_,congrArg (fun c=>HO.box bp 116 c::H) ?_⟩
 .
  try simp only [Af,D9,cSyn,Ao,A0,Bi,hc1,hc2,hc3,hc4,↓reduceIte,Ah,A6,Bs]
  try rfl
 try simp only [cP,D9,hc1,hc2,hc3,hc4,↓reduceIte,Ah,A6,Bs]
 try rfl
theorem yB (st:PS)(bp:Nat)(z:Syn)(bo:Nat)(hS:Wi st)(R:List HO):Cc Tryz.prog 231 (.box bp 116 (cP st) :: .box bo 25 (cSyn z)::R) [.val (.pointer (some ⟨bp,0,none⟩)),.val (.pointer (some ⟨bo,0,none⟩))] (fun r H'=>r = .tuple []/\H' = .box bp 116 (cP (Rm st).2) :: .box bo 25 (cSyn { z with text:=(Rm st).1.1,name:=(Rm st).1.2 })::R):=by
 refine Jz 18 Tryz.func231 rfl ?_;refine Ab (Qp B3 ?_);refine Rt (D2 rfl ((Ee _ _ _ (by simpa using hS) (by decide)).at (k:=0) (H2:=_::_::_) rfl rfl)) ?_;refine Cf (Qp B3 (Qp B3 ?_));refine Rt (D2 rfl ((Rv _ _ (by simpa using hS)).at (k:=0) (H2:=_::_::_) rfl rfl)) ?_;refine Qp (Aa rfl) (Qp Dg ?_);refine B4 1 Aj (_::_::_) (Cf (Qp B3 ?_));refine Rt (D2 rfl ((Ee _ _ _ (by simpa using hS) (by decide)).at (k:=0) (H2:=_::_::_) rfl rfl)) ?_;refine A7 (AW.region (Qp B3 (Qp B3 ?_)));refine Rt (D2 rfl ((Rv _ _ (by simpa using hS)).at (k:=0) (H2:=_::_::_) rfl rfl)) ?_;refine Qp (Aa rfl) (Qp Dg ?_);refine B4 1 Aj (_::_::_) (AOL.nil ?_);refine ⟨.inl rfl,[],.nil,_,.refl _,?_⟩;exact ⟨rfl,rfl⟩
def K1 (a b:PS):Prop:=b.toks=a.toks/\a.pos<=b.pos/\b.depth=a.depth
theorem K1.refl (a:PS):K1 a a:=⟨rfl,Be _,rfl⟩
theorem K1.trans {a b c:PS}(h:K1 a b)(k:K1 b c):K1 a c:=⟨k.1.trans h.1,F4 h.2.1 k.2.1,k.2.2.trans h.2.2⟩
theorem K1.adv (a:PS):K1 a (adv a):=⟨rfl,Nat.le_succ _,rfl⟩
theorem K1.fail (e:Int)(a:PS):K1 a (Gw e a):=⟨N2 _ _,Nat.le_of_eq (Y9 _ _).symm,Uc _ _⟩
theorem K1.exp (w:Ac)(a:PS):K1 a (Bb w a):=⟨fV _ _,pos_expP _ _,vQ _ _⟩
theorem K1.tok (k:Int)(a:PS):K1 a (Cm k a):=⟨fW _ _,pos_tokP _ _,vR _ _⟩
def iQ (a:PS):Prop:=0<=a.depth/\a.depth<=64
theorem K1.rng {a b:PS}(h:K1 a b)(r:iQ a):iQ b:=by unfold iQ;rw [h.2.2];exact r
theorem Du.goes {F:PS->Syn×PS}(h:Du F){a:PS}(r:iQ a):K1 a (F a).2:=h a r.1 r.2
theorem K1.read {F:PS->Syn×PS}(h:Du F){a b:PS}(r:iQ a)(k:K1 a b):K1 a (F b).2:=k.trans (h.goes (k.rng r))
theorem Du.of {F:PS->Syn×PS}(h:∀st,iQ st->K1 st (F st).2):Du F:=fun st h0 h1=>h st ⟨h0,h1⟩
theorem Vf:Du Id:=.of fun st r=>by
 have h:K1 st (Bb G9 (Cm 0 st)):=(K1.tok _ _).trans (.exp _ _);unfold Id;split
 . exact h.trans (.adv _)
 split
 . exact h.trans (.adv _)
 split
 . exact h.trans (.adv _)
 exact h.trans (.fail _ _)
theorem Xh {F:PS->Syn×PS}(hF:Du F):∀(n:Nat) (st:PS) (out:List Syn),iQ st->K1 st (Gb F n st out).2
  | 0,st,out,r=>.refl _
  | n+1,st,out,r=>by
    unfold Gb;split
    . have h:=K1.read hF r (.adv st)
      exact h.trans (Xh hF n _ _ (h.rng r))
    exact .refl _
theorem Qh {F:PS->Syn×PS}(hF:Du F){st:PS}(r:iQ st):K1 st (Kq F st).2:=by
 have h:=hF.goes r;exact h.trans (Xh hF _ _ _ (h.rng r))
theorem fine_kind:Du Hh:=.of fun st r=>by
 have h:K1 st (Bb Em (Cm 0 (Bb B6 st))):=((K1.exp _ _).trans (.tok _ _)).trans (.exp _ _);unfold Hh;simp only;split
 . exact (h.trans (Qh Vf (h.rng r))).trans (.exp _ _)
 exact h.trans (.exp _ _)
theorem lH (st:PS):K1 st (D9 st).2:=by
 unfold D9;split
 . exact (K1.adv _).trans (.tok _ _)
 split
 . exact .tok _ _
 split
 . exact .adv _
 split
 . exact .adv _
 exact .tok _ _
theorem fine_const:Du D9:=.of fun st _=>lH st
theorem lI (st:PS):K1 st (Rm st).2:=((((K1.exp _ _).trans (.tok _ _)).trans (.exp _ _)).trans (.tok _ _))
@[simp] theorem okS_insP (st : PS) : Wi (Rm st).2 ↔ Wi st := Tv (lI st).1
@[simp] theorem okS_constP (st : PS) : Wi (D9 st).2 ↔ Wi st := Tv (lH st).1
theorem Tk {n:Int}(h0 : -1000<=n)(h1:n<=1000):IntKind.i64.wrap n=n:=by
 unfold IntKind.wrap IntKind.signed IntKind.bits;simp only [↓reduceIte,Gu,Cb,ge_iff_le];split <;> omega
theorem eY {read:Syn->PS->Syn×PS}{z:Syn}{st:PS}(r:iQ st)(h:∀s:PS,iQ s->K1 s (read z s).2):K1 st (M4 read z st).2:=by
 have hf:K1 st (Gj st):=by
  unfold Gj;split
  . exact .fail _ _
  exact .refl _
 have e0:M4 read z st=if ((Gj st).bad != 0) then (z,Gj st) else ((read z (adv (deep st))).1,shallow (read z (adv (deep st))).2):=rfl
 rw [e0];split
 . exact hf
 rename_i hb;by_cases hd:64<=st.depth
 .
  exfalso
  apply hb
  unfold Gj;rw [if_pos (Gt hd)];exact Oi (by decide) _
 have e1:(deep st).depth=st.depth+1:=Tk (by have:=r.1;omega) (by omega);have k:=h (adv (deep st)) ⟨show 0<=(deep st).depth by rw [e1];have:=r.1;omega,show (deep st).depth<=64 by rw [e1];omega⟩;refine ⟨k.1,F4 (Nat.le_succ _) k.2.1,?_⟩;show IntKind.i64.wrap ((read z (adv (deep st))).2.depth-1)=st.depth;rw [k.2.2,show (adv (deep st)).depth=(deep st).depth from rfl,e1,Tk (by have:=r.1;omega) (by omega)];omega
theorem pP {E:PS->Syn×PS}(hE:Du E):Du (D0 E):=.of fun st r=>by
 unfold D0;split
 . exact eY r fun s r=>(hE.goes r).trans (.exp _ _)
 split
 .
  simp only;have h:=((K1.adv st).trans (lI _)).trans (.exp Cl _);exact (h.trans (fine_const.goes (h.rng r))).trans (.exp _ _)
 split
 . exact ((K1.adv st).trans (lI _)).trans (.exp _ _)
 split
 . exact (((K1.adv st).trans (.exp _ _)).trans (.tok _ _)).trans (.exp _ _)
 split
 .
  simp only;split
  . exact ((K1.tok _ _).trans (.exp _ _)).trans (.adv _)
  exact ((K1.tok _ _).trans (.exp _ _)).trans (.tok _ _)
 exact fine_const.goes r
theorem cL {F:PS->Syn×PS}(hF:Du F){sg:List (Ac×Int)}:∀(n:Nat) (st:PS) (out:Syn),iQ st->K1 st (Ge F sg n st out).2
  | 0,st,out,r=>.refl _
  | n+1,st,out,r=>by
    unfold Ge;split
    . have h:=K1.read hF r (.adv st)
      exact h.trans (cL hF n _ _ (h.rng r))
    exact .refl _
theorem Ve {F:PS->Syn×PS}(hF:Du F)(sg:List (Ac×Int)):Du (I5 F sg):=.of fun st r=>by
 have h:=hF.goes r;exact h.trans (cL hF _ _ _ (h.rng r))
theorem kY {E:PS->Syn×PS}(hE:Du E):Du (Fu E):=Ve (pP hE) uG
theorem fine_cmp {E:PS->Syn×PS}(hE:Du E):Du (L5 E):=.of fun st r=>by
 have h:=(kY hE).goes r;have h2:=(h.trans (.adv _)).trans ((kY hE).goes ((h.trans (.adv _)).rng r));unfold L5;simp only
 repeat' split
 all_goals first | exact h2 | exact h
theorem Xe {E N:PS->Syn×PS}(hE:Du E)(hN:Du N):Du (M5 E N):=.of fun st r=>by
 unfold M5;split
 . exact (fine_cmp hE).goes r
 exact eY r fun s r=>hN.goes r
theorem fine_or {E N:PS->Syn×PS}(hE:Du E)(hN:Du N):Du (orP E N):=Ve (Ve (Xe hE hN) kA) orL
theorem J2:Du G0:=.of fun st _=>.refl _
theorem Mz:∀n,Du (L8 n).1/\Du (L8 n).2
 | 0=>⟨Xe J2 J2,fine_or J2 J2⟩
 | n+1=>⟨Xe (Mz n).2 (Mz n).1,fine_or (Mz n).2 (Mz n).1⟩
theorem kW {E:PS->Syn×PS}(hE:Du E):Du (Hu E):=.of fun st r=>by
 have h:K1 st (Cm 0 (Cm 0 st)):=(K1.tok _ _).trans (.tok _ _);unfold Hu;simp only;split
 . exact K1.read hE r (h.trans (.adv _))
 exact h
theorem goes_sev {T:PS->Syn×PS}(hT:Du T)(z:Syn){st:PS}(r:iQ st):K1 st (dI T z st).2:=by
 have h:=K1.read hT r (.exp Cl st);exact h.trans (Xh hT _ _ _ (h.rng r))
theorem qA {E T:PS->Syn×PS}(hE:Du E)(hT:Du T)(k:Int)(z:Syn){st:PS}(r:iQ st):K1 st (Fp E T k z st).2:=by
 unfold Fp;split
 . exact goes_sev hT z r
 split
 . exact .refl _
 split
 . exact K1.read (kW hE) r (.exp _ _)
 split
 . exact (K1.exp _ _).trans (.tok _ _)
 exact K1.read hE r (.exp _ _)
theorem wI {E T:PS->Syn×PS}(hE:Du E)(hT:Du T):Du (Sv E T):=.of fun st r=>by
 unfold Sv;split
 .
  refine eY r fun s r=>?_
  have h:=K1.read hT r (.exp Ds s);exact (h.trans (qA hE hT _ _ (h.rng r))).trans (.exp _ _)
 exact (kW hE).goes r
theorem eS {E:PS->Syn×PS}(hE:Du E):∀n,Du (fK E n)
 | 0=>wI hE J2
 | n+1=>wI hE (eS hE n)
theorem lJ (st:PS)(k:Int):K1 st (Nf st k).2:=by
 unfold Nf;split
 . exact (K1.adv _).trans (.tok _ _)
 exact .refl _
theorem kX {E T:PS->Syn×PS}(hE:Du E)(hT:Du T):Du (If E T):=.of fun st r=>by
 have h1:K1 st (Bb Dx (Nf (Cm 0 (Bb B5 st)) (D4 st)).2):=(((K1.exp _ _).trans (.tok _ _)).trans (lJ _ _)).trans (.exp _ _);have h2:=(K1.read hT r h1).trans (.exp Dc _);exact (h2.trans (Qh hE (h2.rng r))).trans (.exp _ _)
theorem Bu {α:Type}{c:Bool}{a b:α}(h:c=false):(if c=true then a else b)=b:=iN h
theorem gt2 {α:Type}{l:List α}{k:Nat}(h:k<l.length):∃x,l[k]? = some x:=⟨_,List.getElem?_eq_getElem h⟩
theorem qC {α:Type}{l:List α}{k:Nat}{x:α}(h:l[k]? = some x):k<l.length:=(List.getElem?_eq_some_iff.1 h).1
theorem kid_has {t:Syn}{k:Nat}(h:k<t.kids.length):t.kids[k]? = some (Aq t k):=by simp [Aq,Dm,List.getElem?_eq_getElem h]
theorem wW {t:Syn}{i:Nat}{x:Bool}(hi:i<t.kids.length)(hG:Ow [(x,true),((((i:Int)==0)),false)]):0<=(i:Int)-1/\(t.kids.map Df)[((i:Int)-1).toNat]? = some (cSyn (Aq t (i-1))):=by
 have h0:((i:Int)==0)=false:=hG (((i:Int)==0),false) (by simp);have h1:i≠0:=by intro e;subst e;cases h0
 have hw:(i:Int)-1=((i-1:Nat):Int):=by omega
 rw [hw,Ma];exact ⟨by omega,I3 (kid_has (by omega))⟩
def uQ:Pl->AV
 | .only k=>.fn (.func 69) [] [.ptr [.int .i64 k]]
 | .pats=>.fn (.func 120) [] []
 | .exps=>.fn (.func 172) [] []
theorem w_pats (k:Int):Au Tryz.prog 120 [.int .i64 k] (.bool (isPat k)):=by
 refine G3 9 Tryz.func120 rfl fun H=>?_
 refine Ab (Qp Bl (Cf (Qp Ax (Qp Lm (Qp Cw (Qg [] Qw Ax (Qg [(6,_)] Qw oE (Qp Mu (Qp Bl (Rb (Qr (.bool _) ?_)))))))))));rfl
theorem w_exps (k:Int):Au Tryz.prog 172 [.int .i64 k] (.bool (isExp k)):=by
 refine G3 9 Tryz.func172 rfl fun H=>?_
 refine Ab (Qp Bl (Cf (Qp Ax (Qp Lm (Qp Cw (Qg [] Qw Ax (Qg [(6,_)] Qw oE (Qp Mu (Qp Bl (Rb (Qr (.bool _) ?_)))))))))));rfl
theorem X1 (k:Int):Au Tryz.prog 27 [.int .i64 k] (uQ (.only k)):=by
 refine G3 4 Tryz.func27 rfl fun H=>?_
 refine Ab (Qp (Zx (v:=Iq _) (cs:=[Iq _]) rfl rfl rfl) (Qp Tm (Cf (Qp (Ca (l:=[]) (l':=[.ptr _]) rfl rfl) (Qp (An (v:=.fn _ _ _) rfl) (Rb (Qr (.fn _ _ _) ?_)))))));rfl
theorem w_only1 (k x:Int):Au Tryz.prog 69 [.int .i64 x,.ptr [.int .i64 k]] (.bool (x==k)):=by
 refine G3 7 Tryz.func69 rfl fun H=>?_
 refine Ab (Qp Bl (Cf (Qp Ax (Qp B7 (Qp Bv (Qp Bl (Rb (Qr (.bool _) ?_))))))));rfl
theorem Aad (p k:Int):Au Tryz.prog 119 [.int .i64 p,.int .i64 k] (.bool (Ed p k)):=by
 refine G3 18 Tryz.func119 rfl fun H=>?_
 refine Ab (Qp Bl (A7 (Cj (Qp Ax (A7 (AW.block (Ab (Qp Bv (Qp Bl (Br (fun hc1=>Ab (Qp Ax (Qp Bv (Qp Cw (Qg [] Qw Ax (Qg [(11,_)] Qw Bv (Qp G4 (Qp Bl (Rb (Ep (Bc (Qr (.bool _) ?_)))))))))))) fun hc1=>?_))))))))))
 . simp only [Af,Ed,hc1,↓reduceIte,Ah]
 refine Ab (Qp Bv (Qp Bl (Br (fun hc2=>Ab (Qp Ax (Qp Bv (Qp Bl (Ra (Qr (.bool _) ?_)))))) fun hc2=>Rf (Ab (Qp Bl (Rb (Qr (.bool _) ?_)))))))
 . simp only [Af,Ed,hc1,hc2,↓reduceIte,Ah]
 simp only [Af,Ed,hc1,hc2,↓reduceIte,Ah]
theorem pl_fn (p:Pl):∃f first cap,uQ p = .fn (.func f) first cap/\Y0 Tryz.prog f=true/\∀k,Au Tryz.prog f (first ++ [.int .i64 k]++cap) (.bool (p.at k)):=by
 cases p with
 | only k=>exact ⟨_,_,_,rfl,by kernel_rfl,fun x=>w_only1 k x⟩
 | pats=>exact ⟨_,_,_,rfl,by kernel_rfl,fun x=>w_pats x⟩
 | exps=>exact ⟨_,_,_,rfl,by kernel_rfl,fun x=>w_exps x⟩
theorem w_shaped (t:Syn):Au Tryz.prog 115 [.agg (cSyn t)] (.bool (Ct t)):=by
 refine G3 49 Tryz.func115 rfl fun H=>?_
 refine Ab (Qp (Ji Aj) (Qp Bl (Cf (Qp (Qf Po) (Qp Eg ?_)))));refine Qp (G6 t.kids.length rfl rfl (by simp)) ?_;refine Qp A3 (A7 (Cj (Qp (Qf Aj) (Qp B7 (A7 (AW.block ?_))))));refine AW.Aat (fun (_:Unit)=>(⟨[(1,.ptr (cSyn t)),(3,.int .i64 (t.kids.length:Int)),(8,.int .i64 t.kind),(9,.bool (((t.kind==0)||(t.kind==1))))],H,49⟩:St)) (fun _=>True) ?_ ?_
 .
  refine Ab (Qp Bv (Qp Bl (Br (fun hc1=>B8 ?_) fun hc1=>AW.region (Qp Bv (Qp Bl (A7 ?_))))))
  .
   refine ⟨(),?_,GS.weaken ⟨rfl,rfl,rfl,congrArg AV.bool (by simp [*]),trivial⟩ (.refl _)⟩
   trivial
  refine ⟨(),?_,GS.weaken ⟨rfl,rfl,rfl,congrArg AV.bool (by simp [*]),trivial⟩ (.refl _)⟩
  trivial
 rintro _ _;refine Hs (fun hc2=>Ab (Qp Bl (Ra (Qr (.bool _) ?_)))) fun hc2=>Ab (Qp Bv (Qp Bl (Br (fun hc3=>Ab (Qp Ax (Qp Lm (Qp Bl (Ra (Qr (.bool _) ?_)))))) fun hc3=>Ab (Qp Bv (Qp Bl (Br (fun hc4=>Ab (Qp Ax (Qp oE (Qp Bl (Ra (Qr (.bool _) ?_)))))) fun hc4=>?_))))))
 . simp only [Af,Ct,hc2,↓reduceIte,Ah]
 . simp only [Af,Ct,hc2,hc3,↓reduceIte,Ah]
 . simp only [Af,Ct,hc2,hc3,hc4,↓reduceIte,Ah]
 refine AW.Aat (fun (_:Unit)=>(⟨[(1,.ptr (cSyn t)),(3,.int .i64 (t.kids.length:Int)),(8,.int .i64 t.kind),(20,.bool ((((t.kind==6)||(t.kind==7))||(t.kind==8))))],H,49⟩:St)) (fun _=>True) ?_ ?_
 .
  refine Ab (Qp Bv (Qp Bl (Br (fun hc5=>B8 ?_) fun hc5=>Ab (Qp Bv (Qp Bl (Br (fun hc6=>B8 ?_) fun hc6=>AW.region (Qp Bv (Qp Bl (A7 ?_)))))))))
  .
   refine ⟨(),?_,GS.weaken ⟨rfl,rfl,rfl,congrArg AV.bool (by simp [*]),trivial⟩ (.refl _)⟩
   trivial
  .
   refine ⟨(),?_,GS.weaken ⟨rfl,rfl,rfl,congrArg AV.bool (by simp [*]),trivial⟩ (.refl _)⟩
   trivial
  refine ⟨(),?_,GS.weaken ⟨rfl,rfl,rfl,congrArg AV.bool (by simp [*]),trivial⟩ (.refl _)⟩
  trivial
 rintro _ _;refine Hs (fun hc7=>Ab (Qp Ax (Qp Lm (Qp Bl (Ra (Qr (.bool _) ?_)))))) fun hc7=>?_
 . simp only [Af,Ct,hc2,hc3,hc4,hc7,↓reduceIte,Ah]
 refine AW.Aat (fun (_:Unit)=>(⟨[(1,.ptr (cSyn t)),(3,.int .i64 (t.kids.length:Int)),(8,.int .i64 t.kind),(26,.bool ((((t.kind==9)||(t.kind==11))||(t.kind==18))))],H,49⟩:St)) (fun _=>True) ?_ ?_
 .
  refine Ab (Qp Bv (Qp Bl (Br (fun hc8=>B8 ?_) fun hc8=>Ab (Qp Bv (Qp Bl (Br (fun hc9=>B8 ?_) fun hc9=>AW.region (Qp Bv (Qp Bl (A7 ?_)))))))))
  .
   refine ⟨(),?_,GS.weaken ⟨rfl,rfl,rfl,congrArg AV.bool (by simp [*]),trivial⟩ (.refl _)⟩
   trivial
  .
   refine ⟨(),?_,GS.weaken ⟨rfl,rfl,rfl,congrArg AV.bool (by simp [*]),trivial⟩ (.refl _)⟩
   trivial
  refine ⟨(),?_,GS.weaken ⟨rfl,rfl,rfl,congrArg AV.bool (by simp [*]),trivial⟩ (.refl _)⟩
  trivial
 rintro _ _;refine Hs (fun hc10=>Ab (Qp Ax (Qp Bv (Qp Bl (Ra (Qr (.bool _) ?_)))))) fun hc10=>?_
 . simp only [Af,Ct,hc2,hc3,hc4,hc7,hc10,↓reduceIte,Ah]
 refine AW.Aat (fun (_:Unit)=>(⟨[(1,.ptr (cSyn t)),(3,.int .i64 (t.kids.length:Int)),(8,.int .i64 t.kind),(32,.bool ((((t.kind==10)||(t.kind==12))||(t.kind==17))))],H,49⟩:St)) (fun _=>True) ?_ ?_
 .
  refine Ab (Qp Bv (Qp Bl (Br (fun hc11=>B8 ?_) fun hc11=>Ab (Qp Bv (Qp Bl (Br (fun hc12=>B8 ?_) fun hc12=>AW.region (Qp Bv (Qp Bl (A7 ?_)))))))))
  .
   refine ⟨(),?_,GS.weaken ⟨rfl,rfl,rfl,congrArg AV.bool (by simp [*]),trivial⟩ (.refl _)⟩
   trivial
  .
   refine ⟨(),?_,GS.weaken ⟨rfl,rfl,rfl,congrArg AV.bool (by simp [*]),trivial⟩ (.refl _)⟩
   trivial
  refine ⟨(),?_,GS.weaken ⟨rfl,rfl,rfl,congrArg AV.bool (by simp [*]),trivial⟩ (.refl _)⟩
  trivial
 rintro _ _;refine Hs (fun hc13=>Ab (Qp Ax (Qp Bv (Qp Bl (Ra (Qr (.bool _) ?_)))))) fun hc13=>?_
 . simp only [Af,Ct,hc2,hc3,hc4,hc7,hc10,hc13,↓reduceIte,Ah]
 refine Ab (Qp Bv (Qp Bl (Br (fun hc14=>Cj (Qp (Qf bK) (Qp B7 (Qp Bv (Br (fun hc15=>Ab (Qp Ax (Qp Bv (Qp Bl (Rc (Ep (Bc (Qr (.bool _) ?_)))))))) fun hc15=>B8 (Ab (Qp Ax (Qp Bv (Qp Bl (Ra (Qr (.bool _) ?_))))))))))) fun hc14=>?_)))
 . simp only [Af,Ct,hc2,hc3,hc4,hc7,hc10,hc13,hc14,hc15,↓reduceIte,Ah]
 . simp only [Af,Ct,hc2,hc3,hc4,hc7,hc10,hc13,hc14,hc15,↓reduceIte,Ah]
 refine Rf (Ab (Qp Ax (Qp Bv (Qp Bl (Rb (Qr (.bool _) ?_))))));simp only [Af,Ct,hc2,hc3,hc4,hc7,hc10,hc13,hc14,↓reduceIte,Ah]
theorem w_uses (k:Int):Au Tryz.prog 169 [.int .i64 k] (.tuple [.bool (Ku k).1,.bool (Ku k).2]):=by
 refine G3 15 Tryz.func169 rfl fun H=>?_
 refine Ab (Qp Bl (Qp Bl (A7 (Cj (Qp Ax (A7 (AW.block ?_)))))));refine AW.Aat (fun (_:Unit)=>(⟨[(4,.int .i64 k),(5,.bool ((((k==5)||(k==14))||(k==16))))],H,15⟩:St)) (fun _=>True) ?_ ?_
 .
  refine Ab (Qp Bv (Qp Bl (Br (fun hc1=>B8 ?_) fun hc1=>Ab (Qp Bv (Qp Bl (Br (fun hc2=>B8 ?_) fun hc2=>AW.region (Qp Bv (Qp Bl (A7 ?_)))))))))
  .
   refine ⟨(),?_,GS.weaken ⟨rfl,congrArg AV.bool (by simp [*]),trivial⟩ (.refl _)⟩
   trivial
  .
   refine ⟨(),?_,GS.weaken ⟨rfl,congrArg AV.bool (by simp [*]),trivial⟩ (.refl _)⟩
   trivial
  refine ⟨(),?_,GS.weaken ⟨rfl,congrArg AV.bool (by simp [*]),trivial⟩ (.refl _)⟩
  trivial
 rintro _ _;refine Hs (fun hc3=>Ab (Qp Bl (Qp Bl (Ra (Py (.bool _) (.bool _) ?_))))) fun hc3=>?_
 . simp only [Af,Ku,hc3,↓reduceIte,Ah]
 refine AW.Aat (fun (_:Unit)=>(⟨[(4,.int .i64 k),(9,.bool ((((((k==1)||(k==2))||(k==3))||(k==4))||(k==15))))],H,15⟩:St)) (fun _=>True) ?_ ?_
 .
  refine Ab (Qp Bv (Qp Bl (Br (fun hc4=>B8 ?_) fun hc4=>Ab (Qp Bv (Qp Bl (Br (fun hc5=>B8 ?_) fun hc5=>Ab (Qp Bv (Qp Bl (Br (fun hc6=>B8 ?_) fun hc6=>Ab (Qp Bv (Qp Bl (Br (fun hc7=>B8 ?_) fun hc7=>AW.region (Qp Bv (Qp Bl (A7 ?_)))))))))))))))
  .
   refine ⟨(),?_,GS.weaken ⟨rfl,congrArg AV.bool (by simp [*]),trivial⟩ (.refl _)⟩
   trivial
  .
   refine ⟨(),?_,GS.weaken ⟨rfl,congrArg AV.bool (by simp [*]),trivial⟩ (.refl _)⟩
   trivial
  .
   refine ⟨(),?_,GS.weaken ⟨rfl,congrArg AV.bool (by simp [*]),trivial⟩ (.refl _)⟩
   trivial
  .
   refine ⟨(),?_,GS.weaken ⟨rfl,congrArg AV.bool (by simp [*]),trivial⟩ (.refl _)⟩
   trivial
  refine ⟨(),?_,GS.weaken ⟨rfl,congrArg AV.bool (by simp [*]),trivial⟩ (.refl _)⟩
  trivial
 rintro _ _;refine Hs (fun hc8=>Ab (Qp Bl (Qp Bl (Ra (Py (.bool _) (.bool _) ?_))))) fun hc8=>Rf (Ab (Qp Bl (Qp Bl (Rb (Py (.bool _) (.bool _) ?_)))))
 . simp only [Af,Ku,hc3,hc8,↓reduceIte,Ah]
 simp only [Af,Ku,hc3,hc8,↓reduceIte,Ah]
theorem w_is (s:Ac)(hl:s.length<=1048576):Au Tryz.prog 168 [.str s] (.bool (Ru s)):=by
 refine G3 6 Tryz.func168 rfl fun H=>?_
 refine Ab (Qp Bl (Cf (Qp Iw (Qp (Qc rfl (c20 s hl)) (Qp Bv (Qp Bl (Rb (Qr (.bool _) ?_))))))));rfl
theorem w_named (t:Syn)(ht:t.text.length<=1048576)(hn:t.name.length<=1048576):Au Tryz.prog 116 [.agg (cSyn t)] (.bool (Li t)):=by
 refine G3 48 Tryz.func116 rfl fun H=>?_
 refine Ab (Qp (Ji Aj) (Qp Bl (Cf (Qp (An (v:=.fn _ _ _) rfl) (Cf (Qp (Qf Aj) (Qp B7 (Qp (Qc rfl (w_uses t.kind)) (Qp Wz (Qp oB (Qp oB (Qp Bl (Qp Bl (A7 (Cj (Qp Cw (Qp Cw (Qg [] Qw (Ai (v:=.fn _ _ _) rfl) (Qg [] Qw (Qf Zr) (Qg [(15,_)] Qw Hn ?_))))))))))))))))))));refine Yh [(16,_),(14,_)] Yw (fun hG=>Tl (by kernel_rfl) rfl rfl rfl (w_is t.text ht)) ?_;refine Qg [(17,_)] Qw Ke (Qp Mu (Qp Cw (Qg [] Qw (Qf Aj) (Qg [(21,_)] Qw B7 (Qg [(22,_)] Qw Cq (Qg [(23,_)] Qw Cw (Qg [] Qw (Qf Zr) (Qg [(25,_)] Qw Hn ?_))))))));refine Qg [(26,_)] Qw (Gl rfl rfl) (Qg [(24,_),(27,_)] Qw G4 (Qp Mu (Br (fun hc1=>Ab (Qp Bl (Rc (Qr (.bool _) ?_)))) fun hc1=>B8 (Ab (Qp Cw (Qp Ke (Qp Cw (Qg [] Qw (Ai (v:=.fn _ _ _) rfl) (Qg [] Qw (Qf sR) (Qg [(34,_)] Qw Hn ?_))))))))))
 .
  simp only [Af,Li];rw [if_pos hc1]
 refine Yh [(35,_),(33,_)] Yw (fun hG=>Tl (by kernel_rfl) rfl rfl rfl (w_is t.name hn)) ?_;refine Qp G4 (Qp Cw (Qg [] Qw (Qf Aj) (Qg [(39,_)] Qw B7 (Qg [(40,_)] Qw Bv (Qg [(41,_)] Qw Cw (Qg [] Qw (Qf sR) (Qg [(43,_)] Qw Hn (Qg [(44,_)] Qw (Gk rfl rfl) (Qg [(42,_),(45,_)] Qw Mu (Qp G4 (Qp Bl (Rb (Qr (.bool _) ?_)))))))))))));simp only [Af,Li];rw [Bu hc1]
theorem w_const (t:Syn):Au Tryz.prog 170 [.agg (cSyn t)] (.int .i64 (I8 t)):=by
 refine G3 37 Tryz.func170 rfl fun H=>?_
 refine Ab (Qp (Ji Aj) (Qp A3 (Cf (Qp A3 (Qp A3 (A7 (Cj (Qp (Qf sR) ?_))))))));refine Qp Hn (A7 (AW.block (Ab (Qp (Gk rfl rfl) (Qp Bl (Br (fun hc1=>Rf (AW.seq (AW.block (Ab (Qp (Qf bK) (Qp B7 (Qp Ax (Qp C5 (Qp Cw (Qg [] Qw (Qf bK) (Qg [(28,_)] Qw B7 (Qg [] Qw Ax ?_)))))))))))) fun hc1=>?_))))))
 .
  refine Qg [(29,_),(30,_)] Yw Jj (Qp G4 (Qp Bl (Br (fun hc2=>Ab (Qp A3 (Ra (Qr (Iq _) ?_)))) fun hc2=>Ab (Qp (Qf Zr) (Qp Hn (Qp (Gl rfl rfl) (Qp Bl (Br (fun hc3=>Ab (Qp A3 (Ra (Qr (Iq _) ?_)))) fun hc3=>Rf (Ab (Qp A3 (Rb (Qr (Iq _) ?_))))))))))))
  .
   simp only [Af,I8];rw [if_pos hc1,if_pos hc2]
  .
   simp only [Af,I8];rw [if_pos hc1,Bu hc2,if_pos hc3]
  simp only [Af,I8];rw [if_pos hc1,Bu hc2,Bu hc3]
 refine Ab (Qp (Gk rfl rfl) (Qp Bl (Br (fun hc4=>AW.region (Qp A3 (Qp A3 (Rk (AW.seq (AW.block (Ab (Qp (Qf bK) (Qp B7 (Qp Ax (Qp C5 (Qp Cw (Qg [] Qw (Qf bK) (Qg [(28,_)] Qw B7 (Qg [] Qw Ax ?_))))))))))))))) fun hc4=>?_)))
 .
  refine Qg [(29,_),(30,_)] Yw Jj (Qp G4 (Qp Bl (Br (fun hc5=>Ab (Qp A3 (Ra (Qr (Iq _) ?_)))) fun hc5=>Ab (Qp (Qf Zr) (Qp Hn (Qp (Gl rfl rfl) (Qp Bl (Br (fun hc6=>Ab (Qp A3 (Ra (Qr (Iq _) ?_)))) fun hc6=>Rf (Ab (Qp A3 (Rb (Qr (Iq _) ?_))))))))))))
  .
   simp only [Af,I8];rw [Bu hc1,if_pos hc4,if_pos hc5]
  .
   simp only [Af,I8];rw [Bu hc1,if_pos hc4,Bu hc5,if_pos hc6]
  simp only [Af,I8];rw [Bu hc1,if_pos hc4,Bu hc5,Bu hc6]
 refine Ab (Qp (Gk rfl rfl) (Qp Bl (Br (fun hc7=>?_) fun hc7=>Ab (Qp A3 (Ra (Qr (Iq _) ?_))))))
 .
  refine AW.seq (AW.block (Ab (Qp (Qf Zr) (Qp Hn (Qp (D7 tok rfl rfl rfl rfl) (Qp Jj (Qp Bl (Br (fun hc8=>Ab (Qp A3 (Ra (Ep (Bc (Qr (Iq _) ?_)))))) fun hc8=>Ab (Qp (Qf bK) (Qp B7 (Qp Cq (Qp Bl (Br (fun hc9=>Ab (Qp A3 (Ra (Ep (Bc (Qr (Iq _) ?_)))))) fun hc9=>Rf (Ab (Qp A3 (Ra (Qr (Iq _) ?_)))))))))))))))))
  .
   simp only [Af,I8];rw [Bu hc1,Bu hc4,if_pos hc7,if_pos hc8]
  .
   simp only [Af,I8];rw [Bu hc1,Bu hc4,if_pos hc7,Bu hc8,if_pos hc9]
  simp only [Af,I8];rw [Bu hc1,Bu hc4,if_pos hc7,Bu hc8,Bu hc9]
 simp only [Af,I8];rw [Bu hc1,Bu hc4,Bu hc7]
theorem w_number (t:Syn):Au Tryz.prog 171 [.agg (cSyn t)] (.int .i64 (Ns t)):=by
 refine G3 27 Tryz.func171 rfl fun H=>?_
 refine Ab (Qp (Ji Aj) (Qp A3 (Cf (Qp A3 (Qp A3 (Qp A3 (A7 (Cj ?_))))))));refine Qp (Qf Aj) (Qp B7 (A7 (AW.block (Ab (Qp Bv (Qp Bl (Br (fun hc1=>AW.region (Qp A3 (Qp A3 (Qp A3 (Rk (Cj (Qp (Qf bK) ?_))))))) fun hc1=>Ab (Qp Bv (Qp Bl (Br (fun hc3=>AW.region (Qp A3 (Qp A3 (Qp A3 (Rk (Cj (Qp (Qf bK) ?_))))))) fun hc3=>?_))))))))))
 .
  refine Qp B7 (Qp Ax (Qp C5 (Qp Cw (Qg [] Qw (Qf bK) (Qg [(21,_)] Qw B7 (Qg [] Qw Ax (Qg [(22,_),(23,_)] Yw Jj (Qp G4 (Br (fun hc2=>Ab (Qp Ax (Qp A3 (Rc (Qr (Iq _) ?_))))) fun hc2=>B8 (Ab (Qp A3 (Rb (Qr (Iq _) ?_)))))))))))))
  . simp only [Af,Ns,hc1,hc2,↓reduceIte,Ah]
  simp only [Af,Ns,hc1,hc2,↓reduceIte,Ah]
 .
  refine Qp B7 (Qp Ax (Qp C5 (Qp Cw (Qg [] Qw (Qf bK) (Qg [(21,_)] Qw B7 (Qg [] Qw Ax (Qg [(22,_),(23,_)] Yw Jj (Qp G4 (Br (fun hc4=>Ab (Qp Ax (Qp A3 (Rc (Qr (Iq _) ?_))))) fun hc4=>B8 (Ab (Qp A3 (Rb (Qr (Iq _) ?_)))))))))))))
  . simp only [Af,Ns,hc1,hc3,hc4,↓reduceIte,Ah]
  simp only [Af,Ns,hc1,hc3,hc4,↓reduceIte,Ah]
 refine Ab (Qp Bv (Qp Bl (Br (fun hc5=>AW.region (Qp A3 (Qp A3 (Qp A3 (Rk (Cj (Qp (Qf bK) ?_))))))) fun hc5=>Ab (Qp Bv (Qp Bl (Br (fun hc7=>AW.region (Qp A3 (Qp A3 (Rk (Cj (Qp (Qf bK) (Qp B7 ?_))))))) fun hc7=>?_))))))
 .
  refine Qp B7 (Qp Ax (Qp C5 (Qp Cw (Qg [] Qw (Qf bK) (Qg [(21,_)] Qw B7 (Qg [] Qw Ax (Qg [(22,_),(23,_)] Yw Jj (Qp G4 (Br (fun hc6=>Ab (Qp Ax (Qp A3 (Rc (Qr (Iq _) ?_))))) fun hc6=>B8 (Ab (Qp A3 (Rb (Qr (Iq _) ?_)))))))))))))
  . simp only [Af,Ns,hc1,hc3,hc5,hc6,↓reduceIte,Ah]
  simp only [Af,Ns,hc1,hc3,hc5,hc6,↓reduceIte,Ah]
 .
  refine Qp Ax (Qp C5 (Qp Cw (Qg [] Qw (Qf bK) (Qg [(21,_)] Qw B7 (Qg [] Qw Ax (Qg [(22,_),(23,_)] Yw Jj (Qp G4 (Br (fun hc8=>Ab (Qp Ax (Qp A3 (Rc (Qr (Iq _) ?_))))) fun hc8=>B8 (Ab (Qp A3 (Rb (Qr (Iq _) ?_))))))))))))
  . simp only [Af,Ns,hc1,hc3,hc5,hc7,hc8,↓reduceIte,Ah]
  simp only [Af,Ns,hc1,hc3,hc5,hc7,hc8,↓reduceIte,Ah]
 refine Rf (Cj (Qp (Qf bK) (Qp B7 (Qp Ax (Qp C5 (Qp Cw (Qg [] Qw (Qf bK) (Qg [(21,_)] Qw B7 (Qg [] Qw Ax (Qg [(22,_),(23,_)] Yw Jj (Qp G4 (Br (fun hc9=>Ab (Qp Ax (Qp A3 (Rc (Qr (Iq _) ?_))))) fun hc9=>B8 (Ab (Qp A3 (Rb (Qr (Iq _) ?_))))))))))))))))
 . simp only [Af,Ns,hc1,hc3,hc5,hc7,hc9,↓reduceIte,Ah]
 simp only [Af,Ns,hc1,hc3,hc5,hc7,hc9,↓reduceIte,Ah]
theorem w_fields (t:Syn):Au Tryz.prog 117 [.agg (cSyn t)] (.int .i64 (C9 t)):=by
 refine G3 38 Tryz.func117 rfl fun H=>?_
 refine Ab (Qp (Ji Aj) (Qp A3 (A7 (Cj (Qp (Qf Aj) (Qp B7 (Qp Bv (Br (fun hc1=>Ab (Qp (C8 Aj) (Qp (Qc rfl (w_const t)) (Qp A3 (Rc (Qr (Iq _) ?_)))))) fun hc1=>?_))))))))
 .
  simp only [Af,C9];rw [if_pos hc1]
 refine B8 (Cj (Qp (C8 Aj) (Qp (Qc rfl (w_number t)) (Qp A3 (Cf (Qp Ax (Qp Cq (Br (fun hc2=>Ab (Qp Ax (Qp A3 (Rc (Qr (Iq _) ?_))))) fun hc2=>?_))))))))
 .
  simp only [Af,C9];rw [Bu hc1,if_pos hc2]
 refine B8 (Cj (Qp (Qf Aj) (Qp B7 (Qp (Qc rfl (w_uses t.kind)) (Qp Wz (Qp oB (Qp oB (Qp Bl (Qp Bl (Cf (Qp Cw (Qp Ke (Qp Cw (Qg [] Qw (Qf Zr) (Qg [(25,_)] Qw Hn ?_)))))))))))))));refine Qg [(26,_)] Qw (Gl rfl rfl) (Qp Mu (Qp Cw (Qg [] Qw Cw (Qg [(30,_)] Qw Ke (Qg [(31,_)] Qw Cw (Qg [] Qw (Qf sR) (Qg [(33,_)] Qw Hn (Qg [(34,_)] Qw (Gl rfl rfl) (Qg [(32,_),(35,_)] Qw Mu (Qp G4 (Br (fun hc3=>Ab (Qp A3 (Rc (Qr (Iq _) ?_)))) fun hc3=>B8 (Ab (Qp A3 (Rb (Qr (Iq _) ?_)))))))))))))))
 .
  simp only [Af,C9];rw [Bu hc1,Bu hc2,if_pos hc3]
 simp only [Af,C9];rw [Bu hc1,Bu hc2,Bu hc3]
theorem w_kid (t:Syn)(i:Nat)(hi:i<t.kids.length)(hl:t.kids.length<=1048576):Au Tryz.prog 118 [.agg (cSyn t),.int .i64 (i:Int)] (uQ (Cr t i)):=by
 refine G3 59 Tryz.func118 rfl fun H=>?_
 refine Ab (Qp (Ji Aj) (Qp Tm (A7 (Cj (Qp (Qf Aj) (Qp B7 (A7 (AW.block (Ab (Qp Bv (Qp Bl (Br (fun hc1=>Cj (Qp (Qf Po) (Qp Eg (Qp Ax ?_)))) fun hc1=>Ab (Qp Bv (Qp Bl (Br (fun hc3=>Ab (Qp (Qc rfl (X1 _)) (Qp (An (v:=.fn _ _ _) rfl) (Ra (Qr (.fn _ _ _) ?_))))) fun hc3=>?_)))))))))))))))
 .
  refine Qp (F5 (cSyn (Aq t i)) rfl rfl (by omega) (I3 (kid_has hi))) ?_;refine Qp (Qf Aj) (Qp B7 (Qp Bv (Qp Cw (Qg [] Qw Ax (Qg [(17,_)] Qw Bv (Qg [(18,_)] Qw Cw (Qg [] Qw (Qf Po) (Qg [(20,_)] Qw Eg (Qg [] Qw Ax ?_)))))))));refine Yh [(22,_)] Qw (fun hG=>P_sub rfl rfl rfl (by constructor <;> omega)) ?_;refine Yh [(21,_),(23,_)] (Yv rfl Es Es) (fun hG=>F5 (cSyn (Aq t (i-1))) rfl rfl ((wW hi hG).1) ((wW hi hG).2)) ?_;refine Qg [(24,_)] Qw (Qf Aj) (Qg [(25,_)] Qw B7 (Qg [(26,_)] Qw Bv (Qg [(19,_),(27,_)] Qw G4 (Qp Mu (Br (fun hc2=>Ab (Qp (Qc rfl (X1 _)) (Qp (An (v:=.fn _ _ _) rfl) (Rc (Ep (Bc (Qr (.fn _ _ _) ?_))))))) fun hc2=>B8 (Ab (Qp (Qc rfl (X1 _)) (Qp (An (v:=.fn _ _ _) rfl) (Ra (Qr (.fn _ _ _) ?_))))))))))
  . simp only [Af,Cr,uQ,hc1,hc2,↓reduceIte,Ah]
  simp only [Af,Cr,uQ,hc1,hc2,↓reduceIte,Ah]
 . simp only [Af,Cr,uQ,hc1,hc3,↓reduceIte,Ah]
 refine Ab (Qp Bv (Qp Bl (Br (fun hc4=>Cj (Qp Ax (A7 (AW.block (Ab (Qp Bv (Qp Bl (Br (fun hc5=>Ab (Qp (Qc rfl (X1 _)) (Qp (An (v:=.fn _ _ _) rfl) (Ra (Ep (Bc (Qr (.fn _ _ _) ?_))))))) fun hc5=>Ab (Qp Bv (Qp Bl (Br (fun hc6=>Ab (Qp (An (v:=.fn _ _ _) rfl) (Ra (Ep (Bc (Qr (.fn _ _ _) ?_)))))) fun hc6=>Rf (Ab (Qp (An (v:=.fn _ _ _) rfl) (Ra (Qr (.fn _ _ _) ?_))))))))))))))) fun hc4=>?_)))
 . simp only [Af,Cr,uQ,hc1,hc3,hc4,hc5,↓reduceIte,Ah]
 . simp only [Af,Cr,uQ,hc1,hc3,hc4,hc5,hc6,↓reduceIte,Ah]
 . simp only [Af,Cr,uQ,hc1,hc3,hc4,hc5,hc6,↓reduceIte,Ah]
 refine Ab (Qp Bv (Qp Bl (Br (fun hc7=>Ab (Qp Ax (Qp Bv (Br (fun hc8=>Ab (Qp (Qc rfl (X1 _)) (Qp (An (v:=.fn _ _ _) rfl) (Ra (Qr (.fn _ _ _) ?_))))) fun hc8=>Rf (Ab (Qp (An (v:=.fn _ _ _) rfl) (Rb (Qr (.fn _ _ _) ?_)))))))) fun hc7=>?_)))
 . simp only [Af,Cr,uQ,hc1,hc3,hc4,hc7,hc8,↓reduceIte,Ah]
 . simp only [Af,Cr,uQ,hc1,hc3,hc4,hc7,hc8,↓reduceIte,Ah]
 refine Ab (Qp Bv (Qp Bl (Br (fun hc9=>Ab (Qp Ax (Qp Bv (Br (fun hc10=>Ab (Qp (An (v:=.fn _ _ _) rfl) (Ra (Qr (.fn _ _ _) ?_)))) fun hc10=>Rf (Ab (Qp (An (v:=.fn _ _ _) rfl) (Rb (Qr (.fn _ _ _) ?_)))))))) fun hc9=>Ab (Qp Bv (Qp Bl (Br (fun hc11=>Ab (Qp (Qc rfl (X1 _)) (Qp (An (v:=.fn _ _ _) rfl) (Ra (Qr (.fn _ _ _) ?_))))) fun hc11=>?_))))))
 . simp only [Af,Cr,uQ,hc1,hc3,hc4,hc7,hc9,hc10,↓reduceIte,Ah]
 . simp only [Af,Cr,uQ,hc1,hc3,hc4,hc7,hc9,hc10,↓reduceIte,Ah]
 . simp only [Af,Cr,uQ,hc1,hc3,hc4,hc7,hc9,hc11,↓reduceIte,Ah]
 refine AW.Aat (fun (_:Unit)=>(⟨[(2,.ptr (cSyn t)),(55,.bool ((((t.kind==5)||(t.kind==17))||(t.kind==18))))],H,59⟩:St)) (fun _=>True) ?_ ?_
 .
  refine Ab (Qp Bv (Qp Bl (Br (fun hc12=>B8 ?_) fun hc12=>Ab (Qp Bv (Qp Bl (Br (fun hc13=>B8 ?_) fun hc13=>AW.region (Qp Bv (Qp Bl (A7 ?_)))))))))
  .
   refine ⟨(),?_,GS.weaken ⟨rfl,congrArg AV.bool (by simp [*]),trivial⟩ (.refl _)⟩
   trivial
  .
   refine ⟨(),?_,GS.weaken ⟨rfl,congrArg AV.bool (by simp [*]),trivial⟩ (.refl _)⟩
   trivial
  refine ⟨(),?_,GS.weaken ⟨rfl,congrArg AV.bool (by simp [*]),trivial⟩ (.refl _)⟩
  trivial
 rintro _ _;refine Hs (fun hc14=>Ab (Qp (An (v:=.fn _ _ _) rfl) (Ra (Qr (.fn _ _ _) ?_)))) fun hc14=>Rf (Ab (Qp (An (v:=.fn _ _ _) rfl) (Rb (Qr (.fn _ _ _) ?_))))
 . simp only [Af,Cr,uQ,hc1,hc3,hc4,hc7,hc9,hc11,hc14,↓reduceIte,Ah]
 simp only [Af,Cr,uQ,hc1,hc3,hc4,hc7,hc9,hc11,hc14,↓reduceIte,Ah]
end Go.Proofs.YtibcelnfkhdjaaaGreatDoor
namespace Go.Aw
open Go
section
variable {P:Program} {T:List (Nat×TD)} {d:Option Nat} {ty:TypeId} {pos:String} {aft:Array Edge} {gd:Option (Nat×Bool)} {ρ:Operand->AV} {K:List HO->Prop}
theorem uX {t:TypeId}{m k v:Operand}{kt et b i:Nat}{td tk:TD}{n:List UInt8}{ks:List (List UInt8)}{x:Int}{H H2:List HO}(hT:Kh P T)(ht:Bt T t=some td)(hk:td.kind = .map kt et)(htk:Bt T kt=some tk)(hkk:tk.kind = .str)
  (hm:ρ m = .val (.map (some b))) (hkey:ρ k = .str n) (hv:ρ v = .int .i64 x) (hH:H[i]? = some (.smap b (Ty ks))) (hx:x=(ks.length:Int)) (hnew:ks.contains n=false) (hH2:H.set i (.smap b (Ty (ks ++ [n])))=H2) :
  Od P ⟨d,.mapUpdate t m k v,ty,pos,aft,gd⟩ ρ H (fun y H'=>y = .junk/\H'=H2):=by
 subst hx;exact gK hT ht hk htk hkk hm hkey hv hH (smI_new hnew) (by rw [smI_add];exact hH2)
end
end Go.Aw
namespace Go.Proofs.YtibcelnfkhdjaaaGreatDoor
open Go Go.Aw
def aI {α:Type}(p:α->Bool):List α->Int
 | []=>-1
 | a::r=>if p a then 0 else if aI p r<0 then -1 else aI p r+1
theorem lK {α:Type}(p:α->Bool):∀l:List α,(-1<=aI p l)/\decide (0<=aI p l)=l.any p
  | []=>⟨D6 _,rfl⟩
  | a::r=>by
    obtain ⟨h0,h1⟩:=lK p r;rw [aI,O5];cases h:p a with
    | true=>exact ⟨by rw [if_pos rfl];decide,by rw [if_pos rfl];rfl⟩
    | false=>
      rw [if_neg (by decide),Ky,<-h1];by_cases h2:aI p r<0
      . rw [if_pos h2]
        exact ⟨D6 _,by rw [decide_eq_decide];constructor <;> intro h <;> omega⟩
      . rw [if_neg h2]
        exact ⟨by omega,by rw [decide_eq_decide];constructor <;> intro h <;> omega⟩
theorem lL {α:Type}{p:α->Bool}:∀{l:List α} {k:Nat} {a:α},l[k]? = some a->(l.take k).any p=false->p a=true->aI p l=(k:Int)
  | [],k,a,h,_,_=>by simp at h
  | b::r,0,a,h,_,hp=>by simp at h;subst h;rw [aI,if_pos hp];rfl
  | b::r,k+1,a,h,hn,hp=>by
    rw [bH,O5,Ey] at hn;have ih:=lL (l:=r) (k:=k) (by simpa using h) hn.2 hp;rw [aI,if_neg (by rw [hn.1];decide),ih,if_neg (by omega)];omega
theorem eZ {α:Type}{p:α->Bool}:∀{l:List α},l.any p=false->aI p l = -1
  | [],_=>rfl
  | b::r,h=>by
    rw [O5,Ey] at h;rw [aI,if_neg (by rw [h.1];decide),eZ h.2];rfl
theorem lM {α:Type}(f:α->Ac)(n:Ac):∀l:List α,aI (fun a=>f a==n) l=Tx (l.map f) n
  | []=>rfl
  | a::r=>by
    have ih:=lM f n r;unfold Tx at ih ⊢;rw [aI,Ao,gI,List.idxOf_cons,ih];by_cases h:f a=n
    . subst h;simp
    . have h1:(f a==n)=false:=by rw [Hz];exact h
      have h2:(n==f a)=false:=by rw [Hz];exact fun e=>h e.symm
      rw [h1,h2,if_neg (by decide),Ky];cases hc:(r.map f).contains n with
      | false=>simp
      | true=>simp;omega
theorem R0 {α:Type}{l:List α}{k:Nat}{a:α}{p:α->Bool}(h:(l.take k).any p=false)(ha:l[k]? = some a)(hp:p a=false):(l.take (k+1)).any p=false:=by
 rw [List.take_add_one,ha];simp [h,hp]
theorem kL {f:Syn->Fa}:∀{l:List Syn} {k:Nat} {a:Syn},l[k]? = some a->(l.take k).any (fun x=>(f x).err != 0)=false->((f a).err != 0)=true->Ia f l=f a
  | [],k,a,h,_,_=>by simp at h
  | b::r,0,a,h,_,hp=>by simp at h;subst h;rw [Ia,if_pos hp]
  | b::r,k+1,a,h,hn,hp=>by
    rw [bH,O5,Ey] at hn;rw [Ia,if_neg (by rw [hn.1];decide)];exact kL (by simpa using h) hn.2 hp
theorem eD {f:Syn->Fa}:∀{l:List Syn},l.any (fun x=>(f x).err != 0)=false->Ia f l=Np
  | [],_=>rfl
  | b::r,h=>by
    rw [O5,Ey] at h;rw [Ia,if_neg (by rw [h.1];decide)];exact eD h.2
theorem Je {l:List Syn}{k:Nat}{a:Syn}(h:l[k]? = some a):(l.map Df)[k]? = some (cSyn a):=by rw [List.getElem?_map,h];exact congrArg some (Bi a)
theorem Hc {t:Syn}{k:Nat}(h:k<t.kids.length):t.kids[k]? = some (Aq t k):=by unfold Aq;rw [Dm,List.getElem?_eq_getElem h];rfl
def dU (T:List e8Sc)(V:List Va)(s:Nx):List AV:=[.sl 2 (T.map Oh),.smapv (Ty (H4 T)),.sl 2 (V.map U6),.smapv (Ty (H5 V)),.int .i64 s.next,.int .i64 s.scopes]
theorem Bx {t:Syn}{p:Pl}(h:Ag t p=0):Vq p t=0/\Mk t 0 t.kids=0:=by
 rw [P6] at h;split at h
 . rename_i h1;rw [h] at h1;cases h1
 rename_i h1;exact ⟨by simpa using h1,h⟩
theorem wX {t:Syn}:∀(l:List Syn) (i:Nat),Mk t i l=0->∀j a,l[j]? = some a->Ag a (Cr t (i+j))=0
  | [],i,_,j,a,h=>by simp at h
  | x::r,i,h,j,a,ha=>by
    rw [Mk] at h;split at h
    . rename_i h1;rw [h] at h1;cases h1
    . rename_i h1
      cases j with
      | zero=>rw [List.getElem?_cons_zero] at ha;cases ha;simpa using h1
      | succ j=>rw [List.getElem?_cons_succ] at ha;have:=wX r (i+1) h j a ha;rwa [show i+1+j=i+(j+1) by omega] at this
theorem Bz {p:Pl}{t:Syn}(h:Vq p t=0):p.at t.kind=true/\Ct t=true/\Li t=true/\C9 t=0:=by
 unfold Vq at h;split at h
 . cases h
 split at h
 . cases h
 split at h
 . cases h
 rename_i h1 h2 h3;exact ⟨by simpa using h1,by simpa using h2,by simpa using h3,h⟩
theorem Dl {t:Syn}{p:Pl}(h:Ag t p=0){j:Nat}{a:Syn}(ha:t.kids[j]? = some a):Ag a (Cr t j)=0/\(Cr t j).at a.kind=true:=by
 have h1:=wX t.kids 0 (Bx h).2 j a ha;rw [Eb] at h1;exact ⟨h1,(Bz (Bx h1).1).1⟩
theorem L6 {k:Int}(h:Pl.at .exps k=true):13<=k/\k<=18:=by
 simp only [Pl.at,isExp,Ce,Cb] at h;exact h
theorem aR {k:Int}(h:Pl.at .pats k=true):5<=k/\k<=12:=by
 simp only [Pl.at,isPat,Ce,Cb] at h;exact h
theorem Dz {n k:Int}(h:Pl.at (.only n) k=true):k=n:=by
 simpa [Pl.at] using h
theorem wV {t:Syn}{j:Nat}{k:Int}(h:(Cr t j).at k=true):1<=k/\k<=18:=by
 unfold Cr at h
 repeat' split at h
 all_goals first | (have:=Dz h;omega) | (have:=L6 h;omega) | (have:=aR h;omega)
section
variable {t:Syn} {p:Pl}
theorem Uj (h:(t.kids.length:Int)=1):∃a,t.kids = [a]:=by
 match hk:t.kids with
 | []=>rw [hk] at h;cases h
 | [a]=>exact ⟨a,rfl⟩
 | a::b::r=>rw [hk] at h;simp only [A8] at h;omega
theorem Xi (h:(t.kids.length:Int)=2):∃a b,t.kids = [a,b]:=by
 match hk:t.kids with
 | []=>rw [hk] at h;cases h
 | [a]=>rw [hk] at h;simp only [A8,Bn] at h;omega
 | [a,b]=>exact ⟨a,b,rfl⟩
 | a::b::c::r=>rw [hk] at h;simp only [A8] at h;omega
theorem U4 (hf:C9 t=0)(hk:t.kind=17):t.num=5\/t.num=6\/t.num=7\/t.num=8\/t.num=9\/t.num=10\/t.num=11:=by
 unfold C9 Ns at hf;rw [hk] at hf
 have hf2:(decide (t.num<5)||decide (11<t.num))=false:=by
  cases hq:(decide (t.num<5)||decide (11<t.num)) with
  | false=>rfl
  | true=>rw [hq] at hf;cases hf
 simp only [Ey,Jh] at hf2;omega
theorem Yu (hf:C9 t=0)(hk:t.kind=2):0<=t.num/\t.num<=2:=by
 unfold C9 Ns at hf;rw [hk] at hf
 have hf2:(decide (t.num<0)||decide (2<t.num))=false:=by
  cases hq:(decide (t.num<0)||decide (2<t.num)) with
  | false=>rfl
  | true=>rw [hq] at hf;cases hf
 simp only [Ey,Jh] at hf2;omega
theorem Zm (hf:C9 t=0)(hk:t.kind=16):1<=t.num/\t.num<=5:=by
 unfold C9 Ns at hf;rw [hk] at hf
 have hf2:(decide (t.num<1)||decide (5<t.num))=false:=by
  cases hq:(decide (t.num<1)||decide (5<t.num)) with
  | false=>rfl
  | true=>rw [hq] at hf;cases hf
 simp only [Ey,Jh] at hf2;omega
theorem nT (hf:C9 t=0)(hk:t.kind=11):0<=t.num/\t.num<=1099511627776:=by
 unfold C9 Ns at hf;rw [hk] at hf
 have hf2:(decide (t.num<0)||decide (1099511627776<t.num))=false:=by
  cases hq:(decide (t.num<0)||decide (1099511627776<t.num)) with
  | false=>rfl
  | true=>rw [hq] at hf;cases hf
 simp only [Ey,Jh] at hf2;omega
theorem E5 (hf:C9 t=0)(hk:t.kind≠13/\t.kind≠2/\t.kind≠16/\t.kind≠17/\t.kind≠11):t.num=0:=by
 obtain ⟨k1,k2,k3,k4,k5⟩:=hk;have e:∀k:Int,t.kind≠k->¬(t.kind==k)=true:=fun k h=>by simpa using h
 unfold C9 at hf;rw [if_neg (e _ k1)] at hf;split at hf
 . rename_i h1;rw [hf] at h1;cases h1
 rename_i h1;have h2:Ns t=0:=by simpa using h1
 unfold Ns at h2;rw [if_neg (e _ k2),if_neg (e _ k3),if_neg (e _ k4),if_neg (e _ k5)] at h2;split at h2
 . cases h2
 rename_i h3;simp only [Hm,Cb,not_or] at h3;omega
theorem const_num0 (hf:C9 t=0)(hk:t.kind=13) : -1099511627776<=t.num/\t.num<=1099511627776:=by
 unfold C9 at hf;rw [hk] at hf
 replace hf:I8 t=0:=hf
 unfold I8 at hf
 repeat' split at hf
 all_goals first
  | exact absurd hf (by decide)
  | (simp only [Hm,Cb,not_or,Bool.not_eq_true,bne_eq_false_iff_eq] at *;omega)
end
mutual
def K7:Syn->Nat
 | ⟨_,_,_,_,kids,_⟩=>1+I7 kids
def I7:List Syn->Nat
 | []=>0
 | x::r=>K7 x+I7 r
end
theorem Jn (t:Syn):K7 t=1+I7 t.kids:=by cases t;rw [K7]
theorem kI:∀l:List Syn,l.length<=I7 l
  | []=>Bk _
  | x::r=>by
    have:=kI r;have h:=Jn x;rw [I7,A8];omega
theorem rU:∀{l:List Syn} {a:Syn},a∈l->K7 a<=I7 l
  | x::r,a,h=>by
    rw [I7];rcases Cu.1 h with rfl | h
    . omega
    have:=rU h;omega
mutual
theorem pD:∀t:Syn,C7 t<=2*K7 t
  | ⟨k,_,_,_,kids,_⟩=>by
    have h:=kJ k kids;rw [C7,K7];split <;> omega
theorem kJ (k:Int):∀l:List Syn,Ek k l<=2*I7 l+1
  | []=>by rw [Ek];omega
  | x::r=>by
    have h1:=pD x;have h2:=kJ k r;have h3:=Jn x;rw [Ek,I7];split <;> omega
end
def lV (ws:List Ac):Nat:=(ws.map List.length).sum
theorem Y4 (x:Ac)(r:List Ac):lV (x::r)=x.length+lV r:=rfl
theorem lP:∀ws:List Ac,(D8 ws).length<=lV ws+2*ws.length
  | []=>by simp [D8]
  | [x]=>by simp [D8,lV]
  | x::y::r=>by
    have:=lP (y::r);rw [D8,Y4];simp only [Al,A8,Bn] at this ⊢;omega
theorem get3_len:∀ws:List Ac,(ws.getD 0 []).length+(ws.getD 1 []).length+(D8 (ws.drop 2)).length<=lV ws+2*ws.length
  | []=>by simp [D8]
  | [x]=>by simp [D8,lV]
  | x::y::r=>by
    have:=lP r;simp only [List.getD_cons_zero,List.getD_cons_succ,List.drop_succ_cons,T3,Y4,A8];omega
theorem wK:∀ws:List Ac,ws.flatten.length=lV ws
 | []=>rfl
 | x::r=>by rw [Bj,Al,wK r,Y4]
theorem Aah (p k:Syn)(s:Ac):(Hy p k s).length<=s.length+2:=by
 unfold Hy;split
 . simp only [Al,A8,Bn];omega
 omega
theorem quoteB_le (c:UInt8):(Hl c).length<=4:=by
 unfold Hl;split
 . simp
 split <;> simp
theorem mX:∀s:Ac,(Bw s).length<=4*s.length
  | []=>by simp [Bw]
  | c::r=>by
    have h1:=mX r;have h2:=quoteB_le c;rw [Bw];simp only [Al,A8];omega
theorem words_len:(∀n,(Kp n).length<=8)/\(∀n,(Og n).length<=8)/\(∀n,(Tc n).length<=8)/\(∀n,(Hf n).length<=8):=by
 refine ⟨fun n=>?_,fun n=>?_,fun n=>?_,fun n=>?_⟩
 .
  unfold Kp;repeat' split
  all_goals decide
 .
  unfold Og;repeat' split
  all_goals decide
 .
  unfold Tc;repeat' split
  all_goals decide
 unfold Hf;repeat' split
 all_goals decide
theorem Lh {c:Prop}[Decidable c]{a b:Ac}{n:Nat}(ha:a.length<=n)(hb:b.length<=n):(if c then a else b).length<=n:=by split <;> assumption
theorem ok_num {t:Syn}{p:Pl}(h:Ag t p=0) : -1099511627776<=t.num/\t.num<=1099511627776:=by
 obtain ⟨_,_,_,hf⟩:=Bz (Bx h).1;by_cases k1:t.kind=13
 . exact const_num0 hf k1
 by_cases k2:t.kind=2
 . have:=Yu hf k2;omega
 by_cases k3:t.kind=16
 . have:=Zm hf k3;omega
 by_cases k4:t.kind=17
 . have:=U4 hf k4;omega
 by_cases k5:t.kind=11
 . have:=nT hf k5;omega
 have:=E5 hf ⟨k1,k2,k3,k4,k5⟩;omega
mutual
def wC:Syn->Nat
 | ⟨_,x,n,_,kids,_⟩=>1+x.length+n.length+wL kids
def wL:List Syn->Nat
 | []=>0
 | x::r=>wC x+wL r
end
theorem nQ (t:Syn):wC t=1+t.text.length+t.name.length+wL t.kids:=by cases t;rw [wC]
theorem w_mem:∀{l:List Syn} {a:Syn},a∈l->wC a<=wL l
  | x::r,a,h=>by
    rw [wL];rcases Cu.1 h with rfl | h
    . omega
    have:=w_mem h;omega
mutual
theorem cnt_w:∀t:Syn,K7 t<=wC t
  | ⟨_,x,n,_,kids,_⟩=>by
    have:=cntL_w kids;rw [K7,wC];omega
theorem cntL_w:∀l:List Syn,I7 l<=wL l
  | []=>by rw [I7,wL];exact Be _
  | x::r=>by
    have h1:=cnt_w x;have h2:=cntL_w r;rw [I7,wL];omega
end
def aZ (t:Syn):Prop:=wC t<=1000000
theorem N0 {t a:Syn}(h:aZ t)(ha:a∈t.kids):aZ a:=by
 have h1:=w_mem ha;have h2:=nQ t;unfold aZ at h ⊢;omega
theorem Vz {t:Syn}(h:aZ t):K7 t<=1000000:=F4 (cnt_w t) h
theorem bA {t:Syn}(h:aZ t):t.kids.length<=1000000:=by
 have h1:=Vz h;have h2:=kI t.kids;rw [Jn] at h1;omega
def Ie (t:Syn):Prop:=((t.text.length<=1000000/\t.name.length<=1000000)/\t.kids.length<=1000000/\wC t<=20000000)/\∀a∈t.kids,aZ a
theorem tJ {t:Syn}(h:aZ t):Ie t:=by
 have h2:=nQ t;have h3:=bA h;exact ⟨⟨⟨by unfold aZ at h;omega,by unfold aZ at h;omega⟩,h3,by unfold aZ at h;omega⟩,fun a ha=>N0 h ha⟩
theorem med_sm {t a:Syn}(h:Ie t)(ha:a∈t.kids):aZ a:=h.2 a ha
theorem Vm {t a:Syn}(h:Ie t)(ha:a∈t.kids):Ie a:=tJ (h.2 a ha)
theorem xL {t:Syn}(h:Ie t):t.text.length<=1048576/\t.name.length<=1048576:=⟨by have:=h.1.1.1;omega,by have:=h.1.1.2;omega⟩
theorem med_cnt {t:Syn}(h:Ie t):K7 t<=20000000:=F4 (cnt_w t) h.1.2.2
theorem cO {t:Syn}(h:Ie t):t.kids.length<=1000000:=h.1.2.1
theorem lit_len' {t:Syn}{B:Nat}(hi : -1099511627776<=t.num/\t.num<=1099511627776)(hx:t.text.length<=B):(aN t).length<=4*B+30:=by
 unfold aN;split
 . have:=Lib.itoa_length_le t.num (by omega) (by omega);omega
 split
 .
  split
  . show (4:Nat)<=_;omega
  show (5:Nat)<=_;omega
 unfold Rz;split
 . simp
 have:=mX t.text;simp only [Al,A8,Bn];omega
theorem node_len' {t:Syn}{ws:List Ac}{B:Nat}(hi : -1099511627776<=t.num/\t.num<=1099511627776)(hx:t.text.length<=B)(hn:t.name.length<=B)(h0:(Aq t 0).text.length<=B):(Dn t ws).length<=lV ws+2*ws.length+(4*B+60):=by
 have h1:=lP ws;have h2:=get3_len ws;have h3:=wK ws;have h4:=lit_len' hi hx;obtain ⟨w1,w2,w3,w4⟩:=words_len;have k1:=w1 t.num;have k2:=w2 t.num;have k3:=w3 t.num;have k4:=w4 t.kind;have h5:=Lib.itoa_length_le t.num (by omega) (by omega);have r0:=Aah t (Aq t 0) (ws.getD 0 []);have r1:=Aah t (Aq t 1) (ws.getD 1 []);have q1:B6.length=4:=rfl;have q2:B5.length=5:=rfl;have q3:O2.length=2:=rfl;have q4:Dx.length=5:=rfl;have q5:Dc.length=6:=rfl;have q6:Lv.length=2:=rfl;have q7:Hj.length=5:=rfl;have q8:Gq.length=3:=rfl;unfold Dn;refine Lh (by omega) (Lh ?_ (Lh ?_ (Lh ?_ (Lh ?_ (Lh (by omega) (Lh ?_ (Lh ?_ (Lh ?_ (Lh ?_ (Lh ?_ ?_))))))))))
 .
  have:(if (ws == [])=true then [] else [32]++D8 ws ++ [32]:Ac).length<=(D8 ws).length+2:=Lh (by simp) (by simp);simp only [Al,A8,Bn] at this ⊢;omega
 . simp only [Al,A8,Bn];omega
 .
  have:(if ((Aq t 0).text == [])=true then [] else [32]++O2 ++ [32]++(Aq t 0).text:Ac).length<=B+4:=Lh (by simp) (by simp only [Al,A8,Bn];omega);simp only [Al,A8,Bn] at this ⊢;omega
 .
  have:(if (ws == [])=true then [] else [32]++Lv ++ [32]++ws.getD 0 []:Ac).length<=(ws.getD 0 []).length+6:=Lh (by simp) (by simp only [Al,A8,Bn];omega);simp only [Al,A8,Bn] at this ⊢;omega
 . simp only [Al,A8,Bn];omega
 . simp only [Al,A8,Bn];omega
 .
  have:(if (ws == [])=true then [] else [44,32]++ws.getD 0 []:Ac).length<=(ws.getD 0 []).length+2:=Lh (by simp) (by simp only [Al,A8,Bn];omega);simp only [Al,A8,Bn] at this ⊢;omega
 . simp only [Al,A8,Bn];omega
 . simp only [Al,A8,Bn];omega
 have:(if (t.kind==11)=true then [44,32]++Lib.itoa t.num else []:Ac).length<=30:=Lh (by simp only [Al,A8,Bn];omega) (by simp);simp only [Al,A8,Bn] at this ⊢;omega
theorem write_len' (t:Syn):∀p,Ag t p=0->Ie t->(Ad t).length+2<=4000064*K7 t:=by
  refine Syn.ind (P:=fun t=>∀p,Ag t p=0->Ie t->(Ad t).length+2<=4000064*K7 t) (fun t ih p h hf=>?_) t
  have hk0:(Aq t 0).text.length<=1000000:=by
    unfold Aq;rw [Dm];cases hq:t.kids[0]? with
    | none=>simp [Iz]
    | some a=>exact (Vm hf (Ak hq)).1.1.1
  rw [Ew];have h1:=node_len' (B:=1000000) (ws:=t.kids.map Ad) (ok_num h) hf.1.1.1 hf.1.1.2 hk0
  have h2:lV (t.kids.map Ad)+2*t.kids.length<=4000064*I7 t.kids:=by
    have key:∀l:List Syn,(∀a∈l,(Ad a).length+2<=4000064*K7 a)->lV (l.map Ad)+2*l.length<=4000064*I7 l:=by
      intro l
      induction l with
      | nil=>intro _;simp [lV]
      | cons x r ihl=>
        intro hl;have h3:=hl x (Jg ..);have h4:=ihl fun a ha=>hl a (Gs _ ha)
        rw [Ao,Y4,I7,A8];omega
    refine key _ fun a ha=>?_
    obtain ⟨j,hj⟩:=Fh.1 ha;exact ih a ha _ (Dl h hj).1 (Vm hf ha)
  have h4:=Jn t;rw [Bg] at h1;rw [h4,Nat.mul_add];omega
theorem med_big {t:Syn}{p:Pl}(h:Ag t p=0)(hf:Ie t):(Ad t).length<=100000000000000:=by
 have h1:=write_len' t p h hf;have h2:=med_cnt hf;omega
structure RvOK (T:List e8Sc) (V:List Va):Prop where
 tl:T.length<=1048576
 fl:∀s∈T,s.fields.length<=1048576
 vl:V.length<=1048576
 ty:∀v∈V,0<=v.type/\v.type<(T.length:Int)
theorem fX {T:List e8Sc}{V:List Va}(h:RvOK T V){v:Va}(hv:v∈V):∃sc,T[v.type.toNat]? = some sc:=by
 have:=h.ty v hv;exact ⟨_,List.getElem?_eq_getElem (show v.type.toNat<T.length by omega)⟩
theorem Le {l:List Ac}{n:Ac}(h:l.contains n=true):0<=Js l n/\Js l n<(l.length:Int):=by
 unfold Js;rw [if_pos h];have:=List.idxOf_lt_length_iff.2 (List.contains_iff_mem.1 h);omega
theorem inX_at {V:List Va}{n:Ac}(h:(H5 V).contains n=true):∃va,V[(Js (H5 V) n).toNat]? = some va:=by
 have:=Le h;rw [Bg] at this;exact ⟨_,List.getElem?_eq_getElem (show (Js (H5 V) n).toNat<V.length by omega)⟩
theorem tY {T:List e8Sc}{V:List Va}{v:Int}{va:Va}{sc:e8Sc}(h:V[v.toNat]? = some va)(hs:T[va.type.toNat]? = some sc):Qt T V v=sc:=by
 unfold Qt;rw [h];show (T[va.type.toNat]?).getD Zt=sc;rw [hs];rfl
section
variable {T:List e8Sc} {V:List Va} {t:Syn}
theorem look_1 (h:(((t.kind != 14)&&(t.kind != 15))&&(t.kind != 16))=true):Jk T V t=Np:=if_pos h
theorem lY (h:(((t.kind != 14)&&(t.kind != 15))&&(t.kind != 16))=false):Jk T V t=if !((H5 V).contains t.text) then ⟨t.pos,8⟩ else if (t.kind==15)||((t.kind==14)&&(t.name==Ej)) then Np else if decide (Ei (Qt T V (Js (H5 V) t.text)) t.name<0) then ⟨t.pos,6⟩ else Np:=Bu h
theorem look_2 (h:(((t.kind != 14)&&(t.kind != 15))&&(t.kind != 16))=false)(h2:(!((H5 V).contains t.text))=true):Jk T V t=⟨t.pos,8⟩:=(lY h).trans (if_pos h2)
theorem tH (h:(((t.kind != 14)&&(t.kind != 15))&&(t.kind != 16))=false)(h2:(!((H5 V).contains t.text))=false)(h3:((t.kind==15)||((t.kind==14)&&(t.name==Ej)))=true):Jk T V t=Np:=(lY h).trans ((Bu h2).trans (if_pos h3))
theorem look_4 (h:(((t.kind != 14)&&(t.kind != 15))&&(t.kind != 16))=false)(h2:(!((H5 V).contains t.text))=false)(h3:((t.kind==15)||((t.kind==14)&&(t.name==Ej)))=false)(h4:decide (Ei (Qt T V (Js (H5 V) t.text)) t.name<0)=true):Jk T V t=⟨t.pos,6⟩:=(lY h).trans ((Bu h2).trans ((Bu h3).trans (if_pos h4)))
theorem look_5 (h:(((t.kind != 14)&&(t.kind != 15))&&(t.kind != 16))=false)(h2:(!((H5 V).contains t.text))=false)(h3:((t.kind==15)||((t.kind==14)&&(t.name==Ej)))=false)(h4:decide (Ei (Qt T V (Js (H5 V) t.text)) t.name<0)=false):Jk T V t=Np:=(lY h).trans ((Bu h2).trans ((Bu h3).trans (Bu h4)))
theorem walk_1 (h:((Jk T V t).err != 0)=true):Fr T V t=Jk T V t:=(Uy T V t).trans (if_pos h)
theorem O3 (h:((Jk T V t).err != 0)=false):Fr T V t=Ia (Fr T V) t.kids:=(Uy T V t).trans (Bu h)
theorem pF {f:Syn->Fa}:∀{l:List Syn},(Ia f l).err=0->∀a∈l,(f a).err=0
  | [],_,a,ha=>by cases ha
  | x::r,h,a,ha=>by
    rw [Ia] at h;by_cases hx:(f x).err=0
    . rw [if_neg (by simp [hx])] at h
      rcases Cu.1 ha with rfl | ha
      . exact hx
      exact pF h a ha
    rw [if_pos (by simpa using hx)] at h;exact absurd h hx
theorem Gr (h:(Fr T V t).err=0):(Jk T V t).err=0/\∀a∈t.kids,(Fr T V a).err=0:=by
 rw [Uy] at h;by_cases hx:(Jk T V t).err=0
 . rw [if_neg (by simp [hx])] at h;exact ⟨hx,pF h⟩
 rw [if_pos (by simpa using hx)] at h;exact absurd h hx
theorem M3 (h:(Jk T V t).err=0)(hk:t.kind=14\/t.kind=15\/t.kind=16):(H5 V).contains t.text=true:=by
 have h0:(((t.kind != 14)&&(t.kind != 15))&&(t.kind != 16))=false:=by rcases hk with h | h | h <;> simp [h]
 rw [lY h0] at h;cases hc:(H5 V).contains t.text with
 | true=>rfl
 | false=>rw [hc,if_pos (by decide)] at h;cases h
theorem cN {xs:List Ex}(h1:(t.kind==13)=true):Ml T V t xs=⟨0,[],0,0,0,Wr t⟩:=if_pos h1
theorem jD {xs:List Ex}(h1:(t.kind==13)=false)(h2:(t.kind==14)=true)(h3:(t.name==Ej)=true):Ml T V t xs=⟨2,[],Js (H5 V) t.text,0,0,v0⟩:=(Bu h1).trans ((if_pos h2).trans (if_pos h3))
theorem jE {xs:List Ex}{sc:e8Sc}(h1:(t.kind==13)=false)(h2:(t.kind==14)=true)(h3:(t.name==Ej)=false)(hs:Qt T V (Js (H5 V) t.text)=sc):Ml T V t xs=⟨1,[],Js (H5 V) t.text,Ei sc t.name,0,v0⟩:=by subst hs;exact (Bu h1).trans ((if_pos h2).trans (Bu h3))
theorem jF {xs:List Ex}(h1:(t.kind==13)=false)(h2:(t.kind==14)=false)(h4:(t.kind==15)=true):Ml T V t xs=⟨3,[],Js (H5 V) t.text,0,0,v0⟩:=(Bu h1).trans ((Bu h2).trans (if_pos h4))
theorem jG {xs:List Ex}{sc:e8Sc}(h1:(t.kind==13)=false)(h2:(t.kind==14)=false)(h4:(t.kind==15)=false)(h5:(t.kind==16)=true)(hs:Qt T V (Js (H5 V) t.text)=sc)(h6:decide ((0:Int)<(t.kids.length:Int))=true) :
  Ml T V t xs=⟨4,[],Js (H5 V) t.text,Ei sc t.name,t.num,Wr (Aq t 0)⟩:=by
 subst hs;refine (Bu h1).trans ((Bu h2).trans ((Bu h4).trans ((if_pos h5).trans ?_)));rw [if_pos h6]
theorem jH {xs:List Ex}{sc:e8Sc}(h1:(t.kind==13)=false)(h2:(t.kind==14)=false)(h4:(t.kind==15)=false)(h5:(t.kind==16)=true)(hs:Qt T V (Js (H5 V) t.text)=sc)(h6:decide ((0:Int)<(t.kids.length:Int))=false) :
  Ml T V t xs=⟨4,[],Js (H5 V) t.text,Ei sc t.name,t.num,v0⟩:=by
 subst hs;refine (Bu h1).trans ((Bu h2).trans ((Bu h4).trans ((if_pos h5).trans ?_)));rw [Bu h6]
theorem jI {xs:List Ex}(h1:(t.kind==13)=false)(h2:(t.kind==14)=false)(h4:(t.kind==15)=false)(h5:(t.kind==16)=false)(h7:(t.kind==18)=true):Ml T V t xs=⟨12,xs,0,0,0,v0⟩:=(Bu h1).trans ((Bu h2).trans ((Bu h4).trans ((Bu h5).trans (if_pos h7))))
theorem jJ {xs:List Ex}(h1:(t.kind==13)=false)(h2:(t.kind==14)=false)(h4:(t.kind==15)=false)(h5:(t.kind==16)=false)(h7:(t.kind==18)=false):Ml T V t xs=⟨t.num,xs,0,0,0,v0⟩:=(Bu h1).trans ((Bu h2).trans ((Bu h4).trans ((Bu h5).trans (Bu h7))))
end
end Go.Proofs.YtibcelnfkhdjaaaGreatDoor
namespace Go.Aw
section
variable {P:Program} {T:List (Nat×TD)} {d:Option Nat} {ty:TypeId} {pos:String} {aft:Array Edge} {gd:Option (Nat×Bool)} {ρ:Operand->AV}
theorem Cc.front3 {f:FuncId}{args:List AV}{H R:List HO}{Q:AV->List HO->Prop}{o1 o2 o3:HO}(k3 k2 k1:Nat)(hk3:H[k3]? = some o3)(hk2:(H.eraseIdx k3)[k2]? = some o2)(hk1:((H.eraseIdx k3).eraseIdx k2)[k1]? = some o1)(hR:((H.eraseIdx k3).eraseIdx k2).eraseIdx k1=R)
  (h:Cc P f (o1::o2::o3::R) args Q):Cc P f H args Q:=by
 subst hR;refine h.perm ?_;have h1:=Mg hk3;have h2:=Mg hk2;have h3:=Mg hk1;refine h1.trans ((h2.cons o3).trans (((h3.cons o2).cons o3).trans ?_));exact (List.Perm.swap o2 o3 _).trans (((List.Perm.swap o1 o3 _).cons o2).trans (List.Perm.swap o1 o2 _))
end
end Go.Aw
namespace Go.Aw
open Go
def Y6 (l:List Oper):Bool:=l.all fun o=>match o.op with | .defer _=>false | _=>true
theorem Xm {l:List Oper}(h:Y6 l=true):∀o∈l,∀c,o.op≠.defer c:=fun o ho c e=>by
 have:=(F3.1 h) o ho;rw [e] at this;cases this
theorem tN {ro:Option Nat}{n:Nat}{P:Program}{o:Oper}{a:Act}{w:World}{next:Act->World->Prop}{Q Q':Exit->Act->World->Prop}(hd:∀c,o.op≠.defer c)
    (hp:∀c a w,Q (.panic c) a w->Q' (.panic c) a w) (ho:LetsOut Q->LetsOut Q') (h:o.wp P a w next Q):o.wpIn { Fence.wide with round:=ro } n P a w next Q':=by
  refine ⟨fun _ _=>trivial,?_⟩;rw [Oper.semAt_eq _ _ _ hd];unfold Oper.wp at h;generalize (execOp a.eval o).run P w=r at h ⊢;cases r with
  | ok x w'=>
    cases x with
    | value v=>exact h
    | skip=>exact h
    | defer d=>exact h
    | enter f args=>
      have h':Calls P f args w' _:=h;refine ⟨fun e=>(by cases e),callsIn_wide.2 (h'.mono ?_)⟩;intro e w'' hr;cases e with
      | returned v=>exact hr
      | panicked c=>exact hp _ _ _ hr
      | outgrown=>exact ho hr
    | row row args=>
      have h':Rows P row args w' _:=h;exact ⟨fun e=>(by cases e),fun c cs _=>let ⟨v,w'',r,s⟩:=h' c cs;⟨v,w'',r,stepsIn_wide.2 s⟩⟩
    | _=>exact h.elim
  | halt e w'=>
    cases e with
    | panic v=>exact hp _ _ _ h
    | _=>exact h.elim
theorem Jy {ro:Option Nat}{n:Nat}{P:Program}{ops:Array Oper}{Q:Exit->Act->World->Prop}:∀(l rest:List Oper) (a:Act) (w:World),(∀o∈l,∀c,o.op≠.defer c)->
    WOL P ops (fun e a w=>match e with | .normal=>wpListIn { Fence.wide with round:=ro } n P ops Q rest a w | e=>Q e a w) l a w->wpListIn { Fence.wide with round:=ro } n P ops Q (l++rest) a w
  | [],rest,a,w,_,h=>h
  | o::r,rest,a,w,hd,h=>by
    unfold WOL at h;show wpListIn _ n P ops Q (o::(r++rest)) a w;unfold wpListIn;split
    . rename_i hw;rw [if_pos hw] at h
      exact tN (hd o (Jg ..)) (fun c a w h=>h) (fun h=>h) (Oper.wp_mono (fun a' w' h'=>Jy r rest a' w' (fun x hx=>hd x (Gs _ hx)) h') h)
    . rename_i hw;rw [if_neg hw] at h
      exact ⟨fun _ _=>trivial,Jy r rest _ w (fun x hx=>hd x (Gs _ hx)) h⟩
def U1 (P:Program)(l:Nat)(rec:Loop)(H:List HO)(args:List AV)(R:AV->List HO->Prop):Prop:=
 ∀(n:Nat) (g:Gh) (w:World) (vs:Array Value),HOK g w H->Ez g w vs args->
  RoundIn { Fence.wide with round:=none } n P l rec.fn ((rec.params.zip vs).foldl (fun t (p,v)=>t.setIfInBounds p v) rec.tmps) rec.assign rec.body w
   fun e w'=>∃v g' r H',e = .returned v/\Rep g' w' v r/\HOK g' w' H'/\Ext g w g' w'/\R r H'
theorem wideN:({ Fence.wide with round:=none }:Fence)=Fence.wide:=rfl
def AWr (l:Nat)(P:Program)(c:Code)(Q:Exit->St->Prop)(s:St):Prop:=
 ∀(n:Nat) (Q':Exit->Act->World->Prop) (g:Gh) (a:Act) (w:World),Gm g s a w->(∀e g' s' a' w',Gm g' s' a' w'->Ext g w g' w'->Q e s'->Q' e a' w')->c.wpIn { Fence.wide with round:=some l } n P Q' a w
theorem AWr.region {l:Nat}{P:Program}{Q:Exit->St->Prop}{s:St}{id:Nat}{ops:Array Oper}(hnd:Y6 ops.toList=true)(h:AOL P ops (Q .normal) ops.toList s):AWr l P (.region id ops false) Q s:=by
 intro n Q' g a w hG hQ;refine wpIn_region_list ?_;have:=Jy (ro:=some l) (n:=n) (Q:=Q') ops.toList [] a w (Xm hnd) (h.run _ g a w hG fun g' s' a' w' h1 h2 h3=>hQ _ g' s' a' w' h1 h2 h3);simpa using this
theorem AWr.block {l:Nat}{P:Program}{Q:Exit->St->Prop}{s:St}{id:Nat}{c:Code}(h:AWr l P c (Mw id Q) s):AWr l P (.block id c) Q s:=by
  intro n Q' g a w hG hQ;refine wpIn_block (h n _ g a w hG fun e g' s' a' w' hG' hx hq=>?_);cases e with
  | exit j=>
    simp only [Mw] at hq;simp only [Exit.inBlock];by_cases e:j=id
    . subst e;simp at hq;simp;exact hQ _ g' s' a' w' hG' hx hq
    . simp only [e,if_false]
      have:Nat.beq j id=false:=by
        cases hq':Nat.beq j id with
        | false=>rfl
        | true=>exact absurd (Fj hq') e
      simp only [this,cond_false] at hq;exact hQ _ g' s' a' w' hG' hx hq
  | _=>exact hQ _ g' s' a' w' hG' hx hq
theorem gX {g:Gh}{w:World}{H:List HO}(hH:HOK g w H){i b:Nat}{o:Obj}(o':Obj)(hi:H[i]? = some (.obj b o)) :
  HOK g (w.putObj b o') (H.set i (.obj b o'))/\Ext g w g (w.putObj b o'):=by
 have hob:(HO.obj b o).ok g w:=hH.ok _ (Ak hi);have hlt:b<w.heap.size:=(Array.getElem?_eq_some_iff.1 hob.2).1
 have hx:Ext g w g (w.putObj b o'):=by
  refine ⟨rfl,rfl,rfl,by simp,fun c hc hg=>⟨hg,World.putObj_heap_other (fun e=>by rw [e,hob.1] at hg;cases hg)⟩,fun c n hc hg=>⟨fun m hm=>by rw [hg] at hm;cases hm;exact Be _,fun x hx=>?_⟩⟩;have hne:c≠b:=fun e=>by rw [e,hob.1] at hg;cases hg;omega
  unfold World.cell?;rw [World.putObj_heap_other hne]
 refine ⟨hH.set hx hi (fun c hc=>.inl hc) ⟨hob.1,World.putObj_heap_same hlt⟩ fun c hc hne _=>⟨rfl,World.putObj_heap_other (fun e=>hne (by rw [e];rfl))⟩,hx⟩
theorem Gm.putObj {g:Gh}{s:St}{a:Act}{w:World}(hG:Gm g s a w){i b:Nat}{o:Obj}(o':Obj)(hi:s.H[i]? = some (.obj b o)) :
  Gm g ⟨s.sl,s.H.set i (.obj b o'),s.n⟩ a (w.putObj b o')/\Ext g w g (w.putObj b o'):=by
 obtain ⟨h1,h2⟩:=gX hG.heap o' hi;exact ⟨⟨hG.size,hG.defers,fun j=>(hG.sl j).mono h2,h1⟩,h2⟩
def AWX (P:Program)(c:Code)(Q:Exit->St->Prop)(X:Gh->World->Exit->Act->World->Prop)(s:St):Prop:=
 ∀(Q':Exit->Act->World->Prop) (g:Gh) (a:Act) (w:World),Gm g s a w->(∀e g' s' a' w',Gm g' s' a' w'->Ext g w g' w'->Q e s'->Q' e a' w')->(∀e a' w',X g w e a' w'->Q' e a' w')->c.wp P Q' a w
def fE (D:Nat):Deferred:={ target:=.collected D,args:=#[] }
def yA (P:Program)(fn:Func)(R:AV->List HO->Prop)(g:Gh)(w:World)(e:Exit)(a:Act)(w':World):Prop:=
 e = .ret/\∃D,a.defers = [fE D]/\w'.heap[D]? = some (.deferred (some []))/\∃v g' r H',(results fn a.tmps).run P (w'.putObj D (.deferred none)) = .ok v (w'.putObj D (.deferred none))/\
  Rep g' (w'.putObj D (.deferred none)) v r/\HOK g' (w'.putObj D (.deferred none)) H'/\Ext g w g' (w'.putObj D (.deferred none))/\R r H'
section
variable {P:Program} {fn:Func} {R:AV->List HO->Prop} {Q:Exit->St->Prop} {s:St}
theorem yA.mono {g g1:Gh}{w w1:World}(h:Ext g w g1 w1){e:Exit}{a:Act}{w':World}(k:yA P fn R g1 w1 e a w'):yA P fn R g w e a w':=by
 obtain ⟨he,D,h1,h2,v,g',r,H',h3,h4,h5,h6,h7⟩:=k;exact ⟨he,D,h1,h2,v,g',r,H',h3,h4,h5,h.trans h6,h7⟩
theorem AWX.seq {x y:Code}(h:AW P x (G7 (AWX P y Q (yA P fn R)) Q) s):AWX P (.seq x y) Q (yA P fn R) s:=by
 intro Q' g a w hG hQ hX;refine wp_seq (h _ g a w hG fun e g' s' a' w' hG' hx hq=>?_);cases e with
 | normal=>exact hq Q' g' a' w' hG' (fun e g'' s'' a'' w'' h1 h2 h3=>hQ e g'' s'' a'' w'' h1 (hx.trans h2) h3) (fun e a'' w'' hk=>hX e a'' w'' (hk.mono hx))
 | _=>exact hQ _ g' s' a' w' hG' hx hq
def AWX2 (P:Program)(y z:Code)(Q:Exit->St->Prop)(X:Gh->World->Exit->Act->World->Prop)(s:St):Prop:=
 ∀(Q':Exit->Act->World->Prop) (g:Gh) (a:Act) (w:World),Gm g s a w->(∀e g' s' a' w',Gm g' s' a' w'->Ext g w g' w'->Q e s'->Q' e a' w')->(∀e a' w',X g w e a' w'->Q' e a' w')->y.wp P (Exit.then (z.wp P Q') Q') a w
theorem AWX.assoc {x y z:Code}(h:AW P x (G7 (AWX2 P y z Q (yA P fn R)) Q) s):AWX P (.seq (.seq x y) z) Q (yA P fn R) s:=by
 intro Q' g a w hG hQ hX;refine wp_seq (wp_seq (h _ g a w hG fun e g' s' a' w' hG' hx hq=>?_));cases e with
 | normal=>exact hq Q' g' a' w' hG' (fun e g'' s'' a'' w'' h1 h2 h3=>hQ e g'' s'' a'' w'' h1 (hx.trans h2) h3) (fun e a'' w'' hk=>hX e a'' w'' (hk.mono hx))
 | _=>exact hQ _ g' s' a' w' hG' hx hq
theorem Cc.bodyX {T:List (Nat×TD)}(hT:Kh P T){f:FuncId}{c:Code}{args:List AV}{H:List HO}(hf:P.funcs[f]? = some fn)(hb:fn.body=some c){n:Nat}(hn:fn.ntmps=n)(hle:Nat.ble args.length n=true)
    (h:AWX P c (fun e s=>(e = .normal\/e = .ret)/\∃xs,ResL P T s fn.results.toList xs/\∃H',H'.Sublist s.H/\R (Af xs) H') (yA P fn R) ⟨Ju 0 args,H,n⟩):Cc P f H args R:=by
  intro g w vs hH hr;have hle':=Da hle;refine (callsIn_wide (n:=1)).1 (callsIn_of_wp_marks hf hb trivial ?_);refine wpIn_wide.2 ?_;refine h _ g _ w ⟨?_,rfl,?_,hH⟩ ?_ ?_
  . simp only [X9,Array.size_replicate,hn,hr.1];omega
  . intro i
    show Rep g w _ (get (Ju 0 args) i);rw [cJ];simp only [Bk,if_true,Nat.sub_zero];cases hi:args[i]? with
    | none=>exact .junk _
    | some x=>
      have hlt:i<vs.size:=by rw [hr.1];exact (List.getElem?_eq_some_iff.1 hi).1
      have:=hr.2 i x hi;simp only [E7,Array.getElem?_append,hlt,if_true] at this ⊢;exact this
  . rintro e g' s' a' w' hG' hx ⟨he,xs,hr',H',hs,hq⟩
    obtain ⟨v,h1,h2⟩:=Xu hT hr' hG'
    have key:LeavesInM Fence.wide 1 P fn a'.tmps (fun e w'=>∃v g' r H',e = .returned v/\Rep g' w' v r/\HOK g' w' H'/\Ext g w g' w'/\R r H') a'.defers .returning w':=by
      rw [hG'.defers];exact ⟨v,h1,v,g',_,H',rfl,h2,hG'.heap.sub hs,hx,hq⟩
    rcases he with rfl | rfl <;> exact key
  . rintro e a' w' ⟨rfl,D,hD,hk,v,g',r,H',h1,h2,h3,h4,h5⟩
    show LeavesInM Fence.wide 1 P fn a'.tmps _ a'.defers .returning w';rw [hD];exact ⟨by simp,.inl ⟨D,_,rfl,run_takeDeferred hk,v,h1,v,g',r,H',rfl,h2,h3,h4,h5⟩⟩
end
def Act.more (a:Act)(ds:List Deferred):Act:={ a with defers:=a.defers++ds }
theorem Um (a:Act)(ds:List Deferred)(d:Option Nat)(v:Value):(Act.more a ds).put d v=Act.more (a.put d v) ds:=by cases d <;> rfl
theorem qJ (a:Act)(ds:List Deferred):(Act.more a ds).eval=a.eval:=by funext y;cases y <;> rfl
def xM (ds:List Deferred)(Q:Exit->Act->World->Prop)(e:Exit)(a:Act)(w:World):Prop:=∃a0,a=Act.more a0 ds/\Q e a0 w
theorem rE {P:Program}{ops:Array Oper}{Q:Exit->Act->World->Prop}{ds:List Deferred}{i:Nat}{K K':Act->World->Prop}(hK:∀a w,K a w->K' (Act.more a ds) w){a:Act}{w:World}
    (h:wpOp P ops Q i K a w):wpOp P ops (xM ds Q) i K' (Act.more a ds) w:=by
  have hL:LetsOut Q->LetsOut (xM ds Q):=fun ⟨a,w,h⟩=>⟨_,w,a,rfl,h⟩
  unfold wpOp at h ⊢;cases ho:ops[i]? with
  | none=>rw [ho] at h;exact hK _ _ h
  | some o=>
    rw [ho] at h;simp only at h ⊢;have ht:yielded ops (Act.more a ds).tmps=yielded ops a.tmps:=rfl;rw [ht];by_cases hw:Region.wanted o (yielded ops a.tmps)=true
    . rw [if_pos hw] at h ⊢
      rcases h with h | ⟨h,h'⟩
      . left
        unfold Oper.wp at h ⊢;rw [qJ];generalize (execOp a.eval o).run P w=r at h ⊢;cases r with
        | ok x w'=>
          cases x with
          | value v=>show K' _ w';rw [Um];exact hK _ _ h
          | skip=>show K' _ w';rw [Um];exact hK _ _ h
          | defer d=>
            have:=hK _ _ h;rw [<-Um] at this;exact this
          | enter f args=>
            have h':Calls P f args w' _:=h;show Calls P f args w' _;refine h'.mono ?_;intro e w'' hr;cases e with
            | returned v=>show K' _ w'';rw [Um];exact hK _ _ hr
            | panicked c=>exact ⟨a,rfl,hr⟩
            | outgrown=>exact hL hr
          | row row args=>
            have h':Rows P row args w' _:=h;show Rows P row args w' _;exact h'.mono fun v w'' hr=>by rw [Um];exact hK _ _ hr
          | _=>exact h.elim
        | halt e w'=>
          cases e with
          | panic v=>exact ⟨a,rfl,h⟩
          | _=>exact h.elim
      . right
        refine ⟨?_,hL h'⟩;unfold Oper.asks at h ⊢;rw [qJ];exact h
    . rw [if_neg hw] at h ⊢
      rw [Um];exact hK _ _ h
theorem nU {P:Program}{md:Region.Mode}{ops:Array Oper}{Q:Exit->Act->World->Prop}{ds:List Deferred}:∀(B1:Nat) (listed:Array Bool) (a:Act) (w:World),wpAny P md ops Q B1 listed a w->
  wpAny P md ops (xM ds Q) B1 listed (Act.more a ds) w
 | 0,listed,a,w,h=>⟨h.1,a,rfl,h.2⟩
 | B1+1,listed,a,w,h=>⟨fun hr=>⟨a,rfl,h.1 hr⟩,fun i hi=>rE (fun a w h=>nU B1 _ a w h) (h.2 i hi)⟩
section
variable {P:Program} {ops:Array Oper}
theorem tail_more (hm:P.follows .mixedOrders=true){id:Nat}{Qs:St->Prop}{s:St}(K:List HO->Prop)(hK:K s.H)(hdd:F8 ops=true)(h:H9 P ops K Qs (Array.replicate ops.size false) s)
  {Q':Exit->Act->World->Prop} {g:Gh} {a:Act} {w:World} (hG:Gm g s a w) (ds:List Deferred) (hQ:∀g' s' a' w',Gm g' s' a' w'->Ext g w g' w'->Qs s'->Q' .ret (Act.more a' ds) w') :
  ((Code.region id ops true).seq .ret).wp P Q' (Act.more a ds) w:=by
 have hx:=Ext.drew g w;have hG':Gm g s a w.drew:=⟨hG.size,hG.defers,fun i=>(hG.sl i).mono hx,hG.heap.drew⟩
 have key:=CanonI.any hdd h ops.size [] (Array.replicate ops.size false) s.sl g a w.drew (fun e a' w'=>match e with | .normal=>Q' .ret (Act.more a' ds) w' | _=>False)
  ⟨by simp,by simp,by simp,by simp,fun t _=>rfl,by simp,by simp,by simp,by simp,by simp,by simp,by simp,by simp,fun j o hj hl=>by
   have hlt:j<ops.size:=(Array.getElem?_eq_some_iff.1 hj).1;simp [hlt] at hl⟩ hG' (fun _=>hK) (by
   unfold unl;have:=List.length_filter_le (fun j=>!(Array.replicate ops.size false).getD j true) (List.range ops.size);simpa using this) fun g' s' a' w' k1 k2 k3=>hQ g' s' a' w' k1 (hx.trans k2) k3
 have key2:=nU (ds:=ds) _ _ _ _ key;refine wp_seq (wp_mono (wp_region_any hm key2) ?_);rintro e a' w' ⟨a0,rfl,hq⟩;cases e with
 | normal=>exact wp_ret hq
 | _=>exact hq.elim
inductive AWD (P:Program):Code->(St->Prop)->St->Prop where
 | draw (hm:P.follows .mixedOrders=true) {id:Nat} {ops:Array Oper} {Qs:St->Prop} {s:St} (K:List HO->Prop) (hK:K s.H) (hdd:F8 ops=true) (h:H9 P ops K Qs (Array.replicate ops.size false) s):AWD P (.region id ops true) Qs s
def endX (P:Program)(T:List (Nat×TD))(fn:Func)(R:AV->List HO->Prop)(D:Nat)(s:St):Prop:=
 ∃i:Nat,s.H[i]? = some (HO.obj D (Obj.deferred (some [])))/\∃xs,ResL P T ⟨s.sl,s.H.set i (.obj D (.deferred none)),s.n⟩ fn.results.toList xs/\∃H3,H3.Sublist (s.H.set i (.obj D (.deferred none)))/\R (Af xs) H3
end
end Go.Aw
namespace Go.Aw
open Go
theorem AW.ghostPost {P:Program}{c:Code}{Q:Exit->St->Prop}{s:St}(h:AW P c (fun e s=>∃s',GS s s'/\Q e s') s):AW P c Q s:=by
 intro Q' g a w hG hQ;refine h Q' g a w hG fun e g' s' a' w' h1 h2 ⟨s2,h3,h4⟩=>?_
 obtain ⟨g2,k1,k2⟩:=h3 g' a' w' h1;exact hQ e g2 s2 a' w' k1 (h2.trans k2) h4
section
variable {P:Program} {T:List (Nat×TD)} {d:Option Nat} {ty:TypeId} {pos:String} {aft:Array Edge} {gd:Option (Nat×Bool)} {ρ:Operand->AV}
end
end Go.Aw
