/-
  Several texts in one: V1, V2, V3, V4, F12. No condition.
-/
import Derived.Test.YtckhoadldibflaaGreatDoorK01
import Derived.Test.YtckhoadldibflaaGreatDoorK04
import Derived.Test.YtckhoadldibflaaGreatDoorK02
import Derived.KernelRfl
set_option linter.unusedVariables false
set_option linter.unusedSimpArgs false
namespace Go.Proofs.YtckhoadldibflaaGreatDoor
open Go Go.Aw
set_option maxHeartbeats 400000
set_option maxRecDepth 20000

def okT (l:List Tok):Prop:=l.length≤1048576∧∀t∈l,t.text.length≤1048576
def Pn (st:PS):Prop:=okT st.toks
theorem vO {st:PS}(h:st.pos<st.toks.length):st.toks[st.pos]? = some (gE st):=by
 simp [gE,Nv,List.getElem?_eq_getElem h]
theorem Tr {st:PS}(h:st.pos<st.toks.length):(st.toks.map jW)[st.pos]? = some (cTok (gE st)):=by rw [List.getElem?_map,vO h];rfl
theorem lH {st:PS}(h:Pn st)(hp:st.pos<st.toks.length):(gE st).text.length≤1048576:=h.2 _ (B6 (vO hp))
theorem Yi {st:PS}(h:endP st=false):st.pos<st.toks.length:=by
 unfold endP at h;rw [Ke,U8] at h;omega
theorem Xu {w:A1}{st:PS}(h:K4 w st=true):st.pos<st.toks.length:=by
 unfold K4 at h;cases he:endP st with
 | true=>rw [he] at h;cases h
 | false=>exact Yi he
theorem yH {k:Int}{st:PS}(h:Tw k st=true):st.pos<st.toks.length:=by
 unfold Tw at h;cases he:endP st with
 | true=>rw [he] at h;cases h
 | false=>exact Yi he
theorem acc_bad {w:A1}{st:PS}(h:¬Me [((st.bad==0),true)]):st=Np w st:=by
 have hb:(st.bad==0)=false:=by
  cases hq:(st.bad==0) with
  | false=>rfl
  | true=>exact absurd (fun p hp=>by simp only [N6] at hp;subst hp;exact hq) h
 have:K4 w st=false:=by
  unfold K4 endP;have:(st.bad != 0)=true:=by simp only [bne,hb];rfl
  rw [this];rfl
 unfold Np;rw [this];rfl
theorem Gw {w:A1}{st:PS}(h:K4 w st=false):Np w st=st:=by unfold Np;rw [h];rfl
theorem and_snd {a b:Bool}(h:(a&&b)=true):b=true:=by rw [G2] at h;exact h.2
theorem txt_le {k:Int}{st:PS}(h:Pn st):(Hx k st).length≤1048576:=by
 unfold Hx;cases hn:Tw k st with
 | true=>exact lH h (yH hn)
 | false=>exact Dh _
theorem toks_adv (st:PS):(adv st).toks=st.toks:=rfl
theorem toks_deep (st:PS):(Kb st).toks=st.toks:=rfl
theorem toks_shallow (st:PS):(Kq st).toks=st.toks:=rfl
theorem L5 (e:Int)(st:PS):(Ge e st).toks=st.toks:=by unfold Ge;split <;> rfl
theorem Vk (w:A1)(st:PS):(Np w st).toks=st.toks:=by unfold Np;split <;> rfl
theorem Wy (w:A1)(st:PS):(C5 w st).toks=st.toks:=by unfold C5;split;exact L5 _ _;exact Vk _ _
theorem Vq (k:Int)(st:PS):(Ez k st).toks=st.toks:=by unfold Ez;split;rfl;exact L5 _ _
theorem M8 {a b:PS}(h:a.toks=b.toks):Pn a↔Pn b:=by unfold Pn;rw [h]
@[simp] theorem okS_adv (st : PS) : Pn (adv st) ↔ Pn st := M8 rfl
@[simp] theorem okS_deep (st : PS) : Pn (Kb st) ↔ Pn st := M8 rfl
@[simp] theorem okS_shallow (st : PS) : Pn (Kq st) ↔ Pn st := M8 rfl
@[simp] theorem okS_failP (e : Int) (st : PS) : Pn (Ge e st) ↔ Pn st := M8 (L5 _ _)
@[simp] theorem okS_accP (w : A1) (st : PS) : Pn (Np w st) ↔ Pn st := M8 (Vk _ _)
@[simp] theorem okS_expP (w : A1) (st : PS) : Pn (C5 w st) ↔ Pn st := M8 (Wy _ _)
@[simp] theorem okS_tokP (k : Int) (st : PS) : Pn (Ez k st) ↔ Pn st := M8 (Vq _ _)

theorem Ku (st:PS)(bp:Nat):Bl Tryz.prog 158 bp 223 (cP st) (cP (st)) [.val (.pointer (some ⟨bp,0,none⟩))] (.int .i64 (Dj st)):=by
 intro H;refine B5.body (n:=28) tok Tryz.func158 rfl rfl rfl ?_;refine Ad (Qp Al (Re (AW.seq ?_)));refine AW.draw mixed (fun H'=>_∈H') (B6 (i:=0) rfl) (by kernel_rfl) ?_;refine Qn 0 rfl Bw (Qn 1 rfl (Aj rfl) (Qn 2 rfl Cc (Qn 3 rfl (OpP.Aap (fun k=>Af (k:=k) (c:=Iq _) tok rfl rfl rfl rfl) (fun _ h=>h)) ?_)));refine Qn 4 rfl Bw (Qn 5 rfl (Aj rfl) (Qn 6 rfl Cc (Qn 7 rfl (OpP.Aap (fun k=>Af (k:=k) (c:=.sl _ _) tok rfl rfl rfl rfl) (fun _ h=>h)) ?_)));refine Qn 8 rfl (Ai (n:=st.toks.length) tok rfl rfl rfl (by simp)) ?_;refine Qn 9 rfl Bp ?_;refine Ej ?_;refine A5 (Ao (fun hc1=>?_) fun hc1=>?_)
 ·
  try simp only [Et,Fp] at hc1
  have hlt:st.pos<st.toks.length:=by simpa using hc1
  refine AW.seq ?_;refine AW.draw mixed (fun H'=>_∈H') (B6 (i:=0) rfl) (by kernel_rfl) ?_;refine Qn 0 rfl Bw (Qn 1 rfl (Aj rfl) (Qn 2 rfl Cc (Qn 3 rfl (OpP.Aap (fun k=>Af (k:=k) (c:=.sl _ _) tok rfl rfl rfl rfl) (fun _ h=>h)) ?_)));refine Qn 4 rfl Bw (Qn 5 rfl (Aj rfl) (Qn 6 rfl Cc (Qn 7 rfl (OpP.Aap (fun k=>Af (k:=k) (c:=Iq _) tok rfl rfl rfl rfl) (fun _ h=>h)) ?_)));refine Qn 8 rfl (Aa (c:=lJ) tok rfl rfl rfl rfl rfl rfl (by omega) (Tr hlt)) ?_;refine Qn 9 rfl (Qf [Iq _]) (Qn 10 rfl Bf (Qn 11 rfl Al ?_));refine Ej ?_;refine A5 (Su ?_);refine ⟨.inr rfl,[Iq _],.cons (.tmp _ _ rfl) <| .nil,_,.refl _,?_⟩;refine ⟨?_,congrArg (fun c=>HO.box bp 223 c::H) ?_⟩
  ·
   try simp only [Ag,Dj,cSyn,E7,Di,Bn,hc1,↓reduceIte,B0,Ce,Fg]
   try rfl
  try simp only [cP,Dj,hc1,↓reduceIte,B0,Ce,Fg]
  try rfl
 try simp only [Et,Fp] at hc1
 refine A7 (Ad (Qp Bw (Qp (Aj rfl) (Qp Cc (AOL.Aan (Af (k:=0) (c:=Iq _) tok rfl rfl rfl rfl) rfl rfl (Qp Al (Rb ?_)))))));refine ⟨.inr rfl,[Iq _],.cons (.tmp _ _ rfl) <| .nil,_,.refl _,?_⟩;refine ⟨?_,congrArg (fun c=>HO.box bp 223 c::H) ?_⟩
 ·
  try simp only [Ag,Dj,cSyn,E7,Di,Bn,hc1,↓reduceIte,B0,Ce,Fg]
  try rfl
 try simp only [cP,Dj,hc1,↓reduceIte,B0,Ce,Fg]
 try rfl
theorem p_is (st:PS)(bp:Nat)(w:A1)(hS:Pn st)(hw:w.length≤1048576):Bl Tryz.prog 156 bp 223 (cP st) (cP (st)) [.val (.pointer (some ⟨bp,0,none⟩)),.str w] (.bool (K4 w st)):=by
 intro H;refine B5.body (n:=51) tok Tryz.func156 rfl rfl rfl ?_;refine Ad (Qp Au (Re (AW.seq ?_)));refine AW.draw mixed (fun H'=>_∈H') (B6 (i:=0) rfl) (by kernel_rfl) ?_;refine Qn 0 rfl Bw (Qn 1 rfl (Aj rfl) (Qn 2 rfl Cc (Qn 3 rfl (OpP.Aap (fun k=>Af (k:=k) (c:=Iq _) tok rfl rfl rfl rfl) (fun _ h=>h)) ?_)));refine Qn 4 rfl Bu (Qn 5 rfl A9 (Qo 6 rfl [] Qw Bw ?_));refine Hb.pure _ _ 7 _ _ rfl (by kernel_rfl) (by kernel_rfl) rfl (.opt _ (.val _) [(12,_)] rfl (uB.all ⟨Ent.Aak _ _,trivial⟩) (fun hG=>Aj rfl) rfl) ?_;refine Qo 8 rfl [(13,_)] Qw Cc ?_;refine Hb.pure _ _ 9 _ _ rfl (by kernel_rfl) (by kernel_rfl) rfl (.opt _ (Iq _) [(14,_)] rfl (uB.all ⟨Ent.Aak _ _,trivial⟩) (fun hG=>OpP.Aap (fun k=>Af (k:=k) (c:=Iq _) tok rfl rfl rfl rfl) (fun _ h=>h)) rfl) ?_;refine Qo 10 rfl [] Qw Bw ?_;refine Hb.pure _ _ 11 _ _ rfl (by kernel_rfl) (by kernel_rfl) rfl (.opt _ (.val _) [(16,_)] rfl (uB.all ⟨Ent.Aak _ _,trivial⟩) (fun hG=>Aj rfl) rfl) ?_;refine Qo 12 rfl [(17,_)] Qw Cc ?_;refine Hb.pure _ _ 13 _ _ rfl (by kernel_rfl) (by kernel_rfl) rfl (.opt _ (.sl _ _) [(18,_)] rfl (uB.all ⟨Ent.Aak _ _,trivial⟩) (fun hG=>OpP.Aap (fun k=>Af (k:=k) (c:=.sl _ _) tok rfl rfl rfl rfl) (fun _ h=>h)) rfl) ?_;refine Hb.pure _ _ 14 _ _ rfl (by kernel_rfl) (by kernel_rfl) rfl (.opt _ (Iq _) [(19,_)] rfl (uB.all ⟨Ent.Aak _ _,trivial⟩) (fun hG=>Ai (n:=st.toks.length) tok rfl rfl rfl (by simp)) rfl) ?_;refine Hb.pure _ _ 15 _ _ rfl (by kernel_rfl) (by kernel_rfl) rfl (.opt _ (.bool _) [(15,_),(20,_)] rfl (uB.all ⟨Ent.Aak _ _,Ent.Aak _ _,trivial⟩) (fun hG=>wG rfl rfl) rfl) ?_;refine Qn 16 rfl Cf ?_;refine Ej ?_;refine A5 (Ao (fun hc1=>?_) fun hc1=>?_)
 ·
  try simp only [Et,Fp] at hc1
  refine Ad (Qp Au (Rc ?_));refine ⟨.inr rfl,[.bool _],.cons (.tmp _ _ rfl) <| .nil,_,.refl _,?_⟩;refine ⟨?_,congrArg (fun c=>HO.box bp 223 c::H) ?_⟩
  ·
   try simp only [Ag,K4,endP,cSyn,E7,Di,Bn,hc1,↓reduceIte,B0,Ce,Fg]
   try rfl
  try simp only [cP,K4,endP,hc1,↓reduceIte,B0,Ce,Fg]
  try rfl
 try simp only [Et,Fp] at hc1
 have hlt:=Yi (st:=st) hc1;refine A7 (AW.seq ?_);refine AW.draw mixed (fun H'=>_∈H') (B6 (i:=0) rfl) (by kernel_rfl) ?_;refine Qn 0 rfl Bw (Qn 1 rfl (Aj rfl) (Qn 2 rfl Cc (Qn 3 rfl (OpP.Aap (fun k=>Af (k:=k) (c:=.sl _ _) tok rfl rfl rfl rfl) (fun _ h=>h)) ?_)));refine Qn 4 rfl Bw (Qn 5 rfl (Aj rfl) (Qn 6 rfl Cc (Qn 7 rfl (OpP.Aap (fun k=>Af (k:=k) (c:=Iq _) tok rfl rfl rfl rfl) (fun _ h=>h)) ?_)));refine Qn 8 rfl (Aa (c:=lJ) tok rfl rfl rfl rfl rfl rfl (by omega) (Tr hlt)) ?_;refine Qn 9 rfl (Bo lJ) ?_;refine Hb.eff _ _ 10 _ _ rfl (by kernel_rfl) rfl rfl (Jp (l:=[.int .i64 0,.str [],.int .i64 0]) (by kernel_rfl)) (by rintro _ _ ⟨b5,rfl,rfl⟩;simp) ?_;rintro _ _ ⟨b5,rfl,rfl⟩;refine Hb.last _ _ 11 _ _ rfl (by kernel_rfl) rfl rfl (A6 (k:=0) (v:=.agg _) (cs':=lJ) (H2:=_::_::_) tok rfl rfl rfl rfl (rfl) rfl rfl rfl rfl) (by kernel_rfl) ?_;rintro _ _ ⟨rfl,rfl⟩;refine A5 ?_;refine AW.ghost (GS.freeze (t:=5) 0 rfl rfl) ?_;refine Ad (Qp (Qf H6) (Qp C9 (Qp D2 (Qp (A4 rfl rfl) (Qp A9 (Qg [] Qw (Qf lJ) (Qg [(38,_)] Qw Bf (Qg [(39,_)] Qw Ap (Qg [(40,_)] Qw A9 (Qg [] Qw (Qf lJ) (Qg [(42,_)] Qw Bf (Qg [(43,_)] Qw Ap (Qg [(44,_)] Qw A9 (Qg [] Qw D2 ?_))))))))))))));refine Qg [(46,_)] Qw (Qc rfl (c22 w hw)) (Qg [(45,_),(47,_)] Qw Ea (Qg [(41,_),(48,_)] Qw Cf (Qp Ea (Qp Au (Rb ?_)))));refine ⟨.inr rfl,[.bool _],.cons (.tmp _ _ rfl) <| .nil,_,.refl _,?_⟩;refine ⟨?_,congrArg (fun c=>HO.box bp 223 c::H) ?_⟩
 ·
  try simp only [Ag,K4,endP,cSyn,E7,Di,Bn,hc1,↓reduceIte,B0,Ce,Fg]
  try rfl
 try simp only [cP,K4,endP,hc1,↓reduceIte,B0,Ce,Fg]
 try rfl
theorem D6 (st:PS)(bp:Nat)(w:A1)(hS:Pn st)(hw:w.length≤1048576):Bl Tryz.prog 161 bp 223 (cP st) (cP (Np w st)) [.val (.pointer (some ⟨bp,0,none⟩)),.str w] (.bool (K4 w st)):=by
 intro H;refine B5.body (n:=16) tok Tryz.func161 rfl rfl rfl ?_;refine Ad (Qp Au (Ae (Rd (Qp Bw (Qp D2 ?_)))));refine AOL.Aan (Cy (k:=0) (by kernel_rfl) rfl rfl (p_is _ _ _ (by simpa using hS) (by assumption))) rfl rfl ?_;refine Qp Ew (Ae (Ao (fun hc1=>?_) fun hc1=>?_))
 ·
  try simp only [Et,Fp] at hc1
  refine Ad (Qp Au (Rc ?_));refine ⟨.inr rfl,[.bool _],.cons (.tmp _ _ rfl) <| .nil,_,.refl _,?_⟩;refine ⟨?_,congrArg (fun c=>HO.box bp 223 c::H) ?_⟩
  ·
   try simp only [Ag,Np,cSyn,E7,Di,Bn,hc1,↓reduceIte,B0,Ce,Fg]
   try rfl
  try simp only [cP,Np,hc1,↓reduceIte,B0,Ce,Fg]
  try rfl
 try simp only [Et,Fp] at hc1
 have hlt:=Xu (w:=w) (st:=st) hc1;have hml:=hS.1;refine A7 (Ad (Qp Bw (Qp (Aj rfl) (Qp Cc (AOL.Aan (Af (k:=0) (c:=Iq _) tok rfl rfl rfl rfl) rfl rfl (Qp Dl (Qp (Aj rfl) (Qp Cc ?_))))))));refine Bt 0 giz (_::_) (Bs (Qp Au (Rb ?_)));refine ⟨.inr rfl,[.bool _],.cons (.tmp _ _ rfl) <| .nil,_,.refl _,?_⟩;refine ⟨?_,congrArg (fun c=>HO.box bp 223 c::H) ?_⟩
 ·
  try simp only [Ag,Np,cSyn,E7,Di,Bn,hc1,↓reduceIte,B0,Ce,Fg]
  try rfl
 try simp only [cP,Np,hc1,↓reduceIte,B0,Ce,Fg]
 try rfl
theorem fT (st:PS)(bp:Nat)(e:Int):Bl Tryz.prog 155 bp 223 (cP st) (cP (Ge e st)) [.val (.pointer (some ⟨bp,0,none⟩)),.int .i64 e] (.tuple []):=by
 intro H;refine B5.body (n:=18) tok Tryz.func155 rfl rfl rfl ?_;refine Ad (Qp Bw (Qp (Aj rfl) (Qp Cc (AOL.Aan (Af (k:=0) (c:=Iq _) tok rfl rfl rfl rfl) rfl rfl (Qp Ap (Ae (Ao (fun hc1=>?_) fun hc1=>?_)))))))
 ·
  try simp only [Et,Fp] at hc1
  refine AW.region (Qp Bw (Qp Bw (Qp Am (Qp Bw ?_))));refine AOL.Aan (Cy (k:=0) (by kernel_rfl) rfl rfl (Ku _ _)) rfl rfl ?_;refine Qp (Aj rfl) (Qp Cc ?_);refine Bt 0 giz (_::_) (Qp (Aj rfl) (Qp Cc ?_));refine Bt 0 giz (_::_) (AOL.nil ?_);refine ⟨.inl rfl,[],.nil,_,.refl _,?_⟩;refine ⟨?_,congrArg (fun c=>HO.box bp 223 c::H) ?_⟩
  ·
   try simp only [Ag,Ge,cSyn,E7,Di,Bn,hc1,↓reduceIte,B0,Ce,Fg]
   try rfl
  try simp only [cP,Ge,hc1,↓reduceIte,B0,Ce,Fg]
  try rfl
 try simp only [Et,Fp] at hc1
 refine AW.skip ?_;refine ⟨.inl rfl,[],.nil,_,.refl _,?_⟩;refine ⟨?_,congrArg (fun c=>HO.box bp 223 c::H) ?_⟩
 ·
  try simp only [Ag,Ge,cSyn,E7,Di,Bn,hc1,↓reduceIte,B0,Ce,Fg]
  try rfl
 try simp only [cP,Ge,hc1,↓reduceIte,B0,Ce,Fg]
 try rfl
theorem D3 (st:PS)(bp:Nat)(w:A1)(hS:Pn st)(hw:w.length≤1048576):Bl Tryz.prog 159 bp 223 (cP st) (cP (C5 w st)) [.val (.pointer (some ⟨bp,0,none⟩)),.str w] (.tuple []):=by
 intro H;refine B5.body (n:=17) tok Tryz.func159 rfl rfl rfl ?_;refine Ad (Qp Bw (Qp (Aj rfl) (Qp Cc (AOL.Aan (Af (k:=0) (c:=Iq _) tok rfl rfl rfl rfl) rfl rfl (Qp Ap (Qp A9 (Qg [] Qw Bw (Qg [] Qw D2 ?_))))))));refine AOL.ge _ [(10,_),(11,_)] rfl (uB.all ⟨Ent.Aak _ _,Ent.Aak _ _,trivial⟩) (fun hG=>Dc rfl ((D6 _ _ _ (by simpa using hS) (by assumption)).at (k:=0) (H2:=_::_) rfl rfl)) (fun hG=>congrArg (fun s=>HO.box bp 223 (cP s)::H) (acc_bad hG)) rfl ?_;refine Qg [(12,_)] Qw Ew (Qp Ea (Ae (Ao (fun hc1=>?_) fun hc1=>?_)))
 ·
  try simp only [Et,Fp] at hc1
  refine AW.region (Qp Bw (mW ((fT _ _ _).at (k:=0) (H2:=_::_) rfl rfl) (AOL.nil ?_)));refine ⟨.inl rfl,[],.nil,_,.refl _,?_⟩;refine ⟨?_,congrArg (fun c=>HO.box bp 223 c::H) ?_⟩
  ·
   try simp only [Ag,C5,cSyn,E7,Di,Bn,hc1,↓reduceIte,B0,Ce,Fg]
   try rfl
  try simp only [cP,C5,Gw (by simpa using and_snd hc1),hc1,↓reduceIte,B0,Ce,Fg]
  try rfl
 try simp only [Et,Fp] at hc1
 refine AW.skip ?_;refine ⟨.inl rfl,[],.nil,_,.refl _,?_⟩;refine ⟨?_,congrArg (fun c=>HO.box bp 223 c::H) ?_⟩
 ·
  try simp only [Ag,C5,cSyn,E7,Di,Bn,hc1,↓reduceIte,B0,Ce,Fg]
  try rfl
 try simp only [cP,C5,hc1,↓reduceIte,B0,Ce,Fg]
 try rfl
theorem nA (st:PS)(bp:Nat)(k:Int)(hS:Pn st):Bl Tryz.prog 280 bp 223 (cP st) (cP (st)) [.val (.pointer (some ⟨bp,0,none⟩)),.int .i64 k] (.bool (Tw k st)):=by
 intro H;refine B5.body (n:=47) tok Tryz.func280 rfl rfl rfl ?_;refine Ad (Qp Au (Re (AW.seq ?_)));refine AW.draw mixed (fun H'=>_∈H') (B6 (i:=0) rfl) (by kernel_rfl) ?_;refine Qn 0 rfl Bw (Qn 1 rfl (Aj rfl) (Qn 2 rfl Cc (Qn 3 rfl (OpP.Aap (fun k=>Af (k:=k) (c:=Iq _) tok rfl rfl rfl rfl) (fun _ h=>h)) ?_)));refine Qn 4 rfl Bu (Qn 5 rfl A9 (Qo 6 rfl [] Qw Bw ?_));refine Hb.pure _ _ 7 _ _ rfl (by kernel_rfl) (by kernel_rfl) rfl (.opt _ (.val _) [(12,_)] rfl (uB.all ⟨Ent.Aak _ _,trivial⟩) (fun hG=>Aj rfl) rfl) ?_;refine Qo 8 rfl [(13,_)] Qw Cc ?_;refine Hb.pure _ _ 9 _ _ rfl (by kernel_rfl) (by kernel_rfl) rfl (.opt _ (Iq _) [(14,_)] rfl (uB.all ⟨Ent.Aak _ _,trivial⟩) (fun hG=>OpP.Aap (fun k=>Af (k:=k) (c:=Iq _) tok rfl rfl rfl rfl) (fun _ h=>h)) rfl) ?_;refine Qo 10 rfl [] Qw Bw ?_;refine Hb.pure _ _ 11 _ _ rfl (by kernel_rfl) (by kernel_rfl) rfl (.opt _ (.val _) [(16,_)] rfl (uB.all ⟨Ent.Aak _ _,trivial⟩) (fun hG=>Aj rfl) rfl) ?_;refine Qo 12 rfl [(17,_)] Qw Cc ?_;refine Hb.pure _ _ 13 _ _ rfl (by kernel_rfl) (by kernel_rfl) rfl (.opt _ (.sl _ _) [(18,_)] rfl (uB.all ⟨Ent.Aak _ _,trivial⟩) (fun hG=>OpP.Aap (fun k=>Af (k:=k) (c:=.sl _ _) tok rfl rfl rfl rfl) (fun _ h=>h)) rfl) ?_;refine Hb.pure _ _ 14 _ _ rfl (by kernel_rfl) (by kernel_rfl) rfl (.opt _ (Iq _) [(19,_)] rfl (uB.all ⟨Ent.Aak _ _,trivial⟩) (fun hG=>Ai (n:=st.toks.length) tok rfl rfl rfl (by simp)) rfl) ?_;refine Hb.pure _ _ 15 _ _ rfl (by kernel_rfl) (by kernel_rfl) rfl (.opt _ (.bool _) [(15,_),(20,_)] rfl (uB.all ⟨Ent.Aak _ _,Ent.Aak _ _,trivial⟩) (fun hG=>wG rfl rfl) rfl) ?_;refine Qn 16 rfl Cf ?_;refine Ej ?_;refine A5 (Ao (fun hc1=>?_) fun hc1=>?_)
 ·
  try simp only [Et,Fp] at hc1
  refine Ad (Qp Au (Rc ?_));refine ⟨.inr rfl,[.bool _],.cons (.tmp _ _ rfl) <| .nil,_,.refl _,?_⟩;refine ⟨?_,congrArg (fun c=>HO.box bp 223 c::H) ?_⟩
  ·
   try simp only [Ag,Tw,endP,cSyn,E7,Di,Bn,hc1,↓reduceIte,B0,Ce,Fg]
   try rfl
  try simp only [cP,Tw,endP,hc1,↓reduceIte,B0,Ce,Fg]
  try rfl
 try simp only [Et,Fp] at hc1
 have hlt:=Yi (st:=st) hc1;refine A7 (AW.seq ?_);refine AW.draw mixed (fun H'=>_∈H') (B6 (i:=0) rfl) (by kernel_rfl) ?_;refine Qn 0 rfl Bw (Qn 1 rfl (Aj rfl) (Qn 2 rfl Cc (Qn 3 rfl (OpP.Aap (fun k=>Af (k:=k) (c:=.sl _ _) tok rfl rfl rfl rfl) (fun _ h=>h)) ?_)));refine Qn 4 rfl Bw (Qn 5 rfl (Aj rfl) (Qn 6 rfl Cc (Qn 7 rfl (OpP.Aap (fun k=>Af (k:=k) (c:=Iq _) tok rfl rfl rfl rfl) (fun _ h=>h)) ?_)));refine Qn 8 rfl (Aa (c:=lJ) tok rfl rfl rfl rfl rfl rfl (by omega) (Tr hlt)) ?_;refine Qn 9 rfl (Bo lJ) ?_;refine Hb.eff _ _ 10 _ _ rfl (by kernel_rfl) rfl rfl (Jp (l:=[.int .i64 0,.str [],.int .i64 0]) (by kernel_rfl)) (by rintro _ _ ⟨b5,rfl,rfl⟩;simp) ?_;rintro _ _ ⟨b5,rfl,rfl⟩;refine Hb.last _ _ 11 _ _ rfl (by kernel_rfl) rfl rfl (A6 (k:=0) (v:=.agg _) (cs':=lJ) (H2:=_::_::_) tok rfl rfl rfl rfl (rfl) rfl rfl rfl rfl) (by kernel_rfl) ?_;rintro _ _ ⟨rfl,rfl⟩;refine A5 ?_;refine AW.ghost (GS.freeze (t:=5) 0 rfl rfl) ?_;refine Ad (Qp (Qf lJ) (Qp Bf (Qp Am (Qp Ap (Qp A9 (Qg [] Qw Am (Qg [(38,_)] Qw Bu (Qg [(39,_)] Qw A9 (Qg [] Qw (Qf H6) (Qg [(41,_)] Qw C9 (Qg [(42,_)] Qw (Qc rfl (c22 (gE st).text (lH hS hlt))) (Qg [(43,_)] Qw Ew (Qg [(40,_),(44,_)] Qw Cf (Qp Ea (Qp Au (Rb ?_))))))))))))))));refine ⟨.inr rfl,[.bool _],.cons (.tmp _ _ rfl) <| .nil,_,.refl _,?_⟩;refine ⟨?_,congrArg (fun c=>HO.box bp 223 c::H) ?_⟩
 ·
  try simp only [Ag,Tw,endP,cSyn,E7,Di,Bn,hc1,↓reduceIte,B0,Ce,Fg]
  try rfl
 try simp only [cP,Tw,endP,hc1,↓reduceIte,B0,Ce,Fg]
 try rfl
theorem gH (st:PS)(bp:Nat)(k:Int)(hS:Pn st):Bl Tryz.prog 224 bp 223 (cP st) (cP (Ez k st)) [.val (.pointer (some ⟨bp,0,none⟩)),.int .i64 k] (.tuple [.str (Hx k st),.bool (Tw k st)]):=by
 intro H;refine B5.body (n:=31) tok Tryz.func224 rfl rfl rfl ?_;refine Ad (Qp D1 (Qp Au (Ae (Rd (Qp Bw (Qp Am ?_))))));refine AOL.Aan (Cy (k:=0) (by kernel_rfl) rfl rfl (nA _ _ _ (by simpa using hS))) rfl rfl ?_;refine Qp Ew (Ae (Ao (fun hc1=>?_) fun hc1=>?_))
 ·
  try simp only [Et,Fp] at hc1
  refine Ad (Qp Bw (mW ((fT _ _ _).at (k:=0) (H2:=_::_) rfl rfl) (Bs (Qp D1 (Qp Au (Rc ?_))))));refine ⟨.inr rfl,[.str _,.bool _],.cons (.tmp _ _ rfl) <| .cons (.tmp _ _ rfl) <| .nil,_,.refl _,?_⟩;refine ⟨?_,congrArg (fun c=>HO.box bp 223 c::H) ?_⟩
  ·
   try simp only [Ag,Ez,Hx,cSyn,E7,Di,Bn,hc1,↓reduceIte,B0,Ce,Fg]
   try rfl
  try simp only [cP,Ez,Hx,hc1,↓reduceIte,B0,Ce,Fg]
  try rfl
 try simp only [Et,Fp] at hc1
 have hlt:=yH (k:=k) (st:=st) hc1;have hml:=hS.1;refine A7 (Ad (Qp Bw (Qp (Aj rfl) (Qp Cc (AOL.Aan (Af (k:=0) (c:=Iq _) tok rfl rfl rfl rfl) rfl rfl (Qp Dl (Qp (Aj rfl) (Qp Cc ?_))))))));refine Bt 0 giz (_::_) (Re ?_);refine AW.draw mixed (fun H'=>_∈H') (B6 (i:=0) rfl) (by kernel_rfl) ?_;refine Qn 0 rfl Bw (Qn 1 rfl (Aj rfl) (Qn 2 rfl Cc (Qn 3 rfl (OpP.Aap (fun k=>Af (k:=k) (c:=.sl _ _) tok rfl rfl rfl rfl) (fun _ h=>h)) ?_)));refine Qn 4 rfl Bw (Qn 5 rfl (Aj rfl) (Qn 6 rfl Cc (Qn 7 rfl (OpP.Aap (fun k=>Af (k:=k) (c:=Iq _) tok rfl rfl rfl rfl) (fun _ h=>h)) ?_)));refine Qn 8 rfl (P_sub rfl rfl rfl (by constructor <;> omega)) ?_;refine Qn 9 rfl (Aa (c:=lJ) tok rfl rfl rfl rfl rfl rfl (by omega) (by rw [show ((st.pos:Int)+1-1).toNat=st.pos by omega];exact Tr hlt)) ?_;refine Qn 10 rfl (Qf H6) (Qn 11 rfl C9 (Qn 12 rfl D1 (Qn 13 rfl Au ?_)));refine Ej ?_;refine A5 (AW.ret ?_);refine ⟨.inr rfl,[.str _,.bool _],.cons (.tmp _ _ rfl) <| .cons (.tmp _ _ rfl) <| .nil,_,.refl _,?_⟩;refine ⟨?_,congrArg (fun c=>HO.box bp 223 c::H) ?_⟩
 ·
  try simp only [Ag,Ez,Hx,cSyn,E7,Di,Bn,hc1,↓reduceIte,B0,Ce,Fg]
  try rfl
 try simp only [cP,Ez,Hx,hc1,↓reduceIte,B0,Ce,Fg]
 try rfl
theorem Ou (st:PS)(bp:Nat)  (hS:Pn st):Bl Tryz.prog 160 bp 223 (cP st) (cP (Ez 0 st)) [.val (.pointer (some ⟨bp,0,none⟩))] (.str (Hx 0 st)):=by
 intro H;refine B5.body (n:=11) tok Tryz.func160 rfl rfl rfl ?_;refine Ad (Qp D1 (Bs (Qp Bw ?_)));refine Rt (Dc rfl ((gH _ _ _ (by simpa using hS)).at (k:=0) (H2:=_::_) rfl rfl)) ?_;refine Qp Lm (Qp uM (Qp gX (Qp D1 (Qp Au (Bs (Qp D2 (Qp D1 (Rb ?_))))))));refine ⟨.inr rfl,[.str _],.cons (.tmp _ _ rfl) <| .nil,_,.refl _,?_⟩;refine ⟨?_,congrArg (fun c=>HO.box bp 223 c::H) ?_⟩
 ·
  try simp only [Ag,cSyn,E7,Di,Bn,↓reduceIte,B0,Ce,Fg]
  try rfl
 try simp only [cP,↓reduceIte,B0,Ce,Fg]
 try rfl
theorem Zx (st:PS)(bp:Nat)  (hS:Pn st):Bl Tryz.prog 285 bp 223 (cP st) (cP (Ez 1 st)) [.val (.pointer (some ⟨bp,0,none⟩))] (.int .i64 (Y9 st)):=by
 intro H;refine B5.body (n:=20) tok Tryz.func285 rfl rfl rfl ?_;refine Ad (Qp Al (Bs (Qp Bw ?_)));refine Rt (Dc rfl ((gH _ _ _ (by simpa using hS)).at (k:=0) (H2:=_::_) rfl rfl)) ?_;refine Qp Lm (Qp uM (Qp gX (Qp D1 (Qp Au (Ae (Rd (Qp A9 (Qp Ew (Ae (Ao (fun hc1=>?_) fun hc1=>?_))))))))))
 ·
  try simp only [Et,Fp] at hc1
  refine Ad (Qp Al (Rc ?_));refine ⟨.inr rfl,[Iq _],.cons (.tmp _ _ rfl) <| .nil,_,.refl _,?_⟩;refine ⟨?_,congrArg (fun c=>HO.box bp 223 c::H) ?_⟩
  ·
   try simp only [Ag,Y9,Hx,cSyn,E7,Di,Bn,hc1,↓reduceIte,B0,Ce,Fg]
   try rfl
  try simp only [cP,Y9,Hx,hc1,↓reduceIte,B0,Ce,Fg]
  try rfl
 try simp only [Et,Fp] at hc1
 refine A7 (Ad (Qp D2 (Qp (Qc rfl (c18 _ (txt_le hS))) (Qp Lm (Qp Ib (Qp Ib (Qp Al (Qp Al (Bs (Qp Am (Qp Al (Rb ?_))))))))))));refine ⟨.inr rfl,[Iq _],.cons (.tmp _ _ rfl) <| .nil,_,.refl _,?_⟩;refine ⟨?_,congrArg (fun c=>HO.box bp 223 c::H) ?_⟩
 ·
  try simp only [Ag,Y9,Hx,cSyn,E7,Di,Bn,hc1,↓reduceIte,B0,Ce,Fg]
  try rfl
 try simp only [cP,Y9,Hx,hc1,↓reduceIte,B0,Ce,Fg]
 try rfl
set_option maxHeartbeats 400000
set_option maxRecDepth 20000

theorem Fz {w:A1}{st:PS}(h:K4 w st=true):Np w st=adv st:=by unfold Np;rw [h];rfl
def okD (D:Int)(st:PS):Prop:=Pn st∧D≤st.depth∧st.depth≤64
def C7 (F:PS→Syn×PS):Prop:=∀st,0≤st.depth→st.depth≤64→(F st).2.toks=st.toks∧st.pos≤(F st).2.pos∧(F st).2.depth=st.depth
theorem Sb (e:Int)(st:PS):(Ge e st).depth=st.depth:=by unfold Ge;split <;> rfl
theorem iK (w:A1)(st:PS):(Np w st).depth=st.depth:=by unfold Np;split <;> rfl
theorem lM (w:A1)(st:PS):(C5 w st).depth=st.depth:=by unfold C5;split;exact Sb _ _;exact iK _ _
theorem kK (k:Int)(st:PS):(Ez k st).depth=st.depth:=by unfold Ez;split;rfl;exact Sb _ _
theorem Wu {D:Int}{a b:PS}(h:a.toks=b.toks)(h2:a.depth=b.depth):okD D a↔okD D b:=by unfold okD Pn;rw [h,h2]
@[simp] theorem okD_adv (D : Int) (st : PS) : okD D (adv st) ↔ okD D st := Wu rfl rfl
@[simp] theorem okD_failP (D : Int) (e : Int) (st : PS) : okD D (Ge e st) ↔ okD D st := Wu (L5 _ _) (Sb _ _)
@[simp] theorem okD_accP (D : Int) (w : A1) (st : PS) : okD D (Np w st) ↔ okD D st := Wu (Vk _ _) (iK _ _)
@[simp] theorem okD_expP (D : Int) (w : A1) (st : PS) : okD D (C5 w st) ↔ okD D st := Wu (Wy _ _) (lM _ _)
@[simp] theorem okD_tokP (D : Int) (k : Int) (st : PS) : okD D (Ez k st) ↔ okD D st := Wu (Vq _ _) (kK _ _)
theorem C7.okD {F:PS→Syn×PS}(h:C7 F){D:Int}(hD:0≤D){st:PS}(ho:okD D st):okD D (F st).2:=by
 obtain ⟨h1,h2,h3⟩:=ho;obtain ⟨k1,k2,k3⟩:=h st (by omega) h3;exact ⟨(M8 k1).2 h1,by omega,by omega⟩
theorem Wz (e:Int)(st:PS):(Ge e st).pos=st.pos:=by unfold Ge;split <;> rfl
theorem zN (w:A1)(st:PS):st.pos≤(Np w st).pos:=by
 unfold Np;split
 · exact Nat.le_succ _
 exact C6 _
theorem yL (w:A1)(st:PS):st.pos≤(C5 w st).pos:=by unfold C5;split;exact Nat.le_of_eq (Wz _ _).symm;exact zN _ _
theorem yD (k:Int)(st:PS):st.pos≤(Ez k st).pos:=by unfold Ez;split;exact Nat.le_succ _;exact Nat.le_of_eq (Wz _ _).symm
theorem Yx {e:Int}(he:e≠0)(st:PS):((Ge e st).bad != 0)=true:=by
 unfold Ge;split
 · simpa using he
 rename_i h;simpa using h
def I4 (st:PS):PS:=if decide (64≤st.depth) then Ge 12 st else st
theorem L0 {F:PS→Syn×PS}{n:Nat}{st:PS}{out:List Syn}(h:0<n):Kn F n st out=if K4 Dg st then Kn F (n-1) (F (adv st)).2 (out ++ [(F (adv st)).1]) else (out,st):=by
 obtain ⟨m,rfl⟩:∃m,n=m+1:=⟨n-1,by omega⟩;rfl
theorem Vn (l:List Syn):∀x∈l.map Cr,Bc x=true:=mT fun a=>by rw [Bn];rfl
theorem Kz {es:List (List AV)}{out:List Syn}{t:Syn}(h:es=out.map Cr):es ++ [cSyn t]=(out ++ [t]).map Cr:=by rw [h,Tq,List.map_singleton,Bn]

theorem zH (st st2 st3:PS)(bp:Nat)(R R3:List HO)(f:Nat)(hf:Tm Tryz.prog f=true)(first cap:List AV)(hlt:st.pos<st.toks.length)(hS:Pn st)(hcl:(I4 st).bad=0→B5 Tryz.prog f (.box bp 223 (cP (adv (Kb st)))::R) (first ++ []++cap) (fun _ H'=>H' = .box bp 223 (cP st2)::R3∧st3=Kq st2))(hno:(I4 st).bad≠0→st3=I4 st∧R3=R):B5 Tryz.prog 226 (.box bp 223 (cP st)::R) [.val (.pointer (some ⟨bp,0,none⟩)),.fn (.func f) first cap] (fun r H'=>r = .tuple []∧H' = .box bp 223 (cP st3)::R3):=by
 refine B5.body (n:=39) tok Tryz.func226 rfl rfl rfl ?_;refine Rd (Qp Bw ?_);refine Qp (Aj rfl) ?_;refine Qp Cc ?_;refine AOL.Aan (Af (k:=0) (c:=Iq _) tok rfl rfl rfl rfl) rfl rfl ?_;refine Qp Gb (Ae (Ao (fun hc1=>?_) fun hc1=>?_))
 ·
  try simp only [Et,Fp] at hc1
  refine AW.region (Qp Bw ?_);refine mW ((fT _ _ _).at (k:=0) (H2:=_::_) rfl rfl) ?_;refine Ae (Rd (Qp Bw ?_));refine Qp (Aj rfl) ?_;refine Qp Cc ?_;refine AOL.Aan (Af (k:=0) (c:=Iq _) tok rfl rfl rfl rfl) rfl rfl ?_;refine Qp Bu (Ae (Ao (fun hc2=>?_) fun hc2=>?_))
  ·
   try simp only [Et,Fp] at hc2
   have hml:=hS.1;refine Su ?_;refine ⟨.inr rfl,[],.nil,_,.refl _,?_⟩;obtain ⟨e1,e2⟩:=hno (by unfold I4;rw [hc1];simpa using hc2);subst e1;subst e2;exact ⟨rfl,congrArg (fun s=>HO.box bp 223 (cP s)::R3) (by unfold I4;rw [hc1];rfl)⟩
  try simp only [Et,Fp] at hc2
  exact absurd ((Yx (e:=12) (by decide) st).symm.trans hc2) (by decide)
 try simp only [Et,Fp] at hc1
 refine A7 (Rd (Qp Bw ?_));refine Qp (Aj rfl) ?_;refine Qp Cc ?_;refine AOL.Aan (Af (k:=0) (c:=Iq _) tok rfl rfl rfl rfl) rfl rfl ?_;refine Qp Bu (Ae (Ao (fun hc3=>?_) fun hc3=>?_))
 ·
  try simp only [Et,Fp] at hc3
  refine Su ?_;refine ⟨.inr rfl,[],.nil,_,.refl _,?_⟩;obtain ⟨e1,e2⟩:=hno (by unfold I4;rw [hc1];simpa using hc3);subst e1;subst e2;exact ⟨rfl,congrArg (fun s=>HO.box bp 223 (cP s)::R3) (by unfold I4;rw [hc1];rfl)⟩
 try simp only [Et,Fp] at hc3
 have hml:=hS.1;have h9:(I4 st).bad=0:=by unfold I4;rw [hc1];simpa using hc3
 refine A7 (Ad (Qp Bw ?_));refine Qp (Aj rfl) ?_;refine Qp Cc ?_;refine AOL.Aan (Af (k:=0) (c:=Iq _) tok rfl rfl rfl rfl) rfl rfl ?_;refine Qp (fR rfl rfl) ?_;refine Qp (Aj rfl) ?_;refine Qp Cc ?_;refine Bt 0 giz (_::_) ?_;refine Bs (Qp Bw ?_);refine Qp (Aj rfl) ?_;refine Qp Cc ?_;refine AOL.Aan (Af (k:=0) (c:=Iq _) tok rfl rfl rfl rfl) rfl rfl ?_;refine Qp Dl ?_;refine Qp (Aj rfl) ?_;refine Qp Cc ?_;refine Bt 0 giz (_::_) ?_;refine Bs ?_;refine Qp (A0 (v:=.fn _ _ _) rfl) ?_;refine Qe (Jo hf rfl rfl rfl (hcl h9)) ?_;rintro _ _ ⟨rfl,h3⟩;refine Ae (AW.region (Qp Bw ?_));refine Qp (Aj rfl) ?_;refine Qp Cc ?_;refine AOL.Aan (Af (k:=0) (c:=Iq _) tok rfl rfl rfl rfl) rfl rfl ?_;refine Qp (nY rfl rfl) ?_;refine Qp (Aj rfl) ?_;refine Qp Cc ?_;refine Bt 0 giz (_::_) ?_;refine AOL.nil ?_;refine ⟨.inl rfl,[],.nil,_,.refl _,?_⟩;subst h3;exact ⟨rfl,rfl⟩
theorem p_list (st:PS)(bp:Nat)(D:Int)(hD:0≤D)(f:Nat)(hf:Tm Tryz.prog f=true)(first cap:List AV)(F:PS→Syn×PS)(hF:C7 F)(hc:∀st,okD D st→Bl Tryz.prog f bp 223 (cP st) (cP (F st).2) (first ++ []++cap) (.agg (cSyn (F st).1)))(hO:okD D st):Bl Tryz.prog 163 bp 223 (cP st) (cP ((Uq F st).2)) [.val (.pointer (some ⟨bp,0,none⟩)),.fn (.func f) first cap] (.sl 6 ((Uq F st).1.map Cr)):=by
 intro H;refine B5.body (n:=17) tok Tryz.func163 rfl rfl rfl ?_;refine Ad (Qp (Be (z:=6) rfl) (Bs (Qp (A0 (v:=.fn _ _ _) rfl) (Rt (Jo (hf) rfl rfl rfl ((hc st hO).at (k:=0) (H2:=_::_) rfl rfl)) (Qe (F7 (es:=[Aq]) tok rfl rfl rfl rfl rfl rfl rfl rfl rfl) ?_)))));rintro _ _ ⟨v8,rfl,rfl⟩;refine Qp (A8 (v:=.row _ _ _) rfl) (Re (AW.block ?_));refine AW.Aam (fun (p:Nat×PS×List Syn×List (List AV)×Value)=>(⟨[(0,.val (.pointer (some ⟨bp,0,none⟩))),(1,.fn (.func f) first cap),(5,.row p.2.2.2.2 6 p.2.2.2.1)],.row p.2.2.2.2 p.2.2.2.1.length 25 6 :: .box bp 223 (cP p.2.1)::H,17⟩:St)) (fun p=>p.2.2.2.1=p.2.2.1.map Cr∧okD D p.2.1∧Bg p.2.1≤p.1∧p.2.2.1.length≤p.2.1.pos+1∧Uq F st=Kn F p.1 p.2.1 p.2.2.1) (fun p=>p.1) ((Bg (F st).2,(F st).2,[(F st).1],[cSyn (F st).1],v8)) ?_ Bv ?_
 · exact ⟨by rw [List.map_singleton,Bn],hF.okD hD hO,C6 _,by simp,rfl⟩
 rintro p hR;have hes:p.2.2.2.1=p.2.2.1.map Cr:=hR.1;have hO2:okD D p.2.1:=hR.2.1;have hS:=hO2.1;have hfu:Bg p.2.1≤p.1:=hR.2.2.1;have hn:0<p.1:=by unfold Bg at hfu;omega
 have hol:p.2.2.1.length≤p.2.1.pos+1:=hR.2.2.2.1;have hsc:∀c∈p.2.2.2.1,Bc c=true:=by rw [hes];exact Vn _
 have hel:p.2.2.2.1.length=p.2.2.1.length:=by rw [hes,D9]
 refine Rd (Qp Bw ?_);refine Rt (Dc rfl ((D6 _ _ _ (by simpa using hS) (by first | assumption | decide)).at (k:=1) (H2:=_::_::_) rfl rfl)) ?_;refine Ae (Ao (fun hc1=>?_) fun hc1=>?_)
 ·
  try simp only [Et,Fp] at hc1
  have hlt:=Xu hc1;have hml:=hS.1;have hFa:=hF (adv p.2.1) (by have:=hO2.2.1;show (0:Int)≤p.2.1.depth;omega) hO2.2.2;have hps:p.2.1.pos+1≤(F (adv p.2.1)).2.pos:=hFa.2.1;have hts:(F (adv p.2.1)).2.toks=p.2.1.toks:=hFa.1;refine AW.ghost (GS.Aaq (H2:=_::_::_) 1 rfl (congrArg cP (Fz hc1)) rfl) ?_;refine A7 (AW.block (AW.region (Qp (A0 (v:=.row _ _ _) rfl) (Qp (A0 (v:=.fn _ _ _) rfl) ?_))));refine Rt (Jo (hf) rfl rfl rfl ((hc _ (by simpa using hO2)).at (k:=1) (H2:=_::_::_) rfl rfl)) ?_;refine Qp (Ak (es:=[Aq]) tok rfl rfl rfl rfl rfl rfl rfl rfl rfl) ?_;refine Qe (B8 (k:=0) tok rfl rfl rfl rfl rfl rfl rfl rfl (Dy rfl) (hsc) (by simp;omega) (by simp [maxLen];omega)) ?_;rintro _ _ ⟨v15,rfl,rfl⟩;refine Qp (A8 (v:=.row _ _ _) rfl) (Rk ?_);refine ⟨(p.1-1,(F (adv p.2.1)).2,p.2.2.1 ++ [(F (adv p.2.1)).1],p.2.2.2.1 ++ [cSyn (F (adv p.2.1)).1],v15),?_,?_,Bv⟩
  · exact ⟨Kz hes,hF.okD hD (by simpa using hO2),by unfold Bg at hfu ⊢;rw [hts];simp only;omega,by simp only [Cb,K9];omega,hR.2.2.2.2.trans (by rw [L0 hn,if_pos hc1])⟩
  simp only;omega
 try simp only [Et,Fp] at hc1
 refine AW.ghost (GS.Aaq (H2:=_::_::_) 1 rfl (congrArg cP (Gw hc1)) rfl) ?_;refine AW.exit ?_;refine Bk (Ri (Ad ?_));refine AOL.ghost (GS.unrow 5 rfl) ?_;refine Qp Fh (Qp Sr (Rb ?_));refine ⟨.inr rfl,[.sl _ _],.cons (.tmp _ _ rfl) <| .nil,_,.cons _ (.refl _),?_⟩;have h9:Uq F st=(p.2.2.1,p.2.1):=hR.2.2.2.2.trans (by rw [L0 hn,iN hc1]);exact ⟨by rw [h9,←hes];rfl,congrArg (fun s=>HO.box bp 223 (cP s)::H) (by rw [h9])⟩
set_option maxHeartbeats 1600000
set_option maxRecDepth 20000

abbrev cSg (s:A1×Int):List AV:=[.str s.1,.int .i64 s.2]
theorem sg_at {sg:List (A1×Int)}{k:Nat}{s:A1×Int}(h:sg[k]? = some s):(sg.map cSg)[k]? = some [.str s.1,.int .i64 s.2]:=by rw [List.getElem?_map,h];rfl
theorem U0 {α:Type}{p:α→Bool}:∀{l:List α} {k:Nat} {x:α},(∀j y,j<k→l[j]? = some y→p y=false)→l[k]? = some x→p x=true→l.find? p=some x
  | [],k,x,_,h,_=>by simp at h
  | a::l,0,x,_,h,hp=>by
    simp only [List.getElem?_cons_zero,Option.some.injEq] at h;subst h;rw [List.find?_cons,hp]
  | a::l,k+1,x,hn,h,hp=>by
    rw [List.find?_cons,hn 0 a (by omega) rfl];exact U0 (l:=l) (k:=k) (fun j y hj hy=>hn (j+1) y (by omega) hy) h hp
theorem dF {α:Type}{p:α→Bool}{l:List α}(hn:∀j y,j<l.length→l[j]? = some y→p y=false):l.find? p=none:=by
 rw [List.find?_eq_none];intro x hx;obtain ⟨k,hk⟩:=List.getElem?_of_mem hx;have:=hn k x (List.getElem?_eq_some_iff.1 hk).1 hk;rw [this];decide
theorem Xm {F:PS→Syn×PS}{sg:List (A1×Int)}{n:Nat}{st:PS}{out:Syn}(h:0<n):Oe F sg n st out=match sg.find? (fun s=>K4 s.1 st) with
  | some s=>Oe F sg (n-1) (F (adv st)).2 (Px s.2 out (F (adv st)).1 out.pos)
  | none=>(out,st):=by
 obtain ⟨m,rfl⟩:∃m,n=m+1:=⟨n-1,by omega⟩;rfl

theorem Kk (op:Int)(x y:Syn)(k:Int):An Tryz.prog 287 [.int .i64 op,.agg (cSyn x),.agg (cSyn y),.int .i64 k] (.agg (cSyn (Px op x y k))):=by
 refine An.body (n:=15) tok Tryz.func287 rfl rfl rfl fun H=>?_
 refine Ad (Qp (Ed Aq) (Qp (Ed Aq) (Dt L7 fun b8=>Bs (Qp Am (Qp (Bo Aq) (Qp (Bo Aq) (Qp (Ak (es:=[Aq,Aq]) tok rfl rfl rfl rfl rfl rfl rfl rfl rfl) (Qp Am (Qp (Du Aq) ?_)))))))));refine Bt 0 Aq (_::_) (Rb ?_);refine ⟨.inr rfl,[.agg Aq],.cons (.box _ _ _ 0 _ _ _ _ rfl rfl rfl rfl rfl rfl) <| .nil,.cons _ (.refl _),?_⟩;exact congrArg (fun l=>AV.agg [.int .i64 17,.str [],.str [],.int .i64 op,.sl 6 l,.int .i64 k]) (by rw [E7,E7,Di,Bn,Bn]:[cSyn x,cSyn y] = [x,y].map Cr)
theorem fU (st:PS)(bp:Nat)(D:Int)(hD:0≤D)(f:Nat)(hf:Tm Tryz.prog f=true)(first cap:List AV)(F:PS→Syn×PS)(hF:C7 F)(hc:∀st,okD D st→Bl Tryz.prog f bp 223 (cP st) (cP (F st).2) (first ++ []++cap) (.agg (cSyn (F st).1)))(hO:okD D st)(sg:List (A1×Int))(hsg:∀s∈sg,s.1.length≤1048576)(hsl:sg.length≤100):Bl Tryz.prog 229 bp 223 (cP st) (cP ((Q3 F sg st).2)) [.val (.pointer (some ⟨bp,0,none⟩)),.fn (.func f) first cap,.sl 2 (sg.map cSg)] (.agg (cSyn (Q3 F sg st).1)):=by
 intro H;refine B5.body (n:=34) tok Tryz.func229 rfl rfl rfl ?_;refine Ad (Dt L7 fun b6=>Bs (Qp (A0 (v:=.fn _ _ _) rfl) (Rt (Jo (hf) rfl rfl rfl ((hc st hO).at (k:=1) (H2:=_::_::_) rfl rfl)) (Dt L7 fun b7=>?_))));refine Bt 0 Aq (_::_::_::_) (Ae (Rd (Qp Au (Ae (AW.block ?_)))));refine AW.Aam (fun (p:Nat×PS×Syn×Bool)=>(⟨[(0,.val (.pointer (some ⟨bp,0,none⟩))),(1,.fn (.func f) first cap),(2,.sl 2 (sg.map cSg)),(6,.val (.pointer (some ⟨b6,0,none⟩))),(7,.val (.pointer (some ⟨b7,0,none⟩))),(8,.bool p.2.2.2)],.box b7 25 (cSyn p.2.2.1) :: .box b6 25 (cSyn Oy) :: .box bp 223 (cP p.2.1)::H,34⟩:St)) (fun p=>okD D p.2.1∧Bg p.2.1≤p.1∧(p.2.2.2=true→Q3 F sg st=Oe F sg p.1 p.2.1 p.2.2.1)∧(p.2.2.2=false→Q3 F sg st=(p.2.2.1,p.2.1))) (fun p=>(if p.2.2.2 then p.1+1 else 0)) ((Bg (F st).2,(F st).2,(F st).1,true)) ?_ Bv ?_
 · exact ⟨hF.okD hD hO,C6 _,fun _=>rfl,fun h=>(by cases h)⟩
 rintro p hR;have hO2:okD D p.2.1:=hR.1;have hS:=hO2.1;have hfu:Bg p.2.1≤p.1:=hR.2.1;have hn:0<p.1:=by unfold Bg at hfu;omega
 refine Rd (Qp A9 (Ae (Ao (fun hc1=>?_) fun hc1=>?_)))
 ·
  try simp only [Et,Fp] at hc1
  refine A7 (AW.block (Ad (Qp Au (Bs (Qp Fh ?_)))));refine Qp (Ai (n:=sg.length) tok rfl rfl rfl (by simp)) ?_;refine Qp Am (Ae (AW.block ?_));refine AW.Aam (fun (k:Nat)=>(⟨[(0,.val (.pointer (some ⟨bp,0,none⟩))),(1,.fn (.func f) first cap),(2,.sl 2 (sg.map cSg)),(6,.val (.pointer (some ⟨b6,0,none⟩))),(7,.val (.pointer (some ⟨b7,0,none⟩))),(8,.bool false),(14,.sl 2 (sg.map cSg)),(15,.int .i64 (sg.length:Int)),(16,.int .i64 (k:Int))],.box b7 25 (cSyn p.2.2.1) :: .box b6 25 (cSyn Oy) :: .box bp 223 (cP p.2.1)::H,34⟩:St)) (fun k=>k≤sg.length∧∀j y,j<k→sg[j]? = some y→K4 y.1 p.2.1=false) (fun k=>sg.length-k) (0) ?_ Bv ?_
  · exact ⟨Dh _,fun j y hj=>absurd hj (Nat.not_lt_zero _)⟩
  rintro k hK;refine Ad (Qp Bp (Re (Ao (fun hc2=>?_) fun hc2=>?_)))
  ·
   try simp only [Et,Fp] at hc2
   have hk:k<sg.length:=by simpa using hc2
   refine (get_ex hk).elim fun x hx=>?_
   have hwx:x.1.length≤1048576:=hsg x (B6 hx);refine A7 (AW.seq (AW.block (Ad ?_)));refine Qp (Aa (c:=H6) tok rfl rfl rfl rfl rfl rfl (by omega) (sg_at hx)) ?_;refine Qp (Bo H6) (Dt [.str [],.int .i64 0] fun b10=>?_);refine Bt 0 H6 (_::_::_::_::_) ?_;refine AOL.ghost (GS.freeze (t:=10) 0 rfl rfl) ?_;refine Bs (Qp Bw (Qp (Qf H6) (Qp C9 ?_)));refine Rt (Dc rfl ((D6 _ _ _ (by simpa using hS) (by first | assumption | decide)).at (k:=2) (H2:=_::_::_::_) rfl rfl)) ?_;refine Ae (Ao (fun hc3=>?_) fun hc3=>?_)
   ·
    try simp only [Et,Fp] at hc3
    have hfd:sg.find? (fun s=>K4 s.1 p.2.1)=some x:=U0 hK.2 hx hc3;have hlt:=Xu hc3;have hml:=hS.1;have hFa:=hF (adv p.2.1) (by have:=hO2.2.1;show (0:Int)≤p.2.1.depth;omega) hO2.2.2;have hps:p.2.1.pos+1≤(F (adv p.2.1)).2.pos:=hFa.2.1;have hts:(F (adv p.2.1)).2.toks=p.2.1.toks:=hFa.1;refine AW.ghost (GS.Aaq (H2:=_::_::_::_) 2 rfl (congrArg cP (Fz hc3)) rfl) ?_;refine AW.seq ?_;refine AW.draw mixed (fun H'=>_∈H') (B6 (i:=0) rfl) (by kernel_rfl) ?_;refine Qn 0 rfl (Qf [Iq _]) (Qn 1 rfl Bf (Qn 2 rfl (OpP.Aap (fun k=>A2 (k:=k) (l:=Aq) tok rfl rfl rfl rfl rfl) (fun _ h=>h)) ?_));refine Qn 3 rfl (A0 (v:=.fn _ _ _) rfl) (Qn 5 rfl Cc (Qn 6 rfl (OpP.Aap (fun k=>Af (k:=k) (c:=Iq _) tok rfl rfl rfl rfl) (fun _ h=>h)) ?_));refine Hb.eff _ _ 4 _ _ rfl (by kernel_rfl) rfl rfl (Jo (hf) rfl rfl rfl ((hc _ (by simpa using hO2)).at (k:=2) (H2:=_::_::_::_) rfl rfl)) (by rintro _ _ ⟨rfl,rfl⟩;simp) ?_;rintro _ _ ⟨rfl,rfl⟩;refine Qn 7 rfl (Qc rfl (Kk _ _ _ _)) ?_;refine Hb.last _ _ 8 _ _ rfl (by kernel_rfl) rfl rfl (A6 (k:=0) (v:=.agg _) (cs':=Aq) (H2:=_::_::_::_) tok rfl rfl rfl rfl (rfl) rfl rfl rfl rfl) (by kernel_rfl) ?_;rintro _ _ ⟨rfl,rfl⟩;refine A5 (Ad (Qp Au (Ae (AW.exit ?_))));refine blkMiss rfl ?_;refine Bk (Bk (Th (Ig (A5 ?_))));refine ⟨(p.1-1,(F (adv p.2.1)).2,Px x.2 p.2.2.1 (F (adv p.2.1)).1 p.2.2.1.pos,true),?_,?_,Bv⟩
    · exact ⟨hF.okD hD (by simpa using hO2),by unfold Bg at hfu ⊢;rw [hts];simp only;omega,fun _=>(hR.2.2.1 hc1).trans (by rw [Xm hn,hfd]),fun h=>(by cases h)⟩
    simp only [hc1,↓reduceIte,B0];omega
   try simp only [Et,Fp] at hc3
   refine AW.ghost (GS.Aaq (H2:=_::_::_::_) 2 rfl (congrArg cP (Gw hc3)) rfl) ?_;refine Rf (AW.region (Qp Dl (Qp Am (Ae ?_))));refine ⟨k+1,?_,?_,Bv⟩
   · exact ⟨hk,fun j y hj hy=>by rcases Nat.lt_succ_iff_lt_or_eq.1 hj with h | rfl;exact hK.2 j y h hy;rw [hx] at hy;cases hy;exact hc3⟩
   omega
  try simp only [Et,Fp] at hc2
  have hkn:¬k<sg.length:=by simpa using hc2
  have hfd:sg.find? (fun s=>K4 s.1 p.2.1)=none:=dF fun j y hj hy=>hK.2 j y (by omega) hy
  refine AW.exit ?_;refine Bk (Bk (Th (Ig (A5 ?_))));refine ⟨(p.1,p.2.1,p.2.2.1,false),?_,?_,Bv⟩
  · exact ⟨hO2,hfu,fun h=>(by cases h),fun _=>(hR.2.2.1 hc1).trans (by rw [Xm hn,hfd])⟩
  simp only [hc1,↓reduceIte,B0];omega
 try simp only [Et,Fp] at hc1
 refine AW.exit ?_;refine Bk (Ri (Ad ?_));refine AOL.Aan (A2 (k:=0) (l:=Aq) tok rfl rfl rfl rfl rfl) rfl rfl ?_;refine Bt 1 Aq (_::_::_::_) (Rb ?_);refine ⟨.inr rfl,[.agg Aq],.cons (.box _ _ _ 1 _ _ _ _ rfl rfl rfl rfl rfl rfl) <| .nil,_,.cons _ (.cons _ (.refl _)),?_⟩;have h9:=hR.2.2.2 hc1;exact ⟨by rw [h9];rfl,congrArg (fun s=>HO.box bp 223 (cP s)::H) (by rw [h9])⟩
set_option maxHeartbeats 800000
set_option maxRecDepth 20000

theorem u8_all' {p:UInt8→Bool}(h:(List.range 256).all (fun n=>p (UInt8.ofNat n))=true)(c:UInt8):p c=true:=by
 rw [bS] at h;have:=h c.toNat (U1.2 c.toNat_lt)
 rwa [UInt8.ofNat_toNat] at this
def kindW:List A1:=[Gz,Fy,Ee]
abbrev fS (st:PS):PS:=C5 Lp (Ez 0 st)
theorem lT:∀(s:A1) (n:Int),0≤n→n≤1099511627776→0≤(Mr s n).1∧(Mr s n).1≤1099511627776
  | [],n,h0,h1=>⟨h0,h1⟩
  | c::r,n,h0,h1=>by
    unfold Mr;split
    · decide
    · rename_i h
      have hd:0≤uO c:=by
        have:=u8_all' (p:=fun c=>decide (0≤uO c)) (by kernel_rfl) c;exact Gv this
      simp only [Hi,Int.not_lt] at h;exact lT r _ (by omega) h
theorem numP_le (st:PS):0≤Y9 st∧Y9 st≤1099511627776:=by
 unfold Y9;split
 ·
  unfold bM;split
  · decide
  exact lT _ _ (by decide) (by decide)
 decide
theorem aP (st:PS)(bp:Nat)  (hS:Pn st):Bl Tryz.prog 330 bp 223 (cP st) (cP ((Gy st).2)) [.val (.pointer (some ⟨bp,0,none⟩))] (.agg (cSyn (Gy st).1)):=by
 intro H;refine B5.body (n:=37) tok Tryz.func330 rfl rfl rfl ?_;refine Ad (Dt L7 fun b2=>Bs (Qp Bw ?_));refine AOL.Aan (Cy (k:=1) (by kernel_rfl) rfl rfl (Ku _ _)) rfl rfl ?_;refine Qp (Du Aq) (Dt L7 fun b3=>?_);refine Bt 0 Aq (_::_::_::_) (Re (AW.block (Ad (Qp Bw ?_))));refine Rt (Dc rfl ((D6 _ _ _ (by simpa using hS) (by decide)).at (k:=2) (H2:=_::_::_::_) rfl rfl)) ?_;refine Qp Au (Ae (Ao (fun hc1=>?_) fun hc1=>?_))
 ·
  try simp only [Et,Fp] at hc1
  refine AW.ghost (GS.Aaq (H2:=_::_::_::_) 2 rfl (congrArg cP (Fz hc1)) rfl) ?_;refine AW.region (Qp Bw ?_);refine Rt (Dc rfl ((Zx _ _ (by simpa using hS)).at (k:=2) (H2:=_::_::_::_) rfl rfl)) ?_;refine Qp (P_neg rfl rfl (by have:=numP_le (adv st);constructor <;> omega)) ?_;refine Qp Cc ?_;refine Bt 0 Aq (_::_::_::_) (Rk (Ad (AOL.Aan (A2 (k:=0) (l:=Aq) tok rfl rfl rfl rfl rfl) rfl rfl ?_)));refine Bt 1 Aq (_::_::_::_) (Rb ?_);refine ⟨.inr rfl,[.agg Aq],.cons (.box _ _ _ 1 _ _ _ _ rfl rfl rfl rfl rfl rfl) <| .nil,_,.cons _ (.cons _ (.refl _)),?_⟩;refine ⟨?_,congrArg (fun c=>HO.box bp 223 c::H) ?_⟩
  ·
   try simp only [Ag,Gy,cSyn,E7,Di,Bn,hc1,↓reduceIte,B0,Ce,Fg]
   try rfl
  try simp only [cP,Gy,hc1,↓reduceIte,B0,Ce,Fg]
  try rfl
 try simp only [Et,Fp] at hc1
 refine AW.ghost (GS.Aaq (H2:=_::_::_::_) 2 rfl (congrArg cP (Gw hc1)) rfl) ?_;refine Ad (Qp Bw ?_);refine AOL.Aan (Cy (k:=2) (by kernel_rfl) rfl rfl (nA _ _ _ (by simpa using hS))) rfl rfl ?_;refine Qp Au (Ae (Ao (fun hc2=>?_) fun hc2=>?_))
 ·
  try simp only [Et,Fp] at hc2
  refine AW.region (Qp Bw ?_);refine Rt (Dc rfl ((Zx _ _ (by simpa using hS)).at (k:=2) (H2:=_::_::_::_) rfl rfl)) ?_;refine Qp Cc ?_;refine Bt 0 Aq (_::_::_::_) (Rk (Ad (AOL.Aan (A2 (k:=0) (l:=Aq) tok rfl rfl rfl rfl rfl) rfl rfl ?_)));refine Bt 1 Aq (_::_::_::_) (Rb ?_);refine ⟨.inr rfl,[.agg Aq],.cons (.box _ _ _ 1 _ _ _ _ rfl rfl rfl rfl rfl rfl) <| .nil,_,.cons _ (.cons _ (.refl _)),?_⟩;refine ⟨?_,congrArg (fun c=>HO.box bp 223 c::H) ?_⟩
  ·
   try simp only [Ag,Gy,cSyn,E7,Di,Bn,hc1,hc2,↓reduceIte,B0,Ce,Fg]
   try rfl
  try simp only [cP,Gy,hc1,hc2,↓reduceIte,B0,Ce,Fg]
  try rfl
 try simp only [Et,Fp] at hc2
 refine Ad (Qp Bw ?_);refine Rt (Dc rfl ((D6 _ _ _ (by simpa using hS) (by decide)).at (k:=2) (H2:=_::_::_::_) rfl rfl)) ?_;refine Qp Au (Ae (Ao (fun hc3=>?_) fun hc3=>?_))
 ·
  try simp only [Et,Fp] at hc3
  refine AW.ghost (GS.Aaq (H2:=_::_::_::_) 2 rfl (congrArg cP (Fz hc3)) rfl) ?_;refine AW.region (Qp Cc ?_);refine Bt 0 Aq (_::_::_::_) (Qp Cc ?_);refine Bt 0 Aq (_::_::_::_) (Rk (Ad (AOL.Aan (A2 (k:=0) (l:=Aq) tok rfl rfl rfl rfl rfl) rfl rfl ?_)));refine Bt 1 Aq (_::_::_::_) (Rb ?_);refine ⟨.inr rfl,[.agg Aq],.cons (.box _ _ _ 1 _ _ _ _ rfl rfl rfl rfl rfl rfl) <| .nil,_,.cons _ (.cons _ (.refl _)),?_⟩;refine ⟨?_,congrArg (fun c=>HO.box bp 223 c::H) ?_⟩
  ·
   try simp only [Ag,Gy,cSyn,E7,Di,Bn,hc1,hc2,hc3,↓reduceIte,B0,Ce,Fg]
   try rfl
  try simp only [cP,Gy,hc1,hc2,hc3,↓reduceIte,B0,Ce,Fg]
  try rfl
 try simp only [Et,Fp] at hc3
 refine AW.ghost (GS.Aaq (H2:=_::_::_::_) 2 rfl (congrArg cP (Gw hc3)) rfl) ?_;refine Ad (Qp Bw ?_);refine Rt (Dc rfl ((D6 _ _ _ (by simpa using hS) (by decide)).at (k:=2) (H2:=_::_::_::_) rfl rfl)) ?_;refine Qp Au (Ae (Ao (fun hc4=>?_) fun hc4=>?_))
 ·
  try simp only [Et,Fp] at hc4
  refine AW.ghost (GS.Aaq (H2:=_::_::_::_) 2 rfl (congrArg cP (Fz hc4)) rfl) ?_;refine AW.region (Qp Cc ?_);refine Bt 0 Aq (_::_::_::_) (Rk (Ad (AOL.Aan (A2 (k:=0) (l:=Aq) tok rfl rfl rfl rfl rfl) rfl rfl ?_)));refine Bt 1 Aq (_::_::_::_) (Rb ?_);refine ⟨.inr rfl,[.agg Aq],.cons (.box _ _ _ 1 _ _ _ _ rfl rfl rfl rfl rfl rfl) <| .nil,_,.cons _ (.cons _ (.refl _)),?_⟩;refine ⟨?_,congrArg (fun c=>HO.box bp 223 c::H) ?_⟩
  ·
   try simp only [Ag,Gy,cSyn,E7,Di,Bn,hc1,hc2,hc3,hc4,↓reduceIte,B0,Ce,Fg]
   try rfl
  try simp only [cP,Gy,hc1,hc2,hc3,hc4,↓reduceIte,B0,Ce,Fg]
  try rfl
 try simp only [Et,Fp] at hc4
 refine AW.ghost (GS.Aaq (H2:=_::_::_::_) 2 rfl (congrArg cP (Gw hc4)) rfl) ?_;refine Ad (Qp Cc ?_);refine Bt 0 Aq (_::_::_::_) (Ae (AW.region (Qp Bw ?_)));refine Rt (Dc rfl ((gH _ _ _ (by simpa using hS)).at (k:=2) (H2:=_::_::_::_) rfl rfl)) ?_;refine Qp Lm (Qp uM (Qp gX (Qp Cc ?_)));refine Bt 0 Aq (_::_::_::_) (Rk (Ad (AOL.Aan (A2 (k:=0) (l:=Aq) tok rfl rfl rfl rfl rfl) rfl rfl ?_)));refine Bt 1 Aq (_::_::_::_) (Rb ?_);refine ⟨.inr rfl,[.agg Aq],.cons (.box _ _ _ 1 _ _ _ _ rfl rfl rfl rfl rfl rfl) <| .nil,_,.cons _ (.cons _ (.refl _)),?_⟩;refine ⟨?_,congrArg (fun c=>HO.box bp 223 c::H) ?_⟩
 ·
  try simp only [Ag,Gy,cSyn,E7,Di,Bn,hc1,hc2,hc3,hc4,↓reduceIte,B0,Ce,Fg]
  try rfl
 try simp only [cP,Gy,hc1,hc2,hc3,hc4,↓reduceIte,B0,Ce,Fg]
 try rfl
theorem iZ (st:PS)(bp:Nat)(z:Syn)(bo:Nat)(hS:Pn st)(R:List HO):B5 Tryz.prog 329 (.box bp 223 (cP st) :: .box bo 25 (cSyn z)::R) [.val (.pointer (some ⟨bp,0,none⟩)),.val (.pointer (some ⟨bo,0,none⟩))] (fun r H'=>r = .tuple []∧H' = .box bp 223 (cP (nH st).2) :: .box bo 25 (cSyn { z with text:=(nH st).1.1,name:=(nH st).1.2 })::R):=by
 refine B5.body (n:=18) tok Tryz.func329 rfl rfl rfl ?_;refine Ad (Qp Bw ?_);refine Rt (Dc rfl ((D3 _ _ _ (by simpa using hS) (by decide)).at (k:=0) (H2:=_::_::_) rfl rfl)) ?_;refine Bs (Qp Bw (Qp Bw ?_));refine Rt (Dc rfl ((Ou _ _ (by simpa using hS)).at (k:=0) (H2:=_::_::_) rfl rfl)) ?_;refine Qp (Aj rfl) (Qp Cc ?_);refine Bt 1 Aq (_::_::_) (Bs (Qp Bw ?_));refine Rt (Dc rfl ((D3 _ _ _ (by simpa using hS) (by decide)).at (k:=0) (H2:=_::_::_) rfl rfl)) ?_;refine Ae (AW.region (Qp Bw (Qp Bw ?_)));refine Rt (Dc rfl ((Ou _ _ (by simpa using hS)).at (k:=0) (H2:=_::_::_) rfl rfl)) ?_;refine Qp (Aj rfl) (Qp Cc ?_);refine Bt 1 Aq (_::_::_) (AOL.nil ?_);refine ⟨.inl rfl,[],.nil,_,.refl _,?_⟩;exact ⟨rfl,rfl⟩


def Kj (a b:PS):Prop:=b.toks=a.toks∧a.pos≤b.pos∧b.depth=a.depth
theorem Kj.refl (a:PS):Kj a a:=⟨rfl,C6 _,rfl⟩
theorem Kj.trans {a b c:PS}(h:Kj a b)(k:Kj b c):Kj a c:=⟨k.1.trans h.1,Lq h.2.1 k.2.1,k.2.2.trans h.2.2⟩
theorem Kj.adv (a:PS):Kj a (adv a):=⟨rfl,Nat.le_succ _,rfl⟩
theorem Kj.fail (e:Int)(a:PS):Kj a (Ge e a):=⟨L5 _ _,Nat.le_of_eq (Wz _ _).symm,Sb _ _⟩
theorem Kj.exp (w:A1)(a:PS):Kj a (C5 w a):=⟨Wy _ _,yL _ _,lM _ _⟩
theorem Kj.tok (k:Int)(a:PS):Kj a (Ez k a):=⟨Vq _ _,yD _ _,kK _ _⟩
def pD (a:PS):Prop:=0≤a.depth∧a.depth≤64
theorem Kj.rng {a b:PS}(h:Kj a b)(r:pD a):pD b:=by unfold pD;rw [h.2.2];exact r
theorem C7.goes {F:PS→Syn×PS}(h:C7 F){a:PS}(r:pD a):Kj a (F a).2:=h a r.1 r.2
theorem Kj.read {F:PS→Syn×PS}(h:C7 F){a b:PS}(r:pD a)(k:Kj a b):Kj a (F b).2:=k.trans (h.goes (k.rng r))
theorem C7.of {F:PS→Syn×PS}(h:∀st,pD st→Kj st (F st).2):C7 F:=fun st h0 h1=>h st ⟨h0,h1⟩

theorem P8 {F:PS→Syn×PS}(hF:C7 F):∀(n:Nat) (st:PS) (out:List Syn),pD st→Kj st (Kn F n st out).2
  | 0,st,out,r=>.refl _
  | n+1,st,out,r=>by
    unfold Kn;split
    · have h:=Kj.read hF r (.adv st)
      exact h.trans (P8 hF n _ _ (h.rng r))
    exact .refl _
theorem eE {F:PS→Syn×PS}(hF:C7 F){st:PS}(r:pD st):Kj st (Uq F st).2:=by
 have h:=hF.goes r;exact h.trans (P8 hF _ _ _ (h.rng r))
theorem Zm (st:PS):Kj st (Gy st).2:=by
 unfold Gy;split
 · exact (Kj.adv _).trans (.tok _ _)
 split
 · exact .tok _ _
 split
 · exact .adv _
 split
 · exact .adv _
 exact .tok _ _
theorem fine_const:C7 Gy:=.of fun st _=>Zm st
theorem aF (st:PS):Kj st (nH st).2:=((((Kj.exp _ _).trans (.tok _ _)).trans (.exp _ _)).trans (.tok _ _))
@[simp] theorem okS_insP (st : PS) : Pn (nH st).2 ↔ Pn st := M8 (aF st).1
@[simp] theorem okS_constP (st : PS) : Pn (Gy st).2 ↔ Pn st := M8 (Zm st).1
theorem eG {n:Int}(h0 : -1000≤n)(h1:n≤1000):IntKind.i64.wrap n=n:=by
 unfold IntKind.wrap IntKind.signed IntKind.bits;simp only [↓reduceIte,K5,Hi,ge_iff_le];split <;> omega
theorem Wc {read:Syn→PS→Syn×PS}{z:Syn}{st:PS}(r:pD st)(h:∀s:PS,pD s→Kj s (read z s).2):Kj st (Nw read z st).2:=by
 have hf:Kj st (I4 st):=by
  unfold I4;split
  · exact .fail _ _
  exact .refl _
 have e0:Nw read z st=if ((I4 st).bad != 0) then (z,I4 st) else ((read z (adv (Kb st))).1,Kq (read z (adv (Kb st))).2):=rfl
 rw [e0];split
 · exact hf
 rename_i hb;by_cases hd:64≤st.depth
 ·
  exfalso
  apply hb
  unfold I4;rw [if_pos (decide_eq_true hd)];exact Yx (by decide) _
 have e1:(Kb st).depth=st.depth+1:=eG (by have:=r.1;omega) (by omega);have k:=h (adv (Kb st)) ⟨show 0≤(Kb st).depth by rw [e1];have:=r.1;omega,show (Kb st).depth≤64 by rw [e1];omega⟩;refine ⟨k.1,Lq (Nat.le_succ _) k.2.1,?_⟩;show IntKind.i64.wrap ((read z (adv (Kb st))).2.depth-1)=st.depth;rw [k.2.2,show (adv (Kb st)).depth=(Kb st).depth from rfl,e1,eG (by have:=r.1;omega) (by omega)];omega
theorem dI {E:PS→Syn×PS}(hE:C7 E):C7 (Jd E):=.of fun st r=>by
 unfold Jd;split
 · exact Wc r fun s r=>(hE.goes r).trans (.exp _ _)
 split
 ·
  simp only;have h:=((Kj.adv st).trans (aF _)).trans (.exp Dg _);exact (h.trans (fine_const.goes (h.rng r))).trans (.exp _ _)
 split
 · exact ((Kj.adv st).trans (aF _)).trans (.exp _ _)
 split
 · exact (((Kj.adv st).trans (.exp _ _)).trans (.tok _ _)).trans (.exp _ _)
 split
 ·
  simp only;split
  · exact ((Kj.tok _ _).trans (.exp _ _)).trans (.adv _)
  exact ((Kj.tok _ _).trans (.exp _ _)).trans (.tok _ _)
 exact fine_const.goes r
theorem Tx {F:PS→Syn×PS}(hF:C7 F){sg:List (A1×Int)}:∀(n:Nat) (st:PS) (out:Syn),pD st→Kj st (Oe F sg n st out).2
  | 0,st,out,r=>.refl _
  | n+1,st,out,r=>by
    unfold Oe;split
    · have h:=Kj.read hF r (.adv st)
      exact h.trans (Tx hF n _ _ (h.rng r))
    exact .refl _
theorem Ol {F:PS→Syn×PS}(hF:C7 F)(sg:List (A1×Int)):C7 (Q3 F sg):=.of fun st r=>by
 have h:=hF.goes r;exact h.trans (Tx hF _ _ _ (h.rng r))
theorem aG {E:PS→Syn×PS}(hE:C7 E):C7 (Wp E):=Ol (dI hE) sumL
theorem wO {E:PS→Syn×PS}(hE:C7 E):C7 (Ot E):=.of fun st r=>by
 have h:=(aG hE).goes r;have h2:=(h.trans (.adv _)).trans ((aG hE).goes ((h.trans (.adv _)).rng r));unfold Ot;simp only
 repeat' split
 all_goals first | exact h2 | exact h
theorem Qj {E N:PS→Syn×PS}(hE:C7 E)(hN:C7 N):C7 (X2 E N):=.of fun st r=>by
 unfold X2;split
 · exact (wO hE).goes r
 exact Wc r fun s r=>hN.goes r
theorem qV {E N:PS→Syn×PS}(hE:C7 E)(hN:C7 N):C7 (orP E N):=Ol (Ol (Qj hE hN) andL) orL
theorem G7:C7 E4:=.of fun st _=>.refl _
theorem Jt:∀n,C7 (S1 n).1∧C7 (S1 n).2
 | 0=>⟨Qj G7 G7,qV G7 G7⟩
 | n+1=>⟨Qj (Jt n).2 (Jt n).1,qV (Jt n).2 (Jt n).1⟩
theorem aS {E:PS→Syn×PS}(hE:C7 E):C7 (K6 E):=.of fun st r=>by
 have h:Kj st (Ez 0 (Ez 0 st)):=(Kj.tok _ _).trans (.tok _ _);unfold K6;simp only;split
 · exact Kj.read hE r (h.trans (.adv _))
 exact h
theorem Aac {T:PS→Syn×PS}(hT:C7 T)(z:Syn){st:PS}(r:pD st):Kj st (lR T z st).2:=by
 have h:=Kj.read hT r (.exp Dg st);exact h.trans (P8 hT _ _ _ (h.rng r))
theorem dA {E T:PS→Syn×PS}(hE:C7 E)(hT:C7 T)(k:Int)(z:Syn){st:PS}(r:pD st):Kj st (Ho E T k z st).2:=by
 unfold Ho;split
 · exact Aac hT z r
 split
 · exact .refl _
 split
 · exact Kj.read (aS hE) r (.exp _ _)
 split
 · exact (Kj.exp _ _).trans (.tok _ _)
 exact Kj.read hE r (.exp _ _)
theorem iQ {E T:PS→Syn×PS}(hE:C7 E)(hT:C7 T):C7 (bN E T):=.of fun st r=>by
 unfold bN;split
 ·
  refine Wc r fun s r=>?_
  have h:=Kj.read hT r (.exp F9 s);exact (h.trans (dA hE hT _ _ (h.rng r))).trans (.exp _ _)
 exact (aS hE).goes r
theorem Vu {E:PS→Syn×PS}(hE:C7 E):∀n,C7 (sO E n)
 | 0=>iQ hE G7
 | n+1=>iQ hE (Vu hE n)
theorem kW (st:PS)(k:Int):Kj st (nZ st k).2:=by
 unfold nZ;split
 · exact (Kj.adv _).trans (.tok _ _)
 exact .refl _
theorem oM {E T:PS→Syn×PS}(hE:C7 E)(hT:C7 T):C7 (H9 E T):=.of fun st r=>by
 have h1:Kj st (C5 Ij (nZ (Ez 0 (C5 Hr st)) (Dj st)).2):=(((Kj.exp _ _).trans (.tok _ _)).trans (kW _ _)).trans (.exp _ _);have h2:=(Kj.read hT r h1).trans (.exp Hw _);exact (h2.trans (eE hE (h2.rng r))).trans (.exp _ _)
end Go.Proofs.YtckhoadldibflaaGreatDoor
