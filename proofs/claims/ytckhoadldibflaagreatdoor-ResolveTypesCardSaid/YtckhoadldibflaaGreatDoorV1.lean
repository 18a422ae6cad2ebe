/-
  Walks of the parser: its first steps. No condition.
-/
import Derived.Test.YtckhoadldibflaaGreatDoorK01
import Derived.Test.YtckhoadldibflaaGreatDoorK07
import Derived.Test.YtckhoadldibflaaGreatDoorK02
import Derived.KernelRfl
namespace Go.Proofs.YtckhoadldibflaaGreatDoor
open Go Go.Aw
set_option maxHeartbeats 400000
set_option maxRecDepth 20000
set_option linter.unusedVariables false
set_option linter.unusedSimpArgs false

def okT (l:List Tok):Prop:=l.length≤1048576∧∀t∈l,t.text.length≤1048576
def Ly (st:PS):Prop:=okT st.toks
theorem lX {st:PS}(h:st.pos<st.toks.length):st.toks[st.pos]? = some (Xd st):=by
 simp [Xd,List.getD_eq_getElem?_getD,List.getElem?_eq_getElem h]
theorem Pk {st:PS}(h:st.pos<st.toks.length):(st.toks.map Ym)[st.pos]? = some (cTok (Xd st)):=by rw [List.getElem?_map,lX h];rfl
theorem Yv {st:PS}(h:Ly st)(hp:st.pos<st.toks.length):(Xd st).text.length≤1048576:=h.2 _ (List.mem_of_getElem? (lX hp))
theorem Sy {st:PS}(h:endP st=false):st.pos<st.toks.length:=by
 unfold endP at h
 rw [Bool.or_eq_false_iff,decide_eq_false_iff_not] at h
 omega
theorem Rq {w:Aq}{st:PS}(h:Im w st=true):st.pos<st.toks.length:=by
 unfold Im at h
 cases he:endP st with
 | true=>rw [he] at h;cases h
 | false=>exact Sy he
theorem lN {k:Int}{st:PS}(h:Pf k st=true):st.pos<st.toks.length:=by
 unfold Pf at h
 cases he:endP st with
 | true=>rw [he] at h;cases h
 | false=>exact Sy he
theorem uP {w:Aq}{st:PS}(h:¬Jo [((st.bad==0),true)]):st=Kr w st:=by
 have hb:(st.bad==0)=false:=by
  cases hq:(st.bad==0) with
  | false=>rfl
  | true=>exact absurd (fun p hp=>by simp only [List.mem_singleton] at hp;subst hp;exact hq) h
 have:Im w st=false:=by
  unfold Im endP
  have:(st.bad != 0)=true:=by simp only [bne,hb];rfl
  rw [this];rfl
 unfold Kr;rw [this];rfl
theorem Ey {w:Aq}{st:PS}(h:Im w st=false):Kr w st=st:=by unfold Kr;rw [h];rfl
theorem sP {a b:Bool}(h:(a&&b)=true):b=true:=by rw [Bool.and_eq_true] at h;exact h.2
theorem xO {k:Int}{st:PS}(h:Ly st):(Fv k st).length≤1048576:=by
 unfold Fv
 cases hn:Pf k st with
 | true=>exact Yv h (lN hn)
 | false=>exact Nat.zero_le _
theorem toks_adv (st:PS):(adv st).toks=st.toks:=rfl
theorem toks_deep (st:PS):(Hu st).toks=st.toks:=rfl
theorem tU (st:PS):(Id st).toks=st.toks:=rfl
theorem Jp (e:Int)(st:PS):(Eo e st).toks=st.toks:=by unfold Eo;split <;> rfl
theorem Qk (w:Aq)(st:PS):(Kr w st).toks=st.toks:=by unfold Kr;split <;> rfl
theorem Rc (w:Aq)(st:PS):(Cg w st).toks=st.toks:=by unfold Cg;split;exact Jp _ _;exact Qk _ _
theorem Ri (k:Int)(st:PS):(Dm k st).toks=st.toks:=by unfold Dm;split;rfl;exact Jp _ _
theorem J8 {a b:PS}(h:a.toks=b.toks):Ly a↔Ly b:=by unfold Ly;rw [h]
@[simp] theorem okS_adv (st : PS) : Ly (adv st) ↔ Ly st := J8 rfl
@[simp] theorem okS_deep (st : PS) : Ly (Hu st) ↔ Ly st := J8 rfl
@[simp] theorem okS_shallow (st : PS) : Ly (Id st) ↔ Ly st := J8 rfl
@[simp] theorem okS_failP (e : Int) (st : PS) : Ly (Eo e st) ↔ Ly st := J8 (Jp _ _)
@[simp] theorem okS_accP (w : Aq) (st : PS) : Ly (Kr w st) ↔ Ly st := J8 (Qk _ _)
@[simp] theorem okS_expP (w : Aq) (st : PS) : Ly (Cg w st) ↔ Ly st := J8 (Rc _ _)
@[simp] theorem okS_tokP (k : Int) (st : PS) : Ly (Dm k st) ↔ Ly st := J8 (Ri _ _)

theorem If (st:PS)(bp:Nat):Bd Tryz.prog 158 bp 223 (cP st) (cP (st)) [.val (.pointer (some ⟨bp,0,none⟩))] (.int .i64 (Ct st)):=by
 intro H
 refine Bw.body (n:=28) tok Tryz.func158 rfl rfl rfl ?_
 refine Ad (Qp A0 (Aa (AW.seq (AW.seq ?_))))
 refine AW.draw mixed (fun H'=>_∈H') (List.mem_of_getElem? (i:=0) rfl) (by kernel_rfl) ?_
 refine Qn 0 rfl Br ?_
 refine Qn 1 rfl (Ak rfl) ?_
 refine Qn 2 rfl Cb ?_
 refine Qn 3 rfl (OpP.Aas (fun k=>Aj (k:=k) (c:=Iq _) tok rfl rfl rfl rfl) (fun _ h=>h)) ?_
 refine Qn 4 rfl Br ?_
 refine Qn 5 rfl (Ak rfl) ?_
 refine Qn 6 rfl Cb ?_
 refine Qn 7 rfl (OpP.Aas (fun k=>Aj (k:=k) (c:=.sl _ _) tok rfl rfl rfl rfl) (fun _ h=>h)) ?_
 refine Qn 8 rfl (Ax (n:=st.toks.length) tok rfl rfl rfl (by simp)) ?_
 refine Qn 9 rfl B7 ?_
 refine Hs.done _ _ (by kernel_rfl) ?_
 refine Af (Au (fun hc1=>?_) fun hc1=>?_)
 ·
  try simp only [Bool.not_eq_true',Bool.not_eq_false'] at hc1
  have hlt:st.pos<st.toks.length:=by simpa using hc1
  refine AW.seq ?_
  refine AW.draw mixed (fun H'=>_∈H') (List.mem_of_getElem? (i:=0) rfl) (by kernel_rfl) ?_
  refine Qn 0 rfl Br ?_
  refine Qn 1 rfl (Ak rfl) ?_
  refine Qn 2 rfl Cb ?_
  refine Qn 3 rfl (OpP.Aas (fun k=>Aj (k:=k) (c:=.sl _ _) tok rfl rfl rfl rfl) (fun _ h=>h)) ?_
  refine Qn 4 rfl Br ?_
  refine Qn 5 rfl (Ak rfl) ?_
  refine Qn 6 rfl Cb ?_
  refine Qn 7 rfl (OpP.Aas (fun k=>Aj (k:=k) (c:=Iq _) tok rfl rfl rfl rfl) (fun _ h=>h)) ?_
  refine Qn 8 rfl (Ag (c:=[Iq _,.str _,Iq _]) tok rfl rfl rfl rfl rfl rfl (by omega) (Pk hlt)) ?_
  refine Qn 9 rfl (Qf [Iq _]) (Qn 10 rfl Bt (Qn 11 rfl A0 ?_))
  refine Hs.done _ _ (by kernel_rfl) ?_
  refine Af (Cx ?_)
  refine ⟨.inr rfl,[Iq _],.cons (.tmp _ _ rfl) <| .nil,_,.refl _,?_⟩
  refine ⟨?_,congrArg (fun c=>HO.box bp 223 c::H) ?_⟩
  ·
   try simp only [Ae,Ct,cSyn,List.map_cons,List.map_nil,Bi,hc1,↓reduceIte,Bool.false_eq_true,Bool.not_true,Bool.not_false]
   try rfl
  ·
   try simp only [cP,Ct,hc1,↓reduceIte,Bool.false_eq_true,Bool.not_true,Bool.not_false]
   try rfl
 ·
  try simp only [Bool.not_eq_true',Bool.not_eq_false'] at hc1
  refine Bl (Ad (Qp Br ?_))
  refine Qp (Ak rfl) ?_
  refine Qp Cb ?_
  refine AOL.Aaq (Aj (k:=0) (c:=Iq _) tok rfl rfl rfl rfl) rfl rfl ?_
  refine Qp A0 (Aa (AW.ret ?_))
  refine ⟨.inr rfl,[Iq _],.cons (.tmp _ _ rfl) <| .nil,_,.refl _,?_⟩
  refine ⟨?_,congrArg (fun c=>HO.box bp 223 c::H) ?_⟩
  ·
   try simp only [Ae,Ct,cSyn,List.map_cons,List.map_nil,Bi,hc1,↓reduceIte,Bool.false_eq_true,Bool.not_true,Bool.not_false]
   try rfl
  ·
   try simp only [cP,Ct,hc1,↓reduceIte,Bool.false_eq_true,Bool.not_true,Bool.not_false]
   try rfl
theorem tH (st:PS)(bp:Nat)(w:Aq)(hS:Ly st)(hw:w.length≤1048576):Bd Tryz.prog 156 bp 223 (cP st) (cP (st)) [.val (.pointer (some ⟨bp,0,none⟩)),.str w] (.bool (Im w st)):=by
 intro H
 refine Bw.body (n:=51) tok Tryz.func156 rfl rfl rfl ?_
 refine Ad (Qp A3 (Aa (AW.seq (AW.seq ?_))))
 refine AW.draw mixed (fun H'=>_∈H') (List.mem_of_getElem? (i:=0) rfl) (by kernel_rfl) ?_
 refine Qn 0 rfl Br ?_
 refine Qn 1 rfl (Ak rfl) ?_
 refine Qn 2 rfl Cb ?_
 refine Qn 3 rfl (OpP.Aas (fun k=>Aj (k:=k) (c:=Iq _) tok rfl rfl rfl rfl) (fun _ h=>h)) ?_
 refine Qn 4 rfl B9 (Qn 5 rfl Bq (Qo 6 rfl [] Qw Br ?_))
 refine Hs.pure _ _ 7 _ _ rfl (by kernel_rfl) (by kernel_rfl) rfl (.opt _ (.val _) [(12,_)] rfl (iB.all ⟨Ent.Aao _ _,trivial⟩) (fun hG=>Ak rfl) rfl) ?_
 refine Qo 8 rfl [(13,_)] Qw Cb ?_
 refine Hs.pure _ _ 9 _ _ rfl (by kernel_rfl) (by kernel_rfl) rfl (.opt _ (Iq _) [(14,_)] rfl (iB.all ⟨Ent.Aao _ _,trivial⟩) (fun hG=>OpP.Aas (fun k=>Aj (k:=k) (c:=Iq _) tok rfl rfl rfl rfl) (fun _ h=>h)) rfl) ?_
 refine Qo 10 rfl [] Qw Br ?_
 refine Hs.pure _ _ 11 _ _ rfl (by kernel_rfl) (by kernel_rfl) rfl (.opt _ (.val _) [(16,_)] rfl (iB.all ⟨Ent.Aao _ _,trivial⟩) (fun hG=>Ak rfl) rfl) ?_
 refine Qo 12 rfl [(17,_)] Qw Cb ?_
 refine Hs.pure _ _ 13 _ _ rfl (by kernel_rfl) (by kernel_rfl) rfl (.opt _ (.sl _ _) [(18,_)] rfl (iB.all ⟨Ent.Aao _ _,trivial⟩) (fun hG=>OpP.Aas (fun k=>Aj (k:=k) (c:=.sl _ _) tok rfl rfl rfl rfl) (fun _ h=>h)) rfl) ?_
 refine Hs.pure _ _ 14 _ _ rfl (by kernel_rfl) (by kernel_rfl) rfl (.opt _ (Iq _) [(19,_)] rfl (iB.all ⟨Ent.Aao _ _,trivial⟩) (fun hG=>Ax (n:=st.toks.length) tok rfl rfl rfl (by simp)) rfl) ?_
 refine Hs.pure _ _ 15 _ _ rfl (by kernel_rfl) (by kernel_rfl) rfl (.opt _ (.bool _) [(15,_),(20,_)] rfl (iB.all ⟨Ent.Aao _ _,Ent.Aao _ _,trivial⟩) (fun hG=>oR rfl rfl) rfl) ?_
 refine Qn 16 rfl Cy ?_
 refine Hs.done _ _ (by kernel_rfl) ?_
 refine Af (Au (fun hc1=>?_) fun hc1=>?_)
 ·
  try simp only [Bool.not_eq_true',Bool.not_eq_false'] at hc1
  refine Ad (Qp A3 (Aa (Cx ?_)))
  refine ⟨.inr rfl,[.bool _],.cons (.tmp _ _ rfl) <| .nil,_,.refl _,?_⟩
  refine ⟨?_,congrArg (fun c=>HO.box bp 223 c::H) ?_⟩
  ·
   try simp only [Ae,Im,endP,cSyn,List.map_cons,List.map_nil,Bi,hc1,↓reduceIte,Bool.false_eq_true,Bool.not_true,Bool.not_false]
   try rfl
  ·
   try simp only [cP,Im,endP,hc1,↓reduceIte,Bool.false_eq_true,Bool.not_true,Bool.not_false]
   try rfl
 ·
  try simp only [Bool.not_eq_true',Bool.not_eq_false'] at hc1
  have hlt:=Sy (st:=st) hc1
  refine Bl (AW.seq ?_)
  refine AW.draw mixed (fun H'=>_∈H') (List.mem_of_getElem? (i:=0) rfl) (by kernel_rfl) ?_
  refine Qn 0 rfl Br ?_
  refine Qn 1 rfl (Ak rfl) ?_
  refine Qn 2 rfl Cb ?_
  refine Qn 3 rfl (OpP.Aas (fun k=>Aj (k:=k) (c:=.sl _ _) tok rfl rfl rfl rfl) (fun _ h=>h)) ?_
  refine Qn 4 rfl Br ?_
  refine Qn 5 rfl (Ak rfl) ?_
  refine Qn 6 rfl Cb ?_
  refine Qn 7 rfl (OpP.Aas (fun k=>Aj (k:=k) (c:=Iq _) tok rfl rfl rfl rfl) (fun _ h=>h)) ?_
  refine Qn 8 rfl (Ag (c:=[Iq _,.str _,Iq _]) tok rfl rfl rfl rfl rfl rfl (by omega) (Pk hlt)) ?_
  refine Qn 9 rfl (B2 [Iq _,.str _,Iq _]) ?_
  refine Hs.eff _ _ 10 _ _ rfl (by kernel_rfl) rfl rfl (An (l:=[.int .i64 0,.str [],.int .i64 0]) (by kernel_rfl)) (by rintro _ _ ⟨b5,rfl,rfl⟩;simp) ?_
  rintro _ _ ⟨b5,rfl,rfl⟩
  refine Hs.last _ _ 11 _ _ rfl (by kernel_rfl) rfl rfl (Be (k:=0) (v:=.agg _) (cs':=[Iq _,.str _,Iq _]) (H2:=_::_::_) tok rfl rfl rfl rfl (rfl) rfl rfl rfl rfl) (by kernel_rfl) ?_
  rintro _ _ ⟨rfl,rfl⟩
  refine Af ?_
  refine AW.ghost (GS.freeze (t:=5) 0 rfl rfl) ?_
  refine Ad (Qp (Qf [.str _,Iq _]) (Qp Df (Qp Dh ?_)))
  refine Qp (A5 rfl rfl) ?_
  refine Qp Bq (Qg [] Qw (Qf [Iq _,.str _,Iq _]) (Qg [(38,_)] Qw Bt (Qg [(39,_)] Qw Av (Qg [(40,_)] Qw Bq (Qg [] Qw (Qf [Iq _,.str _,Iq _]) (Qg [(42,_)] Qw Bt (Qg [(43,_)] Qw Av (Qg [(44,_)] Qw Bq (Qg [] Qw Dh ?_)))))))))
  refine Qg [(46,_)] Qw (Qc rfl (c22 w hw)) ?_
  refine Qg [(45,_),(47,_)] Qw Et (Qg [(41,_),(48,_)] Qw Cy (Qp Et (Qp A3 (Aa (AW.ret ?_)))))
  refine ⟨.inr rfl,[.bool _],.cons (.tmp _ _ rfl) <| .nil,_,.refl _,?_⟩
  refine ⟨?_,congrArg (fun c=>HO.box bp 223 c::H) ?_⟩
  ·
   try simp only [Ae,Im,endP,cSyn,List.map_cons,List.map_nil,Bi,hc1,↓reduceIte,Bool.false_eq_true,Bool.not_true,Bool.not_false]
   try rfl
  ·
   try simp only [cP,Im,endP,hc1,↓reduceIte,Bool.false_eq_true,Bool.not_true,Bool.not_false]
   try rfl
theorem C8 (st:PS)(bp:Nat)(w:Aq)(hS:Ly st)(hw:w.length≤1048576):Bd Tryz.prog 161 bp 223 (cP st) (cP (Kr w st)) [.val (.pointer (some ⟨bp,0,none⟩)),.str w] (.bool (Im w st)):=by
 intro H
 refine Bw.body (n:=16) tok Tryz.func161 rfl rfl rfl ?_
 refine Ad (Qp A3 (Aa (AW.seq (Ad (Qp Br (Qp Dh ?_))))))
 refine AOL.Aaq (Ce (k:=0) (by kernel_rfl) rfl rfl (tH _ _ _ (by simpa using hS) (by first | assumption | decide))) rfl rfl ?_
 refine Qp Fz (Aa (Au (fun hc1=>?_) fun hc1=>?_))
 ·
  try simp only [Bool.not_eq_true',Bool.not_eq_false'] at hc1
  refine Ad (Qp A3 (Aa (Cx ?_)))
  refine ⟨.inr rfl,[.bool _],.cons (.tmp _ _ rfl) <| .nil,_,.refl _,?_⟩
  refine ⟨?_,congrArg (fun c=>HO.box bp 223 c::H) ?_⟩
  ·
   try simp only [Ae,Kr,cSyn,List.map_cons,List.map_nil,Bi,hc1,↓reduceIte,Bool.false_eq_true,Bool.not_true,Bool.not_false]
   try rfl
  ·
   try simp only [cP,Kr,hc1,↓reduceIte,Bool.false_eq_true,Bool.not_true,Bool.not_false]
   try rfl
 ·
  try simp only [Bool.not_eq_true',Bool.not_eq_false'] at hc1
  have hlt:=Rq (w:=w) (st:=st) hc1
  have hml:=hS.1
  refine Bl (Ad (Qp Br ?_))
  refine Qp (Ak rfl) ?_
  refine Qp Cb ?_
  refine AOL.Aaq (Aj (k:=0) (c:=Iq _) tok rfl rfl rfl rfl) rfl rfl ?_
  refine Qp Ei ?_
  refine Qp (Ak rfl) ?_
  refine Qp Cb ?_
  refine B0 0 [_,Iq _,Iq _,Iq _,Iq _,Iq _] (_::_) ?_
  refine By (Qp A3 (Aa (AW.ret ?_)))
  refine ⟨.inr rfl,[.bool _],.cons (.tmp _ _ rfl) <| .nil,_,.refl _,?_⟩
  refine ⟨?_,congrArg (fun c=>HO.box bp 223 c::H) ?_⟩
  ·
   try simp only [Ae,Kr,cSyn,List.map_cons,List.map_nil,Bi,hc1,↓reduceIte,Bool.false_eq_true,Bool.not_true,Bool.not_false]
   try rfl
  ·
   try simp only [cP,Kr,hc1,↓reduceIte,Bool.false_eq_true,Bool.not_true,Bool.not_false]
   try rfl
theorem Xg (st:PS)(bp:Nat)(e:Int):Bd Tryz.prog 155 bp 223 (cP st) (cP (Eo e st)) [.val (.pointer (some ⟨bp,0,none⟩)),.int .i64 e] (.tuple []):=by
 intro H
 refine Bw.body (n:=18) tok Tryz.func155 rfl rfl rfl ?_
 refine Ad (Qp Br ?_)
 refine Qp (Ak rfl) ?_
 refine Qp Cb ?_
 refine AOL.Aaq (Aj (k:=0) (c:=Iq _) tok rfl rfl rfl rfl) rfl rfl ?_
 refine Qp Av (Aa (Au (fun hc1=>?_) fun hc1=>?_))
 ·
  try simp only [Bool.not_eq_true',Bool.not_eq_false'] at hc1
  refine AW.region (Qp Br (Qp Br (Qp A4 (Qp Br ?_))))
  refine AOL.Aaq (Ce (k:=0) (by kernel_rfl) rfl rfl (If _ _)) rfl rfl ?_
  refine Qp (Ak rfl) ?_
  refine Qp Cb ?_
  refine B0 0 [_,Iq _,Iq _,Iq _,Iq _,Iq _] (_::_) ?_
  refine Qp (Ak rfl) ?_
  refine Qp Cb ?_
  refine B0 0 [_,Iq _,Iq _,Iq _,Iq _,Iq _] (_::_) ?_
  refine AOL.nil ?_
  refine ⟨.inl rfl,[],.nil,_,.refl _,?_⟩
  refine ⟨?_,congrArg (fun c=>HO.box bp 223 c::H) ?_⟩
  ·
   try simp only [Ae,Eo,cSyn,List.map_cons,List.map_nil,Bi,hc1,↓reduceIte,Bool.false_eq_true,Bool.not_true,Bool.not_false]
   try rfl
  ·
   try simp only [cP,Eo,hc1,↓reduceIte,Bool.false_eq_true,Bool.not_true,Bool.not_false]
   try rfl
 ·
  try simp only [Bool.not_eq_true',Bool.not_eq_false'] at hc1
  refine AW.skip ?_
  refine ⟨.inl rfl,[],.nil,_,.refl _,?_⟩
  refine ⟨?_,congrArg (fun c=>HO.box bp 223 c::H) ?_⟩
  ·
   try simp only [Ae,Eo,cSyn,List.map_cons,List.map_nil,Bi,hc1,↓reduceIte,Bool.false_eq_true,Bool.not_true,Bool.not_false]
   try rfl
  ·
   try simp only [cP,Eo,hc1,↓reduceIte,Bool.false_eq_true,Bool.not_true,Bool.not_false]
   try rfl
theorem C5 (st:PS)(bp:Nat)(w:Aq)(hS:Ly st)(hw:w.length≤1048576):Bd Tryz.prog 159 bp 223 (cP st) (cP (Cg w st)) [.val (.pointer (some ⟨bp,0,none⟩)),.str w] (.tuple []):=by
 intro H
 refine Bw.body (n:=17) tok Tryz.func159 rfl rfl rfl ?_
 refine Ad (Qp Br ?_)
 refine Qp (Ak rfl) ?_
 refine Qp Cb ?_
 refine AOL.Aaq (Aj (k:=0) (c:=Iq _) tok rfl rfl rfl rfl) rfl rfl ?_
 refine Qp Av (Qp Bq (Qg [] Qw Br (Qg [] Qw Dh ?_)))
 refine AOL.ge _ [(10,_),(11,_)] rfl (iB.all ⟨Ent.Aao _ _,Ent.Aao _ _,trivial⟩) (fun hG=>Al (by kernel_rfl) rfl rfl ((C8 _ _ _ (by simpa using hS) (by first | assumption | decide)).at (k:=0) (H2:=_::_) rfl rfl)) (fun hG=>congrArg (fun s=>HO.box bp 223 (cP s)::H) (uP hG)) rfl ?_
 refine Qg [(12,_)] Qw Fz (Qp Et (Aa (Au (fun hc1=>?_) fun hc1=>?_)))
 ·
  try simp only [Bool.not_eq_true',Bool.not_eq_false'] at hc1
  refine AW.region (Qp Br ?_)
  refine Qe (Al (by kernel_rfl) rfl rfl ((Xg _ _ _).at (k:=0) (H2:=_::_) rfl rfl)) ?_
  rintro _ _ ⟨rfl,rfl⟩
  refine AOL.nil ?_
  refine ⟨.inl rfl,[],.nil,_,.refl _,?_⟩
  refine ⟨?_,congrArg (fun c=>HO.box bp 223 c::H) ?_⟩
  ·
   try simp only [Ae,Cg,cSyn,List.map_cons,List.map_nil,Bi,hc1,↓reduceIte,Bool.false_eq_true,Bool.not_true,Bool.not_false]
   try rfl
  ·
   try simp only [cP,Cg,Ey (by simpa using sP hc1),hc1,↓reduceIte,Bool.false_eq_true,Bool.not_true,Bool.not_false]
   try rfl
 ·
  try simp only [Bool.not_eq_true',Bool.not_eq_false'] at hc1
  refine AW.skip ?_
  refine ⟨.inl rfl,[],.nil,_,.refl _,?_⟩
  refine ⟨?_,congrArg (fun c=>HO.box bp 223 c::H) ?_⟩
  ·
   try simp only [Ae,Cg,cSyn,List.map_cons,List.map_nil,Bi,hc1,↓reduceIte,Bool.false_eq_true,Bool.not_true,Bool.not_false]
   try rfl
  ·
   try simp only [cP,Cg,hc1,↓reduceIte,Bool.false_eq_true,Bool.not_true,Bool.not_false]
   try rfl
theorem dD (st:PS)(bp:Nat)(k:Int)(hS:Ly st):Bd Tryz.prog 280 bp 223 (cP st) (cP (st)) [.val (.pointer (some ⟨bp,0,none⟩)),.int .i64 k] (.bool (Pf k st)):=by
 intro H
 refine Bw.body (n:=47) tok Tryz.func280 rfl rfl rfl ?_
 refine Ad (Qp A3 (Aa (AW.seq (AW.seq ?_))))
 refine AW.draw mixed (fun H'=>_∈H') (List.mem_of_getElem? (i:=0) rfl) (by kernel_rfl) ?_
 refine Qn 0 rfl Br ?_
 refine Qn 1 rfl (Ak rfl) ?_
 refine Qn 2 rfl Cb ?_
 refine Qn 3 rfl (OpP.Aas (fun k=>Aj (k:=k) (c:=Iq _) tok rfl rfl rfl rfl) (fun _ h=>h)) ?_
 refine Qn 4 rfl B9 (Qn 5 rfl Bq (Qo 6 rfl [] Qw Br ?_))
 refine Hs.pure _ _ 7 _ _ rfl (by kernel_rfl) (by kernel_rfl) rfl (.opt _ (.val _) [(12,_)] rfl (iB.all ⟨Ent.Aao _ _,trivial⟩) (fun hG=>Ak rfl) rfl) ?_
 refine Qo 8 rfl [(13,_)] Qw Cb ?_
 refine Hs.pure _ _ 9 _ _ rfl (by kernel_rfl) (by kernel_rfl) rfl (.opt _ (Iq _) [(14,_)] rfl (iB.all ⟨Ent.Aao _ _,trivial⟩) (fun hG=>OpP.Aas (fun k=>Aj (k:=k) (c:=Iq _) tok rfl rfl rfl rfl) (fun _ h=>h)) rfl) ?_
 refine Qo 10 rfl [] Qw Br ?_
 refine Hs.pure _ _ 11 _ _ rfl (by kernel_rfl) (by kernel_rfl) rfl (.opt _ (.val _) [(16,_)] rfl (iB.all ⟨Ent.Aao _ _,trivial⟩) (fun hG=>Ak rfl) rfl) ?_
 refine Qo 12 rfl [(17,_)] Qw Cb ?_
 refine Hs.pure _ _ 13 _ _ rfl (by kernel_rfl) (by kernel_rfl) rfl (.opt _ (.sl _ _) [(18,_)] rfl (iB.all ⟨Ent.Aao _ _,trivial⟩) (fun hG=>OpP.Aas (fun k=>Aj (k:=k) (c:=.sl _ _) tok rfl rfl rfl rfl) (fun _ h=>h)) rfl) ?_
 refine Hs.pure _ _ 14 _ _ rfl (by kernel_rfl) (by kernel_rfl) rfl (.opt _ (Iq _) [(19,_)] rfl (iB.all ⟨Ent.Aao _ _,trivial⟩) (fun hG=>Ax (n:=st.toks.length) tok rfl rfl rfl (by simp)) rfl) ?_
 refine Hs.pure _ _ 15 _ _ rfl (by kernel_rfl) (by kernel_rfl) rfl (.opt _ (.bool _) [(15,_),(20,_)] rfl (iB.all ⟨Ent.Aao _ _,Ent.Aao _ _,trivial⟩) (fun hG=>oR rfl rfl) rfl) ?_
 refine Qn 16 rfl Cy ?_
 refine Hs.done _ _ (by kernel_rfl) ?_
 refine Af (Au (fun hc1=>?_) fun hc1=>?_)
 ·
  try simp only [Bool.not_eq_true',Bool.not_eq_false'] at hc1
  refine Ad (Qp A3 (Aa (Cx ?_)))
  refine ⟨.inr rfl,[.bool _],.cons (.tmp _ _ rfl) <| .nil,_,.refl _,?_⟩
  refine ⟨?_,congrArg (fun c=>HO.box bp 223 c::H) ?_⟩
  ·
   try simp only [Ae,Pf,endP,cSyn,List.map_cons,List.map_nil,Bi,hc1,↓reduceIte,Bool.false_eq_true,Bool.not_true,Bool.not_false]
   try rfl
  ·
   try simp only [cP,Pf,endP,hc1,↓reduceIte,Bool.false_eq_true,Bool.not_true,Bool.not_false]
   try rfl
 ·
  try simp only [Bool.not_eq_true',Bool.not_eq_false'] at hc1
  have hlt:=Sy (st:=st) hc1
  refine Bl (AW.seq ?_)
  refine AW.draw mixed (fun H'=>_∈H') (List.mem_of_getElem? (i:=0) rfl) (by kernel_rfl) ?_
  refine Qn 0 rfl Br ?_
  refine Qn 1 rfl (Ak rfl) ?_
  refine Qn 2 rfl Cb ?_
  refine Qn 3 rfl (OpP.Aas (fun k=>Aj (k:=k) (c:=.sl _ _) tok rfl rfl rfl rfl) (fun _ h=>h)) ?_
  refine Qn 4 rfl Br ?_
  refine Qn 5 rfl (Ak rfl) ?_
  refine Qn 6 rfl Cb ?_
  refine Qn 7 rfl (OpP.Aas (fun k=>Aj (k:=k) (c:=Iq _) tok rfl rfl rfl rfl) (fun _ h=>h)) ?_
  refine Qn 8 rfl (Ag (c:=[Iq _,.str _,Iq _]) tok rfl rfl rfl rfl rfl rfl (by omega) (Pk hlt)) ?_
  refine Qn 9 rfl (B2 [Iq _,.str _,Iq _]) ?_
  refine Hs.eff _ _ 10 _ _ rfl (by kernel_rfl) rfl rfl (An (l:=[.int .i64 0,.str [],.int .i64 0]) (by kernel_rfl)) (by rintro _ _ ⟨b5,rfl,rfl⟩;simp) ?_
  rintro _ _ ⟨b5,rfl,rfl⟩
  refine Hs.last _ _ 11 _ _ rfl (by kernel_rfl) rfl rfl (Be (k:=0) (v:=.agg _) (cs':=[Iq _,.str _,Iq _]) (H2:=_::_::_) tok rfl rfl rfl rfl (rfl) rfl rfl rfl rfl) (by kernel_rfl) ?_
  rintro _ _ ⟨rfl,rfl⟩
  refine Af ?_
  refine AW.ghost (GS.freeze (t:=5) 0 rfl rfl) ?_
  refine Ad (Qp (Qf [Iq _,.str _,Iq _]) (Qp Bt (Qp A4 (Qp Av (Qp Bq (Qg [] Qw A4 (Qg [(38,_)] Qw B9 (Qg [(39,_)] Qw Bq (Qg [] Qw (Qf [.str _,Iq _]) ?_)))))))))
  refine Qg [(41,_)] Qw Df ?_
  refine Qg [(42,_)] Qw (Qc rfl (c22 (Xd st).text (Yv hS hlt))) ?_
  refine Qg [(43,_)] Qw Fz (Qg [(40,_),(44,_)] Qw Cy (Qp Et (Qp A3 (Aa (AW.ret ?_)))))
  refine ⟨.inr rfl,[.bool _],.cons (.tmp _ _ rfl) <| .nil,_,.refl _,?_⟩
  refine ⟨?_,congrArg (fun c=>HO.box bp 223 c::H) ?_⟩
  ·
   try simp only [Ae,Pf,endP,cSyn,List.map_cons,List.map_nil,Bi,hc1,↓reduceIte,Bool.false_eq_true,Bool.not_true,Bool.not_false]
   try rfl
  ·
   try simp only [cP,Pf,endP,hc1,↓reduceIte,Bool.false_eq_true,Bool.not_true,Bool.not_false]
   try rfl
theorem Xb (st:PS)(bp:Nat)(k:Int)(hS:Ly st):Bd Tryz.prog 224 bp 223 (cP st) (cP (Dm k st)) [.val (.pointer (some ⟨bp,0,none⟩)),.int .i64 k] (.tuple [.str (Fv k st),.bool (Pf k st)]):=by
 intro H
 refine Bw.body (n:=31) tok Tryz.func224 rfl rfl rfl ?_
 refine Ad (Qp Db (Qp A3 (Aa (AW.seq (Ad (Qp Br (Qp A4 ?_)))))))
 refine AOL.Aaq (Ce (k:=0) (by kernel_rfl) rfl rfl (dD _ _ _ (by simpa using hS))) rfl rfl ?_
 refine Qp Fz (Aa (Au (fun hc1=>?_) fun hc1=>?_))
 ·
  try simp only [Bool.not_eq_true',Bool.not_eq_false'] at hc1
  refine Ad (Qp Br ?_)
  refine Qe (Al (by kernel_rfl) rfl rfl ((Xg _ _ _).at (k:=0) (H2:=_::_) rfl rfl)) ?_
  rintro _ _ ⟨rfl,rfl⟩
  refine By (Qp Db (Qp A3 (Aa (Cx ?_))))
  refine ⟨.inr rfl,[.str _,.bool _],.cons (.tmp _ _ rfl) <| .cons (.tmp _ _ rfl) <| .nil,_,.refl _,?_⟩
  refine ⟨?_,congrArg (fun c=>HO.box bp 223 c::H) ?_⟩
  ·
   try simp only [Ae,Dm,Fv,cSyn,List.map_cons,List.map_nil,Bi,hc1,↓reduceIte,Bool.false_eq_true,Bool.not_true,Bool.not_false]
   try rfl
  ·
   try simp only [cP,Dm,Fv,hc1,↓reduceIte,Bool.false_eq_true,Bool.not_true,Bool.not_false]
   try rfl
 ·
  try simp only [Bool.not_eq_true',Bool.not_eq_false'] at hc1
  have hlt:=lN (k:=k) (st:=st) hc1
  have hml:=hS.1
  refine Bl (Ad (Qp Br ?_))
  refine Qp (Ak rfl) ?_
  refine Qp Cb ?_
  refine AOL.Aaq (Aj (k:=0) (c:=Iq _) tok rfl rfl rfl rfl) rfl rfl ?_
  refine Qp Ei ?_
  refine Qp (Ak rfl) ?_
  refine Qp Cb ?_
  refine B0 0 [_,Iq _,Iq _,Iq _,Iq _,Iq _] (_::_) ?_
  refine Aa (AW.seq ?_)
  refine AW.draw mixed (fun H'=>_∈H') (List.mem_of_getElem? (i:=0) rfl) (by kernel_rfl) ?_
  refine Qn 0 rfl Br ?_
  refine Qn 1 rfl (Ak rfl) ?_
  refine Qn 2 rfl Cb ?_
  refine Qn 3 rfl (OpP.Aas (fun k=>Aj (k:=k) (c:=.sl _ _) tok rfl rfl rfl rfl) (fun _ h=>h)) ?_
  refine Qn 4 rfl Br ?_
  refine Qn 5 rfl (Ak rfl) ?_
  refine Qn 6 rfl Cb ?_
  refine Qn 7 rfl (OpP.Aas (fun k=>Aj (k:=k) (c:=Iq _) tok rfl rfl rfl rfl) (fun _ h=>h)) ?_
  refine Qn 8 rfl (oI rfl rfl rfl (by constructor <;> omega)) ?_
  refine Qn 9 rfl (Ag (c:=[Iq _,.str _,Iq _]) tok rfl rfl rfl rfl rfl rfl (by omega) (by rw [show ((st.pos:Int)+1-1).toNat=st.pos by omega];exact Pk hlt)) ?_
  refine Qn 10 rfl (Qf [.str _,Iq _]) (Qn 11 rfl Df (Qn 12 rfl Db (Qn 13 rfl A3 ?_)))
  refine Hs.done _ _ (by kernel_rfl) ?_
  refine Af (AW.ret ?_)
  refine ⟨.inr rfl,[.str _,.bool _],.cons (.tmp _ _ rfl) <| .cons (.tmp _ _ rfl) <| .nil,_,.refl _,?_⟩
  refine ⟨?_,congrArg (fun c=>HO.box bp 223 c::H) ?_⟩
  ·
   try simp only [Ae,Dm,Fv,cSyn,List.map_cons,List.map_nil,Bi,hc1,↓reduceIte,Bool.false_eq_true,Bool.not_true,Bool.not_false]
   try rfl
  ·
   try simp only [cP,Dm,Fv,hc1,↓reduceIte,Bool.false_eq_true,Bool.not_true,Bool.not_false]
   try rfl
theorem Lb (st:PS)(bp:Nat)  (hS:Ly st):Bd Tryz.prog 160 bp 223 (cP st) (cP (Dm 0 st)) [.val (.pointer (some ⟨bp,0,none⟩))] (.str (Fv 0 st)):=by
 intro H
 refine Bw.body (n:=11) tok Tryz.func160 rfl rfl rfl ?_
 refine Ad (Qp Db (By (Qp Br ?_)))
 refine Qe (Al (by kernel_rfl) rfl rfl ((Xb _ _ _ (by simpa using hS)).at (k:=0) (H2:=_::_) rfl rfl)) ?_
 rintro _ _ ⟨rfl,rfl⟩
 refine Qp L0 (Qp pP (Qp cF (Qp Db (Qp A3 (By (Qp Dh (Qp Db (Aa (AW.ret ?_)))))))))
 refine ⟨.inr rfl,[.str _],.cons (.tmp _ _ rfl) <| .nil,_,.refl _,?_⟩
 refine ⟨?_,congrArg (fun c=>HO.box bp 223 c::H) ?_⟩
 ·
  try simp only [Ae,cSyn,List.map_cons,List.map_nil,Bi,↓reduceIte,Bool.false_eq_true,Bool.not_true,Bool.not_false]
  try rfl
 ·
  try simp only [cP,↓reduceIte,Bool.false_eq_true,Bool.not_true,Bool.not_false]
  try rfl
theorem S8 (st:PS)(bp:Nat)  (hS:Ly st):Bd Tryz.prog 285 bp 223 (cP st) (cP (Dm 1 st)) [.val (.pointer (some ⟨bp,0,none⟩))] (.int .i64 (S7 st)):=by
 intro H
 refine Bw.body (n:=20) tok Tryz.func285 rfl rfl rfl ?_
 refine Ad (Qp A0 (By (Qp Br ?_)))
 refine Qe (Al (by kernel_rfl) rfl rfl ((Xb _ _ _ (by simpa using hS)).at (k:=0) (H2:=_::_) rfl rfl)) ?_
 rintro _ _ ⟨rfl,rfl⟩
 refine Qp L0 (Qp pP (Qp cF (Qp Db (Qp A3 (Aa (AW.seq (Ad (Qp Bq (Qp Fz ?_)))))))))
 refine Aa (Au (fun hc1=>?_) fun hc1=>?_)
 ·
  try simp only [Bool.not_eq_true',Bool.not_eq_false'] at hc1
  refine Ad (Qp A0 (Aa (Cx ?_)))
  refine ⟨.inr rfl,[Iq _],.cons (.tmp _ _ rfl) <| .nil,_,.refl _,?_⟩
  refine ⟨?_,congrArg (fun c=>HO.box bp 223 c::H) ?_⟩
  ·
   try simp only [Ae,S7,Fv,cSyn,List.map_cons,List.map_nil,Bi,hc1,↓reduceIte,Bool.false_eq_true,Bool.not_true,Bool.not_false]
   try rfl
  ·
   try simp only [cP,S7,Fv,hc1,↓reduceIte,Bool.false_eq_true,Bool.not_true,Bool.not_false]
   try rfl
 ·
  try simp only [Bool.not_eq_true',Bool.not_eq_false'] at hc1
  refine Bl (Ad (Qp Dh ?_))
  refine Qp (Qc rfl (c18 _ (xO hS))) ?_
  refine Qp L0 (Qp Jw (Qp Jw (Qp A0 (Qp A0 (By (Qp A4 (Qp A0 (Aa (AW.ret ?_)))))))))
  refine ⟨.inr rfl,[Iq _],.cons (.tmp _ _ rfl) <| .nil,_,.refl _,?_⟩
  refine ⟨?_,congrArg (fun c=>HO.box bp 223 c::H) ?_⟩
  ·
   try simp only [Ae,S7,Fv,cSyn,List.map_cons,List.map_nil,Bi,hc1,↓reduceIte,Bool.false_eq_true,Bool.not_true,Bool.not_false]
   try rfl
  ·
   try simp only [cP,S7,Fv,hc1,↓reduceIte,Bool.false_eq_true,Bool.not_true,Bool.not_false]
   try rfl

end Go.Proofs.YtckhoadldibflaaGreatDoor
