/-
  Several texts in one: V2, V3, V4, F12, W13a. No condition.
-/
import Derived.Test.YtckhoadldibflaaGreatDoorK01
import Derived.Test.YtckhoadldibflaaGreatDoorK03
import Derived.KernelRfl
import Derived.Test.YtckhoadldibflaaGreatDoorK02
set_option linter.unusedVariables false
set_option linter.unusedSimpArgs false
set_option maxHeartbeats 3200000
set_option maxRecDepth 20000
namespace Go.Proofs.YtckhoadldibflaaGreatDoor
open Go Go.Aw
theorem Fv {w:Ag}{st:PS}(h:Ea w st=true):Pb w st=adv st:=by unfold Pb;rw [h];rfl
def okD (D:Int)(st:PS):Prop:=Uw st/\D<=st.depth/\st.depth<=64
def Dh (F:PS->Syn×PS):Prop:=∀st,0<=st.depth->st.depth<=64->(F st).2.toks=st.toks/\st.pos<=(F st).2.pos/\(F st).2.depth=st.depth
theorem Xj (e:Int)(st:PS):(Hc e st).depth=st.depth:=by unfold Hc;split <;> rfl
theorem sE (w:Ag)(st:PS):(Pb w st).depth=st.depth:=by unfold Pb;split <;> rfl
theorem sF (w:Ag)(st:PS):(Ce w st).depth=st.depth:=by unfold Ce;split;exact Xj _ _;exact sE _ _
theorem sG (k:Int)(st:PS):(Ed k st).depth=st.depth:=by unfold Ed;split;rfl;exact Xj _ _
theorem dA {D:Int}{a b:PS}(h:a.toks=b.toks)(h2:a.depth=b.depth):okD D a↔okD D b:=by unfold okD Uw;rw [h,h2]
@[simp] theorem okD_adv (D : Int) (st : PS) : okD D (adv st) ↔ okD D st := dA rfl rfl
@[simp] theorem okD_failP (D : Int) (e : Int) (st : PS) : okD D (Hc e st) ↔ okD D st := dA (Qi _ _) (Xj _ _)
@[simp] theorem okD_accP (D : Int) (w : Ag) (st : PS) : okD D (Pb w st) ↔ okD D st := dA (dJ _ _) (sE _ _)
@[simp] theorem okD_expP (D : Int) (w : Ag) (st : PS) : okD D (Ce w st) ↔ okD D st := dA (dK _ _) (sF _ _)
@[simp] theorem okD_tokP (D : Int) (k : Int) (st : PS) : okD D (Ed k st) ↔ okD D st := dA (dL _ _) (sG _ _)
theorem Dh.okD {F:PS->Syn×PS}(h:Dh F){D:Int}(hD:0<=D){st:PS}(ho:okD D st):okD D (F st).2:=by
 obtain ⟨h1,h2,h3⟩:=ho;obtain ⟨k1,k2,k3⟩:=h st (by omega) h3;exact ⟨(Sh k1).2 h1,by omega,by omega⟩
theorem dD (e:Int)(st:PS):(Hc e st).pos=st.pos:=by unfold Hc;split <;> rfl
theorem pos_accP (w:Ag)(st:PS):st.pos<=(Pb w st).pos:=by
 unfold Pb;split
 . exact Nat.le_succ _
 exact Br _
theorem pos_expP (w:Ag)(st:PS):st.pos<=(Ce w st).pos:=by unfold Ce;split;exact Nat.le_of_eq (dD _ _).symm;exact pos_accP _ _
theorem pos_tokP (k:Int)(st:PS):st.pos<=(Ed k st).pos:=by unfold Ed;split;exact Nat.le_succ _;exact Nat.le_of_eq (dD _ _).symm
theorem Vd {e:Int}(he:e≠0)(st:PS):((Hc e st).bad != 0)=true:=by
 unfold Hc;split
 . simpa using he
 rename_i h;simpa using h
def H4 (st:PS):PS:=if decide (64<=st.depth) then Hc 12 st else st
theorem Pn {F:PS->Syn×PS}{n:Nat}{st:PS}{out:List Syn}(h:0<n):Ht F n st out=if Ea D1 st then Ht F (n-1) (F (adv st)).2 (out ++ [(F (adv st)).1]) else (out,st):=by
 obtain ⟨m,rfl⟩:∃m,n=m+1:=⟨n-1,by omega⟩;rfl
theorem Wd (l:List Syn):∀x∈l.map C6,A0 x=true:=zK fun a=>by rw [Bf];rfl
theorem K3 {es:List (List AV)}{out:List Syn}{t:Syn}(h:es=out.map C6):es ++ [cSyn t]=(out ++ [t]).map C6:=by rw [h,Dt,Wy,Bf]
theorem p_nested (st st2 st3:PS)(bp:Nat)(R R3:List HO)(f:Nat)(hf:Xq Tryz.prog f=true)(first cap:List AV)(hlt:st.pos<st.toks.length)(hS:Uw st)(hcl:(H4 st).bad=0->Cf Tryz.prog f (.box bp 223 (cP (adv (La st)))::R) (first ++ []++cap) (fun _ H'=>H' = .box bp 223 (cP st2)::R3/\st3=Km st2))(hno:(H4 st).bad≠0->st3=H4 st/\R3=R):Cf Tryz.prog 226 (.box bp 223 (cP st)::R) [.val (.pointer (some ⟨bp,0,none⟩)),.fn (.func f) first cap] (fun r H'=>r = .tuple []/\H' = .box bp 223 (cP st3)::R3):=by
 refine Jg 39 Tryz.func226 rfl ?_;refine B5 (Qp Bx ?_);refine Qp (Ad rfl) ?_;refine Qp Cw ?_;refine Sw 0 (Iq _) rfl ?_;refine Qp Kv (Bh (fun hc1=>?_) fun hc1=>?_)
 .
  try simp only [A4,Bd] at hc1
  refine AW.region (Qp Bx ?_);refine wX ((jZ _ _ _).at (k:=0) (H2:=_::_) rfl rfl) ?_;refine Ax (B5 (Qp Bx ?_));refine Qp (Ad rfl) ?_;refine Qp Cw ?_;refine Sw 0 (Iq _) rfl ?_;refine Qp Cb (Bh (fun hc2=>?_) fun hc2=>?_)
  .
   try simp only [A4,Bd] at hc2
   have hml:=hS.1;refine lW ?_;refine ⟨.inr rfl,[],.nil,_,.refl _,?_⟩;obtain ⟨e1,e2⟩:=hno (by unfold H4;rw [hc1];simpa using hc2);subst e1;subst e2;exact ⟨rfl,congrArg (fun s=>HO.box bp 223 (cP s)::R3) (by unfold H4;rw [hc1];rfl)⟩
  try simp only [A4,Bd] at hc2
  exact absurd ((Vd (e:=12) (by decide) st).symm.trans hc2) (by decide)
 try simp only [A4,Bd] at hc1
 refine B2 (B5 (Qp Bx ?_));refine Qp (Ad rfl) ?_;refine Qp Cw ?_;refine Sw 0 (Iq _) rfl ?_;refine Qp Cb (Bh (fun hc3=>?_) fun hc3=>?_)
 .
  try simp only [A4,Bd] at hc3
  refine lW ?_;refine ⟨.inr rfl,[],.nil,_,.refl _,?_⟩;obtain ⟨e1,e2⟩:=hno (by unfold H4;rw [hc1];simpa using hc3);subst e1;subst e2;exact ⟨rfl,congrArg (fun s=>HO.box bp 223 (cP s)::R3) (by unfold H4;rw [hc1];rfl)⟩
 try simp only [A4,Bd] at hc3
 have hml:=hS.1;have h9:(H4 st).bad=0:=by unfold H4;rw [hc1];simpa using hc3
 refine B2 (Aa (Qp Bx ?_));refine Qp (Ad rfl) ?_;refine Qp Cw ?_;refine Sw 0 (Iq _) rfl ?_;refine Qp (P_addw rfl rfl) ?_;refine Qp (Ad rfl) ?_;refine Qp Cw ?_;refine By 0 giy (_::_) ?_;refine B7 (Qp Bx ?_);refine Qp (Ad rfl) ?_;refine Qp Cw ?_;refine Sw 0 (Iq _) rfl ?_;refine Qp Gw ?_;refine Qp (Ad rfl) ?_;refine Qp Cw ?_;refine By 0 giy (_::_) ?_;refine B7 ?_;refine Qp (A1 (v:=.fn _ _ _) rfl) ?_;refine Qe (Lt hf rfl rfl rfl (hcl h9)) ?_;rintro _ _ ⟨rfl,h3⟩;refine Ax (AW.region (Qp Bx ?_));refine Qp (Ad rfl) ?_;refine Qp Cw ?_;refine Sw 0 (Iq _) rfl ?_;refine Qp (xC rfl rfl) ?_;refine Qp (Ad rfl) ?_;refine Qp Cw ?_;refine By 0 giy (_::_) ?_;refine AOL.nil ?_;refine ⟨.inl rfl,[],.nil,_,.refl _,?_⟩;subst h3;exact ⟨rfl,rfl⟩
theorem p_list (st:PS)(bp:Nat)(D:Int)(hD:0<=D)(f:Nat)(hf:Xq Tryz.prog f=true)(first cap:List AV)(F:PS->Syn×PS)(hF:Dh F)(hc:∀st,okD D st->Bk Tryz.prog f bp 223 (cP st) (cP (F st).2) (first ++ []++cap) (.agg (cSyn (F st).1)))(hO:okD D st):Bk Tryz.prog 163 bp 223 (cP st) (cP ((Po F st).2)) [.val (.pointer (some ⟨bp,0,none⟩)),.fn (.func f) first cap] (.sl 6 ((Po F st).1.map C6)):=by
 intro H;refine Jg 17 Tryz.func163 rfl ?_;refine Aa (Qp (B8 (z:=6) rfl) (B7 (Qp (A1 (v:=.fn _ _ _) rfl) (Rt (Lt (hf) rfl rfl rfl ((hc st hO).at (k:=0) (H2:=_::_) rfl rfl)) (Qe (Hv (es:=[Ai]) tok rfl rfl rfl rfl rfl rfl rfl rfl rfl) ?_)))));rintro _ _ ⟨v8,rfl,rfl⟩;refine Qp (Ba (v:=.row _ _ _) rfl) (Re (AW.block ?_));refine AW.Aad (fun (p:Nat×PS×List Syn×List (List AV)×Value)=>(⟨[(0,.val (.pointer (some ⟨bp,0,none⟩))),(1,.fn (.func f) first cap),(5,.row p.2.2.2.2 6 p.2.2.2.1)],.row p.2.2.2.2 p.2.2.2.1.length 25 6 :: .box bp 223 (cP p.2.1)::H,17⟩:St)) (fun p=>p.2.2.2.1=p.2.2.1.map C6/\okD D p.2.1/\A3 p.2.1<=p.1/\p.2.2.1.length<=p.2.1.pos+1/\Po F st=Ht F p.1 p.2.1 p.2.2.1) (fun p=>p.1) ((A3 (F st).2,(F st).2,[(F st).1],[cSyn (F st).1],v8)) ?_ C2 ?_
 . exact ⟨by rw [Wy,Bf],hF.okD hD hO,Br _,by simp,rfl⟩
 rintro p hR;have hes:p.2.2.2.1=p.2.2.1.map C6:=hR.1;have hO2:okD D p.2.1:=hR.2.1;have hS:=hO2.1;have hfu:A3 p.2.1<=p.1:=hR.2.2.1;have hn:0<p.1:=by unfold A3 at hfu;omega
 have hol:p.2.2.1.length<=p.2.1.pos+1:=hR.2.2.2.1;have hsc:∀c∈p.2.2.2.1,A0 c=true:=by rw [hes];exact Wd _
 have hel:p.2.2.2.1.length=p.2.2.1.length:=by rw [hes,Bt]
 refine B5 (Qp Bx ?_);refine Rt (Dq rfl ((E2 _ _ _ (by simpa using hS) (by first | assumption | decide)).at (k:=1) (H2:=_::_::_) rfl rfl)) ?_;refine Bh (fun hc1=>?_) fun hc1=>?_
 .
  try simp only [A4,Bd] at hc1
  have hlt:=Yf hc1;have hml:=hS.1;have hFa:=hF (adv p.2.1) (by have:=hO2.2.1;show (0:Int)<=p.2.1.depth;omega) hO2.2.2;have hps:p.2.1.pos+1<=(F (adv p.2.1)).2.pos:=hFa.2.1;have hts:(F (adv p.2.1)).2.toks=p.2.1.toks:=hFa.1;refine AW.ghost (GS.Aaf (H2:=_::_::_) 1 rfl (congrArg cP (Fv hc1)) rfl) ?_;refine B2 (AW.block (AW.region (Qp (A1 (v:=.row _ _ _) rfl) (Qp (A1 (v:=.fn _ _ _) rfl) ?_))));refine Rt (Lt (hf) rfl rfl rfl ((hc _ (by simpa using hO2)).at (k:=1) (H2:=_::_::_) rfl rfl)) ?_;refine Qp (Jh [Ai] rfl) ?_;refine Qe (W0 0 rfl (Et rfl) (hsc) (by simp;omega) (by simp [maxLen];omega)) ?_;rintro _ _ ⟨v15,rfl,rfl⟩;refine Qp (Ba (v:=.row _ _ _) rfl) (Rk ?_);refine ⟨(p.1-1,(F (adv p.2.1)).2,p.2.2.1 ++ [(F (adv p.2.1)).1],p.2.2.2.1 ++ [cSyn (F (adv p.2.1)).1],v15),?_,?_,C2⟩
  . exact ⟨K3 hes,hF.okD hD (by simpa using hO2),by unfold A3 at hfu ⊢;rw [hts];simp only;omega,by simp only [Au,Hl];omega,hR.2.2.2.2.trans (by rw [Pn hn,if_pos hc1])⟩
  simp only;omega
 try simp only [A4,Bd] at hc1
 refine AW.ghost (GS.Aaf (H2:=_::_::_) 1 rfl (congrArg cP (Ii hc1)) rfl) ?_;refine AW.exit ?_;refine B1 (Ri (Aa ?_));refine AOL.ghost (GS.unrow 5 rfl) ?_;refine Qp K7 (Qp lK (Rb ?_));refine ⟨.inr rfl,[.sl _ _],Ze,_,S1,?_⟩;have h9:Po F st=(p.2.2.1,p.2.1):=hR.2.2.2.2.trans (by rw [Pn hn,iN hc1]);exact ⟨by rw [h9,<-hes];rfl,congrArg (fun s=>HO.box bp 223 (cP s)::H) (by rw [h9])⟩
abbrev cSg (s:Ag×Int):List AV:=[.str s.1,.int .i64 s.2]
theorem sg_at {sg:List (Ag×Int)}{k:Nat}{s:Ag×Int}(h:sg[k]? = some s):(sg.map cSg)[k]? = some [.str s.1,.int .i64 s.2]:=by rw [List.getElem?_map,h];rfl
theorem aC {α:Type}{p:α->Bool}:∀{l:List α} {k:Nat} {x:α},(∀j y,j<k->l[j]? = some y->p y=false)->l[k]? = some x->p x=true->l.find? p=some x
  | [],k,x,_,h,_=>by simp at h
  | a::l,0,x,_,h,hp=>by
    simp only [List.getElem?_cons_zero,Option.some.injEq] at h;subst h;rw [List.find?_cons,hp]
  | a::l,k+1,x,hn,h,hp=>by
    rw [List.find?_cons,hn 0 a (by omega) rfl];exact aC (l:=l) (k:=k) (fun j y hj hy=>hn (j+1) y (by omega) hy) h hp
theorem mT {α:Type}{p:α->Bool}{l:List α}(hn:∀j y,j<l.length->l[j]? = some y->p y=false):l.find? p=none:=by
 rw [List.find?_eq_none];intro x hx;obtain ⟨k,hk⟩:=List.getElem?_of_mem hx;have:=hn k x (List.getElem?_eq_some_iff.1 hk).1 hk;rw [this];decide
theorem eM {F:PS->Syn×PS}{sg:List (Ag×Int)}{n:Nat}{st:PS}{out:Syn}(h:0<n):I0 F sg n st out=match sg.find? (fun s=>Ea s.1 st) with
  | some s=>I0 F sg (n-1) (F (adv st)).2 (Mr s.2 out (F (adv st)).1 out.pos)
  | none=>(out,st):=by
 obtain ⟨m,rfl⟩:∃m,n=m+1:=⟨n-1,by omega⟩;rfl
theorem M1 (op:Int)(x y:Syn)(k:Int):An Tryz.prog 287 [.int .i64 op,.agg (cSyn x),.agg (cSyn y),.int .i64 k] (.agg (cSyn (Mr op x y k))):=by
 refine Fb 15 Tryz.func287 rfl fun H=>?_
 refine Aa (Qp (Hu Ai) (Qp (Hu Ai) ?_));refine D5 I6 fun b8=>?_
 refine B7 (Qp Ap (Qp (Cm Ai) (Qp (Cm Ai) (Qp (Jh [Ai,Ai] rfl) (Qp Ap (Qp (Fj Ai) ?_))))));refine By 0 Ai (_::_) (Rb ?_);refine Yx [.agg Ai] (Zb 0) S1 ?_;exact congrArg (fun l=>AV.agg [.int .i64 17,.str [],.str [],.int .i64 op,.sl 6 l,.int .i64 k]) (by rw [Ao,Ao,A5,Bf,Bf]:[cSyn x,cSyn y] = [x,y].map C6)
theorem qB (st:PS)(bp:Nat)(D:Int)(hD:0<=D)(f:Nat)(hf:Xq Tryz.prog f=true)(first cap:List AV)(F:PS->Syn×PS)(hF:Dh F)(hc:∀st,okD D st->Bk Tryz.prog f bp 223 (cP st) (cP (F st).2) (first ++ []++cap) (.agg (cSyn (F st).1)))(hO:okD D st)(sg:List (Ag×Int))(hsg:∀s∈sg,s.1.length<=1048576)(hsl:sg.length<=100):Bk Tryz.prog 229 bp 223 (cP st) (cP ((J2 F sg st).2)) [.val (.pointer (some ⟨bp,0,none⟩)),.fn (.func f) first cap,.sl 2 (sg.map cSg)] (.agg (cSyn (J2 F sg st).1)):=by
 intro H;refine Jg 34 Tryz.func229 rfl ?_;refine Aa ?_;refine D5 I6 fun b6=>?_
 refine B7 (Qp (A1 (v:=.fn _ _ _) rfl) (Rt (Lt (hf) rfl rfl rfl ((hc st hO).at (k:=1) (H2:=_::_::_) rfl rfl)) ?_));refine D5 I6 fun b7=>?_
 refine By 0 Ai (_::_::_::_) (Ax (B5 (Qp Bc (Ax (AW.block ?_)))));refine AW.Aad (fun (p:Nat×PS×Syn×Bool)=>(⟨[(0,.val (.pointer (some ⟨bp,0,none⟩))),(1,.fn (.func f) first cap),(2,.sl 2 (sg.map cSg)),(6,.val (.pointer (some ⟨b6,0,none⟩))),(7,.val (.pointer (some ⟨b7,0,none⟩))),(8,.bool p.2.2.2)],.box b7 25 (cSyn p.2.2.1) :: .box b6 25 (cSyn Gz) :: .box bp 223 (cP p.2.1)::H,34⟩:St)) (fun p=>okD D p.2.1/\A3 p.2.1<=p.1/\(p.2.2.2=true->J2 F sg st=I0 F sg p.1 p.2.1 p.2.2.1)/\(p.2.2.2=false->J2 F sg st=(p.2.2.1,p.2.1))) (fun p=>(if p.2.2.2 then p.1+1 else 0)) ((A3 (F st).2,(F st).2,(F st).1,true)) ?_ C2 ?_
 . exact ⟨hF.okD hD hO,Br _,fun _=>rfl,fun h=>(by cases h)⟩
 rintro p hR;have hO2:okD D p.2.1:=hR.1;have hS:=hO2.1;have hfu:A3 p.2.1<=p.1:=hR.2.1;have hn:0<p.1:=by unfold A3 at hfu;omega
 refine B5 (Qp Cc (Bh (fun hc1=>?_) fun hc1=>?_))
 .
  try simp only [A4,Bd] at hc1
  refine B2 (AW.block (Aa (Qp Bc (B7 (Qp K7 ?_)))));refine Qp (E6 sg.length rfl rfl (by simp)) ?_;refine Qp Ap (Ax (AW.block ?_));refine AW.Aad (fun (k:Nat)=>(⟨[(0,.val (.pointer (some ⟨bp,0,none⟩))),(1,.fn (.func f) first cap),(2,.sl 2 (sg.map cSg)),(6,.val (.pointer (some ⟨b6,0,none⟩))),(7,.val (.pointer (some ⟨b7,0,none⟩))),(8,.bool false),(14,.sl 2 (sg.map cSg)),(15,.int .i64 (sg.length:Int)),(16,.int .i64 (k:Int))],.box b7 25 (cSyn p.2.2.1) :: .box b6 25 (cSyn Gz) :: .box bp 223 (cP p.2.1)::H,34⟩:St)) (fun k=>k<=sg.length/\∀j y,j<k->sg[j]? = some y->Ea y.1 p.2.1=false) (fun k=>sg.length-k) (0) ?_ C2 ?_
  . exact ⟨A9 _,fun j y hj=>absurd hj (Nat.not_lt_zero _)⟩
  rintro k hK;refine Aa (Qp Cn (Re (Hb (fun hc2=>?_) fun hc2=>?_)))
  .
   try simp only [A4,Bd] at hc2
   have hk:k<sg.length:=by simpa using hc2
   refine (xY hk).elim fun x hx=>?_
   have hwx:x.1.length<=1048576:=hsg x (Aj hx);refine B2 (AW.seq (AW.block (Aa ?_)));refine Qp (Eh Iv rfl rfl (by omega) (sg_at hx)) ?_;refine Qp (Cm Iv) (D5 gkx fun b10=>?_);refine By 0 Iv (_::_::_::_::_) ?_;refine Kc 10 0 rfl ?_;refine B7 (Qp Bx (Qp (Qf Iv) (Qp Gr ?_)));refine Rt (Dq rfl ((E2 _ _ _ (by simpa using hS) (by first | assumption | decide)).at (k:=2) (H2:=_::_::_::_) rfl rfl)) ?_;refine Bh (fun hc3=>?_) fun hc3=>?_
   .
    try simp only [A4,Bd] at hc3
    have hfd:sg.find? (fun s=>Ea s.1 p.2.1)=some x:=aC hK.2 hx hc3;have hlt:=Yf hc3;have hml:=hS.1;have hFa:=hF (adv p.2.1) (by have:=hO2.2.1;show (0:Int)<=p.2.1.depth;omega) hO2.2.2;have hps:p.2.1.pos+1<=(F (adv p.2.1)).2.pos:=hFa.2.1;have hts:(F (adv p.2.1)).2.toks=p.2.1.toks:=hFa.1;refine AW.ghost (GS.Aaf (H2:=_::_::_::_) 2 rfl (congrArg cP (Fv hc3)) rfl) ?_;refine AW.seq (Rm 0 rfl (Qn 0 rfl (Qf [Iq _]) (Qn 1 rfl B6 (Qn 2 rfl (Dp.mem (fun k=>If (k:=k) (l:=Ai) tok rfl rfl rfl rfl rfl) (fun _ h=>h)) ?_))));refine Qn 3 rfl (A1 (v:=.fn _ _ _) rfl) (Qn 5 rfl Cw (Qn 6 rfl (Lw (Iq _) rfl) ?_));refine Xa 4 rfl (Lt (hf) rfl rfl rfl ((hc _ (by simpa using hO2)).at (k:=2) (H2:=_::_::_::_) rfl rfl)) (by rintro _ _ ⟨rfl,rfl⟩;simp) ?_;rintro _ _ ⟨rfl,rfl⟩;refine Qn 7 rfl (Qc rfl (M1 _ _ _ _)) ?_;refine fY 8 rfl (Kt 0 (.agg _) Ai (_::_::_::_) rfl) ?_;rintro _ _ ⟨rfl,rfl⟩;refine Av (Aa (Qp Bc (Ax (AW.exit ?_))));refine blkMiss rfl ?_;refine B1 (B1 (U9 (J1 (Av ?_))));refine ⟨(p.1-1,(F (adv p.2.1)).2,Mr x.2 p.2.2.1 (F (adv p.2.1)).1 p.2.2.1.pos,true),?_,?_,C2⟩
    . exact ⟨hF.okD hD (by simpa using hO2),by unfold A3 at hfu ⊢;rw [hts];simp only;omega,fun _=>(hR.2.2.1 hc1).trans (by rw [eM hn,hfd]),fun h=>(by cases h)⟩
    simp only [hc1,↓reduceIte,Ak];omega
   try simp only [A4,Bd] at hc3
   refine AW.ghost (GS.Aaf (H2:=_::_::_::_) 2 rfl (congrArg cP (Ii hc3)) rfl) ?_;refine Rf (AW.region (Qp Gw (Qp Ap (Ax ?_))));refine ⟨k+1,?_,?_,C2⟩
   . exact ⟨hk,fun j y hj hy=>by rcases bK.1 hj with h | rfl;exact hK.2 j y h hy;rw [hx] at hy;cases hy;exact hc3⟩
   omega
  try simp only [A4,Bd] at hc2
  have hkn:¬k<sg.length:=by simpa using hc2
  have hfd:sg.find? (fun s=>Ea s.1 p.2.1)=none:=mT fun j y hj hy=>hK.2 j y (by omega) hy
  refine AW.exit ?_;refine B1 (B1 (U9 (J1 (Av ?_))));refine ⟨(p.1,p.2.1,p.2.2.1,false),?_,?_,C2⟩
  . exact ⟨hO2,hfu,fun h=>(by cases h),fun _=>(hR.2.2.1 hc1).trans (by rw [eM hn,hfd])⟩
  simp only [hc1,↓reduceIte,Ak];omega
 try simp only [A4,Bd] at hc1
 refine AW.exit ?_;refine B1 (Ri (Aa ?_));refine Sb 0 Ai rfl ?_;refine By 1 Ai (_::_::_::_) (Rb ?_);refine ⟨.inr rfl,[.agg Ai],Zb 1,_,S2,?_⟩;have h9:=hR.2.2.2 hc1;exact ⟨by rw [h9];rfl,congrArg (fun s=>HO.box bp 223 (cP s)::H) (by rw [h9])⟩
theorem u8_all' {p:UInt8->Bool}(h:(List.range 256).all (fun n=>p (UInt8.ofNat n))=true)(c:UInt8):p c=true:=by
 rw [Fu] at h;have:=h c.toNat (Ks.2 c.toNat_lt)
 rwa [UInt8.ofNat_toNat] at this
def kindW:List Ag:=[G0,Ho,Ha]
theorem kind_get (k:Nat)(h:k<3):Mw[k]? = some (.str (kindW.getD k [])):=by
 match k,h with
 | 0,_=>rfl
 | 1,_=>rfl
 | 2,_=>rfl
theorem kind_len (k:Nat)(h:k<3):(kindW.getD k []).length<=1048576:=by
 match k,h with
 | 0,_=>decide
 | 1,_=>decide
 | 2,_=>decide
abbrev fS (st:PS):PS:=Ce H6 (Ed 0 st)
theorem field_hit {st:PS}{k:Nat}(h:k<3)(hn:∀j,j<k->Ea (kindW.getD j []) (fS st)=false)(hp:Ea (kindW.getD k []) (fS st)=true):J3 st=(⟨2,Ib 0 st,[],(k:Int),[],Fs st⟩,adv (fS st)):=by
 unfold J3
 match k,h with
 | 0,_=>rw [if_pos (show Ea G0 (fS st)=true from hp)];rfl
 | 1,_=>rw [if_neg (rA.mp (show Ea G0 (fS st)=false from hn 0 (by omega))),if_pos (show Ea Ho (fS st)=true from hp)];rfl
 | 2,_=>rw [if_neg (rA.mp (show Ea G0 (fS st)=false from hn 0 (by omega))),if_neg (rA.mp (show Ea Ho (fS st)=false from hn 1 (by omega))),if_pos (show Ea Ha (fS st)=true from hp)];rfl
theorem xU {st:PS}(hn:∀j,j<3->Ea (kindW.getD j []) (fS st)=false):J3 st=(⟨2,Ib 0 st,[],0,[],Fs st⟩,Hc 4 (fS st)):=by
 unfold J3;rw [if_neg (rA.mp (show Ea G0 (fS st)=false from hn 0 (by omega))),if_neg (rA.mp (show Ea Ho (fS st)=false from hn 1 (by omega))),if_neg (rA.mp (show Ea Ha (fS st)=false from hn 2 (by omega)))]
theorem uJ:∀(s:Ag) (n:Int),0<=n->n<=1099511627776->0<=(Jd s n).1/\(Jd s n).1<=1099511627776
  | [],n,h0,h1=>⟨h0,h1⟩
  | c::r,n,h0,h1=>by
    unfold Jd;split
    . decide
    . rename_i h
      have hd:0<=dvS c:=by
        have:=u8_all' (p:=fun c=>decide (0<=dvS c)) (by kernel_rfl) c;exact Ey this
      simp only [Ck,Int.not_lt] at h;exact uJ r _ (by omega) h
theorem numP_le (st:PS):0<=Tg st/\Tg st<=1099511627776:=by
 unfold Tg;split
 .
  unfold Ua;split
  . decide
  exact uJ _ _ (by decide) (by decide)
 decide
theorem p_field (st:PS)(bp:Nat)  (hS:Uw st):Bk Tryz.prog 223 bp 223 (cP st) (cP ((J3 st).2)) [.val (.pointer (some ⟨bp,0,none⟩))] (.agg (cSyn (J3 st).1)):=by
 intro H;refine Jg 28 Tryz.func223 rfl ?_;refine Aa ?_;refine D5 I6 fun b2=>?_
 refine B7 (Qp Bx ?_);refine AOL.Aag (Cu (k:=1) (by kernel_rfl) rfl rfl (Ky _ _)) rfl rfl ?_;refine Qp Bx ?_;refine Rt (Dq rfl ((Pu _ _ (by simpa using hS)).at (k:=1) (H2:=_::_::_) rfl rfl)) ?_;refine Qp (Fj Ai) ?_;refine D5 I6 fun b3=>?_
 refine By 0 Ai (_::_::_::_) ?_;refine B7 (Qp Bx ?_);refine Rt (Dq rfl ((D0 _ _ _ (by simpa using hS) (by first | assumption | decide)).at (k:=2) (H2:=_::_::_::_) rfl rfl)) ?_;refine Ax (B5 ?_);refine Qp (U7 (l:=Mw) tok (⟨_,by simp [globals],fun _ h=>h⟩) rfl rfl rfl rfl) ?_;refine Qp Ap (Ax (AW.block ?_));refine AW.Aad (fun (k:Nat)=>(⟨[(0,.val (.pointer (some ⟨bp,0,none⟩))),(2,.val (.pointer (some ⟨b2,0,none⟩))),(3,.val (.pointer (some ⟨b3,0,none⟩))),(13,.agg Mw),(14,.int .i64 (k:Int))],.box b3 25 (cSyn ⟨2,Ib 0 st,[],0,[],Fs st⟩) :: .box b2 25 (cSyn Gz) :: .box bp 223 (cP (fS st))::H,28⟩:St)) (fun k=>k<=3/\∀j,j<k->Ea (kindW.getD j []) (fS st)=false) (fun k=>3-k) (0) ?_ C2 ?_
 . exact ⟨A9 _,fun j hj=>absurd hj (Nat.not_lt_zero _)⟩
 rintro k hR;refine Aa (Qp Cn (Re (Hb (fun hc1=>?_) fun hc1=>?_)))
 .
  try simp only [A4,Bd] at hc1
  have hk:k<3:=by have:=Ey hc1;omega
  have hwx:=kind_len k hk;refine B2 (AW.seq (AW.block (Aa (Qp Ap ?_))));refine Qp (U6 (c:=.str (kindW.getD k [])) tok rfl rfl rfl rfl rfl rfl rfl (by omega) (by omega) (kind_get k hk)) ?_;refine Qp Aq (Qp Lu (B7 (Qp Bx (Qp H7 ?_))));refine Rt (Dq rfl ((E2 _ _ _ (by simpa using hS) (by first | assumption | decide)).at (k:=2) (H2:=_::_::_::_) rfl rfl)) ?_;refine Bh (fun hc2=>?_) fun hc2=>?_
  .
   try simp only [A4,Bd] at hc2
   refine AW.ghost (GS.Aaf (H2:=_::_::_::_) 2 rfl (congrArg cP (Fv hc2)) rfl) ?_;refine Aa (Qp Ap (Qp Cw ?_));refine By 0 Ai (_::_::_::_) ?_;refine B7 ?_;refine Sb 0 Ai rfl ?_;refine By 1 Ai (_::_::_::_) ?_;refine Ra (A7 (Dz (A7 ?_)));refine ⟨.inr rfl,[.agg Ai],Zb 1,_,S2,?_⟩;have h9:=field_hit hk hR.2 hc2;exact ⟨by rw [h9];rfl,congrArg (fun s=>HO.box bp 223 (cP s)::H) (by rw [h9])⟩
  try simp only [A4,Bd] at hc2
  refine AW.ghost (GS.Aaf (H2:=_::_::_::_) 2 rfl (congrArg cP (Ii hc2)) rfl) ?_;refine Rf (AW.region (Qp Gw (Qp Ap (Ax ?_))));refine ⟨k+1,?_,?_,C2⟩
  . exact ⟨hk,fun j hj=>by rcases bK.1 hj with h | rfl;exact hR.2 j h;exact hc2⟩
  omega
 try simp only [A4,Bd] at hc1
 have hkn:¬k<3:=by have:=G3 hc1;omega
 refine AW.exit ?_;refine B1 (Ri (Aa (Qp Bx ?_)));refine wX ((jZ _ _ _).at (k:=2) (H2:=_::_::_::_) rfl rfl) ?_;refine B7 ?_;refine Sb 0 Ai rfl ?_;refine By 1 Ai (_::_::_::_) ?_;refine Rb ?_;refine ⟨.inr rfl,[.agg Ai],Zb 1,_,S2,?_⟩;have h9:=xU (st:=st) (fun j hj=>hR.2 j (by omega));exact ⟨by rw [h9];rfl,congrArg (fun s=>HO.box bp 223 (cP s)::H) (by rw [h9])⟩
theorem jY (st:PS)(bp:Nat)  (hS:Uw st):Bk Tryz.prog 330 bp 223 (cP st) (cP ((Eo st).2)) [.val (.pointer (some ⟨bp,0,none⟩))] (.agg (cSyn (Eo st).1)):=by
 intro H;refine Jg 37 Tryz.func330 rfl ?_;refine Aa ?_;refine D5 I6 fun b2=>?_
 refine B7 (Qp Bx ?_);refine AOL.Aag (Cu (k:=1) (by kernel_rfl) rfl rfl (Ky _ _)) rfl rfl ?_;refine Qp (Fj Ai) ?_;refine D5 I6 fun b3=>?_
 refine By 0 Ai (_::_::_::_) (Re (AW.block (Aa (Qp Bx ?_))));refine Rt (Dq rfl ((E2 _ _ _ (by simpa using hS) (by first | assumption | decide)).at (k:=2) (H2:=_::_::_::_) rfl rfl)) ?_;refine Qp Bc (Bh (fun hc1=>?_) fun hc1=>?_)
 .
  try simp only [A4,Bd] at hc1
  refine AW.ghost (GS.Aaf (H2:=_::_::_::_) 2 rfl (congrArg cP (Fv hc1)) rfl) ?_;refine AW.region (Qp Bx ?_);refine Rt (Dq rfl ((kA _ _ (by simpa using hS)).at (k:=2) (H2:=_::_::_::_) rfl rfl)) ?_;refine Qp (P_neg rfl rfl (by have:=numP_le (adv st);constructor <;> omega)) ?_;refine Qp Cw ?_;refine By 0 Ai (_::_::_::_) (Rk (Aa (Sb 0 Ai rfl ?_)));refine By 1 Ai (_::_::_::_) (Rb ?_);refine ⟨.inr rfl,[.agg Ai],Zb 1,_,S2,?_⟩;refine ⟨?_,congrArg (fun c=>HO.box bp 223 c::H) ?_⟩
  .
   try simp only [Ah,Eo,cSyn,Ao,A5,Bf,hc1,↓reduceIte,Ak,Bu,Bm]
   try rfl
  try simp only [cP,Eo,hc1,↓reduceIte,Ak,Bu,Bm]
  try rfl
 try simp only [A4,Bd] at hc1
 refine AW.ghost (GS.Aaf (H2:=_::_::_::_) 2 rfl (congrArg cP (Ii hc1)) rfl) ?_;refine Aa (Qp Bx ?_);refine AOL.Aag (Cu (k:=2) (by kernel_rfl) rfl rfl (yS _ _ _ (by simpa using hS))) rfl rfl ?_;refine Qp Bc (Bh (fun hc2=>?_) fun hc2=>?_)
 .
  try simp only [A4,Bd] at hc2
  refine AW.region (Qp Bx ?_);refine Rt (Dq rfl ((kA _ _ (by simpa using hS)).at (k:=2) (H2:=_::_::_::_) rfl rfl)) ?_;refine Qp Cw ?_;refine By 0 Ai (_::_::_::_) (Rk (Aa (Sb 0 Ai rfl ?_)));refine By 1 Ai (_::_::_::_) (Rb ?_);refine ⟨.inr rfl,[.agg Ai],Zb 1,_,S2,?_⟩;refine ⟨?_,congrArg (fun c=>HO.box bp 223 c::H) ?_⟩
  .
   try simp only [Ah,Eo,cSyn,Ao,A5,Bf,hc1,hc2,↓reduceIte,Ak,Bu,Bm]
   try rfl
  try simp only [cP,Eo,hc1,hc2,↓reduceIte,Ak,Bu,Bm]
  try rfl
 try simp only [A4,Bd] at hc2
 refine Aa (Qp Bx ?_);refine Rt (Dq rfl ((E2 _ _ _ (by simpa using hS) (by first | assumption | decide)).at (k:=2) (H2:=_::_::_::_) rfl rfl)) ?_;refine Qp Bc (Bh (fun hc3=>?_) fun hc3=>?_)
 .
  try simp only [A4,Bd] at hc3
  refine AW.ghost (GS.Aaf (H2:=_::_::_::_) 2 rfl (congrArg cP (Fv hc3)) rfl) ?_;refine AW.region (Qp Cw ?_);refine By 0 Ai (_::_::_::_) (Qp Cw ?_);refine By 0 Ai (_::_::_::_) (Rk (Aa (Sb 0 Ai rfl ?_)));refine By 1 Ai (_::_::_::_) (Rb ?_);refine ⟨.inr rfl,[.agg Ai],Zb 1,_,S2,?_⟩;refine ⟨?_,congrArg (fun c=>HO.box bp 223 c::H) ?_⟩
  .
   try simp only [Ah,Eo,cSyn,Ao,A5,Bf,hc1,hc2,hc3,↓reduceIte,Ak,Bu,Bm]
   try rfl
  try simp only [cP,Eo,hc1,hc2,hc3,↓reduceIte,Ak,Bu,Bm]
  try rfl
 try simp only [A4,Bd] at hc3
 refine AW.ghost (GS.Aaf (H2:=_::_::_::_) 2 rfl (congrArg cP (Ii hc3)) rfl) ?_;refine Aa (Qp Bx ?_);refine Rt (Dq rfl ((E2 _ _ _ (by simpa using hS) (by first | assumption | decide)).at (k:=2) (H2:=_::_::_::_) rfl rfl)) ?_;refine Qp Bc (Bh (fun hc4=>?_) fun hc4=>?_)
 .
  try simp only [A4,Bd] at hc4
  refine AW.ghost (GS.Aaf (H2:=_::_::_::_) 2 rfl (congrArg cP (Fv hc4)) rfl) ?_;refine AW.region (Qp Cw ?_);refine By 0 Ai (_::_::_::_) (Rk (Aa (Sb 0 Ai rfl ?_)));refine By 1 Ai (_::_::_::_) (Rb ?_);refine ⟨.inr rfl,[.agg Ai],Zb 1,_,S2,?_⟩;refine ⟨?_,congrArg (fun c=>HO.box bp 223 c::H) ?_⟩
  .
   try simp only [Ah,Eo,cSyn,Ao,A5,Bf,hc1,hc2,hc3,hc4,↓reduceIte,Ak,Bu,Bm]
   try rfl
  try simp only [cP,Eo,hc1,hc2,hc3,hc4,↓reduceIte,Ak,Bu,Bm]
  try rfl
 try simp only [A4,Bd] at hc4
 refine AW.ghost (GS.Aaf (H2:=_::_::_::_) 2 rfl (congrArg cP (Ii hc4)) rfl) ?_;refine Aa (Qp Cw ?_);refine By 0 Ai (_::_::_::_) (Ax (AW.region (Qp Bx ?_)));refine Rt (Dq rfl ((qC _ _ _ (by simpa using hS)).at (k:=2) (H2:=_::_::_::_) rfl rfl)) ?_;refine Qp Oz (Qp xE (Qp lL (Qp Cw ?_)));refine By 0 Ai (_::_::_::_) (Rk (Aa (Sb 0 Ai rfl ?_)));refine By 1 Ai (_::_::_::_) (Rb ?_);refine ⟨.inr rfl,[.agg Ai],Zb 1,_,S2,?_⟩;refine ⟨?_,congrArg (fun c=>HO.box bp 223 c::H) ?_⟩
 .
  try simp only [Ah,Eo,cSyn,Ao,A5,Bf,hc1,hc2,hc3,hc4,↓reduceIte,Ak,Bu,Bm]
  try rfl
 try simp only [cP,Eo,hc1,hc2,hc3,hc4,↓reduceIte,Ak,Bu,Bm]
 try rfl
theorem uR (st:PS)(bp:Nat)(z:Syn)(bo:Nat)(hS:Uw st)(R:List HO):Cf Tryz.prog 329 (.box bp 223 (cP st) :: .box bo 25 (cSyn z)::R) [.val (.pointer (some ⟨bp,0,none⟩)),.val (.pointer (some ⟨bo,0,none⟩))] (fun r H'=>r = .tuple []/\H' = .box bp 223 (cP (cM st).2) :: .box bo 25 (cSyn { z with text:=(cM st).1.1,name:=(cM st).1.2 })::R):=by
 refine Jg 18 Tryz.func329 rfl ?_;refine Aa (Qp Bx ?_);refine Rt (Dq rfl ((D0 _ _ _ (by simpa using hS) (by first | assumption | decide)).at (k:=0) (H2:=_::_::_) rfl rfl)) ?_;refine B7 (Qp Bx (Qp Bx ?_));refine Rt (Dq rfl ((Pu _ _ (by simpa using hS)).at (k:=0) (H2:=_::_::_) rfl rfl)) ?_;refine Qp (Ad rfl) (Qp Cw ?_);refine By 1 Ai (_::_::_) (B7 (Qp Bx ?_));refine Rt (Dq rfl ((D0 _ _ _ (by simpa using hS) (by first | assumption | decide)).at (k:=0) (H2:=_::_::_) rfl rfl)) ?_;refine Ax (AW.region (Qp Bx (Qp Bx ?_)));refine Rt (Dq rfl ((Pu _ _ (by simpa using hS)).at (k:=0) (H2:=_::_::_) rfl rfl)) ?_;refine Qp (Ad rfl) (Qp Cw ?_);refine By 1 Ai (_::_::_) (AOL.nil ?_);refine ⟨.inl rfl,[],.nil,_,.refl _,?_⟩;exact ⟨rfl,rfl⟩
def Kf (a b:PS):Prop:=b.toks=a.toks/\a.pos<=b.pos/\b.depth=a.depth
theorem Kf.refl (a:PS):Kf a a:=⟨rfl,Br _,rfl⟩
theorem Kf.trans {a b c:PS}(h:Kf a b)(k:Kf b c):Kf a c:=⟨k.1.trans h.1,Ga h.2.1 k.2.1,k.2.2.trans h.2.2⟩
theorem Kf.adv (a:PS):Kf a (adv a):=⟨rfl,Nat.le_succ _,rfl⟩
theorem Kf.fail (e:Int)(a:PS):Kf a (Hc e a):=⟨Qi _ _,Nat.le_of_eq (dD _ _).symm,Xj _ _⟩
theorem Kf.exp (w:Ag)(a:PS):Kf a (Ce w a):=⟨dK _ _,pos_expP _ _,sF _ _⟩
theorem Kf.tok (k:Int)(a:PS):Kf a (Ed k a):=⟨dL _ _,pos_tokP _ _,sG _ _⟩
def oF (a:PS):Prop:=0<=a.depth/\a.depth<=64
theorem Kf.rng {a b:PS}(h:Kf a b)(r:oF a):oF b:=by unfold oF;rw [h.2.2];exact r
theorem Dh.goes {F:PS->Syn×PS}(h:Dh F){a:PS}(r:oF a):Kf a (F a).2:=h a r.1 r.2
theorem Kf.read {F:PS->Syn×PS}(h:Dh F){a b:PS}(r:oF a)(k:Kf a b):Kf a (F b).2:=k.trans (h.goes (k.rng r))
theorem Dh.of {F:PS->Syn×PS}(h:∀st,oF st->Kf st (F st).2):Dh F:=fun st h0 h1=>h st ⟨h0,h1⟩
theorem T2:Dh J3:=.of fun st r=>by
 have h:Kf st (Ce H6 (Ed 0 st)):=(Kf.tok _ _).trans (.exp _ _);unfold J3;split
 . exact h.trans (.adv _)
 split
 . exact h.trans (.adv _)
 split
 . exact h.trans (.adv _)
 exact h.trans (.fail _ _)
theorem Vi {F:PS->Syn×PS}(hF:Dh F):∀(n:Nat) (st:PS) (out:List Syn),oF st->Kf st (Ht F n st out).2
  | 0,st,out,r=>.refl _
  | n+1,st,out,r=>by
    unfold Ht;split
    . have h:=Kf.read hF r (.adv st)
      exact h.trans (Vi hF n _ _ (h.rng r))
    exact .refl _
theorem O3 {F:PS->Syn×PS}(hF:Dh F){st:PS}(r:oF st):Kf st (Po F st).2:=by
 have h:=hF.goes r;exact h.trans (Vi hF _ _ _ (h.rng r))
theorem fine_kind:Dh Jc:=.of fun st r=>by
 have h:Kf st (Ce Gt (Ed 0 (Ce Dj st))):=((Kf.exp _ _).trans (.tok _ _)).trans (.exp _ _);unfold Jc;simp only;split
 . exact (h.trans (O3 T2 (h.rng r))).trans (.exp _ _)
 exact h.trans (.exp _ _)
theorem jA (st:PS):Kf st (Eo st).2:=by
 unfold Eo;split
 . exact (Kf.adv _).trans (.tok _ _)
 split
 . exact .tok _ _
 split
 . exact .adv _
 split
 . exact .adv _
 exact .tok _ _
theorem fine_const:Dh Eo:=.of fun st _=>jA st
theorem jB (st:PS):Kf st (cM st).2:=((((Kf.exp _ _).trans (.tok _ _)).trans (.exp _ _)).trans (.tok _ _))
@[simp] theorem okS_insP (st : PS) : Uw (cM st).2 ↔ Uw st := Sh (jB st).1
@[simp] theorem okS_constP (st : PS) : Uw (Eo st).2 ↔ Uw st := Sh (jA st).1
theorem bH {n:Int}(h0 : -1000<=n)(h1:n<=1000):IntKind.i64.wrap n=n:=by
 unfold IntKind.wrap IntKind.signed IntKind.bits;simp only [↓reduceIte,Gq,Ck,ge_iff_le];split <;> omega
theorem cJ {read:Syn->PS->Syn×PS}{z:Syn}{st:PS}(r:oF st)(h:∀s:PS,oF s->Kf s (read z s).2):Kf st (Np read z st).2:=by
 have hf:Kf st (H4 st):=by
  unfold H4;split
  . exact .fail _ _
  exact .refl _
 have e0:Np read z st=if ((H4 st).bad != 0) then (z,H4 st) else ((read z (adv (La st))).1,Km (read z (adv (La st))).2):=rfl
 rw [e0];split
 . exact hf
 rename_i hb;by_cases hd:64<=st.depth
 .
  exfalso
  apply hb
  unfold H4;rw [if_pos (Iu hd)];exact Vd (by decide) _
 have e1:(La st).depth=st.depth+1:=bH (by have:=r.1;omega) (by omega);have k:=h (adv (La st)) ⟨show 0<=(La st).depth by rw [e1];have:=r.1;omega,show (La st).depth<=64 by rw [e1];omega⟩;refine ⟨k.1,Ga (Nat.le_succ _) k.2.1,?_⟩;show IntKind.i64.wrap ((read z (adv (La st))).2.depth-1)=st.depth;rw [k.2.2,show (adv (La st)).depth=(La st).depth from rfl,e1,bH (by have:=r.1;omega) (by omega)];omega
theorem mU {E:PS->Syn×PS}(hE:Dh E):Dh (D3 E):=.of fun st r=>by
 unfold D3;split
 . exact cJ r fun s r=>(hE.goes r).trans (.exp _ _)
 split
 .
  simp only;have h:=((Kf.adv st).trans (jB _)).trans (.exp D1 _);exact (h.trans (fine_const.goes (h.rng r))).trans (.exp _ _)
 split
 . exact ((Kf.adv st).trans (jB _)).trans (.exp _ _)
 split
 . exact (((Kf.adv st).trans (.exp _ _)).trans (.tok _ _)).trans (.exp _ _)
 split
 .
  simp only;split
  . exact ((Kf.tok _ _).trans (.exp _ _)).trans (.adv _)
  exact ((Kf.tok _ _).trans (.exp _ _)).trans (.tok _ _)
 exact fine_const.goes r
theorem aJ {F:PS->Syn×PS}(hF:Dh F){sg:List (Ag×Int)}:∀(n:Nat) (st:PS) (out:Syn),oF st->Kf st (I0 F sg n st out).2
  | 0,st,out,r=>.refl _
  | n+1,st,out,r=>by
    unfold I0;split
    . have h:=Kf.read hF r (.adv st)
      exact h.trans (aJ hF n _ _ (h.rng r))
    exact .refl _
theorem T1 {F:PS->Syn×PS}(hF:Dh F)(sg:List (Ag×Int)):Dh (J2 F sg):=.of fun st r=>by
 have h:=hF.goes r;exact h.trans (aJ hF _ _ _ (h.rng r))
theorem iV {E:PS->Syn×PS}(hE:Dh E):Dh (Kn E):=T1 (mU hE) zQ
theorem fine_cmp {E:PS->Syn×PS}(hE:Dh E):Dh (Ms E):=.of fun st r=>by
 have h:=(iV hE).goes r;have h2:=(h.trans (.adv _)).trans ((iV hE).goes ((h.trans (.adv _)).rng r));unfold Ms;simp only
 repeat' split
 all_goals first | exact h2 | exact h
theorem Vf {E N:PS->Syn×PS}(hE:Dh E)(hN:Dh N):Dh (N3 E N):=.of fun st r=>by
 unfold N3;split
 . exact (fine_cmp hE).goes r
 exact cJ r fun s r=>hN.goes r
theorem fine_or {E N:PS->Syn×PS}(hE:Dh E)(hN:Dh N):Dh (orP E N):=T1 (T1 (Vf hE hN) rX) orL
theorem Jj:Dh Gd:=.of fun st _=>.refl _
theorem L5:∀n,Dh (My n).1/\Dh (My n).2
 | 0=>⟨Vf Jj Jj,fine_or Jj Jj⟩
 | n+1=>⟨Vf (L5 n).2 (L5 n).1,fine_or (L5 n).2 (L5 n).1⟩
theorem iU {E:PS->Syn×PS}(hE:Dh E):Dh (I5 E):=.of fun st r=>by
 have h:Kf st (Ed 0 (Ed 0 st)):=(Kf.tok _ _).trans (.tok _ _);unfold I5;simp only;split
 . exact Kf.read hE r (h.trans (.adv _))
 exact h
theorem goes_sev {T:PS->Syn×PS}(hT:Dh T)(z:Syn){st:PS}(r:oF st):Kf st (fV T z st).2:=by
 have h:=Kf.read hT r (.exp D1 st);exact h.trans (Vi hT _ _ _ (h.rng r))
theorem nA {E T:PS->Syn×PS}(hE:Dh E)(hT:Dh T)(k:Int)(z:Syn){st:PS}(r:oF st):Kf st (Gs E T k z st).2:=by
 unfold Gs;split
 . exact goes_sev hT z r
 split
 . exact .refl _
 split
 . exact Kf.read (iU hE) r (.exp _ _)
 split
 . exact (Kf.exp _ _).trans (.tok _ _)
 exact Kf.read hE r (.exp _ _)
theorem sV {E T:PS->Syn×PS}(hE:Dh E)(hT:Dh T):Dh (U2 E T):=.of fun st r=>by
 unfold U2;split
 .
  refine cJ r fun s r=>?_
  have h:=Kf.read hT r (.exp Ee s);exact (h.trans (nA hE hT _ _ (h.rng r))).trans (.exp _ _)
 exact (iU hE).goes r
theorem cF {E:PS->Syn×PS}(hE:Dh E):∀n,Dh (kD E n)
 | 0=>sV hE Jj
 | n+1=>sV hE (cF hE n)
theorem jC (st:PS)(k:Int):Kf st (Y9 st k).2:=by
 unfold Y9;split
 . exact (Kf.adv _).trans (.tok _ _)
 exact .refl _
theorem Y3 {E T:PS->Syn×PS}(hE:Dh E)(hT:Dh T):Dh (Fe E T):=.of fun st r=>by
 have h1:Kf st (Ce E4 (Y9 (Ed 0 (Ce C0 st)) (Fs st)).2):=(((Kf.exp _ _).trans (.tok _ _)).trans (jC _ _)).trans (.exp _ _);have h2:=(Kf.read hT r h1).trans (.exp Dw _);exact (h2.trans (O3 hE (h2.rng r))).trans (.exp _ _)
theorem Bo {α:Type}{c:Bool}{a b:α}(h:c=false):(if c=true then a else b)=b:=iN h
theorem gt2 {α:Type}{l:List α}{k:Nat}(h:k<l.length):∃x,l[k]? = some x:=⟨_,List.getElem?_eq_getElem h⟩
theorem nD {α:Type}{l:List α}{k:Nat}{x:α}(h:l[k]? = some x):k<l.length:=(List.getElem?_eq_some_iff.1 h).1
theorem kid_has {t:Syn}{k:Nat}(h:k<t.kids.length):t.kids[k]? = some (Bi t k):=by simp [Bi,Ez,List.getElem?_eq_getElem h]
theorem tK {t:Syn}{i:Nat}{x:Bool}(hi:i<t.kids.length)(hG:N0 [(x,true),((((i:Int)==0)),false)]):0<=(i:Int)-1/\(t.kids.map C6)[((i:Int)-1).toNat]? = some (cSyn (Bi t (i-1))):=by
 have h0:((i:Int)==0)=false:=hG (((i:Int)==0),false) (by simp);have h1:i≠0:=by intro e;subst e;cases h0
 have hw:(i:Int)-1=((i-1:Nat):Int):=by omega
 rw [hw,So];exact ⟨by omega,Ie (kid_has (by omega))⟩
def rD:Pl->AV
 | .only k=>.fn (.func 153) [] [.ptr [.int .i64 k]]
 | .pats=>.fn (.func 206) [] []
 | .exps=>.fn (.func 266) [] []
theorem w_pats (k:Int):An Tryz.prog 206 [.int .i64 k] (.bool (isPat k)):=by
 refine Fb 9 Tryz.func206 rfl fun H=>?_
 refine Aa (Qp Bc (B7 (Qp Ap (Qp Kv (Qp Cc (Qg [] Qw Ap (Qg [(6,_)] Qw Ys (Qp Ju (Qp Bc (Rb (Qr (.bool _) ?_)))))))))));rfl
theorem w_exps (k:Int):An Tryz.prog 266 [.int .i64 k] (.bool (isExp k)):=by
 refine Fb 9 Tryz.func266 rfl fun H=>?_
 refine Aa (Qp Bc (B7 (Qp Ap (Qp Kv (Qp Cc (Qg [] Qw Ap (Qg [(6,_)] Qw Ys (Qp Ju (Qp Bc (Rb (Qr (.bool _) ?_)))))))))));rfl
theorem Wm (k:Int):An Tryz.prog 88 [.int .i64 k] (rD (.only k)):=by
 refine Fb 4 Tryz.func88 rfl fun H=>?_
 refine Aa (Qp (X9 (v:=Iq _) (cs:=[Iq _]) rfl rfl rfl) (Qp Sa (B7 (Qp (B9 (l:=[]) (l':=[.ptr _]) rfl rfl) (Qp (Ba (v:=.fn _ _ _) rfl) (Rb (Qr (.fn _ _ _) ?_)))))));rfl
theorem w_only1 (k x:Int):An Tryz.prog 153 [.int .i64 x,.ptr [.int .i64 k]] (.bool (x==k)):=by
 refine Fb 7 Tryz.func153 rfl fun H=>?_
 refine Aa (Qp Bc (B7 (Qp Ap (Qp B6 (Qp Bl (Qp Bc (Rb (Qr (.bool _) ?_))))))));rfl
theorem wM (p k:Int):An Tryz.prog 205 [.int .i64 p,.int .i64 k] (.bool (Dc p k)):=by
 refine Fb 18 Tryz.func205 rfl fun H=>?_
 refine Aa (Qp Bc (Ax (B5 (Qp Ap (Ax (AW.block (Aa (Qp Bl (Qp Bc (Bh (fun hc1=>Aa (Qp Ap (Qp Bl (Qp Cc (Qg [] Qw Ap (Qg [(11,_)] Qw Bl (Qp E5 (Qp Bc (Rb (Dz (A7 (Qr (.bool _) ?_)))))))))))) fun hc1=>?_))))))))))
 . simp only [Ah,Dc,hc1,↓reduceIte,Ak]
 refine Aa (Qp Bl (Qp Bc (Bh (fun hc2=>Aa (Qp Ap (Qp Bl (Qp Bc (Ra (Qr (.bool _) ?_)))))) fun hc2=>Rf (Aa (Qp Bc (Rb (Qr (.bool _) ?_)))))))
 . simp only [Ah,Dc,hc1,hc2,↓reduceIte,Ak]
 simp only [Ah,Dc,hc1,hc2,↓reduceIte,Ak]
theorem pl_fn (p:Pl):∃f first cap,rD p = .fn (.func f) first cap/\Xq Tryz.prog f=true/\∀k,An Tryz.prog f (first ++ [.int .i64 k]++cap) (.bool (p.at k)):=by
 cases p with
 | only k=>exact ⟨_,_,_,rfl,by kernel_rfl,fun x=>w_only1 k x⟩
 | pats=>exact ⟨_,_,_,rfl,by kernel_rfl,fun x=>w_pats x⟩
 | exps=>exact ⟨_,_,_,rfl,by kernel_rfl,fun x=>w_exps x⟩
theorem w_shaped (t:Syn):An Tryz.prog 201 [.agg (cSyn t)] (.bool (Dn t)):=by
 refine Fb 49 Tryz.func201 rfl fun H=>?_
 refine Aa (Qp (Hu Ai) (Qp Bc (B7 (Qp (Qf Ot) (Qp Dd ?_)))));refine Qp (E6 t.kids.length rfl rfl (by simp)) ?_;refine Qp Aq (Ax (B5 (Qp (Qf Ai) (Qp B6 (Ax (AW.block ?_))))));refine AW.Aai (fun (_:Unit)=>(⟨[(1,.ptr (cSyn t)),(3,.int .i64 (t.kids.length:Int)),(8,.int .i64 t.kind),(9,.bool (((t.kind==0)||(t.kind==1))))],H,49⟩:St)) (fun _=>True) ?_ ?_
 .
  refine Aa (Qp Bl (Qp Bc (Bh (fun hc1=>B2 ?_) fun hc1=>AW.region (Qp Bl (Qp Bc (Ax ?_))))))
  .
   refine ⟨(),?_,GS.weaken ⟨rfl,rfl,rfl,congrArg AV.bool (by simp [*]),trivial⟩ (.refl _)⟩
   trivial
  refine ⟨(),?_,GS.weaken ⟨rfl,rfl,rfl,congrArg AV.bool (by simp [*]),trivial⟩ (.refl _)⟩
  trivial
 rintro _ _;refine Hb (fun hc2=>Aa (Qp Bc (Ra (Qr (.bool _) ?_)))) fun hc2=>Aa (Qp Bl (Qp Bc (Bh (fun hc3=>Aa (Qp Ap (Qp Kv (Qp Bc (Ra (Qr (.bool _) ?_)))))) fun hc3=>Aa (Qp Bl (Qp Bc (Bh (fun hc4=>Aa (Qp Ap (Qp Ys (Qp Bc (Ra (Qr (.bool _) ?_)))))) fun hc4=>?_))))))
 . simp only [Ah,Dn,hc2,↓reduceIte,Ak]
 . simp only [Ah,Dn,hc2,hc3,↓reduceIte,Ak]
 . simp only [Ah,Dn,hc2,hc3,hc4,↓reduceIte,Ak]
 refine AW.Aai (fun (_:Unit)=>(⟨[(1,.ptr (cSyn t)),(3,.int .i64 (t.kids.length:Int)),(8,.int .i64 t.kind),(20,.bool ((((t.kind==6)||(t.kind==7))||(t.kind==8))))],H,49⟩:St)) (fun _=>True) ?_ ?_
 .
  refine Aa (Qp Bl (Qp Bc (Bh (fun hc5=>B2 ?_) fun hc5=>Aa (Qp Bl (Qp Bc (Bh (fun hc6=>B2 ?_) fun hc6=>AW.region (Qp Bl (Qp Bc (Ax ?_)))))))))
  .
   refine ⟨(),?_,GS.weaken ⟨rfl,rfl,rfl,congrArg AV.bool (by simp [*]),trivial⟩ (.refl _)⟩
   trivial
  .
   refine ⟨(),?_,GS.weaken ⟨rfl,rfl,rfl,congrArg AV.bool (by simp [*]),trivial⟩ (.refl _)⟩
   trivial
  refine ⟨(),?_,GS.weaken ⟨rfl,rfl,rfl,congrArg AV.bool (by simp [*]),trivial⟩ (.refl _)⟩
  trivial
 rintro _ _;refine Hb (fun hc7=>Aa (Qp Ap (Qp Kv (Qp Bc (Ra (Qr (.bool _) ?_)))))) fun hc7=>?_
 . simp only [Ah,Dn,hc2,hc3,hc4,hc7,↓reduceIte,Ak]
 refine AW.Aai (fun (_:Unit)=>(⟨[(1,.ptr (cSyn t)),(3,.int .i64 (t.kids.length:Int)),(8,.int .i64 t.kind),(26,.bool ((((t.kind==9)||(t.kind==11))||(t.kind==18))))],H,49⟩:St)) (fun _=>True) ?_ ?_
 .
  refine Aa (Qp Bl (Qp Bc (Bh (fun hc8=>B2 ?_) fun hc8=>Aa (Qp Bl (Qp Bc (Bh (fun hc9=>B2 ?_) fun hc9=>AW.region (Qp Bl (Qp Bc (Ax ?_)))))))))
  .
   refine ⟨(),?_,GS.weaken ⟨rfl,rfl,rfl,congrArg AV.bool (by simp [*]),trivial⟩ (.refl _)⟩
   trivial
  .
   refine ⟨(),?_,GS.weaken ⟨rfl,rfl,rfl,congrArg AV.bool (by simp [*]),trivial⟩ (.refl _)⟩
   trivial
  refine ⟨(),?_,GS.weaken ⟨rfl,rfl,rfl,congrArg AV.bool (by simp [*]),trivial⟩ (.refl _)⟩
  trivial
 rintro _ _;refine Hb (fun hc10=>Aa (Qp Ap (Qp Bl (Qp Bc (Ra (Qr (.bool _) ?_)))))) fun hc10=>?_
 . simp only [Ah,Dn,hc2,hc3,hc4,hc7,hc10,↓reduceIte,Ak]
 refine AW.Aai (fun (_:Unit)=>(⟨[(1,.ptr (cSyn t)),(3,.int .i64 (t.kids.length:Int)),(8,.int .i64 t.kind),(32,.bool ((((t.kind==10)||(t.kind==12))||(t.kind==17))))],H,49⟩:St)) (fun _=>True) ?_ ?_
 .
  refine Aa (Qp Bl (Qp Bc (Bh (fun hc11=>B2 ?_) fun hc11=>Aa (Qp Bl (Qp Bc (Bh (fun hc12=>B2 ?_) fun hc12=>AW.region (Qp Bl (Qp Bc (Ax ?_)))))))))
  .
   refine ⟨(),?_,GS.weaken ⟨rfl,rfl,rfl,congrArg AV.bool (by simp [*]),trivial⟩ (.refl _)⟩
   trivial
  .
   refine ⟨(),?_,GS.weaken ⟨rfl,rfl,rfl,congrArg AV.bool (by simp [*]),trivial⟩ (.refl _)⟩
   trivial
  refine ⟨(),?_,GS.weaken ⟨rfl,rfl,rfl,congrArg AV.bool (by simp [*]),trivial⟩ (.refl _)⟩
  trivial
 rintro _ _;refine Hb (fun hc13=>Aa (Qp Ap (Qp Bl (Qp Bc (Ra (Qr (.bool _) ?_)))))) fun hc13=>?_
 . simp only [Ah,Dn,hc2,hc3,hc4,hc7,hc10,hc13,↓reduceIte,Ak]
 refine Aa (Qp Bl (Qp Bc (Bh (fun hc14=>B5 (Qp (Qf Zw) (Qp B6 (Qp Bl (Bh (fun hc15=>Aa (Qp Ap (Qp Bl (Qp Bc (Rc (Dz (A7 (Qr (.bool _) ?_)))))))) fun hc15=>B2 (Aa (Qp Ap (Qp Bl (Qp Bc (Ra (Qr (.bool _) ?_))))))))))) fun hc14=>?_)))
 . simp only [Ah,Dn,hc2,hc3,hc4,hc7,hc10,hc13,hc14,hc15,↓reduceIte,Ak]
 . simp only [Ah,Dn,hc2,hc3,hc4,hc7,hc10,hc13,hc14,hc15,↓reduceIte,Ak]
 refine Rf (Aa (Qp Ap (Qp Bl (Qp Bc (Rb (Qr (.bool _) ?_))))));simp only [Ah,Dn,hc2,hc3,hc4,hc7,hc10,hc13,hc14,↓reduceIte,Ak]
theorem w_uses (k:Int):An Tryz.prog 263 [.int .i64 k] (.tuple [.bool (Nu k).1,.bool (Nu k).2]):=by
 refine Fb 15 Tryz.func263 rfl fun H=>?_
 refine Aa (Qp Bc (Qp Bc (Ax (B5 (Qp Ap (Ax (AW.block ?_)))))));refine AW.Aai (fun (_:Unit)=>(⟨[(4,.int .i64 k),(5,.bool ((((k==5)||(k==14))||(k==16))))],H,15⟩:St)) (fun _=>True) ?_ ?_
 .
  refine Aa (Qp Bl (Qp Bc (Bh (fun hc1=>B2 ?_) fun hc1=>Aa (Qp Bl (Qp Bc (Bh (fun hc2=>B2 ?_) fun hc2=>AW.region (Qp Bl (Qp Bc (Ax ?_)))))))))
  .
   refine ⟨(),?_,GS.weaken ⟨rfl,congrArg AV.bool (by simp [*]),trivial⟩ (.refl _)⟩
   trivial
  .
   refine ⟨(),?_,GS.weaken ⟨rfl,congrArg AV.bool (by simp [*]),trivial⟩ (.refl _)⟩
   trivial
  refine ⟨(),?_,GS.weaken ⟨rfl,congrArg AV.bool (by simp [*]),trivial⟩ (.refl _)⟩
  trivial
 rintro _ _;refine Hb (fun hc3=>Aa (Qp Bc (Qp Bc (Ra (O0 (.bool _) (.bool _) ?_))))) fun hc3=>?_
 . simp only [Ah,Nu,hc3,↓reduceIte,Ak]
 refine AW.Aai (fun (_:Unit)=>(⟨[(4,.int .i64 k),(9,.bool ((((((k==1)||(k==2))||(k==3))||(k==4))||(k==15))))],H,15⟩:St)) (fun _=>True) ?_ ?_
 .
  refine Aa (Qp Bl (Qp Bc (Bh (fun hc4=>B2 ?_) fun hc4=>Aa (Qp Bl (Qp Bc (Bh (fun hc5=>B2 ?_) fun hc5=>Aa (Qp Bl (Qp Bc (Bh (fun hc6=>B2 ?_) fun hc6=>Aa (Qp Bl (Qp Bc (Bh (fun hc7=>B2 ?_) fun hc7=>AW.region (Qp Bl (Qp Bc (Ax ?_)))))))))))))))
  .
   refine ⟨(),?_,GS.weaken ⟨rfl,congrArg AV.bool (by simp [*]),trivial⟩ (.refl _)⟩
   trivial
  .
   refine ⟨(),?_,GS.weaken ⟨rfl,congrArg AV.bool (by simp [*]),trivial⟩ (.refl _)⟩
   trivial
  .
   refine ⟨(),?_,GS.weaken ⟨rfl,congrArg AV.bool (by simp [*]),trivial⟩ (.refl _)⟩
   trivial
  .
   refine ⟨(),?_,GS.weaken ⟨rfl,congrArg AV.bool (by simp [*]),trivial⟩ (.refl _)⟩
   trivial
  refine ⟨(),?_,GS.weaken ⟨rfl,congrArg AV.bool (by simp [*]),trivial⟩ (.refl _)⟩
  trivial
 rintro _ _;refine Hb (fun hc8=>Aa (Qp Bc (Qp Bc (Ra (O0 (.bool _) (.bool _) ?_))))) fun hc8=>Rf (Aa (Qp Bc (Qp Bc (Rb (O0 (.bool _) (.bool _) ?_)))))
 . simp only [Ah,Nu,hc3,hc8,↓reduceIte,Ak]
 simp only [Ah,Nu,hc3,hc8,↓reduceIte,Ak]
theorem w_is (s:Ag)(hl:s.length<=1048576):An Tryz.prog 262 [.str s] (.bool (X7 s)):=by
 refine Fb 6 Tryz.func262 rfl fun H=>?_
 refine Aa (Qp Bc (B7 (Qp H7 (Qp (Qc rfl (c20 s hl)) (Qp Bl (Qp Bc (Rb (Qr (.bool _) ?_))))))));rfl
theorem w_named (t:Syn)(ht:t.text.length<=1048576)(hn:t.name.length<=1048576):An Tryz.prog 202 [.agg (cSyn t)] (.bool (L8 t)):=by
 refine Fb 48 Tryz.func202 rfl fun H=>?_
 refine Aa (Qp (Hu Ai) (Qp Bc (B7 (Qp (Ba (v:=.fn _ _ _) rfl) (B7 (Qp (Qf Ai) (Qp B6 (Qp (Qc rfl (w_uses t.kind)) (Qp Oz (Qp lL (Qp lL (Qp Bc (Qp Bc (Ax (B5 (Qp Cc (Qp Cc (Qg [] Qw (A1 (v:=.fn _ _ _) rfl) (Qg [] Qw (Qf X6) (Qg [(15,_)] Qw Gr ?_))))))))))))))))))));refine Yh [(16,_),(14,_)] Yw (fun hG=>R0 (by kernel_rfl) rfl rfl rfl (w_is t.text ht)) ?_;refine Qg [(17,_)] Qw Ix (Qp Ju (Qp Cc (Qg [] Qw (Qf Ai) (Qg [(21,_)] Qw B6 (Qg [(22,_)] Qw Cb (Qg [(23,_)] Qw Cc (Qg [] Qw (Qf X6) (Qg [(25,_)] Qw Gr ?_))))))));refine Qg [(26,_)] Qw (Fh rfl rfl) (Qg [(24,_),(27,_)] Qw E5 (Qp Ju (Bh (fun hc1=>Aa (Qp Bc (Rc (Qr (.bool _) ?_)))) fun hc1=>B2 (Aa (Qp Cc (Qp Ix (Qp Cc (Qg [] Qw (A1 (v:=.fn _ _ _) rfl) (Qg [] Qw (Qf pF) (Qg [(34,_)] Qw Gr ?_))))))))))
 .
  simp only [Ah,L8];rw [if_pos hc1]
 refine Yh [(35,_),(33,_)] Yw (fun hG=>R0 (by kernel_rfl) rfl rfl rfl (w_is t.name hn)) ?_;refine Qp E5 (Qp Cc (Qg [] Qw (Qf Ai) (Qg [(39,_)] Qw B6 (Qg [(40,_)] Qw Bl (Qg [(41,_)] Qw Cc (Qg [] Qw (Qf pF) (Qg [(43,_)] Qw Gr (Qg [(44,_)] Qw (Gb rfl rfl) (Qg [(42,_),(45,_)] Qw Ju (Qp E5 (Qp Bc (Rb (Qr (.bool _) ?_)))))))))))));simp only [Ah,L8];rw [Bo hc1]
theorem w_const (t:Syn):An Tryz.prog 264 [.agg (cSyn t)] (.int .i64 (I3 t)):=by
 refine Fb 37 Tryz.func264 rfl fun H=>?_
 refine Aa (Qp (Hu Ai) (Qp Aq (B7 (Qp Aq (Qp Aq (Ax (B5 (Qp (Qf pF) ?_))))))));refine Qp Gr (Ax (AW.block (Aa (Qp (Gb rfl rfl) (Qp Bc (Bh (fun hc1=>Rf (AW.seq (AW.block (Aa (Qp (Qf Zw) (Qp B6 (Qp Ap (Qp Cn (Qp Cc (Qg [] Qw (Qf Zw) (Qg [(28,_)] Qw B6 (Qg [] Qw Ap ?_)))))))))))) fun hc1=>?_))))))
 .
  refine Qg [(29,_),(30,_)] Yw Gx (Qp E5 (Qp Bc (Bh (fun hc2=>Aa (Qp Aq (Ra (Qr (Iq _) ?_)))) fun hc2=>Aa (Qp (Qf X6) (Qp Gr (Qp (Fh rfl rfl) (Qp Bc (Bh (fun hc3=>Aa (Qp Aq (Ra (Qr (Iq _) ?_)))) fun hc3=>Rf (Aa (Qp Aq (Rb (Qr (Iq _) ?_))))))))))))
  .
   simp only [Ah,I3];rw [if_pos hc1,if_pos hc2]
  .
   simp only [Ah,I3];rw [if_pos hc1,Bo hc2,if_pos hc3]
  simp only [Ah,I3];rw [if_pos hc1,Bo hc2,Bo hc3]
 refine Aa (Qp (Gb rfl rfl) (Qp Bc (Bh (fun hc4=>AW.region (Qp Aq (Qp Aq (Rk (AW.seq (AW.block (Aa (Qp (Qf Zw) (Qp B6 (Qp Ap (Qp Cn (Qp Cc (Qg [] Qw (Qf Zw) (Qg [(28,_)] Qw B6 (Qg [] Qw Ap ?_))))))))))))))) fun hc4=>?_)))
 .
  refine Qg [(29,_),(30,_)] Yw Gx (Qp E5 (Qp Bc (Bh (fun hc5=>Aa (Qp Aq (Ra (Qr (Iq _) ?_)))) fun hc5=>Aa (Qp (Qf X6) (Qp Gr (Qp (Fh rfl rfl) (Qp Bc (Bh (fun hc6=>Aa (Qp Aq (Ra (Qr (Iq _) ?_)))) fun hc6=>Rf (Aa (Qp Aq (Rb (Qr (Iq _) ?_))))))))))))
  .
   simp only [Ah,I3];rw [Bo hc1,if_pos hc4,if_pos hc5]
  .
   simp only [Ah,I3];rw [Bo hc1,if_pos hc4,Bo hc5,if_pos hc6]
  simp only [Ah,I3];rw [Bo hc1,if_pos hc4,Bo hc5,Bo hc6]
 refine Aa (Qp (Gb rfl rfl) (Qp Bc (Bh (fun hc7=>?_) fun hc7=>Aa (Qp Aq (Ra (Qr (Iq _) ?_))))))
 .
  refine AW.seq (AW.block (Aa (Qp (Qf X6) (Qp Gr (Qp (Du tok rfl rfl rfl rfl) (Qp Gx (Qp Bc (Bh (fun hc8=>Aa (Qp Aq (Ra (Dz (A7 (Qr (Iq _) ?_)))))) fun hc8=>Aa (Qp (Qf Zw) (Qp B6 (Qp Cb (Qp Bc (Bh (fun hc9=>Aa (Qp Aq (Ra (Dz (A7 (Qr (Iq _) ?_)))))) fun hc9=>Rf (Aa (Qp Aq (Ra (Qr (Iq _) ?_)))))))))))))))))
  .
   simp only [Ah,I3];rw [Bo hc1,Bo hc4,if_pos hc7,if_pos hc8]
  .
   simp only [Ah,I3];rw [Bo hc1,Bo hc4,if_pos hc7,Bo hc8,if_pos hc9]
  simp only [Ah,I3];rw [Bo hc1,Bo hc4,if_pos hc7,Bo hc8,Bo hc9]
 simp only [Ah,I3];rw [Bo hc1,Bo hc4,Bo hc7]
theorem w_number (t:Syn):An Tryz.prog 265 [.agg (cSyn t)] (.int .i64 (Mz t)):=by
 refine Fb 27 Tryz.func265 rfl fun H=>?_
 refine Aa (Qp (Hu Ai) (Qp Aq (B7 (Qp Aq (Qp Aq (Qp Aq (Ax (B5 ?_))))))));refine Qp (Qf Ai) (Qp B6 (Ax (AW.block (Aa (Qp Bl (Qp Bc (Bh (fun hc1=>AW.region (Qp Aq (Qp Aq (Qp Aq (Rk (B5 (Qp (Qf Zw) ?_))))))) fun hc1=>Aa (Qp Bl (Qp Bc (Bh (fun hc3=>AW.region (Qp Aq (Qp Aq (Qp Aq (Rk (B5 (Qp (Qf Zw) ?_))))))) fun hc3=>?_))))))))))
 .
  refine Qp B6 (Qp Ap (Qp Cn (Qp Cc (Qg [] Qw (Qf Zw) (Qg [(21,_)] Qw B6 (Qg [] Qw Ap (Qg [(22,_),(23,_)] Yw Gx (Qp E5 (Bh (fun hc2=>Aa (Qp Ap (Qp Aq (Rc (Qr (Iq _) ?_))))) fun hc2=>B2 (Aa (Qp Aq (Rb (Qr (Iq _) ?_)))))))))))))
  . simp only [Ah,Mz,hc1,hc2,↓reduceIte,Ak]
  simp only [Ah,Mz,hc1,hc2,↓reduceIte,Ak]
 .
  refine Qp B6 (Qp Ap (Qp Cn (Qp Cc (Qg [] Qw (Qf Zw) (Qg [(21,_)] Qw B6 (Qg [] Qw Ap (Qg [(22,_),(23,_)] Yw Gx (Qp E5 (Bh (fun hc4=>Aa (Qp Ap (Qp Aq (Rc (Qr (Iq _) ?_))))) fun hc4=>B2 (Aa (Qp Aq (Rb (Qr (Iq _) ?_)))))))))))))
  . simp only [Ah,Mz,hc1,hc3,hc4,↓reduceIte,Ak]
  simp only [Ah,Mz,hc1,hc3,hc4,↓reduceIte,Ak]
 refine Aa (Qp Bl (Qp Bc (Bh (fun hc5=>AW.region (Qp Aq (Qp Aq (Qp Aq (Rk (B5 (Qp (Qf Zw) ?_))))))) fun hc5=>Aa (Qp Bl (Qp Bc (Bh (fun hc7=>AW.region (Qp Aq (Qp Aq (Rk (B5 (Qp (Qf Zw) (Qp B6 ?_))))))) fun hc7=>?_))))))
 .
  refine Qp B6 (Qp Ap (Qp Cn (Qp Cc (Qg [] Qw (Qf Zw) (Qg [(21,_)] Qw B6 (Qg [] Qw Ap (Qg [(22,_),(23,_)] Yw Gx (Qp E5 (Bh (fun hc6=>Aa (Qp Ap (Qp Aq (Rc (Qr (Iq _) ?_))))) fun hc6=>B2 (Aa (Qp Aq (Rb (Qr (Iq _) ?_)))))))))))))
  . simp only [Ah,Mz,hc1,hc3,hc5,hc6,↓reduceIte,Ak]
  simp only [Ah,Mz,hc1,hc3,hc5,hc6,↓reduceIte,Ak]
 .
  refine Qp Ap (Qp Cn (Qp Cc (Qg [] Qw (Qf Zw) (Qg [(21,_)] Qw B6 (Qg [] Qw Ap (Qg [(22,_),(23,_)] Yw Gx (Qp E5 (Bh (fun hc8=>Aa (Qp Ap (Qp Aq (Rc (Qr (Iq _) ?_))))) fun hc8=>B2 (Aa (Qp Aq (Rb (Qr (Iq _) ?_))))))))))))
  . simp only [Ah,Mz,hc1,hc3,hc5,hc7,hc8,↓reduceIte,Ak]
  simp only [Ah,Mz,hc1,hc3,hc5,hc7,hc8,↓reduceIte,Ak]
 refine Rf (B5 (Qp (Qf Zw) (Qp B6 (Qp Ap (Qp Cn (Qp Cc (Qg [] Qw (Qf Zw) (Qg [(21,_)] Qw B6 (Qg [] Qw Ap (Qg [(22,_),(23,_)] Yw Gx (Qp E5 (Bh (fun hc9=>Aa (Qp Ap (Qp Aq (Rc (Qr (Iq _) ?_))))) fun hc9=>B2 (Aa (Qp Aq (Rb (Qr (Iq _) ?_))))))))))))))))
 . simp only [Ah,Mz,hc1,hc3,hc5,hc7,hc9,↓reduceIte,Ak]
 simp only [Ah,Mz,hc1,hc3,hc5,hc7,hc9,↓reduceIte,Ak]
theorem w_fields (t:Syn):An Tryz.prog 203 [.agg (cSyn t)] (.int .i64 (Dl t)):=by
 refine Fb 38 Tryz.func203 rfl fun H=>?_
 refine Aa (Qp (Hu Ai) (Qp Aq (Ax (B5 (Qp (Qf Ai) (Qp B6 (Qp Bl (Bh (fun hc1=>Aa (Qp (Cm Ai) (Qp (Qc rfl (w_const t)) (Qp Aq (Rc (Qr (Iq _) ?_)))))) fun hc1=>?_))))))))
 .
  simp only [Ah,Dl];rw [if_pos hc1]
 refine B2 (B5 (Qp (Cm Ai) (Qp (Qc rfl (w_number t)) (Qp Aq (B7 (Qp Ap (Qp Cb (Bh (fun hc2=>Aa (Qp Ap (Qp Aq (Rc (Qr (Iq _) ?_))))) fun hc2=>?_))))))))
 .
  simp only [Ah,Dl];rw [Bo hc1,if_pos hc2]
 refine B2 (B5 (Qp (Qf Ai) (Qp B6 (Qp (Qc rfl (w_uses t.kind)) (Qp Oz (Qp lL (Qp lL (Qp Bc (Qp Bc (B7 (Qp Cc (Qp Ix (Qp Cc (Qg [] Qw (Qf X6) (Qg [(25,_)] Qw Gr ?_)))))))))))))));refine Qg [(26,_)] Qw (Fh rfl rfl) (Qp Ju (Qp Cc (Qg [] Qw Cc (Qg [(30,_)] Qw Ix (Qg [(31,_)] Qw Cc (Qg [] Qw (Qf pF) (Qg [(33,_)] Qw Gr (Qg [(34,_)] Qw (Fh rfl rfl) (Qg [(32,_),(35,_)] Qw Ju (Qp E5 (Bh (fun hc3=>Aa (Qp Aq (Rc (Qr (Iq _) ?_)))) fun hc3=>B2 (Aa (Qp Aq (Rb (Qr (Iq _) ?_)))))))))))))))
 .
  simp only [Ah,Dl];rw [Bo hc1,Bo hc2,if_pos hc3]
 simp only [Ah,Dl];rw [Bo hc1,Bo hc2,Bo hc3]
theorem w_kid (t:Syn)(i:Nat)(hi:i<t.kids.length)(hl:t.kids.length<=1048576):An Tryz.prog 204 [.agg (cSyn t),.int .i64 (i:Int)] (rD (Dm t i)):=by
 refine Fb 59 Tryz.func204 rfl fun H=>?_
 refine Aa (Qp (Hu Ai) (Qp Sa (Ax (B5 (Qp (Qf Ai) (Qp B6 (Ax (AW.block (Aa (Qp Bl (Qp Bc (Bh (fun hc1=>B5 (Qp (Qf Ot) (Qp Dd (Qp Ap ?_)))) fun hc1=>Aa (Qp Bl (Qp Bc (Bh (fun hc3=>Aa (Qp (Qc rfl (Wm _)) (Qp (Ba (v:=.fn _ _ _) rfl) (Ra (Qr (.fn _ _ _) ?_))))) fun hc3=>?_)))))))))))))))
 .
  refine Qp (Eh (cSyn (Bi t i)) rfl rfl (by omega) (Ie (kid_has hi))) ?_;refine Qp (Qf Ai) (Qp B6 (Qp Bl (Qp Cc (Qg [] Qw Ap (Qg [(17,_)] Qw Bl (Qg [(18,_)] Qw Cc (Qg [] Qw (Qf Ot) (Qg [(20,_)] Qw Dd (Qg [] Qw Ap ?_)))))))));refine Yh [(22,_)] Qw (fun hG=>P_sub rfl rfl rfl (by constructor <;> omega)) ?_;refine Yh [(21,_),(23,_)] (Yv rfl Es Es) (fun hG=>Eh (cSyn (Bi t (i-1))) rfl rfl ((tK hi hG).1) ((tK hi hG).2)) ?_;refine Qg [(24,_)] Qw (Qf Ai) (Qg [(25,_)] Qw B6 (Qg [(26,_)] Qw Bl (Qg [(19,_),(27,_)] Qw E5 (Qp Ju (Bh (fun hc2=>Aa (Qp (Qc rfl (Wm _)) (Qp (Ba (v:=.fn _ _ _) rfl) (Rc (Dz (A7 (Qr (.fn _ _ _) ?_))))))) fun hc2=>B2 (Aa (Qp (Qc rfl (Wm _)) (Qp (Ba (v:=.fn _ _ _) rfl) (Ra (Qr (.fn _ _ _) ?_))))))))))
  . simp only [Ah,Dm,rD,hc1,hc2,↓reduceIte,Ak]
  simp only [Ah,Dm,rD,hc1,hc2,↓reduceIte,Ak]
 . simp only [Ah,Dm,rD,hc1,hc3,↓reduceIte,Ak]
 refine Aa (Qp Bl (Qp Bc (Bh (fun hc4=>B5 (Qp Ap (Ax (AW.block (Aa (Qp Bl (Qp Bc (Bh (fun hc5=>Aa (Qp (Qc rfl (Wm _)) (Qp (Ba (v:=.fn _ _ _) rfl) (Ra (Dz (A7 (Qr (.fn _ _ _) ?_))))))) fun hc5=>Aa (Qp Bl (Qp Bc (Bh (fun hc6=>Aa (Qp (Ba (v:=.fn _ _ _) rfl) (Ra (Dz (A7 (Qr (.fn _ _ _) ?_)))))) fun hc6=>Rf (Aa (Qp (Ba (v:=.fn _ _ _) rfl) (Ra (Qr (.fn _ _ _) ?_))))))))))))))) fun hc4=>?_)))
 . simp only [Ah,Dm,rD,hc1,hc3,hc4,hc5,↓reduceIte,Ak]
 . simp only [Ah,Dm,rD,hc1,hc3,hc4,hc5,hc6,↓reduceIte,Ak]
 . simp only [Ah,Dm,rD,hc1,hc3,hc4,hc5,hc6,↓reduceIte,Ak]
 refine Aa (Qp Bl (Qp Bc (Bh (fun hc7=>Aa (Qp Ap (Qp Bl (Bh (fun hc8=>Aa (Qp (Qc rfl (Wm _)) (Qp (Ba (v:=.fn _ _ _) rfl) (Ra (Qr (.fn _ _ _) ?_))))) fun hc8=>Rf (Aa (Qp (Ba (v:=.fn _ _ _) rfl) (Rb (Qr (.fn _ _ _) ?_)))))))) fun hc7=>?_)))
 . simp only [Ah,Dm,rD,hc1,hc3,hc4,hc7,hc8,↓reduceIte,Ak]
 . simp only [Ah,Dm,rD,hc1,hc3,hc4,hc7,hc8,↓reduceIte,Ak]
 refine Aa (Qp Bl (Qp Bc (Bh (fun hc9=>Aa (Qp Ap (Qp Bl (Bh (fun hc10=>Aa (Qp (Ba (v:=.fn _ _ _) rfl) (Ra (Qr (.fn _ _ _) ?_)))) fun hc10=>Rf (Aa (Qp (Ba (v:=.fn _ _ _) rfl) (Rb (Qr (.fn _ _ _) ?_)))))))) fun hc9=>Aa (Qp Bl (Qp Bc (Bh (fun hc11=>Aa (Qp (Qc rfl (Wm _)) (Qp (Ba (v:=.fn _ _ _) rfl) (Ra (Qr (.fn _ _ _) ?_))))) fun hc11=>?_))))))
 . simp only [Ah,Dm,rD,hc1,hc3,hc4,hc7,hc9,hc10,↓reduceIte,Ak]
 . simp only [Ah,Dm,rD,hc1,hc3,hc4,hc7,hc9,hc10,↓reduceIte,Ak]
 . simp only [Ah,Dm,rD,hc1,hc3,hc4,hc7,hc9,hc11,↓reduceIte,Ak]
 refine AW.Aai (fun (_:Unit)=>(⟨[(2,.ptr (cSyn t)),(55,.bool ((((t.kind==5)||(t.kind==17))||(t.kind==18))))],H,59⟩:St)) (fun _=>True) ?_ ?_
 .
  refine Aa (Qp Bl (Qp Bc (Bh (fun hc12=>B2 ?_) fun hc12=>Aa (Qp Bl (Qp Bc (Bh (fun hc13=>B2 ?_) fun hc13=>AW.region (Qp Bl (Qp Bc (Ax ?_)))))))))
  .
   refine ⟨(),?_,GS.weaken ⟨rfl,congrArg AV.bool (by simp [*]),trivial⟩ (.refl _)⟩
   trivial
  .
   refine ⟨(),?_,GS.weaken ⟨rfl,congrArg AV.bool (by simp [*]),trivial⟩ (.refl _)⟩
   trivial
  refine ⟨(),?_,GS.weaken ⟨rfl,congrArg AV.bool (by simp [*]),trivial⟩ (.refl _)⟩
  trivial
 rintro _ _;refine Hb (fun hc14=>Aa (Qp (Ba (v:=.fn _ _ _) rfl) (Ra (Qr (.fn _ _ _) ?_)))) fun hc14=>Rf (Aa (Qp (Ba (v:=.fn _ _ _) rfl) (Rb (Qr (.fn _ _ _) ?_))))
 . simp only [Ah,Dm,rD,hc1,hc3,hc4,hc7,hc9,hc11,hc14,↓reduceIte,Ak]
 simp only [Ah,Dm,rD,hc1,hc3,hc4,hc7,hc9,hc11,hc14,↓reduceIte,Ak]
end Go.Proofs.YtckhoadldibflaaGreatDoor
