/-
  Several texts in one: V5, V6, V7, V8, V9, V10, L1, P18, P19, Q1, R25, R28. No condition.
-/
import Derived.Test.YtckhoadldibflaaGreatDoorK01
import Derived.Test.YtckhoadldibflaaGreatDoorK08
import Derived.KernelRfl
import Derived.Test.YtckhoadldibflaaGreatDoorK05
set_option linter.unusedVariables false
set_option linter.unusedSimpArgs false
set_option maxHeartbeats 3200000
set_option maxRecDepth 100000
namespace Go.Proofs.YtckhoadldibflaaGreatDoor
open Go Go.Aw
theorem pS (read:Syn->PS->Syn×PS)(z:Syn)(st:PS):O8 read z st=if ((Jk st).bad != 0) then (z,Jk st) else ((read z (adv (Jx st))).1,Jf (read z (adv (Jx st))).2):=rfl
theorem Z8 (read:Syn->PS->Syn×PS)(z:Syn)(st:PS)(bp bo:Nat)(R:List HO)(f:Nat)(hf:U3 Tryz.prog f=true)(first cap:List AV)(hlt:st.pos<st.toks.length)(hS:Th st)
  (hcl:(Jk st).bad=0->Cj Tryz.prog f (.box bp 223 (cP (adv (Jx st))) :: .box bo 25 (cSyn z)::R) (first ++ []++cap) (fun r H'=>r = .tuple []/\H' = .box bp 223 (cP (read z (adv (Jx st))).2) :: .box bo 25 (cSyn (read z (adv (Jx st))).1)::R)) :
  Cj Tryz.prog 226 (.box bp 223 (cP st) :: .box bo 25 (cSyn z)::R) [.val (.pointer (some ⟨bp,0,none⟩)),.fn (.func f) first cap] (fun r H'=>r = .tuple []/\H' = .box bp 223 (cP (O8 read z st).2) :: .box bo 25 (cSyn (O8 read z st).1)::R):=by
 refine p_nested st (read z (adv (Jx st))).2 (O8 read z st).2 bp (.box bo 25 (cSyn z)::R) (.box bo 25 (cSyn (O8 read z st).1)::R) f hf first cap hlt hS (fun hb=>?_) (fun hb=>?_)
 .
  have e:O8 read z st=((read z (adv (Jx st))).1,Jf (read z (adv (Jx st))).2):=by rw [pS,hb];rfl
  refine Cj.mono' (hcl hb) fun r K hk=>⟨?_,by rw [e]⟩
  rw [hk.2,e]
 have e:O8 read z st=(z,Jk st):=by rw [pS,if_pos (by simpa using hb)]
 rw [e];exact ⟨rfl,rfl⟩
theorem fV {D:Int}{st:PS}(hD:0<=D)(h:okD D st)(hb:(Jk st).bad=0):okD (D+1) (adv (Jx st)):=by
 obtain ⟨h1,h2,h3⟩:=h
 have hd:¬64<=st.depth:=fun hd=>by
  unfold Jk at hb;rw [if_pos (decide_eq_true hd)] at hb;exact absurd (eS (e:=12) (by decide) st) (by simp [hb])
 have e1:(Jx st).depth=st.depth+1:=nB (by omega) (by omega);exact ⟨h1,show D+1<=(Jx st).depth by omega,show (Jx st).depth<=64 by omega⟩
theorem tot_get (k:Nat)(h:k<4):∃s,totL[k]? = some s/\(Kj.drop (k*2)).take 2 = [AV.str s.1,.int .i64 s.2]/\s.1.length<=1048576:=by
 match k,h with
 | 0,_=>exact ⟨_,rfl,rfl,by decide⟩
 | 1,_=>exact ⟨_,rfl,rfl,by decide⟩
 | 2,_=>exact ⟨_,rfl,rfl,by decide⟩
 | 3,_=>exact ⟨_,rfl,rfl,by decide⟩
theorem p_unit_1 (st:PS)(bp:Nat)(z:Syn)(bo:Nat)(R:List HO)(D:Int)(hD:0<=D)(E:PS->Syn×PS)(hFE:Ds E)(hE:∀(st:PS) (bp:Nat),okD (D+1) st->By Tryz.prog 164 bp 223 (cP st) (cP (E st).2) [.val (.pointer (some ⟨bp,0,none⟩))] (.agg (cSyn (E st).1)))(hO:okD (D+1) st):Cj Tryz.prog 328 (.box bp 223 (cP st) :: .box bo 25 (cSyn z)::R) [.ptr [.val (.pointer (some ⟨bp,0,none⟩))],.val (.pointer (some ⟨bo,0,none⟩))] (fun r H'=>r = .tuple []/\H' = .box bp 223 (cP (Df Ht (E st).2)) :: .box bo 25 (cSyn (E st).1)::R):=by
 have hS:=((hFE.okD (by omega) hO).1);refine Is 6 Tryz.func328 rfl ?_;refine Aa (Qp Kb (sH ((hE st bp hO).at (k:=0) (H2:=_::_::_) rfl rfl) ?_));refine Bw 1 Ag (_::_::_) (Aq (AW.region (Qp Kb ?_)));refine Rt (Dr rfl ((Et _ _ _ (by simpa using hS) (by first | assumption | decide)).at (k:=0) (H2:=_::_::_) rfl rfl)) ?_;refine AOL.nil ?_;refine ⟨.inl rfl,[],.nil,_,.refl _,?_⟩;exact ⟨rfl,rfl⟩
theorem eT {α:Type}{p:α->Bool}{l:List α}{k:Nat}(hk:¬k<l.length)(hn:∀j y,j<k->l[j]? = some y->p y=false):l.find? p=none:=
 jK fun j y hj hy=>hn j y (by omega) hy
theorem p_unit (st:PS)(bp:Nat)(D:Int)(hD:0<=D)(E:PS->Syn×PS)(hFE:Ds E)(hE:∀(st:PS) (bp:Nat),okD (D+1) st->By Tryz.prog 164 bp 223 (cP st) (cP (E st).2) [.val (.pointer (some ⟨bp,0,none⟩))] (.agg (cSyn (E st).1)))(hO:okD D st):By Tryz.prog 322 bp 223 (cP st) (cP ((Kk E st).2)) [.val (.pointer (some ⟨bp,0,none⟩))] (.agg (cSyn (Kk E st).1)):=by
 intro H;have hS:=hO.1;refine Is 83 Tryz.func322 rfl ?_;refine Aa (Qp (Vk (v:=.val _) (cs:=[_]) rfl rfl rfl) (Dx F1 fun b2=>B2 (Qp Kb ?_)));refine AOL.Aas (C9 (k:=1) (by kernel_rfl) rfl rfl (Mt _ _)) rfl rfl ?_;refine Qp Ah (Aq (Ba (Qp Kb ?_)));refine AOL.Aas (C9 (k:=1) (by kernel_rfl) rfl rfl (p_is _ _ _ (by simpa using hS) (by first | assumption | decide))) rfl rfl ?_;refine Ap (fun hc1=>?_) fun hc1=>?_
 .
  try simp only [Bk,Bs] at hc1
  refine Aa (Dx F1 fun b4=>B2 (Qp Kb (Qp (Ci (l:=[]) (l':=[.ptr _,.val _]) rfl rfl) ?_)));refine Rt (Dr rfl (Cj.front2 (R:=_::_) 0 1 rfl rfl rfl (Z8 (fun _ s=>((E s).1,Df Ht (E s).2)) Hb st bp b4 _ 328 (by kernel_rfl) [] [.ptr [.val (.pointer (some ⟨bp,0,none⟩))],.val (.pointer (some ⟨b4,0,none⟩))] (bU hc1) hS (fun hb=>p_unit_1 _ bp Hb b4 _ D hD E hFE hE (fV hD hO hb))))) ?_;refine B2 (Nu 1 Ag rfl ?_);refine Bw 2 Ag (_::_::_::_) (Rc ?_);refine ⟨.inr rfl,[.agg Ag],.cons (.box _ _ _ 2 _ _ _ _ rfl rfl rfl rfl rfl rfl) <| .nil,_,.cons_cons _ (.cons _ (.cons _ (.refl _))),?_⟩;refine ⟨?_,congrArg (fun c=>HO.box bp 223 c::H) ?_⟩
  .
   try simp only [Ad,Kk,cSyn,Bj,Ca,Bi,hc1,↓reduceIte,Al,Bc,Bv]
   try rfl
  try simp only [cP,Kk,hc1,↓reduceIte,Al,Bc,Bv]
  try rfl
 try simp only [Bk,Bs] at hc1
 refine A5 (Ba ?_);refine Qp (bC (l:=Kj) tok (⟨_,by simp [globals],fun _ h=>h⟩) rfl rfl rfl rfl) ?_;refine Qp Ai (Aq (AW.block ?_));refine AW.Aan (fun (k:Nat)=>(⟨[(1,.ptr [.val (.pointer (some ⟨bp,0,none⟩))]),(2,.val (.pointer (some ⟨b2,0,none⟩))),(3,.int .i64 (D2 st)),(19,.agg Kj),(20,.int .i64 (k:Int))],.box b2 25 (cSyn Hb) :: .box bp 223 (cP st)::H,83⟩:St)) (fun k=>k<=4/\∀j y,j<k->totL[j]? = some y->Jj y.1 st=false) (fun k=>4-k) (0) ?_ Bx ?_
 . exact ⟨A3 _,fun j y hj=>absurd hj (Nat.not_lt_zero _)⟩
 rintro k hR;refine Aa (Qp Bt (Re (E9 (fun hc2=>?_) fun hc2=>?_)))
 .
  try simp only [Bk,Bs] at hc2
  have hk:k<4:=by have:=Do hc2;omega
  refine (tot_get k hk).elim fun x hx3=>?_
  have hx:=hx3.1;have hx2:=hx3.2.1;have hwx:=hx3.2.2;refine A5 (AW.seq (AW.block (Aa ?_)));refine Qp (kR (l:=[.str x.1,.int .i64 x.2]) tok rfl rfl rfl rfl rfl rfl (by omega) (by omega) (by show k*2+2<=8;omega) (hx2)) ?_;refine Dx gjy fun b6=>?_
  refine Bw 0 E4 (_::_::_::_) ?_;refine Ji 6 0 rfl ?_;refine B2 (Qp Kb (Qp (Qf E4) (Qp Dk ?_)));refine Rt (Dr rfl ((Ep _ _ _ (by simpa using hS) (by first | assumption | decide)).at (k:=1) (H2:=_::_::_) rfl rfl)) ?_;refine Ap (fun hc3=>?_) fun hc3=>?_
  .
   try simp only [Bk,Bs] at hc3
   have hfd:totL.find? (fun s=>Jj s.1 st)=some x:=X1 hR.2 hx hc3;refine AW.ghost (GS.Aap (H2:=_::_::_) 1 rfl (congrArg cP (Ge hc3)) rfl) ?_;refine Aa (Qp (Qf [Iq _]) (Qp Be (Qp Ai (Qp (D0 Ag) (Dx F1 fun b7=>?_)))));refine Bw 0 Ag (_::_::_::_) (B2 (Qp Kb ?_));refine Rt (Dr rfl (Cj.front2 (R:=_::_) 0 1 rfl rfl rfl (pY (adv st) bp (⟨16,[],[],x.2,[],D2 st⟩) b7 (by simpa using hS) _))) ?_;refine B2 (Qp Kb ?_);refine Rt (Dr rfl ((Et _ _ _ (by simpa using hS) (by first | assumption | decide)).at (k:=0) (H2:=_::_::_::_) rfl rfl)) ?_;refine B2 (Qp Kb ?_);refine Rt (Dr rfl ((fY _ _ (by simpa using hS)).at (k:=0) (H2:=_::_::_::_) rfl rfl)) ?_;refine Qp (G0 [Ag] rfl) (Qp Co ?_);refine Bw 1 Ag (_::_::_::_) (B2 (Qp Kb ?_));refine Rt (Dr rfl ((Et _ _ _ (by simpa using hS) (by first | assumption | decide)).at (k:=0) (H2:=_::_::_::_) rfl rfl)) ?_;refine B2 (Nu 1 Ag rfl ?_);refine Bw 2 Ag (_::_::_::_) (Ra (Au (Cn (Au ?_))));refine ⟨.inr rfl,[.agg Ag],.cons (.box _ _ _ 2 _ _ _ _ rfl rfl rfl rfl rfl rfl) <| .nil,_,.cons_cons _ (.cons _ (.cons _ (.refl _))),?_⟩;refine ⟨?_,congrArg (fun c=>HO.box bp 223 c::H) ?_⟩
   .
    try simp only [Ad,Kk,hfd,cSyn,Bj,Ca,Bi,hc1,hc2,hc3,↓reduceIte,Al,Bc,Bv]
    try rfl
   try simp only [cP,Kk,hfd,hc1,hc2,hc3,↓reduceIte,Al,Bc,Bv]
   try rfl
  try simp only [Bk,Bs] at hc3
  refine AW.ghost (GS.Aap (H2:=_::_::_) 1 rfl (congrArg cP (Hl hc3)) rfl) ?_;refine Rf (AW.region (Qp Dt (Qp Ai (Aq ?_))));refine ⟨k+1,?_,?_,Bx⟩
  . exact ⟨hk,fun j y hj hy=>by rcases Nat.lt_succ_iff_lt_or_eq.1 hj with h | rfl;exact hR.2 j y h hy;rw [hx] at hy;cases hy;exact hc3⟩
  omega
 try simp only [Bk,Bs] at hc2
 have hkn:¬k<4:=by have:=Di hc2;omega
 have hfd:totL.find? (fun s=>Jj s.1 st)=none:=eT (k:=k) hkn hR.2;refine AW.exit ?_;refine Bn (Ri (AW.seq (AW.block (Aa (Qp Kb ?_)))));refine Rt (Dr rfl ((Ep _ _ _ (by simpa using hS) (by first | assumption | decide)).at (k:=1) (H2:=_::_::_) rfl rfl)) ?_;refine Qp Ao (Ap (fun hc4=>?_) fun hc4=>?_)
 .
  try simp only [Bk,Bs] at hc4
  refine AW.ghost (GS.Aap (H2:=_::_::_) 1 rfl (congrArg cP (Ge hc4)) rfl) ?_;refine Aa (Qp Ai (Qp (D0 Ag) (Dx F1 fun b8=>?_)));refine Bw 0 Ag (_::_::_::_) (B2 (Qp Kb ?_));refine Rt (Dr rfl (Cj.front2 (R:=_::_) 0 1 rfl rfl rfl (pY (adv st) bp (⟨16,[],[],1,[],D2 st⟩) b8 (by simpa using hS) _))) ?_;refine B2 (Qp Kb ?_);refine Rt (Dr rfl ((Et _ _ _ (by simpa using hS) (by first | assumption | decide)).at (k:=0) (H2:=_::_::_::_) rfl rfl)) ?_;refine B2 (Nu 1 Ag rfl ?_);refine Bw 2 Ag (_::_::_::_) (Ra ?_);refine ⟨.inr rfl,[.agg Ag],.cons (.box _ _ _ 2 _ _ _ _ rfl rfl rfl rfl rfl rfl) <| .nil,_,.cons_cons _ (.cons _ (.cons _ (.refl _))),?_⟩;refine ⟨?_,congrArg (fun c=>HO.box bp 223 c::H) ?_⟩
  .
   try simp only [Ad,Kk,hfd,cSyn,Bj,Ca,Bi,hc1,hc2,hc4,↓reduceIte,Al,Bc,Bv]
   try rfl
  try simp only [cP,Kk,hfd,hc1,hc2,hc4,↓reduceIte,Al,Bc,Bv]
  try rfl
 try simp only [Bk,Bs] at hc4
 refine AW.ghost (GS.Aap (H2:=_::_::_) 1 rfl (congrArg cP (Hl hc4)) rfl) ?_;refine Aa (Qp Kb ?_);refine Rt (Dr rfl ((Ep _ _ _ (by simpa using hS) (by first | assumption | decide)).at (k:=1) (H2:=_::_::_) rfl rfl)) ?_;refine Qp Ao (Ap (fun hc5=>?_) fun hc5=>?_)
 .
  try simp only [Bk,Bs] at hc5
  refine AW.ghost (GS.Aap (H2:=_::_::_) 1 rfl (congrArg cP (Ge hc5)) rfl) ?_;refine Aa (Qp Kb ?_);refine Rt (Dr rfl ((Et _ _ _ (by simpa using hS) (by first | assumption | decide)).at (k:=1) (H2:=_::_::_) rfl rfl)) ?_;refine B2 (Qp Kb ?_);refine Rt (Dr rfl ((Se _ _ (by simpa using hS)).at (k:=1) (H2:=_::_::_) rfl rfl)) ?_;refine Qp Ai (Qp (D0 Ag) (Dx F1 fun b9=>?_));refine Bw 0 Ag (_::_::_::_) ?_;refine Ji 9 0 rfl ?_;refine B2 (Qp Kb ?_);refine Rt (Dr rfl ((Et _ _ _ (by simpa using hS) (by first | assumption | decide)).at (k:=1) (H2:=_::_::_) rfl rfl)) ?_;refine B2 (Qp (B1 Ag) ?_);refine Bw 0 Ag (_::_::_) (Ra ?_);refine ⟨.inr rfl,[.agg Ag],Zb 0,_,S1,?_⟩;refine ⟨?_,congrArg (fun c=>HO.box bp 223 c::H) ?_⟩
  .
   try simp only [Ad,Kk,hfd,cSyn,Bj,Ca,Bi,hc1,hc2,hc4,hc5,↓reduceIte,Al,Bc,Bv]
   try rfl
  try simp only [cP,Kk,hfd,hc1,hc2,hc4,hc5,↓reduceIte,Al,Bc,Bv]
  try rfl
 try simp only [Bk,Bs] at hc5
 refine AW.ghost (GS.Aap (H2:=_::_::_) 1 rfl (congrArg cP (Hl hc5)) rfl) ?_;refine Aa (Qp Kb ?_);refine AOL.Aas (C9 (k:=1) (by kernel_rfl) rfl rfl (tV _ _ _ (by simpa using hS))) rfl rfl ?_;refine Qp Ao (Ap (fun hc6=>?_) fun hc6=>?_)
 .
  try simp only [Bk,Bs] at hc6
  refine Aa (Qp Kb ?_);refine Rt (Dr rfl ((Se _ _ (by simpa using hS)).at (k:=1) (H2:=_::_::_) rfl rfl)) ?_;refine Qp Ai (Qp (D0 Ag) (Dx F1 fun b10=>?_));refine Bw 0 Ag (_::_::_::_) (B2 (Qp Kb ?_));refine Rt (Dr rfl ((Et _ _ _ (by simpa using hS) (by first | assumption | decide)).at (k:=2) (H2:=_::_::_::_) rfl rfl)) ?_;refine Aq (Ba (Qp Kb ?_));refine Rt (Dr rfl ((Ep _ _ _ (by simpa using hS) (by first | assumption | decide)).at (k:=2) (H2:=_::_::_::_) rfl rfl)) ?_;refine Ap (fun hc7=>?_) fun hc7=>?_
  .
   try simp only [Bk,Bs] at hc7
   refine AW.ghost (GS.Aap (H2:=_::_::_::_) 2 rfl (congrArg cP (Ge hc7)) rfl) ?_;refine AW.region (Qp Co ?_);refine Bw 0 Ag (_::_::_::_) (B2 (Nu 0 Ag rfl ?_));refine Bw 1 Ag (_::_::_::_) (Ra ?_);refine ⟨.inr rfl,[.agg Ag],Zb 1,_,S2,?_⟩;refine ⟨?_,congrArg (fun c=>HO.box bp 223 c::H) ?_⟩
   .
    try simp only [Ad,Kk,hfd,cSyn,Bj,Ca,Bi,hc1,hc2,hc4,hc5,hc6,hc7,↓reduceIte,Al,Bc,Bv]
    try rfl
   try simp only [cP,Kk,hfd,hc1,hc2,hc4,hc5,hc6,hc7,↓reduceIte,Al,Bc,Bv]
   try rfl
  try simp only [Bk,Bs] at hc7
  refine AW.ghost (GS.Aap (H2:=_::_::_::_) 2 rfl (congrArg cP (Hl hc7)) rfl) ?_;refine AW.region (Qp Kb ?_);refine Rt (Dr rfl ((Se _ _ (by simpa using hS)).at (k:=2) (H2:=_::_::_::_) rfl rfl)) ?_;refine Qp Co ?_;refine Bw 0 Ag (_::_::_::_) (B2 (Nu 0 Ag rfl ?_));refine Bw 1 Ag (_::_::_::_) (Ra ?_);refine ⟨.inr rfl,[.agg Ag],Zb 1,_,S2,?_⟩;refine ⟨?_,congrArg (fun c=>HO.box bp 223 c::H) ?_⟩
  .
   try simp only [Ad,Kk,hfd,cSyn,Bj,Ca,Bi,hc1,hc2,hc4,hc5,hc6,hc7,↓reduceIte,Al,Bc,Bv]
   try rfl
  try simp only [cP,Kk,hfd,hc1,hc2,hc4,hc5,hc6,hc7,↓reduceIte,Al,Bc,Bv]
  try rfl
 try simp only [Bk,Bs] at hc6
 refine Rf (Aa (Qp Kb ?_));refine Rt (Dr rfl ((fY _ _ (by simpa using hS)).at (k:=1) (H2:=_::_::_) rfl rfl)) ?_;refine Bw 0 Ag (_::_::_) (Rb ?_);refine ⟨.inr rfl,[.agg Ag],Zb 0,_,S1,?_⟩;refine ⟨?_,congrArg (fun c=>HO.box bp 223 c::H) ?_⟩
 .
  try simp only [Ad,Kk,hfd,cSyn,Bj,Ca,Bi,hc1,hc2,hc4,hc5,hc6,↓reduceIte,Al,Bc,Bv]
  try rfl
 try simp only [cP,Kk,hfd,hc1,hc2,hc4,hc5,hc6,↓reduceIte,Al,Bc,Bv]
 try rfl
theorem gA (st:PS)(bp:Nat)(D:Int)(hD:0<=D)(E:PS->Syn×PS)(hFE:Ds E)(hE:∀(st:PS) (bp:Nat),okD (D+1) st->By Tryz.prog 164 bp 223 (cP st) (cP (E st).2) [.val (.pointer (some ⟨bp,0,none⟩))] (.agg (cSyn (E st).1)))(hO:okD D st):By Tryz.prog 316 bp 223 (cP st) (cP ((L3 E st).2)) [.val (.pointer (some ⟨bp,0,none⟩))] (.agg (cSyn (L3 E st).1)):=by
 intro H;refine Is 8 Tryz.func316 rfl ?_;refine Aa (Dx F1 fun b2=>B2 (Qp Ce (Qp Ce (Qp (Ci (l:=[.val _]) (l':=[]) rfl rfl) ?_))));refine Qp (Rl (es:=sumL.map cSg) tok (⟨fun cs=>cs=Q9,by simp [globals],fun _ h=>h⟩) rfl rfl rfl rfl rfl rfl rfl rfl rfl) ?_;refine Rt (Dr rfl ((mB st bp D hD 322 (by kernel_rfl) [.val (.pointer (some ⟨bp,0,none⟩))] [] (Kk E) (jL hFE) (fun s ho=>p_unit s bp D hD E hFE hE ho) hO sumL (by decide) (by decide)).at (k:=1) (H2:=_::_::_) rfl rfl)) ?_;refine Bw 0 Ag (_::_::_) (Rb ?_);refine ⟨.inr rfl,[.agg Ag],Zb 0,_,S1,?_⟩;refine ⟨rfl,rfl⟩
theorem zQ (st:PS)(bp:Nat)(D:Int)(hD:0<=D)(E:PS->Syn×PS)(hFE:Ds E)(hE:∀(st:PS) (bp:Nat),okD (D+1) st->By Tryz.prog 164 bp 223 (cP st) (cP (E st).2) [.val (.pointer (some ⟨bp,0,none⟩))] (.agg (cSyn (E st).1)))(hO:okD D st):By Tryz.prog 306 bp 223 (cP st) (cP ((Qm E st).2)) [.val (.pointer (some ⟨bp,0,none⟩))] (.agg (cSyn (Qm E st).1)):=by
 intro H;have hO2:=(eV hFE).okD hD hO;have hS:=hO2.1;refine Is 65 Tryz.func306 rfl ?_;refine Aa (Dx F1 fun b2=>B2 (Qp Ce (sH ((gA st bp D hD E hFE hE hO).at (k:=1) (H2:=_::_::_) rfl rfl) (Dx F1 fun b3=>?_))));refine Bw 0 Ag (_::_::_::_) ?_;refine Ji 3 0 rfl ?_;refine Re (AW.block (Aa (Qp Ce ?_)));refine Rt (Dr rfl ((Ep _ _ _ (by simpa using hS) (by decide)).at (k:=1) (H2:=_::_::_) rfl rfl)) ?_;refine Qp Ao (Ap (fun hc1=>?_) fun hc1=>?_)
 .
  try simp only [Bk,Bs] at hc1
  refine AW.ghost (GS.Aap (H2:=_::_::_) 1 rfl (congrArg cP (Ge hc1)) rfl) ?_;refine AW.seq ?_;refine Id ?_;refine Qn 0 rfl (B1 Ag) (Qn 1 rfl Ce (Qn 3 rfl (Qf [Iq _]) (Qn 4 rfl Be ?_)));refine Ma 2 rfl (Dr rfl ((gA (adv (L3 E st).2) bp D hD E hFE hE (by simpa using hO2)).at (k:=1) (H2:=_::_::_) rfl rfl)) ?_;refine Qn 5 rfl (Qc rfl (Lu _ _ _ _)) ?_;refine Ma 6 rfl (Hx 0 (.agg _) Ag (_::_::_) rfl) ?_;refine Fs ?_;refine A2 (AW.ret (Cn (Au ?_)));refine ⟨.inr rfl,[.agg Ag],Zb 0,_,S1,?_⟩;refine ⟨?_,congrArg (fun c=>HO.box bp 223 c::H) ?_⟩
  .
   try simp only [Ad,Qm,cSyn,Bj,Ca,Bi,hc1,↓reduceIte,Al,Bc,Bv]
   try rfl
  try simp only [cP,Qm,hc1,↓reduceIte,Al,Bc,Bv]
  try rfl
 try simp only [Bk,Bs] at hc1
 refine AW.ghost (GS.Aap (H2:=_::_::_) 1 rfl (congrArg cP (Hl hc1)) rfl) ?_;refine Aa (Qp Ce ?_);refine Rt (Dr rfl ((Ep _ _ _ (by simpa using hS) (by decide)).at (k:=1) (H2:=_::_::_) rfl rfl)) ?_;refine Qp Ao (Ap (fun hc2=>?_) fun hc2=>?_)
 .
  try simp only [Bk,Bs] at hc2
  refine AW.ghost (GS.Aap (H2:=_::_::_) 1 rfl (congrArg cP (Ge hc2)) rfl) ?_;refine AW.seq ?_;refine Id ?_;refine Qn 0 rfl (B1 Ag) (Qn 1 rfl Ce (Qn 3 rfl (Qf [Iq _]) (Qn 4 rfl Be ?_)));refine Ma 2 rfl (Dr rfl ((gA (adv (L3 E st).2) bp D hD E hFE hE (by simpa using hO2)).at (k:=1) (H2:=_::_::_) rfl rfl)) ?_;refine Qn 5 rfl (Qc rfl (Lu _ _ _ _)) ?_;refine Ma 6 rfl (Hx 0 (.agg _) Ag (_::_::_) rfl) ?_;refine Fs ?_;refine A2 (AW.ret (Cn (Au ?_)));refine ⟨.inr rfl,[.agg Ag],Zb 0,_,S1,?_⟩;refine ⟨?_,congrArg (fun c=>HO.box bp 223 c::H) ?_⟩
  .
   try simp only [Ad,Qm,cSyn,Bj,Ca,Bi,hc1,hc2,↓reduceIte,Al,Bc,Bv]
   try rfl
  try simp only [cP,Qm,hc1,hc2,↓reduceIte,Al,Bc,Bv]
  try rfl
 try simp only [Bk,Bs] at hc2
 refine AW.ghost (GS.Aap (H2:=_::_::_) 1 rfl (congrArg cP (Hl hc2)) rfl) ?_;refine Aa (Qp Ce ?_);refine Rt (Dr rfl ((Ep _ _ _ (by simpa using hS) (by decide)).at (k:=1) (H2:=_::_::_) rfl rfl)) ?_;refine Qp Ao (Ap (fun hc3=>?_) fun hc3=>?_)
 .
  try simp only [Bk,Bs] at hc3
  refine AW.ghost (GS.Aap (H2:=_::_::_) 1 rfl (congrArg cP (Ge hc3)) rfl) ?_;refine AW.seq ?_;refine Id ?_;refine Qn 0 rfl Ce (Qn 2 rfl (B1 Ag) (Qn 3 rfl (Qf [Iq _]) (Qn 4 rfl Be ?_)));refine Ma 1 rfl (Dr rfl ((gA (adv (L3 E st).2) bp D hD E hFE hE (by simpa using hO2)).at (k:=1) (H2:=_::_::_) rfl rfl)) ?_;refine Qn 5 rfl (Qc rfl (Lu _ _ _ _)) ?_;refine Ma 6 rfl (Hx 0 (.agg _) Ag (_::_::_) rfl) ?_;refine Fs ?_;refine A2 (AW.ret (Cn (Au ?_)));refine ⟨.inr rfl,[.agg Ag],Zb 0,_,S1,?_⟩;refine ⟨?_,congrArg (fun c=>HO.box bp 223 c::H) ?_⟩
  .
   try simp only [Ad,Qm,cSyn,Bj,Ca,Bi,hc1,hc2,hc3,↓reduceIte,Al,Bc,Bv]
   try rfl
  try simp only [cP,Qm,hc1,hc2,hc3,↓reduceIte,Al,Bc,Bv]
  try rfl
 try simp only [Bk,Bs] at hc3
 refine AW.ghost (GS.Aap (H2:=_::_::_) 1 rfl (congrArg cP (Hl hc3)) rfl) ?_;refine Aa (Qp Ce ?_);refine Rt (Dr rfl ((Ep _ _ _ (by simpa using hS) (by decide)).at (k:=1) (H2:=_::_::_) rfl rfl)) ?_;refine Qp Ao (Ap (fun hc4=>?_) fun hc4=>?_)
 .
  try simp only [Bk,Bs] at hc4
  refine AW.ghost (GS.Aap (H2:=_::_::_) 1 rfl (congrArg cP (Ge hc4)) rfl) ?_;refine AW.seq ?_;refine Id ?_;refine Qn 0 rfl Ce (Qn 2 rfl (B1 Ag) (Qn 3 rfl (Qf [Iq _]) (Qn 4 rfl Be ?_)));refine Ma 1 rfl (Dr rfl ((gA (adv (L3 E st).2) bp D hD E hFE hE (by simpa using hO2)).at (k:=1) (H2:=_::_::_) rfl rfl)) ?_;refine Qn 5 rfl (Qc rfl (Lu _ _ _ _)) ?_;refine Ma 6 rfl (Hx 0 (.agg _) Ag (_::_::_) rfl) ?_;refine Fs ?_;refine A2 (AW.ret (Cn (Au ?_)));refine ⟨.inr rfl,[.agg Ag],Zb 0,_,S1,?_⟩;refine ⟨?_,congrArg (fun c=>HO.box bp 223 c::H) ?_⟩
  .
   try simp only [Ad,Qm,cSyn,Bj,Ca,Bi,hc1,hc2,hc3,hc4,↓reduceIte,Al,Bc,Bv]
   try rfl
  try simp only [cP,Qm,hc1,hc2,hc3,hc4,↓reduceIte,Al,Bc,Bv]
  try rfl
 try simp only [Bk,Bs] at hc4
 refine AW.ghost (GS.Aap (H2:=_::_::_) 1 rfl (congrArg cP (Hl hc4)) rfl) ?_;refine Aa (Qp Ce ?_);refine Rt (Dr rfl ((Ep _ _ _ (by simpa using hS) (by decide)).at (k:=1) (H2:=_::_::_) rfl rfl)) ?_;refine Qp Ao (Ap (fun hc5=>?_) fun hc5=>?_)
 .
  try simp only [Bk,Bs] at hc5
  refine AW.ghost (GS.Aap (H2:=_::_::_) 1 rfl (congrArg cP (Ge hc5)) rfl) ?_;refine AW.seq ?_;refine Id ?_;refine Qn 0 rfl (B1 Ag) (Qn 1 rfl Ce (Qn 3 rfl (Qf [Iq _]) (Qn 4 rfl Be ?_)));refine Ma 2 rfl (Dr rfl ((gA (adv (L3 E st).2) bp D hD E hFE hE (by simpa using hO2)).at (k:=1) (H2:=_::_::_) rfl rfl)) ?_;refine Qn 5 rfl (Qc rfl (Lu _ _ _ _)) ?_;refine Ma 6 rfl (Hx 0 (.agg _) Ag (_::_::_) rfl) ?_;refine Fs ?_;refine A2 (AW.ret (Cn (Au ?_)));refine ⟨.inr rfl,[.agg Ag],Zb 0,_,S1,?_⟩;refine ⟨?_,congrArg (fun c=>HO.box bp 223 c::H) ?_⟩
  .
   try simp only [Ad,Qm,cSyn,Bj,Ca,Bi,hc1,hc2,hc3,hc4,hc5,↓reduceIte,Al,Bc,Bv]
   try rfl
  try simp only [cP,Qm,hc1,hc2,hc3,hc4,hc5,↓reduceIte,Al,Bc,Bv]
  try rfl
 try simp only [Bk,Bs] at hc5
 refine AW.ghost (GS.Aap (H2:=_::_::_) 1 rfl (congrArg cP (Hl hc5)) rfl) ?_;refine Aa (Qp Ce ?_);refine Rt (Dr rfl ((Ep _ _ _ (by simpa using hS) (by decide)).at (k:=1) (H2:=_::_::_) rfl rfl)) ?_;refine Qp Ao (Ap (fun hc6=>?_) fun hc6=>?_)
 .
  try simp only [Bk,Bs] at hc6
  refine AW.ghost (GS.Aap (H2:=_::_::_) 1 rfl (congrArg cP (Ge hc6)) rfl) ?_;refine AW.seq ?_;refine Id ?_;refine Qn 0 rfl (B1 Ag) (Qn 1 rfl Ce (Qn 3 rfl (Qf [Iq _]) (Qn 4 rfl Be (Qn 7 rfl (Qf [Iq _]) (Qn 8 rfl Be ?_)))));refine Ma 2 rfl (Dr rfl ((gA (adv (L3 E st).2) bp D hD E hFE hE (by simpa using hO2)).at (k:=1) (H2:=_::_::_) rfl rfl)) ?_;refine Qn 5 rfl (Qc rfl (Lu _ _ _ _)) (Qn 6 rfl (G0 [Ag] rfl) (Qn 9 rfl (D0 Ag) ?_));refine Ma 10 rfl (Hx 0 (.agg _) Ag (_::_::_) rfl) ?_;refine Fs ?_;refine A2 (AW.ret (Cn (Au ?_)));refine ⟨.inr rfl,[.agg Ag],Zb 0,_,S1,?_⟩;refine ⟨?_,congrArg (fun c=>HO.box bp 223 c::H) ?_⟩
  .
   try simp only [Ad,Qm,cSyn,Bj,Ca,Bi,hc1,hc2,hc3,hc4,hc5,hc6,↓reduceIte,Al,Bc,Bv]
   try rfl
  try simp only [cP,Qm,hc1,hc2,hc3,hc4,hc5,hc6,↓reduceIte,Al,Bc,Bv]
  try rfl
 try simp only [Bk,Bs] at hc6
 refine AW.ghost (GS.Aap (H2:=_::_::_) 1 rfl (congrArg cP (Hl hc6)) rfl) ?_;refine Rf (Aa (Qp (B1 Ag) ?_));refine Bw 0 Ag (_::_::_) (Rb ?_);refine ⟨.inr rfl,[.agg Ag],Zb 0,_,S1,?_⟩;refine ⟨?_,congrArg (fun c=>HO.box bp 223 c::H) ?_⟩
 .
  try simp only [Ad,Qm,cSyn,Bj,Ca,Bi,hc1,hc2,hc3,hc4,hc5,hc6,↓reduceIte,Al,Bc,Bv]
  try rfl
 try simp only [cP,Qm,hc1,hc2,hc3,hc4,hc5,hc6,↓reduceIte,Al,Bc,Bv]
 try rfl
theorem p_not_1 (st:PS)(bp:Nat)(z:Syn)(bo:Nat)(R:List HO)(D:Int)(hD:0<=D)(E:PS->Syn×PS)(hFE:Ds E)(hE:∀(st:PS) (bp:Nat),okD (D+1) st->By Tryz.prog 164 bp 223 (cP st) (cP (E st).2) [.val (.pointer (some ⟨bp,0,none⟩))] (.agg (cSyn (E st).1)))(N:PS->Syn×PS)(hFN:Ds N)(hN:∀(st:PS) (bp:Nat),okD (D+1) st->By Tryz.prog 288 bp 223 (cP st) (cP (N st).2) [.val (.pointer (some ⟨bp,0,none⟩))] (.agg (cSyn (N st).1)))(hO:okD (D+1) st):Cj Tryz.prog 307 (.box bp 223 (cP st) :: .box bo 25 (cSyn z)::R) [.ptr [.val (.pointer (some ⟨bp,0,none⟩))],.val (.pointer (some ⟨bo,0,none⟩))] (fun r H'=>r = .tuple []/\H' = .box bp 223 (cP (N st).2) :: .box bo 25 (cSyn { z with kids:=[(N st).1] })::R):=by
 refine Is 6 Tryz.func307 rfl ?_;refine AW.region (Qp Kb (sH ((hN st bp hO).at (k:=0) (H2:=_::_::_) rfl rfl) (Qp (G0 [Ag] rfl) (Qp Co ?_))));refine Bw 1 Ag (_::_::_) (AOL.nil ?_);refine ⟨.inl rfl,[],.nil,_,.refl _,?_⟩;exact ⟨rfl,congrArg (fun l=>HO.box bp 223 (cP (N st).2)::HO.box bo 25 [.int .i64 z.kind,.str z.text,.str z.name,.int .i64 z.num,.sl 6 l,.int .i64 z.pos]::R) (by rw [Bj,Ca,Bi])⟩
theorem p_not (st:PS)(bp:Nat)(D:Int)(hD:0<=D)(E:PS->Syn×PS)(hFE:Ds E)(hE:∀(st:PS) (bp:Nat),okD (D+1) st->By Tryz.prog 164 bp 223 (cP st) (cP (E st).2) [.val (.pointer (some ⟨bp,0,none⟩))] (.agg (cSyn (E st).1)))(N:PS->Syn×PS)(hFN:Ds N)(hN:∀(st:PS) (bp:Nat),okD (D+1) st->By Tryz.prog 288 bp 223 (cP st) (cP (N st).2) [.val (.pointer (some ⟨bp,0,none⟩))] (.agg (cSyn (N st).1)))(hO:okD D st):By Tryz.prog 288 bp 223 (cP st) (cP ((cN E N st).2)) [.val (.pointer (some ⟨bp,0,none⟩))] (.agg (cSyn (cN E N st).1)):=by
 intro H;have hS:=hO.1;refine Is 16 Tryz.func288 rfl ?_;refine Aa (Qp (Vk (v:=.val _) (cs:=[_]) rfl rfl rfl) (Dx F1 fun b2=>Aq (Ba (Qp Kb ?_))));refine AOL.Aas (C9 (k:=1) (by kernel_rfl) rfl rfl (p_is _ _ _ (by simpa using hS) (by decide))) rfl rfl ?_;refine Qp E7 (Ap (fun hc1=>?_) fun hc1=>?_)
 .
  try simp only [Bk,Bs] at hc1
  refine Aa (Qp Kb (sH ((zQ st bp D hD E hFE hE hO).at (k:=1) (H2:=_::_::_) rfl rfl) ?_));refine Bw 0 Ag (_::_::_) (Rc ?_);refine ⟨.inr rfl,[.agg Ag],Zb 0,_,S1,?_⟩;refine ⟨?_,congrArg (fun c=>HO.box bp 223 c::H) ?_⟩
  .
   try simp only [Ad,cN,cSyn,Bj,Ca,Bi,hc1,↓reduceIte,Al,Bc,Bv]
   try rfl
  try simp only [cP,cN,hc1,↓reduceIte,Al,Bc,Bv]
  try rfl
 try simp only [Bk,Bs] at hc1
 refine A5 (Aa (Qp Kb ?_));refine AOL.Aas (C9 (k:=1) (by kernel_rfl) rfl rfl (Mt _ _)) rfl rfl ?_;refine Qp (D0 Ag) (Dx F1 fun b3=>?_);refine Bw 0 Ag (_::_::_::_) (B2 (Qp Kb (Qp (Ci (l:=[]) (l':=[.ptr _,.val _]) rfl rfl) ?_)));refine Rt (Dr rfl (Cj.front2 (R:=_::_) 0 1 rfl rfl rfl (Z8 (fun z s=>({ z with kids:=[(N s).1] },(N s).2)) ⟨18,[],[],0,[],D2 st⟩ st bp b3 _ 307 (by kernel_rfl) [] [.ptr [.val (.pointer (some ⟨bp,0,none⟩))],.val (.pointer (some ⟨b3,0,none⟩))] (bU hc1) hS (fun hb=>p_not_1 _ bp ⟨18,[],[],0,[],D2 st⟩ b3 _ D hD E hFE hE N hFN hN (fV hD hO hb))))) ?_;refine B2 (Nu 1 Ag rfl ?_);refine Bw 2 Ag (_::_::_::_) (Rb ?_);refine ⟨.inr rfl,[.agg Ag],.cons (.box _ _ _ 2 _ _ _ _ rfl rfl rfl rfl rfl rfl) <| .nil,_,.cons_cons _ (.cons _ (.cons _ (.refl _))),?_⟩;refine ⟨?_,congrArg (fun c=>HO.box bp 223 c::H) ?_⟩
 .
  try simp only [Ad,cN,cSyn,Bj,Ca,Bi,hc1,↓reduceIte,Al,Bc,Bv]
  try rfl
 try simp only [cP,cN,hc1,↓reduceIte,Al,Bc,Bv]
 try rfl
theorem p_and (st:PS)(bp:Nat)(D:Int)(hD:0<=D)(E:PS->Syn×PS)(hFE:Ds E)(hE:∀(st:PS) (bp:Nat),okD (D+1) st->By Tryz.prog 164 bp 223 (cP st) (cP (E st).2) [.val (.pointer (some ⟨bp,0,none⟩))] (.agg (cSyn (E st).1)))(N:PS->Syn×PS)(hFN:Ds N)(hN:∀(st:PS) (bp:Nat),okD (D+1) st->By Tryz.prog 288 bp 223 (cP st) (cP (N st).2) [.val (.pointer (some ⟨bp,0,none⟩))] (.agg (cSyn (N st).1)))(hO:okD D st):By Tryz.prog 230 bp 223 (cP st) (cP ((andP E N st).2)) [.val (.pointer (some ⟨bp,0,none⟩))] (.agg (cSyn (andP E N st).1)):=by
 intro H;refine Is 8 Tryz.func230 rfl ?_;refine Aa (Dx F1 fun b2=>B2 (Qp Ce (Qp Ce (Qp (Ci (l:=[.val _]) (l':=[]) rfl rfl) ?_))));refine Qp (Rl (es:=andL.map cSg) tok (⟨fun cs=>cs=Qk,by simp [globals],fun _ h=>h⟩) rfl rfl rfl rfl rfl rfl rfl rfl rfl) ?_;refine Rt (Dr rfl ((mB st bp D hD 288 (by kernel_rfl) [.val (.pointer (some ⟨bp,0,none⟩))] [] (cN E N) (Tp hFE hFN) (fun s ho=>p_not s bp D hD E hFE hE N hFN hN ho) hO andL (by decide) (by decide)).at (k:=1) (H2:=_::_::_) rfl rfl)) ?_;refine Bw 0 Ag (_::_::_) (Rb ?_);refine ⟨.inr rfl,[.agg Ag],Zb 0,_,S1,?_⟩;refine ⟨rfl,rfl⟩
theorem p_expr (st:PS)(bp:Nat)(D:Int)(hD:0<=D)(E:PS->Syn×PS)(hFE:Ds E)(hE:∀(st:PS) (bp:Nat),okD (D+1) st->By Tryz.prog 164 bp 223 (cP st) (cP (E st).2) [.val (.pointer (some ⟨bp,0,none⟩))] (.agg (cSyn (E st).1)))(N:PS->Syn×PS)(hFN:Ds N)(hN:∀(st:PS) (bp:Nat),okD (D+1) st->By Tryz.prog 288 bp 223 (cP st) (cP (N st).2) [.val (.pointer (some ⟨bp,0,none⟩))] (.agg (cSyn (N st).1)))(hO:okD D st):By Tryz.prog 164 bp 223 (cP st) (cP ((orP E N st).2)) [.val (.pointer (some ⟨bp,0,none⟩))] (.agg (cSyn (orP E N st).1)):=by
 intro H;refine Is 8 Tryz.func164 rfl ?_;refine Aa (Dx F1 fun b2=>B2 (Qp Ce (Qp Ce (Qp (Ci (l:=[.val _]) (l':=[]) rfl rfl) ?_))));refine Qp (Rl (es:=orL.map cSg) tok (⟨fun cs=>cs=T3,by simp [globals],fun _ h=>h⟩) rfl rfl rfl rfl rfl rfl rfl rfl rfl) ?_;refine Rt (Dr rfl ((mB st bp D hD 230 (by kernel_rfl) [.val (.pointer (some ⟨bp,0,none⟩))] [] (andP E N) (Ru (Tp hFE hFN) andL) (fun s ho=>p_and s bp D hD E hFE hE N hFN hN ho) hO orL (by decide) (by decide)).at (k:=1) (H2:=_::_::_) rfl rfl)) ?_;refine Bw 0 Ag (_::_::_) (Rb ?_);refine ⟨.inr rfl,[.agg Ag],Zb 0,_,S1,?_⟩;refine ⟨rfl,rfl⟩
theorem T2 {st:PS}(h:okD (64+1) st):False:=by have:=h.2.1;have:=h.2.2;omega
theorem wV:∀(n:Nat),n<=64->(∀(st:PS) (bp:Nat),okD (64-(n:Int)) st->By Tryz.prog 288 bp 223 (cP st) (cP ((Wo n).1 st).2) [.val (.pointer (some ⟨bp,0,none⟩))] (.agg (cSyn ((Wo n).1 st).1)))/\(∀(st:PS) (bp:Nat),okD (64-(n:Int)) st->By Tryz.prog 164 bp 223 (cP st) (cP ((Wo n).2 st).2) [.val (.pointer (some ⟨bp,0,none⟩))] (.agg (cSyn ((Wo n).2 st).1)))
  | 0,_=>⟨fun st bp hO=>p_not st bp 64 (by decide) Ft Ia (fun _ _ h=>(T2 h).elim) Ft Ia (fun _ _ h=>(T2 h).elim) hO,fun st bp hO=>p_expr st bp 64 (by decide) Ft Ia (fun _ _ h=>(T2 h).elim) Ft Ia (fun _ _ h=>(T2 h).elim) hO⟩
  | n+1,hn=>by
    have ih:=wV n (by omega);have e:∀st,okD (64-((n+1:Nat):Int)+1) st->okD (64-(n:Int)) st:=fun st h=>⟨h.1,by have:=h.2.1;omega,h.2.2⟩
    have hD:0<=64-((n+1:Nat):Int):=by omega
    exact ⟨fun st bp hO=>p_not st bp _ hD (Wo n).2 (K3 n).2 (fun s b h=>ih.2 s b (e s h)) (Wo n).1 (K3 n).1 (fun s b h=>ih.1 s b (e s h)) hO,fun st bp hO=>p_expr st bp _ hD (Wo n).2 (K3 n).2 (fun s b h=>ih.2 s b (e s h)) (Wo n).1 (K3 n).1 (fun s b h=>ih.1 s b (e s h)) hO⟩
theorem fW {D:Int}(hD:0<=D){st:PS}(h:okD D st):okD 0 st:=⟨h.1,by have:=h.2.1;omega,h.2.2⟩
theorem dG {D:Int}(hD:0<=D){st:PS}(h:okD D st):sI st:=⟨by have:=h.2.1;omega,h.2.2⟩
theorem T1 {D:Int}{a b:PS}(h:okD D a)(g:Lg a b):okD D b:=(aC g.1 g.2.2).2 h
abbrev vN (z:Syn)(v:Value)(es:List (List AV)):List AV:=[.int .i64 z.kind,.str z.text,.str z.name,.int .i64 z.num,.row v 6 es,.int .i64 z.pos]
theorem wZ (st:PS)(bp:Nat)(E:PS->Syn×PS)(hFE:Ds E)(hE:∀(st:PS) (bp:Nat),okD 0 st->By Tryz.prog 164 bp 223 (cP st) (cP (E st).2) [.val (.pointer (some ⟨bp,0,none⟩))] (.agg (cSyn (E st).1)))(hO:okD 0 st):By Tryz.prog 228 bp 223 (cP st) (cP ((M5 E st).2)) [.val (.pointer (some ⟨bp,0,none⟩))] (.agg (cSyn (M5 E st).1)):=by
 intro H;have hS:=hO.1;refine Is 18 Tryz.func228 rfl ?_;refine Aa (Dx F1 fun b2=>B2 (Qp Ce ?_));refine AOL.Aas (C9 (k:=1) (by kernel_rfl) rfl rfl (Mt _ _)) rfl rfl ?_;refine Qp Ce ?_;refine Rt (Dr rfl ((Se _ _ (by simpa using hS)).at (k:=1) (H2:=_::_::_) rfl rfl)) ?_;refine Qp Ce ?_;refine Rt (Dr rfl ((Se _ _ (by simpa using hS)).at (k:=1) (H2:=_::_::_) rfl rfl)) ?_;refine Qp (D0 Ag) (Dx F1 fun b3=>?_);refine Bw 0 Ag (_::_::_::_) (Aq (Ba (Qp Ce ?_)));refine Rt (Dr rfl ((Ep _ _ _ (by simpa using hS) (by decide)).at (k:=2) (H2:=_::_::_::_) rfl rfl)) ?_;refine Ap (fun hc1=>?_) fun hc1=>?_
 .
  try simp only [Bk,Bs] at hc1
  refine AW.ghost (GS.Aap (H2:=_::_::_::_) 2 rfl (congrArg cP (Ge hc1)) rfl) ?_;refine AW.region (Qp Ce ?_);refine Rt (Dr rfl ((hE _ bp (by simpa using hO)).at (k:=2) (H2:=_::_::_::_) rfl rfl)) ?_;refine Qp (G0 [Ag] rfl) (Qp Co ?_);refine Bw 0 Ag (_::_::_::_) (B2 (Nu 0 Ag rfl ?_));refine Bw 1 Ag (_::_::_::_) (Rb ?_);refine ⟨.inr rfl,[.agg Ag],Zb 1,_,S2,?_⟩;refine ⟨?_,congrArg (fun c=>HO.box bp 223 c::H) ?_⟩
  .
   try simp only [Ad,M5,cSyn,Bj,Ca,Bi,hc1,↓reduceIte,Al,Bc,Bv]
   try rfl
  try simp only [cP,M5,hc1,↓reduceIte,Al,Bc,Bv]
  try rfl
 try simp only [Bk,Bs] at hc1
 refine AW.ghost (GS.Aap (H2:=_::_::_::_) 2 rfl (congrArg cP (Hl hc1)) rfl) ?_;refine A5 (Aa (Nu 0 Ag rfl ?_));refine Bw 1 Ag (_::_::_::_) (Rb ?_);refine ⟨.inr rfl,[.agg Ag],Zb 1,_,S2,?_⟩;refine ⟨?_,congrArg (fun c=>HO.box bp 223 c::H) ?_⟩
 .
  try simp only [Ad,M5,cSyn,Bj,Ca,Bi,hc1,↓reduceIte,Al,Bc,Bv]
  try rfl
 try simp only [cP,M5,hc1,↓reduceIte,Al,Bc,Bv]
 try rfl
theorem p_form2 (st:PS)(bp:Nat)(z:Syn)(bo:Nat)(v:Value)(es:List (List AV))(he:es=z.kids.map C3)(hz:z.kids.length<=1000)(R:List HO)(E:PS->Syn×PS)(hFE:Ds E)(hE:∀(st:PS) (bp:Nat),okD 0 st->By Tryz.prog 164 bp 223 (cP st) (cP (E st).2) [.val (.pointer (some ⟨bp,0,none⟩))] (.agg (cSyn (E st).1)))(hO:okD 0 st):Cj Tryz.prog 283 (.box bp 223 (cP st) :: .box bo 25 (vN z v es) :: .row v es.length 25 6::R) [.val (.pointer (some ⟨bp,0,none⟩)),.val (.pointer (some ⟨bo,0,none⟩))] (fun r H'=>r = .tuple []/\∃v' es',es'=(H1 E Ft 10 z st).1.kids.map C3/\H' = .box bp 223 (cP (H1 E Ft 10 z st).2) :: .box bo 25 (vN (H1 E Ft 10 z st).1 v' es') :: .row v' es'.length 25 6::R):=by
 have hS:=hO.1;have hsc:∀c∈es,A7 c=true:=by rw [he];exact aL _
 have hel:es.length<=1000:=by rw [he,B7];exact hz
 refine Is 18 Tryz.func283 rfl ?_;refine AW.ghostPost (Aa (Qp Ce ?_));refine Rt (Dr rfl ((Et _ _ _ (by simpa using hS) (by decide)).at (k:=0) (H2:=_::_::_::_) rfl rfl)) ?_;refine Aq (N3 1 rfl (Qn 0 rfl Ce (Qn 1 rfl (Af rfl) (Qn 2 rfl Co (Qn 3 rfl (Kn (.row _ _ _) rfl) (Qn 4 rfl Ce (Qn 6 rfl (H7 tok rfl rfl rfl rfl) (Qn 7 rfl (L9 tok rfl rfl rfl rfl rfl rfl rfl rfl rfl) ?_))))))));refine Ur 5 rfl (Dr rfl ((wZ (Df Dm st) bp E hFE hE (by simpa using hO)).at (k:=0) (H2:=_::_::_::_) rfl rfl)) (by rintro _ _ ⟨rfl,rfl⟩;simp) ?_;rintro _ _ ⟨rfl,rfl⟩;refine Gi.sync (fun _=>True) _ _ 8 _ _ rfl (by kernel_rfl) rfl rfl (Up (k:=2) tok rfl rfl rfl rfl rfl rfl rfl rfl (Dl rfl) rfl (hsc) (by simp;omega) (by simp [maxLen];omega)) (by kernel_rfl) (fun _ _ _=>trivial) ?_;rintro _ _ ⟨ba14,ca14,rfl,rfl⟩;refine Qn 9 rfl (Dg (o':=es.length*6) tok rfl rfl rfl rfl rfl (by omega) (by omega) (by simp)) ?_;refine Qn 11 rfl (Af rfl) (Qn 12 rfl Co ?_);refine Gi.two _ _ 10 13 _ _ _ _ rfl rfl (by kernel_rfl) rfl rfl rfl rfl (Iw (k:=2) (v:=.agg _) (H2:=_::_::_::_) tok rfl rfl rfl rfl (by simp) (by simp) rfl rfl rfl rfl) (Hx 1 (.val _) Ag (_::_::_::_) rfl) (by rintro _ _ ⟨rfl,rfl⟩;trivial) (by rintro _ _ ⟨rfl,rfl⟩;trivial) ?_ ?_
 .
  rintro _ _ ⟨rfl,rfl⟩;refine Ma 13 rfl (Hx 1 (.val _) Ag (_::_::_::_) rfl) ?_;refine Fs ?_;refine ⟨_,GS.appCell (H2:=_::_::_::_) 2 1 4 rfl (by simp) rfl rfl rfl rfl,.inl rfl,[],.nil,_,.refl _,?_⟩;exact ⟨rfl,_,_,Mw he,rfl⟩
 rintro _ _ ⟨rfl,rfl⟩;refine Ma 10 rfl (Iw (k:=2) (v:=.agg _) (H2:=_::_::_::_) tok rfl rfl rfl rfl (by simp) (by simp) rfl rfl rfl rfl) ?_;refine Fs ?_;refine ⟨_,GS.appCell (H2:=_::_::_::_) 2 1 4 rfl (by simp) rfl rfl rfl rfl,.inl rfl,[],.nil,_,.refl _,?_⟩;exact ⟨rfl,_,_,Mw he,rfl⟩
theorem p_form1 (st:PS)(bp:Nat)(z:Syn)(bo:Nat)(v:Value)(es:List (List AV))(he:es=z.kids.map C3)(hz:z.kids.length<=1000)(R:List HO):Cj Tryz.prog 282 (.box bp 223 (cP st) :: .box bo 25 (vN z v es) :: .row v es.length 25 6::R) [.val (.pointer (some ⟨bp,0,none⟩)),.val (.pointer (some ⟨bo,0,none⟩))] (fun r H'=>r = .tuple []/\∃v' es',es'=(H1 Ft Ft 9 z st).1.kids.map C3/\H' = .box bp 223 (cP (H1 Ft Ft 9 z st).2) :: .box bo 25 (vN (H1 Ft Ft 9 z st).1 v' es') :: .row v' es'.length 25 6::R):=by
 refine Is 4 Tryz.func282 rfl ?_;refine AW.skip ?_;refine ⟨.inl rfl,[],.nil,_,.refl _,?_⟩;exact ⟨rfl,_,_,he,rfl⟩
theorem p_form3 (st:PS)(bp:Nat)(z:Syn)(bo:Nat)(v:Value)(es:List (List AV))(he:es=z.kids.map C3)(hz:z.kids.length<=1000)(R:List HO)(hS:Th st):Cj Tryz.prog 284 (.box bp 223 (cP st) :: .box bo 25 (vN z v es) :: .row v es.length 25 6::R) [.val (.pointer (some ⟨bp,0,none⟩)),.val (.pointer (some ⟨bo,0,none⟩))] (fun r H'=>r = .tuple []/\∃v' es',es'=(H1 Ft Ft 11 z st).1.kids.map C3/\H' = .box bp 223 (cP (H1 Ft Ft 11 z st).2) :: .box bo 25 (vN (H1 Ft Ft 11 z st).1 v' es') :: .row v' es'.length 25 6::R):=by
 refine Is 11 Tryz.func284 rfl ?_;refine Aa (Qp Ce ?_);refine Rt (Dr rfl ((Et _ _ _ (by simpa using hS) (by decide)).at (k:=0) (H2:=_::_::_::_) rfl rfl)) ?_;refine Aq (AW.region (Qp Ce (Qp Ce ?_)));refine Rt (Dr rfl ((fZ _ _ (by simpa using hS)).at (k:=0) (H2:=_::_::_::_) rfl rfl)) ?_;refine Qp (Af rfl) (Qp Co ?_);refine Bw 1 Ag (_::_::_::_) (AOL.nil ?_);refine ⟨.inl rfl,[],.nil,_,.refl _,?_⟩;exact ⟨rfl,_,_,he,rfl⟩
theorem p_form4 (st:PS)(bp:Nat)(z:Syn)(bo:Nat)(v:Value)(es:List (List AV))(he:es=z.kids.map C3)(hz:z.kids.length<=1000)(R:List HO)(E:PS->Syn×PS)(hFE:Ds E)(hE:∀(st:PS) (bp:Nat),okD 0 st->By Tryz.prog 164 bp 223 (cP st) (cP (E st).2) [.val (.pointer (some ⟨bp,0,none⟩))] (.agg (cSyn (E st).1)))(hO:okD 0 st):Cj Tryz.prog 286 (.box bp 223 (cP st) :: .box bo 25 (vN z v es) :: .row v es.length 25 6::R) [.val (.pointer (some ⟨bp,0,none⟩)),.val (.pointer (some ⟨bo,0,none⟩))] (fun r H'=>r = .tuple []/\∃v' es',es'=(H1 E Ft 12 z st).1.kids.map C3/\H' = .box bp 223 (cP (H1 E Ft 12 z st).2) :: .box bo 25 (vN (H1 E Ft 12 z st).1 v' es') :: .row v' es'.length 25 6::R):=by
 have hS:=hO.1;have hsc:∀c∈es,A7 c=true:=by rw [he];exact aL _
 have hel:es.length<=1000:=by rw [he,B7];exact hz
 refine Is 18 Tryz.func286 rfl ?_;refine AW.ghostPost (Aa (Qp Ce ?_));refine Rt (Dr rfl ((Et _ _ _ (by simpa using hS) (by decide)).at (k:=0) (H2:=_::_::_::_) rfl rfl)) ?_;refine Aq (N3 1 rfl (Qn 0 rfl Ce (Qn 1 rfl (Af rfl) (Qn 2 rfl Co (Qn 3 rfl (Kn (.row _ _ _) rfl) (Qn 4 rfl Ce (Qn 6 rfl (H7 tok rfl rfl rfl rfl) (Qn 7 rfl (L9 tok rfl rfl rfl rfl rfl rfl rfl rfl rfl) ?_))))))));refine Ur 5 rfl (Dr rfl ((hE (Df Dm st) bp (by simpa using hO)).at (k:=0) (H2:=_::_::_::_) rfl rfl)) (by rintro _ _ ⟨rfl,rfl⟩;simp) ?_;rintro _ _ ⟨rfl,rfl⟩;refine Gi.sync (fun _=>True) _ _ 8 _ _ rfl (by kernel_rfl) rfl rfl (Up (k:=2) tok rfl rfl rfl rfl rfl rfl rfl rfl (Dl rfl) rfl (hsc) (by simp;omega) (by simp [maxLen];omega)) (by kernel_rfl) (fun _ _ _=>trivial) ?_;rintro _ _ ⟨ba14,ca14,rfl,rfl⟩;refine Qn 9 rfl (Dg (o':=es.length*6) tok rfl rfl rfl rfl rfl (by omega) (by omega) (by simp)) ?_;refine Qn 11 rfl (Af rfl) (Qn 12 rfl Co ?_);refine Gi.two _ _ 10 13 _ _ _ _ rfl rfl (by kernel_rfl) rfl rfl rfl rfl (Iw (k:=2) (v:=.agg _) (H2:=_::_::_::_) tok rfl rfl rfl rfl (by simp) (by simp) rfl rfl rfl rfl) (Hx 1 (.val _) Ag (_::_::_::_) rfl) (by rintro _ _ ⟨rfl,rfl⟩;trivial) (by rintro _ _ ⟨rfl,rfl⟩;trivial) ?_ ?_
 .
  rintro _ _ ⟨rfl,rfl⟩;refine Ma 13 rfl (Hx 1 (.val _) Ag (_::_::_::_) rfl) ?_;refine Fs ?_;refine ⟨_,GS.appCell (H2:=_::_::_::_) 2 1 4 rfl (by simp) rfl rfl rfl rfl,.inl rfl,[],.nil,_,.refl _,?_⟩;exact ⟨rfl,_,_,Mw he,rfl⟩
 rintro _ _ ⟨rfl,rfl⟩;refine Ma 10 rfl (Iw (k:=2) (v:=.agg _) (H2:=_::_::_::_) tok rfl rfl rfl rfl (by simp) (by simp) rfl rfl rfl rfl) ?_;refine Fs ?_;refine ⟨_,GS.appCell (H2:=_::_::_::_) 2 1 4 rfl (by simp) rfl rfl rfl rfl,.inl rfl,[],.nil,_,.refl _,?_⟩;exact ⟨rfl,_,_,Mw he,rfl⟩
abbrev Y0 (T:PS->Syn×PS)(st:PS):Syn×PS:=T (Df Dm st)
theorem zR (st:PS)(bp:Nat)(z:Syn)(bo:Nat)(v:Value)(es:List (List AV))(he:es=z.kids.map C3)(hz:z.kids.length<=1000)(R:List HO)(D:Int)(hD:0<=D)(T:PS->Syn×PS)(hFT:Ds T)(hT:∀(st:PS) (bp:Nat),okD D st->By Tryz.prog 162 bp 223 (cP st) (cP (T st).2) [.val (.pointer (some ⟨bp,0,none⟩))] (.agg (cSyn (T st).1)))(hO:okD D st):Cj Tryz.prog 281 (.box bp 223 (cP st) :: .box bo 25 (vN z v es) :: .row v es.length 25 6::R) [.val (.pointer (some ⟨bp,0,none⟩)),.val (.pointer (some ⟨bo,0,none⟩))] (fun r H'=>r = .tuple []/\∃v' es',es'=(rA T z st).1.kids.map C3/\H' = .box bp 223 (cP (rA T z st).2) :: .box bo 25 (vN (rA T z st).1 v' es') :: .row v' es'.length 25 6::R):=by
 have hS:=hO.1;have hsc:∀c∈es,A7 c=true:=by rw [he];exact aL _
 have hel:es.length<=1000:=by rw [he,B7];exact hz
 have hO1:okD D (Df Dm st):=by simpa using hO
 have hO3:okD D (Y0 T st).2:=hFT.okD hD hO1;refine Is 32 Tryz.func281 rfl ?_;refine AW.ghostPost (Aa (Qp Ce ?_));refine Rt (Dr rfl ((Et _ _ _ (by simpa using hS) (by decide)).at (k:=0) (H2:=_::_::_::_) rfl rfl)) ?_;refine Aq ?_;refine AW.Aar (fun (q:Value)=>(⟨[(0,.val (.pointer (some ⟨bp,0,none⟩))),(1,.val (.pointer (some ⟨bo,0,none⟩)))],.box bp 223 (cP (Y0 T st).2) :: .box bo 25 (vN z q (es ++ [cSyn (Y0 T st).1])) :: .row q (es ++ [cSyn (Y0 T st).1]).length 25 6::R,32⟩:St)) (fun q=>True) ?_ ?_
 .
  refine N3 1 rfl (Qn 0 rfl Ce (Qn 1 rfl (Af rfl) (Qn 2 rfl Co (Qn 3 rfl (Kn (.row _ _ _) rfl) (Qn 4 rfl Ce (Qn 6 rfl (H7 tok rfl rfl rfl rfl) (Qn 7 rfl (L9 tok rfl rfl rfl rfl rfl rfl rfl rfl rfl) ?_)))))));refine Ur 5 rfl (Dr rfl ((hT (Df Dm st) bp hO1).at (k:=0) (H2:=_::_::_::_) rfl rfl)) (by rintro _ _ ⟨rfl,rfl⟩;simp) ?_;rintro _ _ ⟨rfl,rfl⟩;refine Gi.sync (fun _=>True) _ _ 8 _ _ rfl (by kernel_rfl) rfl rfl (Up (k:=2) tok rfl rfl rfl rfl rfl rfl rfl rfl (Dl rfl) rfl (hsc) (by simp;omega) (by simp [maxLen];omega)) (by kernel_rfl) (fun _ _ _=>trivial) ?_;rintro _ _ ⟨ba14,ca14,rfl,rfl⟩;refine Qn 9 rfl (Dg (o':=es.length*6) tok rfl rfl rfl rfl rfl (by omega) (by omega) (by simp)) ?_;refine Qn 11 rfl (Af rfl) (Qn 12 rfl Co ?_);refine Gi.two _ _ 10 13 _ _ _ _ rfl rfl (by kernel_rfl) rfl rfl rfl rfl (Iw (k:=2) (v:=.agg _) (H2:=_::_::_::_) tok rfl rfl rfl rfl (by simp) (by simp) rfl rfl rfl rfl) (Hx 1 (.val _) Ag (_::_::_::_) rfl) (by rintro _ _ ⟨rfl,rfl⟩;trivial) (by rintro _ _ ⟨rfl,rfl⟩;trivial) ?_ ?_
  .
   rintro _ _ ⟨rfl,rfl⟩;refine Ma 13 rfl (Hx 1 (.val _) Ag (_::_::_::_) rfl) ?_;refine Fs ?_;refine A2 ?_;refine ⟨.slice (some ⟨ba14,0,none⟩) (es.length+1) ca14,?_,GS.trans (GS.appCell (H2:=_::_::_::_) 2 1 4 rfl (by simp) rfl rfl rfl rfl) Bx⟩
   trivial
  rintro _ _ ⟨rfl,rfl⟩;refine Ma 10 rfl (Iw (k:=2) (v:=.agg _) (H2:=_::_::_::_) tok rfl rfl rfl rfl (by simp) (by simp) rfl rfl rfl rfl) ?_;refine Fs ?_;refine A2 ?_;refine ⟨.slice (some ⟨ba14,0,none⟩) (es.length+1) ca14,?_,GS.trans (GS.appCell (H2:=_::_::_::_) 2 1 4 rfl (by simp) rfl rfl rfl rfl) Bx⟩
  trivial
 rintro q _;refine AW.block ?_;refine AW.Aan (fun (p:Nat×PS×List Syn×List (List AV)×Value)=>(⟨[(0,.val (.pointer (some ⟨bp,0,none⟩))),(1,.val (.pointer (some ⟨bo,0,none⟩)))],.box bp 223 (cP p.2.1) :: .box bo 25 (vN z p.2.2.2.2 p.2.2.2.1) :: .row p.2.2.2.2 p.2.2.2.1.length 25 6::R,32⟩:St)) (fun p=>p.2.2.2.1=p.2.2.1.map C3/\okD D p.2.1/\Bm p.2.1<=p.1/\p.2.2.1.length<=p.2.1.pos+1002/\Lq T (Bm (Y0 T st).2) (Y0 T st).2 (z.kids ++ [(Y0 T st).1])=Lq T p.1 p.2.1 p.2.2.1) (fun p=>p.1) ((Bm (Y0 T st).2,(Y0 T st).2,z.kids ++ [(Y0 T st).1],es ++ [cSyn (Y0 T st).1],q)) ?_ Bx ?_
 . exact ⟨Mw he,hO3,B6 _,by simp only [Ax,Ot];omega,rfl⟩
 rintro p hR;have hes:p.2.2.2.1=p.2.2.1.map C3:=hR.1;have hO2:okD D p.2.1:=hR.2.1;have hS:=hO2.1;have hfu:Bm p.2.1<=p.1:=hR.2.2.1;have hn:0<p.1:=by unfold Bm at hfu;omega
 have hol:p.2.2.1.length<=p.2.1.pos+1002:=hR.2.2.2.1;have hsc2:∀c∈p.2.2.2.1,A7 c=true:=by rw [hes];exact aL _
 have hel2:p.2.2.2.1.length=p.2.2.1.length:=by rw [hes,B7]
 refine Ba (Qp Ce ?_);refine Rt (Dr rfl ((Ep _ _ _ (by simpa using hS) (by decide)).at (k:=0) (H2:=_::_::_::_) rfl rfl)) ?_;refine Ap (fun hc1=>?_) fun hc1=>?_
 .
  try simp only [Bk,Bs] at hc1
  have hlt:=bU hc1;have hml:=hS.1;have hFa:=hFT (adv p.2.1) (by have:=hO2.2.1;show (0:Int)<=p.2.1.depth;omega) hO2.2.2;have hps:p.2.1.pos+1<=(T (adv p.2.1)).2.pos:=hFa.2.1;have hts:(T (adv p.2.1)).2.toks=p.2.1.toks:=hFa.1;refine AW.ghost (GS.Aap (H2:=_::_::_::_) 0 rfl (congrArg cP (Ge hc1)) rfl) ?_;refine A5 (AW.block (N3 1 rfl (Qn 0 rfl Ce (Qn 1 rfl (Af rfl) (Qn 2 rfl Co (Qn 3 rfl (Kn (.row _ _ _) rfl) (Qn 4 rfl Ce (Qn 6 rfl (H7 tok rfl rfl rfl rfl) (Qn 7 rfl (L9 tok rfl rfl rfl rfl rfl rfl rfl rfl rfl) ?_)))))))));refine Ur 5 rfl (Dr rfl ((hT _ bp (by simpa using hO2)).at (k:=0) (H2:=_::_::_::_) rfl rfl)) (by rintro _ _ ⟨rfl,rfl⟩;simp) ?_;rintro _ _ ⟨rfl,rfl⟩;refine Gi.sync (fun _=>True) _ _ 8 _ _ rfl (by kernel_rfl) rfl rfl (Up (k:=2) tok rfl rfl rfl rfl rfl rfl rfl rfl (Dl rfl) rfl (hsc2) (by simp;omega) (by simp [maxLen];omega)) (by kernel_rfl) (fun _ _ _=>trivial) ?_;rintro _ _ ⟨ba28,ca28,rfl,rfl⟩;refine Qn 9 rfl (Dg (o':=p.2.2.2.1.length*6) tok rfl rfl rfl rfl rfl (by omega) (by omega) (by simp)) ?_;refine Qn 11 rfl (Af rfl) (Qn 12 rfl Co ?_);refine Gi.two _ _ 10 13 _ _ _ _ rfl rfl (by kernel_rfl) rfl rfl rfl rfl (Iw (k:=2) (v:=.agg _) (H2:=_::_::_::_) tok rfl rfl rfl rfl (by simp) (by simp) rfl rfl rfl rfl) (Hx 1 (.val _) Ag (_::_::_::_) rfl) (by rintro _ _ ⟨rfl,rfl⟩;trivial) (by rintro _ _ ⟨rfl,rfl⟩;trivial) ?_ ?_
  .
   rintro _ _ ⟨rfl,rfl⟩;refine Ma 13 rfl (Hx 1 (.val _) Ag (_::_::_::_) rfl) ?_;refine Fs ?_;refine Gv (A2 ?_);refine ⟨(p.1-1,(T (adv p.2.1)).2,p.2.2.1 ++ [(T (adv p.2.1)).1],p.2.2.2.1 ++ [cSyn (T (adv p.2.1)).1],.slice (some ⟨ba28,0,none⟩) (p.2.2.2.1.length+1) ca28),?_,?_,GS.trans (GS.appCell (H2:=_::_::_::_) 2 1 4 rfl (by simp) rfl rfl rfl rfl) Bx⟩
   . exact ⟨Mw hes,hFT.okD hD (by simpa using hO2),by unfold Bm at hfu ⊢;rw [hts];simp only;omega,by simp only [Ax,Ot];omega,hR.2.2.2.2.trans (by rw [Oa hn,if_pos hc1])⟩
   simp only;omega
  rintro _ _ ⟨rfl,rfl⟩;refine Ma 10 rfl (Iw (k:=2) (v:=.agg _) (H2:=_::_::_::_) tok rfl rfl rfl rfl (by simp) (by simp) rfl rfl rfl rfl) ?_;refine Fs ?_;refine Gv (A2 ?_);refine ⟨(p.1-1,(T (adv p.2.1)).2,p.2.2.1 ++ [(T (adv p.2.1)).1],p.2.2.2.1 ++ [cSyn (T (adv p.2.1)).1],.slice (some ⟨ba28,0,none⟩) (p.2.2.2.1.length+1) ca28),?_,?_,GS.trans (GS.appCell (H2:=_::_::_::_) 2 1 4 rfl (by simp) rfl rfl rfl rfl) Bx⟩
  . exact ⟨Mw hes,hFT.okD hD (by simpa using hO2),by unfold Bm at hfu ⊢;rw [hts];simp only;omega,by simp only [Ax,Ot];omega,hR.2.2.2.2.trans (by rw [Oa hn,if_pos hc1])⟩
  simp only;omega
 try simp only [Bk,Bs] at hc1
 refine AW.ghost (GS.Aap (H2:=_::_::_::_) 0 rfl (congrArg cP (Hl hc1)) rfl) ?_;refine AW.exit ?_;refine Bn (Bn (Tl ?_));refine ⟨_,GS.refl _,.inl rfl,[],.nil,_,.refl _,?_⟩
 have h9:rA T z st=({ z with kids:=p.2.2.1 },p.2.1):=by
  have h8:Lq T (Bm (Y0 T st).2) (Y0 T st).2 (z.kids ++ [(Y0 T st).1])=(p.2.2.1,p.2.1):=hR.2.2.2.2.trans (by rw [Oa hn,iN hc1]);unfold rA;simp only;rw [h8]
 exact ⟨rfl,p.2.2.2.2,p.2.2.2.1,by rw [h9];exact hes,by rw [h9]⟩
def formC:List (List AV):=[[.str Vt,.int .i64 6,.fn (.func 281) [] []],[.str Vs,.int .i64 7,.fn (.func 281) [] []],[.str Vr,.int .i64 8,.fn (.func 281) [] []],[.str Oq,.int .i64 9,.fn (.func 282) [] []],[.str Mh,.int .i64 10,.fn (.func 283) [] []],[.str I6,.int .i64 11,.fn (.func 284) [] []],[.str I5,.int .i64 12,.fn (.func 286) [] []]]
theorem pp_forms  : Ak Tryz.prog 225 [] (.sl 3 formC):=by
 refine Cw 9 Tryz.func225 rfl fun H=>?_
 refine Aa (Qp (Cm (z:=3) rfl) (B2 (Qp (D0 oP) (Qp (D0 oP) (Qp (D0 oP) (Qp (D0 oP) (Qp (D0 oP) (Qp (D0 oP) (Qp (D0 oP) (Qp (G0 [oP,oP,oP,oP,oP,oP,oP] rfl) (Qp Xk (Rb (Qr (.sl _ _) ?_)))))))))))));rfl
def Vz (fn:Nat)(E T:PS->Syn×PS)(D:Int)(k:Int):Prop:=∀(st:PS) (bp:Nat) (z:Syn) (bo:Nat) (v:Value) (es:List (List AV)) (he:es=z.kids.map C3) (hz:z.kids.length<=1000) (R:List HO),okD D st->Cj Tryz.prog fn (.box bp 223 (cP st) :: .box bo 25 (vN z v es) :: .row v es.length 25 6::R) [.val (.pointer (some ⟨bp,0,none⟩)),.val (.pointer (some ⟨bo,0,none⟩))] (fun r H'=>r = .tuple []/\∃v' es',es'=(H1 E T k z st).1.kids.map C3/\H' = .box bp 223 (cP (H1 E T k z st).2) :: .box bo 25 (vN (H1 E T k z st).1 v' es') :: .row v' es'.length 25 6::R)
theorem Si (D:Int)(hD:0<=D)(T:PS->Syn×PS)(hFT:Ds T)(hT:∀(st:PS) (bp:Nat),okD D st->By Tryz.prog 162 bp 223 (cP st) (cP (T st).2) [.val (.pointer (some ⟨bp,0,none⟩))] (.agg (cSyn (T st).1)))(E:PS->Syn×PS)(k:Int)(h:k<=8):Vz 281 E T D k:=fun st bp z bo v es he hz R hO=>by
 have e:H1 E T k z st=rA T z st:=by unfold H1;rw [if_pos (decide_eq_true h)]
 rw [e];exact zR st bp z bo v es he hz R D hD T hFT hT hO
theorem Aaf (D:Int)(E T:PS->Syn×PS):Vz 282 E T D 9:=fun st bp z bo v es he hz R hO=>p_form1 st bp z bo v es he hz R
theorem uE (E:PS->Syn×PS)(hFE:Ds E)(hE:∀(st:PS) (bp:Nat),okD 0 st->By Tryz.prog 164 bp 223 (cP st) (cP (E st).2) [.val (.pointer (some ⟨bp,0,none⟩))] (.agg (cSyn (E st).1)))(D:Int)(hD:0<=D)(T:PS->Syn×PS):Vz 283 E T D 10:=fun st bp z bo v es he hz R hO=>p_form2 st bp z bo v es he hz R E hFE hE (fW hD hO)
theorem qP (D:Int)(E T:PS->Syn×PS):Vz 284 E T D 11:=fun st bp z bo v es he hz R hO=>p_form3 st bp z bo v es he hz R hO.1
theorem uF (E:PS->Syn×PS)(hFE:Ds E)(hE:∀(st:PS) (bp:Nat),okD 0 st->By Tryz.prog 164 bp 223 (cP st) (cP (E st).2) [.val (.pointer (some ⟨bp,0,none⟩))] (.agg (cSyn (E st).1)))(D:Int)(hD:0<=D)(T:PS->Syn×PS):Vz 286 E T D 12:=fun st bp z bo v es he hz R hO=>p_form4 st bp z bo v es he hz R E hFE hE (fW hD hO)
theorem form_get (E:PS->Syn×PS)(hFE:Ds E)(hE:∀(st:PS) (bp:Nat),okD 0 st->By Tryz.prog 164 bp 223 (cP st) (cP (E st).2) [.val (.pointer (some ⟨bp,0,none⟩))] (.agg (cSyn (E st).1)))(D:Int)(hD:0<=D)(T:PS->Syn×PS)(hFT:Ds T)(hT:∀(st:PS) (bp:Nat),okD D st->By Tryz.prog 162 bp 223 (cP st) (cP (T st).2) [.val (.pointer (some ⟨bp,0,none⟩))] (.agg (cSyn (T st).1)))(k:Nat)(hk:k<7):∃(x:Av×Int) (fn:Nat),formL[k]? = some x/\formC[k]? = some [.str x.1,.int .i64 x.2,.fn (.func fn) [] []]/\U3 Tryz.prog fn=true/\x.1.length<=1048576/\Vz fn E T D x.2:=by
 match k,hk with
 | 0,_=>exact ⟨_,_,rfl,rfl,by kernel_rfl,by decide,Si D hD T hFT hT E 6 (by decide)⟩
 | 1,_=>exact ⟨_,_,rfl,rfl,by kernel_rfl,by decide,Si D hD T hFT hT E 7 (by decide)⟩
 | 2,_=>exact ⟨_,_,rfl,rfl,by kernel_rfl,by decide,Si D hD T hFT hT E 8 (by decide)⟩
 | 3,_=>exact ⟨_,_,rfl,rfl,by kernel_rfl,by decide,Aaf D E T⟩
 | 4,_=>exact ⟨_,_,rfl,rfl,by kernel_rfl,by decide,uE E hFE hE D hD T⟩
 | 5,_=>exact ⟨_,_,rfl,rfl,by kernel_rfl,by decide,qP D E T⟩
 | 6,_=>exact ⟨_,_,rfl,rfl,by kernel_rfl,by decide,uF E hFE hE D hD T⟩
def xA (E T:PS->Syn×PS)(k:Int)(z:Syn)(s:PS):Syn×PS:=((H1 E T k { z with kids:=[(T (Df Fh s)).1] } (T (Df Fh s)).2).1,Df Ht (H1 E T k { z with kids:=[(T (Df Fh s)).1] } (T (Df Fh s)).2).2)
theorem pZ (st:PS)(bp:Nat)(z:Syn)(bo:Nat)(R:List HO)(E:PS->Syn×PS)(hFE:Ds E)(hE:∀(st:PS) (bp:Nat),okD 0 st->By Tryz.prog 164 bp 223 (cP st) (cP (E st).2) [.val (.pointer (some ⟨bp,0,none⟩))] (.agg (cSyn (E st).1)))(D:Int)(hD:0<=D)(T:PS->Syn×PS)(hFT:Ds T)(hT:∀(st:PS) (bp:Nat),okD (D+1) st->By Tryz.prog 162 bp 223 (cP st) (cP (T st).2) [.val (.pointer (some ⟨bp,0,none⟩))] (.agg (cSyn (T st).1)))(w:Av)(k:Int)(fn:Nat)(hfn:U3 Tryz.prog fn=true)(hr:Vz fn E T (D+1) k)(hO:okD (D+1) st):Cj Tryz.prog 227 (.box bp 223 (cP st) :: .box bo 25 (cSyn z)::R) [.ptr [.val (.pointer (some ⟨bp,0,none⟩))],.val (.pointer (some ⟨bo,0,none⟩)),.ptr [.str w,.int .i64 k,.fn (.func fn) [] []]] (fun r H'=>r = .tuple []/\H' = .box bp 223 (cP (xA E T k z st).2) :: .box bo 25 (cSyn (xA E T k z st).1)::R):=by
 have hS:=hO.1;have hO1:okD (D+1) (Df Fh st):=by simpa using hO
 have hO2:=hFT.okD (by omega) hO1;have hO4:okD (D+1) (H1 E T k { z with kids:=[(T (Df Fh st)).1] } (T (Df Fh st)).2).2:=T1 hO2 (jP hFE hFT k { z with kids:=[(T (Df Fh st)).1] } (dG (by omega) hO2));refine Is 15 Tryz.func227 rfl ?_;refine AW.ghostPost (Aa (Qp Kb ?_));refine Rt (Dr rfl ((Et _ _ _ (by simpa using hS) (by decide)).at (k:=0) (H2:=_::_::_) rfl rfl)) ?_;refine B2 (Qp Kb (sH ((hT (Df Fh st) bp hO1).at (k:=0) (H2:=_::_::_) rfl rfl) (Qe (D7 (es:=[Ag]) tok rfl rfl rfl rfl rfl rfl rfl rfl rfl) ?_)));rintro _ _ ⟨v7,rfl,rfl⟩;refine Qp Co ?_;refine Bw 2 Ag (_::_::_::_) (B2 (Qp (Qf [_]) (Qp (Fb (c:=.fn _ _ _) tok rfl rfl rfl) (Qp Kb ?_))));refine Qe (Ks (hfn) rfl rfl rfl (Cj.front2 (R:=_::_) 2 1 rfl rfl rfl (hr (T (Df Fh st)).2 bp { z with kids:=[(T (Df Fh st)).1] } bo _ _ (by rw [Bj,Ca,Bi]) (by simp) _ hO2))) ?_;rintro _ _ ⟨rfl,v2,e2,rfl,rfl⟩;have hS:=hO4.1;refine Aq (AW.region (Qp Kb ?_));refine Rt (Dr rfl ((Et _ _ _ (by simpa using hS) (by decide)).at (k:=0) (H2:=_::_::_::_) rfl rfl)) ?_;refine AOL.nil ?_;refine ⟨_,GS.cell (H2:=_::_::_::_) 1 4 rfl rfl rfl rfl Dv,.inl rfl,[],.nil,_,.cons_cons _ (.cons_cons _ (.cons _ (.refl _))),?_⟩;exact ⟨rfl,rfl⟩
theorem jY (st:PS)(bp:Nat)(E:PS->Syn×PS)(hFE:Ds E)(hE:∀(st:PS) (bp:Nat),okD 0 st->By Tryz.prog 164 bp 223 (cP st) (cP (E st).2) [.val (.pointer (some ⟨bp,0,none⟩))] (.agg (cSyn (E st).1)))(D:Int)(hD:0<=D)(T:PS->Syn×PS)(hFT:Ds T)(hT:∀(st:PS) (bp:Nat),okD (D+1) st->By Tryz.prog 162 bp 223 (cP st) (cP (T st).2) [.val (.pointer (some ⟨bp,0,none⟩))] (.agg (cSyn (T st).1)))(hO:okD D st):By Tryz.prog 162 bp 223 (cP st) (cP ((iE E T st).2)) [.val (.pointer (some ⟨bp,0,none⟩))] (.agg (cSyn (iE E T st).1)):=by
 intro H;have hS:=hO.1;refine Is 29 Tryz.func162 rfl ?_;refine Aa (Qp (Vk (v:=.val _) (cs:=[_]) rfl rfl rfl) (Dx F1 fun b2=>Aq (Ba (Qp (Qc rfl (pp_forms )) (Qp (Da 7 rfl rfl (rfl)) (Qp Ai (Aq (AW.block ?_))))))));refine AW.Aan (fun (k:Nat)=>(⟨[(1,.ptr [.val (.pointer (some ⟨bp,0,none⟩))]),(2,.val (.pointer (some ⟨b2,0,none⟩))),(6,.sl 3 formC),(7,.int .i64 7),(8,.int .i64 (k:Int))],.box b2 25 (cSyn Hb) :: .box bp 223 (cP st)::H,29⟩:St)) (fun k=>k<=7/\∀j y,j<k->formL[j]? = some y->Jj y.1 st=false) (fun k=>7-k) (0) ?_ Bx ?_
 . exact ⟨A3 _,fun j y hj=>absurd hj (Nat.not_lt_zero _)⟩
 rintro k hR;refine Aa (Qp Bt (Re (E9 (fun hc1=>?_) fun hc1=>?_)))
 .
  try simp only [Bk,Bs] at hc1
  have hk:k<7:=by have:=Do hc1;omega
  refine (form_get E hFE hE (D+1) (by omega) T hFT hT k hk).elim fun x hx0=>hx0.elim fun fn hx3=>?_
  have hx:=hx3.1;have hx2:=hx3.2.1;have hfn:=hx3.2.2.1;have hwx:=hx3.2.2.2.1;have hrk:=hx3.2.2.2.2;refine A5 (AW.seq (AW.block (Aa ?_)));refine Qp (Cp ([.str x.1,.int .i64 x.2,.fn (.func fn) [] []]) rfl rfl (by omega) (hx2)) ?_;refine Qp (B1 oP) (Dx [.str [],.int .i64 0,.val .nilFunc] fun b4=>?_);refine Bw 0 oP (_::_::_::_) ?_;refine Ji 4 0 rfl ?_;refine Aq (Ba (Qp Kb (Qp (Qf oP) (Qp Dk ?_))));refine AOL.Aas (C9 (k:=1) (by kernel_rfl) rfl rfl (p_is _ _ _ (by simpa using hS) (by assumption))) rfl rfl ?_;refine Qp E7 (Ap (fun hc2=>?_) fun hc2=>?_)
  .
   try simp only [Bk,Bs] at hc2
   refine AW.exit (Ri (AW.region (Qp Dt (Qp Ai (Aq ?_)))));refine ⟨k+1,?_,?_,Bx⟩
   . exact ⟨hk,fun j y hj hy=>by rcases Nat.lt_succ_iff_lt_or_eq.1 hj with h | rfl;exact hR.2 j y h hy;rw [hx] at hy;cases hy;exact hc2⟩
   omega
  try simp only [Bk,Bs] at hc2
  have hfd:formL.find? (fun f=>Jj f.1 st)=some x:=X1 hR.2 hx hc2;refine A5 (AW.seq (N3 1 rfl (Qn 0 rfl (Qf [Iq _,_]) (Qn 1 rfl Be (Qn 2 rfl Kb ?_)))));refine Qn 3 rfl (Dc.mem (fun k=>C9 (k:=k) (by kernel_rfl) rfl rfl (Mt _ _)) (fun _ h=>h)) ?_;refine Qn 4 rfl (D0 Ag) ?_;refine Ur 5 rfl (Gp (l:=F1) (by kernel_rfl)) (by rintro _ _ ⟨b5,rfl,rfl⟩;simp) ?_;rintro _ _ ⟨b5,rfl,rfl⟩;refine bH 6 rfl (Hx 0 (.agg _) Ag (_::_::_::_) rfl) ?_;rintro _ _ ⟨rfl,rfl⟩;refine A2 (Aa (Qp Kb (Qp (Ci (l:=[]) (l':=[.ptr _,.val _,.ptr _]) rfl rfl) ?_)));refine Rt (Dr rfl (Cj.front2 (R:=_::_) 0 1 rfl rfl rfl (Z8 (xA E T x.2) ⟨x.2,[],[],0,[],D2 st⟩ st bp b5 _ 227 (by kernel_rfl) [] [.ptr [.val (.pointer (some ⟨bp,0,none⟩))],.val (.pointer (some ⟨b5,0,none⟩)),.ptr [.str x.1,.int .i64 x.2,.fn (.func fn) [] []]] (bU hc2) hS (fun hb=>pZ _ bp ⟨x.2,[],[],0,[],D2 st⟩ b5 _ E hFE hE D hD T hFT hT x.1 x.2 fn hfn hrk (fV hD hO hb))))) ?_;refine B2 (Nu 1 Ag rfl ?_);refine Bw 2 Ag (_::_::_::_) (Ra (Au (Cn (Au ?_))));refine ⟨.inr rfl,[.agg Ag],.cons (.box _ _ _ 2 _ _ _ _ rfl rfl rfl rfl rfl rfl) <| .nil,_,.cons_cons _ (.cons _ (.cons _ (.refl _))),?_⟩;have h9:iE E T st=O8 (xA E T x.2) ⟨x.2,[],[],0,[],D2 st⟩ st:=by unfold iE;rw [hfd];rfl
  exact ⟨by rw [h9];rfl,congrArg (fun s=>HO.box bp 223 (cP s)::H) (by rw [h9])⟩
 try simp only [Bk,Bs] at hc1
 have hkn:¬k<7:=by have:=Di hc1;omega
 have hfd:formL.find? (fun f=>Jj f.1 st)=none:=eT (k:=k) hkn hR.2;refine AW.exit ?_;refine Bn (Ri (Aa (Qp Kb ?_)));refine sH ((wZ st bp E hFE hE (fW hD hO)).at (k:=1) (H2:=_::_::_) rfl rfl) ?_;refine Bw 0 Ag (_::_::_) (Rb ?_);refine ⟨.inr rfl,[.agg Ag],Zb 0,_,S1,?_⟩;have h9:iE E T st=M5 E st:=by unfold iE;rw [hfd]
 exact ⟨by rw [h9];rfl,congrArg (fun s=>HO.box bp 223 (cP s)::H) (by rw [h9])⟩
theorem xB (E:PS->Syn×PS)(hFE:Ds E)(hE:∀(st:PS) (bp:Nat),okD 0 st->By Tryz.prog 164 bp 223 (cP st) (cP (E st).2) [.val (.pointer (some ⟨bp,0,none⟩))] (.agg (cSyn (E st).1))):∀(n:Nat),n<=64->∀(st:PS) (bp:Nat),okD (64-(n:Int)) st->By Tryz.prog 162 bp 223 (cP st) (cP (zS E n st).2) [.val (.pointer (some ⟨bp,0,none⟩))] (.agg (cSyn (zS E n st).1))
  | 0,_=>fun st bp hO=>jY st bp E hFE hE 64 (by decide) Ft Ia (fun _ _ h=>(T2 h).elim) hO
  | n+1,hn=>fun st bp hO=>by
    have ih:=xB E hFE hE n (by omega);exact jY st bp E hFE hE (64-((n+1:Nat):Int)) (by omega) (zS E n) (Zv hFE n) (fun s b h=>ih s b ⟨h.1,by have:=h.2.1;omega,h.2.2⟩) hO
theorem cZ:Ds EE:=(K3 64).2
theorem vU:Ds TT:=Zv cZ 64
theorem p_EE (st:PS)(bp:Nat)(h:okD 0 st):By Tryz.prog 164 bp 223 (cP st) (cP (EE st).2) [.val (.pointer (some ⟨bp,0,none⟩))] (.agg (cSyn (EE st).1)):=(wV 64 (B6 _)).2 st bp h
theorem p_TT (st:PS)(bp:Nat)(h:okD 0 st):By Tryz.prog 162 bp 223 (cP st) (cP (TT st).2) [.val (.pointer (some ⟨bp,0,none⟩))] (.agg (cSyn (TT st).1)):=xB EE cZ p_EE 64 (B6 _) st bp h
theorem Wi (s:Av):∀(n i:Nat) (b:Av),b.length<=i->i<=s.length->(Kh s n i b).tok.text.length<=s.length
  | 0,i,b,h1,h2=>by simp [Kh,Sy,On]
  | n+1,i,b,h1,h2=>by
    unfold Kh;split
    . rename_i hi
      simp only [Dp] at hi;split
      . split
        . simp [Sy,On]
        simp only [sY];omega
      . split
        . split
          . simp [Sy,On]
          . rename_i he
            have hp:=sU (s.drop i);rw [Fk] at hp;have hz:(M4 (s.drop i)).2≠0:=by simpa using he
            exact Wi s n _ _ (by rw [Ax,Ot];omega) (by omega)
        . split
          . simp [Sy,On]
          exact Wi s n _ _ (by rw [Ax,Ot];omega) (by omega)
    simp [Sy,On]
theorem cC (s:Av):∀l:List Av,(∀x∈l,x.length<=2)->(Hs s l).tok.text.length<=2
  | [],_=>by simp [Hs,Sy,On]
  | x::r,h=>by
    unfold Hs;split
    . exact h x (L5 ..)
    exact cC s r fun y hy=>h y (Jp _ hy)
theorem zG (t:Av)(h0:0<t.length):(Du t).tok.text.length<=t.length+2:=by
 have hn:(O7 t).tok.text.length<=t.length:=by
  unfold O7;split
  . simp [foZ,On]
  split
  . simp [Sy,On]
  simp only [sY,Fm];omega
 have hm:(Im t).tok.text.length<=t.length:=by
  unfold Im;split
  . simp [foZ,On]
  split
  . simp [Sy,On]
  split
  . simp [Sy,On]
  simp only [sY,Fm];omega
 have hl:(Np t).tok.text.length<=t.length:=by
  unfold Np;split
  . simp [foZ,On]
  exact Wi t _ 1 [] (A3 _) h0
 have hs:=cC t rD (by decide);unfold Du;split
 . omega
 split
 . omega
 split
 . omega
 exact Fl hs (by omega)
theorem scan_okT (s:Av)(hl:s.length<=100000):okT (In s).1:=by
  have key:∀(n i:Nat) (out:List Tok),i<=s.length->out.length<=i->(∀t∈out,t.text.length<=s.length+2)->(K8 s n i out).1.length<=s.length/\∀t∈(K8 s n i out).1,t.text.length<=s.length+2:=by
    intro n
    induction n with
    | zero=>intro i out h1 h2 h3;exact ⟨A3 _,fun t h=>by cases h⟩
    | succ n ih=>
      intro i out h1 h2 h3;unfold K8;split
      . rename_i hi
        simp only [Dp] at hi;have hs:=sep_le (s.drop i);have hn:=wW (s.drop i) (by rw [Fk];omega);have ht:=zG (s.drop i) (by rw [Fk];omega);rw [Fk] at hs hn ht;have hs2:=hs.2 (by omega);split
        . exact ih _ _ (by omega) (by omega) h3
        . split
          . exact ⟨A3 _,fun t h=>by cases h⟩
          . rename_i h4
            have hp:=hn.2.2.2.2 (by simpa using h4);refine ih _ _ (by omega) (by rw [Ax,Ot];omega) fun t h=>?_
            rcases Hg.1 h with h | h
            . exact h3 t h
            rw [Hv] at h;subst h;simp only;omega
      exact ⟨Fl h2 h1,h3⟩
  unfold In;split
  . exact ⟨A3 _,fun t h=>by cases h⟩
  . have:=key (s.length+1) 0 [] (A3 _) (B6 _) (fun t h=>by cases h)
    exact ⟨by omega,fun t h=>by have:=this.2 t h;omega⟩
theorem yR (s:Av)(hl:s.length<=100000):okD 0 (Pn (In s).1 s.length):=⟨scan_okT s hl,I8 _,(by decide:(0:Int)<=64)⟩
theorem sc_pair (x y:Syn):∀c∈[cSyn x,cSyn y],A7 c=true:=by
 intro c hc;simp only [Dn,Xb,or_false] at hc;rcases hc with rfl | rfl <;> rfl
abbrev q1 (st:PS):PS:=Df He st
abbrev q2 (st:PS):Syn×PS:=tE (Fr 0 (q1 st)) (D2 st)
abbrev q3 (T:PS->Syn×PS)(st:PS):Syn×PS:=T (Df H4 (q2 st).2)
abbrev q4 (T:PS->Syn×PS)(st:PS):PS:=Df Ib (q3 T st).2
theorem list_len {F:PS->Syn×PS}(hF:Ds F){st:PS}(h:okD 0 st):(Yc F st).1.length<=1048600:=by
  have key:∀(n:Nat) (st:PS) (out:List Syn),okD 0 st->out.length<=st.pos+1->out.length<=1048580->(Lq F n st out).1.length<=1048600:=by
    intro n
    induction n with
    | zero=>intro st out _ _ h;exact Fl h (by decide)
    | succ n ih=>
      intro st out hO h1 h2;unfold Lq;split
      . rename_i hi
        have hlt:=bU hi;have hg:=hF.goes (a:=adv st) (dG (I8 _) hO);have hp:st.pos+1<=(F (adv st)).2.pos:=hg.2.1;have hml:=hO.1.1;exact ih _ _ (T1 hO ((Lg.adv st).trans hg)) (by rw [Ax,Ot];omega) (by rw [Ax,Ot];omega)
      exact Fl h2 (by decide)
  exact key _ _ _ (T1 h (hF.goes (dG (I8 _) h))) (by simp) (by simp)
theorem p_query (st:PS)(bp:Nat)(E:PS->Syn×PS)(hFE:Ds E)(hE:∀(st:PS) (bp:Nat),okD 0 st->By Tryz.prog 164 bp 223 (cP st) (cP (E st).2) [.val (.pointer (some ⟨bp,0,none⟩))] (.agg (cSyn (E st).1)))(T:PS->Syn×PS)(hFT:Ds T)(hT:∀(st:PS) (bp:Nat),okD 0 st->By Tryz.prog 162 bp 223 (cP st) (cP (T st).2) [.val (.pointer (some ⟨bp,0,none⟩))] (.agg (cSyn (T st).1)))(hO:okD 0 st):By Tryz.prog 91 bp 223 (cP st) (cP ((I0 E T st).2)) [.val (.pointer (some ⟨bp,0,none⟩))] (.agg (cSyn (I0 E T st).1)):=by
 intro H;have hS:=hO.1;have hO2:okD 0 (q2 st).2:=T1 (a:=Fr 0 (q1 st)) (by simpa using hO) (oQ _ _);have hO3:okD 0 (q3 T st).2:=hFT.okD (I8 _) (by simpa using hO2);have hO4:okD 0 (q4 T st):=by simpa using hO3
 have hO5:=T1 hO4 (jO hFE (dG (I8 _) hO4));have hll:=list_len hFE hO4;refine Is 44 Tryz.func91 rfl ?_;refine Aa (Dx F1 fun b2=>B2 (Qp Ce ?_));refine AOL.Aas (C9 (k:=1) (by kernel_rfl) rfl rfl (Mt _ _)) rfl rfl ?_;refine Qp (D0 Ag) (Dx F1 fun b3=>?_);refine Bw 0 Ag (_::_::_::_) (B2 (Qp Ce ?_));refine Rt (Dr rfl ((Et _ _ _ (by simpa using hS) (by decide)).at (k:=2) (H2:=_::_::_::_) rfl rfl)) ?_;refine B2 (Qp Ce ?_);refine Rt (Dr rfl ((Se _ _ (by simpa using hS)).at (k:=2) (H2:=_::_::_::_) rfl rfl)) ?_;refine Qp Co ?_;refine Bw 0 Ag (_::_::_::_) (B2 (Qp Co (Sw 0 (Iq _) rfl (Qp (D0 Ag) (Dx F1 fun b4=>?_)))));refine Bw 0 Ag (_::_::_::_::_) (Aq ?_);refine AW.Aar (fun (k:Syn×PS)=>(⟨[(0,.val (.pointer (some ⟨bp,0,none⟩))),(2,.val (.pointer (some ⟨b2,0,none⟩))),(3,.val (.pointer (some ⟨b3,0,none⟩))),(4,.val (.pointer (some ⟨b4,0,none⟩)))],.box b4 25 (cSyn k.1) :: .box b3 25 [.int .i64 3,.str (Jh 0 (q1 st)),.str [],.int .i64 0,.sl 6 [],.int .i64 (D2 st)] :: .box b2 25 (cSyn Hb) :: .box bp 223 (cP k.2)::H,44⟩:St)) (fun k=>k=q2 st) ?_ ?_
 .
  refine Aa (Qp Ce ?_);refine Rt (Dr rfl ((Ep _ _ _ (by simpa using hS) (by decide)).at (k:=3) (H2:=_::_::_::_::_) rfl rfl)) ?_;refine Ap (fun hc1=>?_) fun hc1=>?_
  .
   try simp only [Bk,Bs] at hc1
   refine AW.ghost (GS.Aap (H2:=_::_::_::_::_) 3 rfl (congrArg cP (Ge hc1)) rfl) ?_;refine Aa (Qp Ce ?_);refine AOL.Aas (C9 (k:=3) (by kernel_rfl) rfl rfl (Mt _ _)) rfl rfl ?_;refine Qp Co ?_;refine Bw 0 Ag (_::_::_::_::_) (Aq (AW.region (Qp Ce ?_)));refine Rt (Dr rfl ((Se _ _ (by simpa using hS)).at (k:=3) (H2:=_::_::_::_::_) rfl rfl)) ?_;refine Qp Co ?_;refine Bw 0 Ag (_::_::_::_::_) (Aq ?_);refine ⟨(⟨4,Jh 0 (adv (Fr 0 (q1 st))),[],0,[],D2 (adv (Fr 0 (q1 st)))⟩,Fr 0 (adv (Fr 0 (q1 st)))),?_,Bx⟩;exact (by unfold q2 tE;rw [if_pos (show Jj cR (Fr 0 (q1 st))=true from hc1)])
  try simp only [Bk,Bs] at hc1
  refine AW.ghost (GS.Aap (H2:=_::_::_::_::_) 3 rfl (congrArg cP (Hl hc1)) rfl) ?_;refine A5 ?_;refine ⟨(⟨4,[],[],0,[],D2 st⟩,Fr 0 (q1 st)),?_,Bx⟩;exact (by unfold q2 tE;rw [if_neg (nD.mp (show Jj cR (Fr 0 (q1 st))=false from hc1))])
 rintro k rfl;have hS:=hO2.1;refine Aa (Qp Ce ?_);refine Rt (Dr rfl ((Et _ _ _ (by simpa using hS) (by decide)).at (k:=3) (H2:=_::_::_::_::_) rfl rfl)) ?_;refine Re (N3 0 rfl (Qn 0 rfl (Dc.mem (fun k=>G3 (k:=k) (l:=Ag) tok rfl rfl rfl rfl rfl) (fun _ h=>h)) ?_));refine Qn 1 rfl Ce ?_;refine Ur 2 rfl (Dr rfl ((hT (Df H4 (q2 st).2) bp (by simpa using hO2)).at (k:=3) (H2:=_::_::_::_::_) rfl rfl)) (by rintro _ _ ⟨rfl,rfl⟩;simp) ?_;rintro _ _ ⟨rfl,rfl⟩;have hS:=hO3.1;refine Ur 3 rfl (D7 (es:=[Ag,Ag]) tok rfl rfl rfl rfl rfl rfl rfl rfl rfl) (by rintro _ _ ⟨v29,rfl,rfl⟩;simp) ?_;rintro _ _ ⟨v29,rfl,rfl⟩;refine Qn 4 rfl Co ?_;refine bH 5 rfl (Hx 2 (.row _ _ _) Ag (_::_::_::_::_::_) rfl) ?_;rintro _ _ ⟨rfl,rfl⟩;refine A2 (Aa (Qp Ce ?_));refine Rt (Dr rfl ((Et _ _ _ (by simpa using hS) (by decide)).at (k:=4) (H2:=_::_::_::_::_::_) rfl rfl)) ?_;refine Re (N3 2 rfl (Qn 0 rfl Co (Qn 1 rfl (Kn (.row _ _ _) rfl) (Qn 2 rfl Ce (Qn 3 rfl Ce (Qn 4 rfl (Ci (l:=[.val _]) (l':=[]) rfl rfl) ?_))))));refine Ur 5 rfl (Dr rfl ((p_list (q4 T st) bp 0 (by decide) 164 (by kernel_rfl) [.val (.pointer (some ⟨bp,0,none⟩))] [] E hFE (fun s ho=>hE s bp ho) hO4).at (k:=4) (H2:=_::_::_::_::_::_) rfl rfl)) (by rintro _ _ ⟨rfl,rfl⟩;simp) ?_;rintro _ _ ⟨rfl,rfl⟩;have hS:=hO5.1;refine Ur 6 rfl (Pk 0 rfl (aL _) (sc_pair _ _) (by simp;omega) (by simp [maxLen];omega)) (by rintro _ _ ⟨v39,rfl,rfl⟩;simp) ?_;rintro _ _ ⟨v39,rfl,rfl⟩;refine Qn 7 rfl Co ?_;refine bH 8 rfl (Hx 2 (.row _ _ _) Ag (_::_::_::_::_::_) rfl) ?_;rintro _ _ ⟨rfl,rfl⟩;refine A2 (Aa (Qp Ce ?_));refine Rt (Dr rfl ((Et _ _ _ (by simpa using hS) (by decide)).at (k:=4) (H2:=_::_::_::_::_::_) rfl rfl)) ?_;refine B2 ?_;refine AOL.ghost (GS.cell (H2:=_::_::_::_::_::_) 2 4 rfl rfl rfl rfl Dv) ?_;refine Nu 2 Ag rfl ?_;refine Bw 3 Ag (_::_::_::_::_::_) (Rb ?_);refine ⟨.inr rfl,[.agg Ag],Zb 3,_,S4,?_⟩;exact ⟨congrArg (fun l=>AV.agg [.int .i64 3,.str (Jh 0 (q1 st)),.str [],.int .i64 0,.sl 6 l,.int .i64 (D2 st)]) (by unfold I0;simp only [Em,Bj,Ca,Bi]),rfl⟩
abbrev pg1 (st:PS):List Syn×PS:=mG Mi kindP (Bm st) st []
abbrev pst (F:PS->Syn×PS)(s:Av):PS:=(F (Pn (In s).1 s.length)).2
theorem pp_parse (s:Av)(hl:s.length<=100000)(f:Nat)(hf:U3 Tryz.prog f=true)(F:PS->Syn×PS)(hF:Ds F)(hc:∀(st:PS) (bp:Nat),okD 0 st->By Tryz.prog f bp 223 (cP st) (cP (F st).2) [.val (.pointer (some ⟨bp,0,none⟩))] (.agg (cSyn (F st).1))):Ak Tryz.prog 89 [.str s,.fn (.func f) [] []] (.tuple [.agg (cSyn (Fg F s).1),.int .i64 (Fg F s).2.1,.int .i64 (Fg F s).2.2]):=by
 have hb0:=yR s hl;refine Cw 58 Tryz.func89 rfl fun H=>?_
 refine Aa (Dx F1 fun b4=>Qp Ah (Qp Ah (B2 (Qp D3 ?_))));refine Qp (Qc rfl (c13 s (by omega))) ?_;refine Qp Ml (Qp Qxs (Qp Km (Qp Km (Qp Xk (Qp Ah (Qp Ah (Aq (Ba (Qp Ai (Qp Bq (Ap (fun hc1=>?_) fun hc1=>?_)))))))))))
 .
  try simp only [Bk,Bs] at hc1
  refine Aa (Qp (D0 Ag) (Qp Ai (Qp Ai ?_)));refine Bw 0 Ag (_::_) (Qp Ah (Qp Ah (Rc ?_)));refine Yx [.agg Ag,Iq _,Iq _] (Zd 0) S1 ?_;have h9:Fg F s=(Hb,(In s).2.1,(In s).2.2):=by unfold Fg;rw [if_pos hc1]
  rw [h9];rfl
 try simp only [Bk,Bs] at hc1
 refine A5 (Aa (Qp Ez (Qp D3 (Qp (Ck tok rfl rfl rfl rfl) (Qp (D0 gjz) (Qe (E_box (v:=.agg _) (cs:=gjz) rfl rfl (rfl)) ?_))))));rintro _ _ ⟨b27,rfl,rfl⟩;refine Qp Qh (B2 (Qp (A0 (v:=.fn _ _ _) rfl) (Qp Ce (Rt (Ks (hf) rfl rfl rfl ((hc (Pn (In s).1 s.length) b27 hb0).at (k:=0) (H2:=_::_::_) rfl rfl)) (Dx F1 fun b11=>?_)))));refine Bw 0 Ag (_::_::_::_) ?_;refine Ji 11 0 rfl ?_;refine Re (AW.seq (N3 0 rfl (Qn 0 rfl Ce (Qn 1 rfl (Af rfl) (Qn 2 rfl Co (Qn 3 rfl (Kn (Iq _) rfl) (Qn 4 rfl Ce (Qn 5 rfl (Af rfl) (Qn 6 rfl Co (Qn 7 rfl (Kn (.sl _ _) rfl) ?_))))))))));refine Qn 8 rfl (Da ((pst F s).toks.length) rfl rfl (by simp)) ?_;refine Qn 9 rfl Bt ?_;refine Fs ?_;refine A2 (E9 (fun hc2=>?_) fun hc2=>?_)
 .
  try simp only [Bk,Bs] at hc2
  refine AW.region (Qp Ce (sH ((mC _ _ _).at (k:=0) (H2:=_::_::_) rfl rfl) (Aq (Ba (Qp Ce (Qp (Af rfl) (Qp Co (Sw 0 (Iq _) rfl (Qp Bq (Ap (fun hc3=>?_) fun hc3=>?_))))))))))
  .
   try simp only [Bk,Bs] at hc3
   refine AW.seq (N3 0 rfl (Qn 0 rfl (D0 Ag) (Qn 1 rfl Ce (Qn 2 rfl (Af rfl) (Qn 3 rfl Co (Qn 4 rfl (Kn (Iq _) rfl) (Qn 5 rfl Ce (Qn 6 rfl (Af rfl) (Qn 7 rfl Co (Qn 8 rfl (Kn (Iq _) rfl) ?_))))))))));refine Ur 9 rfl (Hx 1 (.agg _) Ag (_::_::_) rfl) (by rintro _ _ ⟨rfl,rfl⟩;simp) ?_;rintro _ _ ⟨rfl,rfl⟩;refine Qn 10 rfl Ah (Qn 11 rfl Ah ?_);refine Fs ?_;refine A2 (Qrt ?_);refine Yx [.agg Ag,Iq _,Iq _] (Zd 1) S2 ?_;have h9:Fg F s=Tn (F (Pn (In s).1 s.length)):=by unfold Fg;rw [if_neg (by rw [hc1];decide)]
   rw [h9];simp only [Tn,Ad,hc1,hc2,hc3,↓reduceIte,Al]
   try rfl
  try simp only [Bk,Bs] at hc3
  refine A5 (Aa (Qp (B1 Ag) ?_));refine Bw 1 Ag (_::_::_) (Qp Ah (Qp Ah (Rb ?_)));refine Yx [.agg Ag,Iq _,Iq _] (Zd 1) S2 ?_;have h9:Fg F s=Tn (F (Pn (In s).1 s.length)):=by unfold Fg;rw [if_neg (by rw [hc1];decide)]
  rw [h9];simp only [Tn,Ad,hc1,hc2,hc3,↓reduceIte,Al]
  try rfl
 try simp only [Bk,Bs] at hc2
 refine A5 (Ba (Qp Ce (Qp (Af rfl) (Qp Co (Sw 0 (Iq _) rfl (Qp Bq (Ap (fun hc4=>?_) fun hc4=>?_)))))))
 .
  try simp only [Bk,Bs] at hc4
  refine AW.seq (N3 0 rfl (Qn 0 rfl (D0 Ag) (Qn 1 rfl Ce (Qn 2 rfl (Af rfl) (Qn 3 rfl Co (Qn 4 rfl (Kn (Iq _) rfl) (Qn 5 rfl Ce (Qn 6 rfl (Af rfl) (Qn 7 rfl Co (Qn 8 rfl (Kn (Iq _) rfl) ?_))))))))));refine Ur 9 rfl (Hx 1 (.agg _) Ag (_::_::_) rfl) (by rintro _ _ ⟨rfl,rfl⟩;simp) ?_;rintro _ _ ⟨rfl,rfl⟩;refine Qn 10 rfl Ah (Qn 11 rfl Ah ?_);refine Fs ?_;refine A2 (Qrt ?_);refine Yx [.agg Ag,Iq _,Iq _] (Zd 1) S2 ?_;have h9:Fg F s=Tn (F (Pn (In s).1 s.length)):=by unfold Fg;rw [if_neg (by rw [hc1];decide)]
  rw [h9];simp only [Tn,Ad,hc1,hc2,hc4,↓reduceIte,Al]
  try rfl
 try simp only [Bk,Bs] at hc4
 refine A5 (Aa (Qp (B1 Ag) ?_));refine Bw 1 Ag (_::_::_) (Qp Ah (Qp Ah (Rb ?_)));refine Yx [.agg Ag,Iq _,Iq _] (Zd 1) S2 ?_;have h9:Fg F s=Tn (F (Pn (In s).1 s.length)):=by unfold Fg;rw [if_neg (by rw [hc1];decide)]
 rw [h9];simp only [Tn,Ad,hc1,hc2,hc4,↓reduceIte,Al]
 try rfl
theorem pp_Query (s:Av)(hl:s.length<=100000):Ak Tryz.prog 40 [.str s] (.tuple [.agg (cSyn (Fg (I0 EE TT) s).1),.int .i64 (Fg (I0 EE TT) s).2.1,.int .i64 (Fg (I0 EE TT) s).2.2]):=by
 refine Cw 10 Tryz.func40 rfl fun H=>?_
 refine Aa (Dx F1 fun b2=>Qp Ah (Qp Ah (B2 (Qp D3 ?_))));refine Qp (Qc rfl (pp_parse s hl 91 (by kernel_rfl) (I0 EE TT) (sX cZ vU) (fun st bp h=>p_query st bp EE cZ p_EE TT vU p_TT h))) ?_;refine Qp (Cq (v:=.agg Ag) rfl rfl) (Qp Km (Qp Km ?_));refine Bw 0 Ag (_::_) (Qp Ah (Qp Ah (Rb ?_)));refine Yx [.agg Ag,Iq _,Iq _] (Zd 0) S1 ?_;rfl
mutual
def Uc:Syn->Syn->Bool
 | ⟨k,t,n,m,ks,p⟩,b=>if ((((((k != b.kind) || !(t==b.text)) || !(n==b.name))||(m != b.num))||(p != b.pos))||((ks.length:Int) != (b.kids.length:Int))) then false else Lx ks b.kids
def Lx:List Syn->List Syn->Bool
 | [],_=>true
 | _::_,[]=>true
 | a::r,b::s=>if !(Uc a b) then false else Lx r s
end
theorem Ys (a b:Syn):Uc a b=if ((((((a.kind != b.kind) || !(a.text==b.text)) || !(a.name==b.name))||(a.num != b.num))||(a.pos != b.pos))||((a.kids.length:Int) != (b.kids.length:Int))) then false else Lx a.kids b.kids:=by cases a;simp only [Uc]
theorem kF {l m:List Syn}{k:Nat}{x y:Syn}(hx:l[k]? = some x)(hy:m[k]? = some y):Lx (l.drop k) (m.drop k)=if !(Uc x y) then false else Lx (l.drop (k+1)) (m.drop (k+1)):=by
 obtain ⟨h1,rfl⟩:=List.getElem?_eq_some_iff.1 hx;obtain ⟨h2,rfl⟩:=List.getElem?_eq_some_iff.1 hy;rw [Ou h1,Ou h2,Lx]
theorem uL {l m:List Syn}{k:Nat}(h:l.length<=k):Lx (l.drop k) (m.drop k)=true:=by
 rw [L7 h,Lx]
mutual
def sameN:Syn->Syn->Bool
 | ⟨k,t,n,m,ks,p⟩,b=>if (((((k != b.kind) || !(t==b.text)) || !(n==b.name))||(m != b.num))||((ks.length:Int) != (b.kids.length:Int))) then false else sameNs ks b.kids
def sameNs:List Syn->List Syn->Bool
 | [],_=>true
 | _::_,[]=>true
 | a::r,b::s=>if !(sameN a b) then false else sameNs r s
end
theorem gG (t:Syn):Uc t t=true:=by
  refine Syn.ind (P:=fun t=>Uc t t=true) (fun e ih=>?_) t;rw [Ys,if_neg (by simp)]
  have key:∀l:List Syn,(∀a∈l,Uc a a=true)->Lx l l=true:=by
    intro l
    induction l with
    | nil=>intro _;rw [Lx]
    | cons a r ihl=>
      intro h;rw [Lx,h a (L5 ..)];simpa using ihl fun x hx=>h x (Jp _ hx)
  exact key _ ih
theorem qK (a b:Syn):Ak Tryz.prog 31 [.agg (cSyn a),.agg (cSyn b)] (.bool (Uc a b)):=by
 revert b
 induction a using Syn.ind
 rename_i a ih;intro b;refine Cw 67 Tryz.func31 rfl fun H=>?_
 refine Aa (Qp (Eh Ag) (Qp (Eh Ag) (Qp Ao (Aq (Ba (Qp (Qf Ag) (Qp Be (Qp (Qf Ag) (Qp Be (Qp Bq (Qp A8 (Qg [] Qw (Qf Oy) (Qg [(12,_)] Qw Dk (Qg [] Qw (Qf Oy) (Qg [(14,_)] Qw Dk ?_)))))))))))))));refine Qg [(13,_),(15,_)] Yw (Dq rfl rfl) (Qp Cr (Qp A8 (Qg [] Qw (Qf Xe) (Qg [(19,_)] Qw Dk (Qg [] Qw (Qf Xe) (Qg [(21,_)] Qw Dk (Qg [(20,_),(22,_)] Yw (Dq rfl rfl) (Qp Cr (Qp A8 (Qg [] Qw (Qf M7) (Qg [(26,_)] Qw Be (Qg [] Qw (Qf M7) (Qg [(28,_)] Qw Be ?_)))))))))))));refine Qg [(27,_),(29,_)] Yw Bq (Qp Cr (Qp A8 (Qg [] Qw (Qf [Iq _]) (Qg [(33,_)] Qw Be (Qg [] Qw (Qf [Iq _]) (Qg [(35,_)] Qw Be (Qg [(34,_),(36,_)] Yw Bq (Qp Cr (Qp A8 (Qg [] Qw (Qf Iv) (Qg [(40,_)] Qw Cg ?_)))))))))));refine Yh [(41,_)] Qw (fun hG=>Da a.kids.length rfl rfl (by simp)) ?_;refine Qg [] Qw (Qf Iv) (Qg [(43,_)] Qw Cg ?_);refine Yh [(44,_)] Qw (fun hG=>Da b.kids.length rfl rfl (by simp)) ?_;refine Qg [(42,_),(45,_)] Yw Bq (Qp Cr (Ap (fun hc1=>?_) fun hc1=>?_))
 .
  try simp only [Bk,Bs] at hc1
  refine Aa (Qp Ao (Rc (Qr (.bool _) ?_)));have h9:Uc a b=false:=by rw [Ys,if_pos hc1]
  rw [h9];rfl
 try simp only [Bk,Bs] at hc1
 have hlen:a.kids.length=b.kids.length:=by simp only [En,bne_eq_false_iff_eq] at hc1;have:=hc1.2;omega
 refine A5 (Ba (Qp Ah (Aq (AW.block ?_))));refine AW.Aan (fun (k:Nat)=>(⟨[(2,.ptr (cSyn a)),(3,.ptr (cSyn b)),(5,.int .i64 (k:Int))],H,67⟩:St)) (fun k=>k<=a.kids.length/\Lx a.kids b.kids=Lx (a.kids.drop k) (b.kids.drop k)) (fun k=>a.kids.length-k) (0) ?_ Bx ?_
 . exact ⟨A3 _,rfl⟩
 rintro k hR;refine Ba (Qp Ai (Qp (Qf Iv) (Qp Cg (AOL.know 50 rfl fun hml=>?_))));refine Qp (Da a.kids.length rfl rfl (by simp)) ?_;refine Qp Bt (Ap (fun hc2=>?_) fun hc2=>?_)
 .
  try simp only [Bk,Bs] at hc2
  have hk:k<a.kids.length:=by have:=Do hc2;omega
  rw [B7] at hml;unfold maxLen at hml;refine (sZ hk).elim fun x hx=>?_
  refine (sZ (l:=b.kids) (k:=k) (by omega)).elim fun y hy=>?_
  refine A5 (AW.seq (AW.block (AW.seq ?_)));refine Id ?_;refine Qn 0 rfl (Qf Iv) (Qn 1 rfl Cg (Qn 2 rfl Ai ?_));refine Qn 3 rfl (Cp Ag rfl rfl (by omega) (C8 hx)) ?_;refine Qn 4 rfl (B1 Ag) (Qn 5 rfl (Qf Iv) (Qn 6 rfl Cg (Qn 7 rfl Ai ?_)));refine Qn 8 rfl (Cp Ag rfl rfl (by omega) (C8 hy)) ?_;refine Qn 9 rfl (B1 Ag) (Qn 10 rfl (Qc rfl (ih x (An hx) y)) (Qn 11 rfl E7 ?_));refine Fs ?_;refine A2 (E9 (fun hc3=>?_) fun hc3=>?_)
  .
   try simp only [Bk,Bs] at hc3
   refine Aa (Qp Ao (Ra (Au (Cn (Au (Qr (.bool _) ?_))))));have h9:Uc a b=false:=by rw [Ys,iN hc1,hR.2,kF hx hy,hc3];rfl
   rw [h9];rfl
  try simp only [Bk,Bs] at hc3
  refine Rf (AW.region (Qp Ai (Qp Dt (Qp Ah (Aq ?_)))));refine ⟨k+1,?_,?_,Bx⟩
  . exact ⟨hk,hR.2.trans (by rw [kF hx hy,hc3];rfl)⟩
  omega
 try simp only [Bk,Bs] at hc2
 have hk:a.kids.length<=k:=by have:=Di hc2;omega
 refine AW.exit ?_;refine Bn (Ri (Aa (Qp Ao (Rb ?_))));refine Qr (.bool _) ?_;have h9:Uc a b=true:=by rw [Ys,iN hc1,hR.2,uL hk]
 rw [h9];rfl
def Pe (u:Av)(L:List Tok)(rest:Av):Prop:=∃l,Sc (u++rest) 0 l u.length/\l.map erT=L
abbrev tlp:Tok:=⟨3,Fh,0⟩
abbrev trp:Tok:=⟨3,Ht,0⟩
abbrev tcm:Tok:=⟨3,Dm,0⟩
def Cur (pre post:List Tok)(d:Int):PS:=⟨pre++post,pre.length,0,d,0,0⟩
variable {pre post:List Tok} {d:Int} {t:Tok}
def Era (l:List Tok):Prop:=l.map erT=l
def Rdr (F:PS->Syn×PS):Prop:=Er F/\Bof F/\∀x:Cx,x.Pa->EmF x 0 F F
abbrev tks (s:Av):List Tok:=(In s).1.map erT
theorem begin_er (s:Av)(n:Int):er (Pn (In s).1 n)=Cur [] (tks s) 0:=rfl
def Bex (post:List Tok):Prop:=∀c r,post=c::r->c.kind=3/\(c.text=Ht\/c.text=Dm)
def Bpa (post:List Tok):Prop:=∀c r,post=c::r->c.kind=3/\c.text=Ht
def NoOp (s:PS):Prop:=(Jj yI s=false/\Jj mX s=false/\Jj rR s=false/\Jj cF s=false)/\Jj w_lt s=false/\Jj w_le s=false/\Jj w_gt s=false/\Jj w_ge s=false/\Jj rU s=false/\Jj yH s=false
section
variable {E N:PS->Syn×PS} {s:PS}
end
abbrev tnum (c:UInt8):Tok:=⟨1,[c],0⟩
abbrev snum (n:Int):Syn:=⟨13,[],Gd,n,[],0⟩
def par2 (x:Av):Av:=([40,32,40]++x) ++ [41,41]
def p19par1 (x:Av):Av:=([49,32,60,32,48,32,43,32,40]++x) ++ [41]
abbrev tlt:Tok:=⟨3,w_lt,0⟩
abbrev tpl:Tok:=⟨3,rR,0⟩
def emT (p x:Av):Av:=(((([113,117,101,114,121,32,113,32,98,121,32,107,32,109,97,116,99,104,32,119,104,101,114,101,40,112,108,117,115,40]++p) ++ [41,44,32])++x) ++ [41,32,114,101,116,117,114,110,32])++x ++ [44,32,49,59]
abbrev tw (w:Av):Tok:=⟨0,w,0⟩
abbrev tsm:Tok:=⟨3,mW,0⟩
abbrev emA:List Tok:=[tw He,tw [113],tw cR,tw [107],tw H4,tw I5,tlp,tw Oq,tlp]
section
variable {E T:PS->Syn×PS} {pre post post':List Tok} {d:Int} {t:Tok}
end
def emS (P X:Syn):Syn:=⟨3,[113],[],0,[⟨4,[107],[],0,[],0⟩,⟨12,[],[],0,[⟨9,[],[],0,[P],0⟩,X],0⟩,X,snum 1],0⟩
abbrev bs1:Av:=[32]
abbrev bs2:Av:=[10]
abbrev bs3:Av:=[32,35,32,40,10]
def Btw (b:Av):Prop:=b=bs1\/b=bs2\/b=bs3
def spO (b:Av):List Tok->Av
 | []=>[]
 | t::r=>(M0 t++b)++spO b r
theorem query_kind (E T:PS->Syn×PS)(st:PS):(I0 E T st).1.kind=3:=rfl
def nsep (c:UInt8):Bool:=decide (c≠35) && !decide (0<=Lib.indexByte [32,9,13,10] c)
theorem name_is {s:Av}(h:Q3 s=true):0<s.length/\s.length<=24/\Hq (bt s 0)=true/\Eo J0 s=s.length/\tF s=false:=by
 unfold Q3 at h;rw [K5] at h;unfold Il at h;split at h
 . cases h
 rename_i h1;simp only [Ff,not_or,Qa,Dp,Bk,bne_iff_ne,ne_eq,Decidable.not_not] at h1;obtain ⟨⟨⟨⟨h1,h2⟩,h3⟩,h4⟩,h5⟩:=h1;refine ⟨?_,by omega,by simpa using h3,by omega,by rw [key_eq];exact h5⟩;cases s with
 | nil=>cases h1
 | cons c r=>simp
def signOk (c:UInt8):Bool:=nsep c && !Hq c && !Eb c && !((c.toNat:Int)==34)&&(signV c true==some [c])&&(signV c false==some [c])
abbrev tg (w:Av):Tok:=⟨3,w,0⟩
def numK (n:Int):List Tok:=if n<0 then [tg cF,⟨1,Lib.decDigits n.natAbs,0⟩] else [⟨1,Lib.decDigits n.toNat,0⟩]
def litK (t:Syn):List Tok:=
 if (t.name==Gd) then numK t.num
 else if (t.name==E6) then if (t.num==1) then [tw Ns] else [tw Lc]
 else [⟨2,t.text,0⟩]
def wrapK (p k:Syn)(l:List Tok):List Tok:=if Gq p.kind k.kind then [tlp]++l ++ [trp] else l
def wJ:List (List Tok)->List Tok
 | []=>[]
 | [x]=>x
 | x::y::r=>x ++ [tcm]++wJ (y::r)
def operK (n:Int):Tok:=if (n==10)||(n==11) then tw (H0 n) else tg (H0 n)
def nodeK (t:Syn)(ws:List (List Tok)):List Tok:=
 if (t.kind==0) then ws.flatten
 else if (t.kind==1) then [tw Mi] ++ [] ++ [tw t.text] ++ [tg gP]++wJ ws ++ [tg Rg]
 else if (t.kind==2) then [tw t.text] ++ [tg Mg] ++ [tw (K4 t.num)]
 else if (t.kind==3) then [tw He] ++ [] ++ [tw t.text]++(if (Cd t 0).text == [] then [] else [tw cR] ++ [tw (Cd t 0).text]) ++ [] ++ [tw H4] ++ []++ws.getD 1 [] ++ [] ++ [tw Ib] ++ []++wJ (ws.drop 2) ++ [tg mW]
 else if (t.kind==5) then [tw t.text] ++ [] ++ [tw t.name]++(if ws == [] then [] else [tw cG]++ws.getD 0 [])
 else if (t.kind==13) then litK t
 else if (t.kind==14) then [tw t.text] ++ [tg kK] ++ [tw t.name]
 else if (t.kind==15) then [tw Y4] ++ [tlp] ++ [tw t.text] ++ [trp]
 else if (t.kind==16) then [tw (Pm t.num)] ++ [tlp] ++ [tw t.text] ++ [tg kK] ++ [tw t.name]++(if ws == [] then [] else [tcm]++ws.getD 0 []) ++ [trp]
 else if (t.kind==17) then wrapK t (Cd t 0) (ws.getD 0 []) ++ [] ++ [operK t.num] ++ []++wrapK t (Cd t 1) (ws.getD 1 [])
 else if (t.kind==18) then [tw Wz] ++ []++wrapK t (Cd t 0) (ws.getD 0 [])
 else [tw (Mn t.kind)] ++ [tlp]++wJ ws++(if (t.kind==11) then [tcm]++numK t.num else []) ++ [trp]
mutual
def toksC:Syn->List Tok
 | ⟨k,x,n,m,kids,p⟩=>nodeK ⟨k,x,n,m,kids,p⟩ (toksM kids)
def toksM:List Syn->List (List Tok)
 | []=>[]
 | x::r=>toksC x::toksM r
end
section
variable (f:Av->Av) (c:Int->Int)
def zX (k:Int)(x:Av):Av:=if ((k==14)||(k==15))||(k==16) then f x else x
def zN (k:Int)(n:Av):Av:=if (k==5) then f n else n
mutual
def zT:Syn->Syn
 | ⟨k,x,n,m,kids,p⟩=>⟨k,zX f k x,zN f k n,m,zL kids,c p⟩
def zL:List Syn->List Syn
 | []=>[]
 | x::r=>zT x::zL r
end
def zV (v:Va):Va:=⟨f v.name,v.type⟩
end
section
variable {f:Av->Av} {c:Int->Int}
theorem zN_z {x:Av}:zN f 5 x=f x:=rfl
section
variable (hf:∀a b,f a=f b->a=b)
include hf
end
section
variable {T:List e8Sc} {V:List Va} (hf:∀a b,f a=f b->a=b)
end
end
section
variable {T:List e8Sc} {t:Syn}
variable {f:Av->Av} {c:Int->Int} (hf:∀a b,f a=f b->a=b)
def rnQ (f:Av->Av)(q:Qy):Qy:=⟨q.name,q.vars.map (zV f),q.key,q.pattern,q.returns⟩
omit hf in
end
def zz1 (s:Av):Av:=s ++ [122]
abbrev rnT (t:Syn):Syn:=zT zz1 id t
section
variable {T:List e8Sc} {t:Syn}
end
def trS:Syn:=⟨13,[],E6,1,[],0⟩
def evW (e:Syn):Syn:=⟨e.kind,e.text,e.name,e.num,[trS],e.pos⟩
def qryW (t:Syn):Syn:=⟨t.kind,t.text,t.name,t.num,t.kids.set 1 (evW (Cd t 1)),t.pos⟩
section
variable {T:List e8Sc} {V:List Va} {t:Syn}
structure Bare (t:Syn):Prop where
 five:(Cd t 1).kind=5
 none:(Cd t 1).kids = []
end
theorem jX {e:Ex}(h:Gt e=0):Ga e=0/\((e.op=0\/e.op=4)->C4 e.val=0)/\(e.op=4->1<=e.kind/\e.kind<=5/\(e.kind=1->e.val=v0)):=by
 unfold Gt at h;split at h
 . cases h
 split at h
 . cases h
 split at h
 . cases h
 split at h
 . cases h
 rename_i h1 h2 h3 h4;by_cases hq:(e.op==4||e.op==0)=true
 .
  rw [if_pos hq] at h;by_cases hc:(N8 e != 0)=true
  . rw [if_pos hc] at h;rw [h] at hc;cases hc
  rw [if_neg hc] at h;have hc0:N8 e=0:=by simpa using hc
  unfold N8 at hc0;split at hc0
  . rename_i h5;rw [hc0] at h5;cases h5
  rename_i h5;have hv:C4 e.val=0:=by simpa using h5
  refine ⟨h,fun _=>hv,fun ho=>?_⟩;have e4:(e.op==4)=true:=by rw [ho];rfl
  rw [e4,Ee] at h4;simp only [Ff,Dp,not_or] at h4;refine ⟨by omega,by omega,fun hk=>?_⟩;split at hc0
  . cases hc0
  rename_i h6;rw [e4,Ee,hk] at h6;simp only [Ff,not_or,Cz,not_and] at h6;have:=h6.2 rfl;exact (isV0_iff _).1 (by simpa using this)
 rw [if_neg hq] at h;simp only [Ff,not_or] at hq;exact ⟨h,fun ho=>by rcases ho with ho | ho <;> rw [ho] at hq <;> simp at hq,fun ho=>by rw [ho] at hq;simp at hq⟩
structure VrOK (T:List e8Sc) (V:List Va):Prop where
 rv:RvOK T V
 vn:(Lh V).Nodup
 fn:∀s∈T,(s.fields.map (·.name)).Nodup
section
variable {T:List e8Sc} {V:List Va}
theorem Z1 {e:Ex}(h:X9 T V e=true)(hn:Gt e=0):((e.op=1\/e.op=2\/e.op=3\/e.op=4)->e.var<(V.length:Int))/\((e.op=1\/e.op=4)->e.field<((Xg T V e.var).fields.length:Int)):=by
 unfold X9 at h;by_cases hc:1<=e.op/\e.op<=4
 .
  rw [if_pos (by simp;exact hc)] at h;split at h
  . cases h
  rename_i h1;simp only [Dp] at h1;refine ⟨fun _=>by omega,fun ho=>?_⟩;have e1:((e.op==1)||(e.op==4))=true:=by rcases ho with ho | ho <;> rw [ho] <;> rfl
  rw [e1,Ee] at h;simp at h;exact h
 exact ⟨fun ho=>by omega,fun ho=>by omega⟩
end
end Go.Proofs.YtckhoadldibflaaGreatDoor
