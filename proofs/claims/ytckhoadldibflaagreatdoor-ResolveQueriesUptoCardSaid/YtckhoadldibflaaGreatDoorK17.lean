/-
  Several texts in one: V5, V6, V7. No condition.
-/
import Derived.Test.YtckhoadldibflaaGreatDoorK01
import Derived.Test.YtckhoadldibflaaGreatDoorK16
import Derived.KernelRfl
set_option linter.unusedVariables false
set_option linter.unusedSimpArgs false
namespace Go.Proofs.YtckhoadldibflaaGreatDoor
open Go Go.Aw
set_option maxHeartbeats 3200000
set_option maxRecDepth 20000

theorem iC (read:Syn→PS→Syn×PS)(z:Syn)(st:PS):Nw read z st=if ((I4 st).bad != 0) then (z,I4 st) else ((read z (adv (Kb st))).1,Kq (read z (adv (Kb st))).2):=rfl
theorem Vi (read:Syn→PS→Syn×PS)(z:Syn)(st:PS)(bp bo:Nat)(R:List HO)(f:Nat)(hf:Tm Tryz.prog f=true)(first cap:List AV)(hlt:st.pos<st.toks.length)(hS:Pn st)
  (hcl:(I4 st).bad=0→B5 Tryz.prog f (.box bp 223 (cP (adv (Kb st))) :: .box bo 25 (cSyn z)::R) (first ++ []++cap) (fun r H'=>r = .tuple []∧H' = .box bp 223 (cP (read z (adv (Kb st))).2) :: .box bo 25 (cSyn (read z (adv (Kb st))).1)::R)) :
  B5 Tryz.prog 226 (.box bp 223 (cP st) :: .box bo 25 (cSyn z)::R) [.val (.pointer (some ⟨bp,0,none⟩)),.fn (.func f) first cap] (fun r H'=>r = .tuple []∧H' = .box bp 223 (cP (Nw read z st).2) :: .box bo 25 (cSyn (Nw read z st).1)::R):=by
 refine zH st (read z (adv (Kb st))).2 (Nw read z st).2 bp (.box bo 25 (cSyn z)::R) (.box bo 25 (cSyn (Nw read z st).1)::R) f hf first cap hlt hS (fun hb=>?_) (fun hb=>?_)
 ·
  have e:Nw read z st=((read z (adv (Kb st))).1,Kq (read z (adv (Kb st))).2):=by rw [iC,hb];rfl
  refine B5.mono' (hcl hb) fun r K hk=>⟨?_,by rw [e]⟩
  rw [hk.2,e]
 have e:Nw read z st=(z,I4 st):=by rw [iC,if_pos (by simpa using hb)]
 rw [e];exact ⟨rfl,rfl⟩
theorem Zf {D:Int}{st:PS}(hD:0≤D)(h:okD D st)(hb:(I4 st).bad=0):okD (D+1) (adv (Kb st)):=by
 obtain ⟨h1,h2,h3⟩:=h
 have hd:¬64≤st.depth:=fun hd=>by
  unfold I4 at hb;rw [if_pos (decide_eq_true hd)] at hb;exact absurd (Yx (e:=12) (by decide) st) (by simp [hb])
 have e1:(Kb st).depth=st.depth+1:=eG (by omega) (by omega);exact ⟨h1,show D+1≤(Kb st).depth by omega,show (Kb st).depth≤64 by omega⟩
theorem tot_get (k:Nat)(h:k<4):∃s,totL[k]? = some s∧(I3.drop (k*2)).take 2 = [AV.str s.1,.int .i64 s.2]∧s.1.length≤1048576:=by
 match k,h with
 | 0,_=>exact ⟨_,rfl,rfl,by decide⟩
 | 1,_=>exact ⟨_,rfl,rfl,by decide⟩
 | 2,_=>exact ⟨_,rfl,rfl,by decide⟩
 | 3,_=>exact ⟨_,rfl,rfl,by decide⟩

theorem p_unit_1 (st:PS)(bp:Nat)(z:Syn)(bo:Nat)(R:List HO)(D:Int)(hD:0≤D)(E:PS→Syn×PS)(hFE:C7 E)(hE:∀(st:PS) (bp:Nat),okD (D+1) st→Bl Tryz.prog 164 bp 223 (cP st) (cP (E st).2) [.val (.pointer (some ⟨bp,0,none⟩))] (.agg (cSyn (E st).1)))(hO:okD (D+1) st):B5 Tryz.prog 328 (.box bp 223 (cP st) :: .box bo 25 (cSyn z)::R) [.ptr [.val (.pointer (some ⟨bp,0,none⟩))],.val (.pointer (some ⟨bo,0,none⟩))] (fun r H'=>r = .tuple []∧H' = .box bp 223 (cP (C5 Kc (E st).2)) :: .box bo 25 (cSyn (E st).1)::R):=by
 have hS:=((hFE.okD (by omega) hO).1);refine B5.body (n:=6) tok Tryz.func328 rfl rfl rfl ?_;refine Ad (Qp Jb (mW ((hE st bp hO).at (k:=0) (H2:=_::_::_) rfl rfl) ?_));refine Bt 1 Aq (_::_::_) (Ae (AW.region (Qp Jb ?_)));refine Rt (Dc rfl ((D3 _ _ _ (by simpa using hS) (by first | assumption | decide)).at (k:=0) (H2:=_::_::_) rfl rfl)) ?_;refine AOL.nil ?_;refine ⟨.inl rfl,[],.nil,_,.refl _,?_⟩;exact ⟨rfl,rfl⟩
theorem aL {α:Type}{p:α→Bool}{l:List α}{k:Nat}(hk:¬k<l.length)(hn:∀j y,j<k→l[j]? = some y→p y=false):l.find? p=none:=
 dF fun j y hj hy=>hn j y (by omega) hy

theorem p_unit (st:PS)(bp:Nat)(D:Int)(hD:0≤D)(E:PS→Syn×PS)(hFE:C7 E)(hE:∀(st:PS) (bp:Nat),okD (D+1) st→Bl Tryz.prog 164 bp 223 (cP st) (cP (E st).2) [.val (.pointer (some ⟨bp,0,none⟩))] (.agg (cSyn (E st).1)))(hO:okD D st):Bl Tryz.prog 322 bp 223 (cP st) (cP ((Jd E st).2)) [.val (.pointer (some ⟨bp,0,none⟩))] (.agg (cSyn (Jd E st).1)):=by
 intro H;have hS:=hO.1;refine B5.body (n:=83) tok Tryz.func322 rfl rfl rfl ?_;refine Ad (Qp (Ts (v:=.val _) (cs:=[_]) rfl rfl rfl) (Dt L7 fun b2=>Bs (Qp Jb ?_)));refine AOL.Aan (Cy (k:=1) (by kernel_rfl) rfl rfl (Ku _ _)) rfl rfl ?_;refine Qp Al (Ae (Rd (Qp Jb ?_)));refine AOL.Aan (Cy (k:=1) (by kernel_rfl) rfl rfl (p_is _ _ _ (by simpa using hS) (by first | assumption | decide))) rfl rfl ?_;refine Ae (Ao (fun hc1=>?_) fun hc1=>?_)
 ·
  try simp only [Et,Fp] at hc1
  refine Ad (Dt L7 fun b4=>Bs (Qp Jb (Qp (B1 (l:=[]) (l':=[.ptr _,.val _]) rfl rfl) ?_)));refine Rt (Dc rfl (B5.front2 (R:=_::_) 0 1 rfl rfl rfl (Vi (fun _ s=>((E s).1,C5 Kc (E s).2)) Oy st bp b4 _ 328 (by kernel_rfl) [] [.ptr [.val (.pointer (some ⟨bp,0,none⟩))],.val (.pointer (some ⟨b4,0,none⟩))] (Xu hc1) hS (fun hb=>p_unit_1 _ bp Oy b4 _ D hD E hFE hE (Zf hD hO hb))))) ?_;refine Bs (AOL.Aan (A2 (k:=1) (l:=Aq) tok rfl rfl rfl rfl rfl) rfl rfl ?_);refine Bt 2 Aq (_::_::_::_) (Rc ?_);refine ⟨.inr rfl,[.agg Aq],.cons (.box _ _ _ 2 _ _ _ _ rfl rfl rfl rfl rfl rfl) <| .nil,_,.cons_cons _ (.cons _ (.cons _ (.refl _))),?_⟩;refine ⟨?_,congrArg (fun c=>HO.box bp 223 c::H) ?_⟩
  ·
   try simp only [Ag,Jd,cSyn,E7,Di,Bn,hc1,↓reduceIte,B0,Ce,Fg]
   try rfl
  try simp only [cP,Jd,hc1,↓reduceIte,B0,Ce,Fg]
  try rfl
 try simp only [Et,Fp] at hc1
 refine A7 (Rd ?_);refine Qp (Xv (l:=I3) tok (⟨_,by simp [globals],fun _ h=>h⟩) rfl rfl rfl rfl) ?_;refine Qp Am (Ae (AW.block ?_));refine AW.Aam (fun (k:Nat)=>(⟨[(1,.ptr [.val (.pointer (some ⟨bp,0,none⟩))]),(2,.val (.pointer (some ⟨b2,0,none⟩))),(3,.int .i64 (Dj st)),(19,.agg I3),(20,.int .i64 (k:Int))],.box b2 25 (cSyn Oy) :: .box bp 223 (cP st)::H,83⟩:St)) (fun k=>k≤4∧∀j y,j<k→totL[j]? = some y→K4 y.1 st=false) (fun k=>4-k) (0) ?_ Bv ?_
 · exact ⟨Dh _,fun j y hj=>absurd hj (Nat.not_lt_zero _)⟩
 rintro k hR;refine Ad (Qp Bp (Re (Ao (fun hc2=>?_) fun hc2=>?_)))
 ·
  try simp only [Et,Fp] at hc2
  have hk:k<4:=by have:=Gv hc2;omega
  refine (tot_get k hk).elim fun x hx3=>?_
  have hx:=hx3.1;have hx2:=hx3.2.1;have hwx:=hx3.2.2;refine A7 (AW.seq (AW.block (Ad ?_)));refine Qp (fN (l:=[.str x.1,.int .i64 x.2]) tok rfl rfl rfl rfl rfl rfl (by omega) (by omega) (by show k*2+2≤8;omega) (hx2)) ?_;refine Dt [.str [],.int .i64 0] fun b6=>?_
  refine Bt 0 H6 (_::_::_::_) ?_;refine AOL.ghost (GS.freeze (t:=6) 0 rfl rfl) ?_;refine Bs (Qp Jb (Qp (Qf H6) (Qp C9 ?_)));refine Rt (Dc rfl ((D6 _ _ _ (by simpa using hS) (by first | assumption | decide)).at (k:=1) (H2:=_::_::_) rfl rfl)) ?_;refine Ae (Ao (fun hc3=>?_) fun hc3=>?_)
  ·
   try simp only [Et,Fp] at hc3
   have hfd:totL.find? (fun s=>K4 s.1 st)=some x:=U0 hR.2 hx hc3;refine AW.ghost (GS.Aaq (H2:=_::_::_) 1 rfl (congrArg cP (Fz hc3)) rfl) ?_;refine Ad (Qp (Qf [Iq _]) (Qp Bf (Qp Am (Qp (Du Aq) (Dt L7 fun b7=>?_)))));refine Bt 0 Aq (_::_::_::_) (Bs (Qp Jb ?_));refine Rt (Dc rfl (B5.front2 (R:=_::_) 0 1 rfl rfl rfl (iZ (adv st) bp (⟨16,[],[],x.2,[],Dj st⟩) b7 (by simpa using hS) _))) ?_;refine Bs (Qp Jb ?_);refine Rt (Dc rfl ((D3 _ _ _ (by simpa using hS) (by first | assumption | decide)).at (k:=0) (H2:=_::_::_::_) rfl rfl)) ?_;refine Bs (Qp Jb ?_);refine Rt (Dc rfl ((aP _ _ (by simpa using hS)).at (k:=0) (H2:=_::_::_::_) rfl rfl)) ?_;refine Qp (Ak (es:=[Aq]) tok rfl rfl rfl rfl rfl rfl rfl rfl rfl) (Qp Cc ?_);refine Bt 1 Aq (_::_::_::_) (Bs (Qp Jb ?_));refine Rt (Dc rfl ((D3 _ _ _ (by simpa using hS) (by first | assumption | decide)).at (k:=0) (H2:=_::_::_::_) rfl rfl)) ?_;refine Bs (AOL.Aan (A2 (k:=1) (l:=Aq) tok rfl rfl rfl rfl rfl) rfl rfl ?_);refine Bt 2 Aq (_::_::_::_) (Ra (Av (B9 (Av ?_))));refine ⟨.inr rfl,[.agg Aq],.cons (.box _ _ _ 2 _ _ _ _ rfl rfl rfl rfl rfl rfl) <| .nil,_,.cons_cons _ (.cons _ (.cons _ (.refl _))),?_⟩;refine ⟨?_,congrArg (fun c=>HO.box bp 223 c::H) ?_⟩
   ·
    try simp only [Ag,Jd,hfd,cSyn,E7,Di,Bn,hc1,hc2,hc3,↓reduceIte,B0,Ce,Fg]
    try rfl
   try simp only [cP,Jd,hfd,hc1,hc2,hc3,↓reduceIte,B0,Ce,Fg]
   try rfl
  try simp only [Et,Fp] at hc3
  refine AW.ghost (GS.Aaq (H2:=_::_::_) 1 rfl (congrArg cP (Gw hc3)) rfl) ?_;refine Rf (AW.region (Qp Dl (Qp Am (Ae ?_))));refine ⟨k+1,?_,?_,Bv⟩
  · exact ⟨hk,fun j y hj hy=>by rcases Nat.lt_succ_iff_lt_or_eq.1 hj with h | rfl;exact hR.2 j y h hy;rw [hx] at hy;cases hy;exact hc3⟩
  omega
 try simp only [Et,Fp] at hc2
 have hkn:¬k<4:=by have:=If hc2;omega
 have hfd:totL.find? (fun s=>K4 s.1 st)=none:=aL (k:=k) hkn hR.2;refine AW.exit ?_;refine Bk (Ri (AW.seq (AW.block (Ad (Qp Jb ?_)))));refine Rt (Dc rfl ((D6 _ _ _ (by simpa using hS) (by first | assumption | decide)).at (k:=1) (H2:=_::_::_) rfl rfl)) ?_;refine Qp Au (Ae (Ao (fun hc4=>?_) fun hc4=>?_))
 ·
  try simp only [Et,Fp] at hc4
  refine AW.ghost (GS.Aaq (H2:=_::_::_) 1 rfl (congrArg cP (Fz hc4)) rfl) ?_;refine Ad (Qp Am (Qp (Du Aq) (Dt L7 fun b8=>?_)));refine Bt 0 Aq (_::_::_::_) (Bs (Qp Jb ?_));refine Rt (Dc rfl (B5.front2 (R:=_::_) 0 1 rfl rfl rfl (iZ (adv st) bp (⟨16,[],[],1,[],Dj st⟩) b8 (by simpa using hS) _))) ?_;refine Bs (Qp Jb ?_);refine Rt (Dc rfl ((D3 _ _ _ (by simpa using hS) (by first | assumption | decide)).at (k:=0) (H2:=_::_::_::_) rfl rfl)) ?_;refine Bs (AOL.Aan (A2 (k:=1) (l:=Aq) tok rfl rfl rfl rfl rfl) rfl rfl ?_);refine Bt 2 Aq (_::_::_::_) (Ra ?_);refine ⟨.inr rfl,[.agg Aq],.cons (.box _ _ _ 2 _ _ _ _ rfl rfl rfl rfl rfl rfl) <| .nil,_,.cons_cons _ (.cons _ (.cons _ (.refl _))),?_⟩;refine ⟨?_,congrArg (fun c=>HO.box bp 223 c::H) ?_⟩
  ·
   try simp only [Ag,Jd,hfd,cSyn,E7,Di,Bn,hc1,hc2,hc4,↓reduceIte,B0,Ce,Fg]
   try rfl
  try simp only [cP,Jd,hfd,hc1,hc2,hc4,↓reduceIte,B0,Ce,Fg]
  try rfl
 try simp only [Et,Fp] at hc4
 refine AW.ghost (GS.Aaq (H2:=_::_::_) 1 rfl (congrArg cP (Gw hc4)) rfl) ?_;refine Ad (Qp Jb ?_);refine Rt (Dc rfl ((D6 _ _ _ (by simpa using hS) (by first | assumption | decide)).at (k:=1) (H2:=_::_::_) rfl rfl)) ?_;refine Qp Au (Ae (Ao (fun hc5=>?_) fun hc5=>?_))
 ·
  try simp only [Et,Fp] at hc5
  refine AW.ghost (GS.Aaq (H2:=_::_::_) 1 rfl (congrArg cP (Fz hc5)) rfl) ?_;refine Ad (Qp Jb ?_);refine Rt (Dc rfl ((D3 _ _ _ (by simpa using hS) (by first | assumption | decide)).at (k:=1) (H2:=_::_::_) rfl rfl)) ?_;refine Bs (Qp Jb ?_);refine Rt (Dc rfl ((Ou _ _ (by simpa using hS)).at (k:=1) (H2:=_::_::_) rfl rfl)) ?_;refine Qp Am (Qp (Du Aq) (Dt L7 fun b9=>?_));refine Bt 0 Aq (_::_::_::_) ?_;refine AOL.ghost (GS.freeze (t:=9) 0 rfl rfl) ?_;refine Bs (Qp Jb ?_);refine Rt (Dc rfl ((D3 _ _ _ (by simpa using hS) (by first | assumption | decide)).at (k:=1) (H2:=_::_::_) rfl rfl)) ?_;refine Bs (Qp (Bo Aq) ?_);refine Bt 0 Aq (_::_::_) (Ra ?_);refine ⟨.inr rfl,[.agg Aq],.cons (.box _ _ _ 0 _ _ _ _ rfl rfl rfl rfl rfl rfl) <| .nil,_,.cons _ (.refl _),?_⟩;refine ⟨?_,congrArg (fun c=>HO.box bp 223 c::H) ?_⟩
  ·
   try simp only [Ag,Jd,hfd,cSyn,E7,Di,Bn,hc1,hc2,hc4,hc5,↓reduceIte,B0,Ce,Fg]
   try rfl
  try simp only [cP,Jd,hfd,hc1,hc2,hc4,hc5,↓reduceIte,B0,Ce,Fg]
  try rfl
 try simp only [Et,Fp] at hc5
 refine AW.ghost (GS.Aaq (H2:=_::_::_) 1 rfl (congrArg cP (Gw hc5)) rfl) ?_;refine Ad (Qp Jb ?_);refine AOL.Aan (Cy (k:=1) (by kernel_rfl) rfl rfl (nA _ _ _ (by simpa using hS))) rfl rfl ?_;refine Qp Au (Ae (Ao (fun hc6=>?_) fun hc6=>?_))
 ·
  try simp only [Et,Fp] at hc6
  refine Ad (Qp Jb ?_);refine Rt (Dc rfl ((Ou _ _ (by simpa using hS)).at (k:=1) (H2:=_::_::_) rfl rfl)) ?_;refine Qp Am (Qp (Du Aq) (Dt L7 fun b10=>?_));refine Bt 0 Aq (_::_::_::_) (Bs (Qp Jb ?_));refine Rt (Dc rfl ((D3 _ _ _ (by simpa using hS) (by first | assumption | decide)).at (k:=2) (H2:=_::_::_::_) rfl rfl)) ?_;refine Ae (Rd (Qp Jb ?_));refine Rt (Dc rfl ((D6 _ _ _ (by simpa using hS) (by first | assumption | decide)).at (k:=2) (H2:=_::_::_::_) rfl rfl)) ?_;refine Ae (Ao (fun hc7=>?_) fun hc7=>?_)
  ·
   try simp only [Et,Fp] at hc7
   refine AW.ghost (GS.Aaq (H2:=_::_::_::_) 2 rfl (congrArg cP (Fz hc7)) rfl) ?_;refine AW.region (Qp Cc ?_);refine Bt 0 Aq (_::_::_::_) (Bs (AOL.Aan (A2 (k:=0) (l:=Aq) tok rfl rfl rfl rfl rfl) rfl rfl ?_));refine Bt 1 Aq (_::_::_::_) (Ra ?_);refine ⟨.inr rfl,[.agg Aq],.cons (.box _ _ _ 1 _ _ _ _ rfl rfl rfl rfl rfl rfl) <| .nil,_,.cons _ (.cons _ (.refl _)),?_⟩;refine ⟨?_,congrArg (fun c=>HO.box bp 223 c::H) ?_⟩
   ·
    try simp only [Ag,Jd,hfd,cSyn,E7,Di,Bn,hc1,hc2,hc4,hc5,hc6,hc7,↓reduceIte,B0,Ce,Fg]
    try rfl
   try simp only [cP,Jd,hfd,hc1,hc2,hc4,hc5,hc6,hc7,↓reduceIte,B0,Ce,Fg]
   try rfl
  try simp only [Et,Fp] at hc7
  refine AW.ghost (GS.Aaq (H2:=_::_::_::_) 2 rfl (congrArg cP (Gw hc7)) rfl) ?_;refine AW.region (Qp Jb ?_);refine Rt (Dc rfl ((Ou _ _ (by simpa using hS)).at (k:=2) (H2:=_::_::_::_) rfl rfl)) ?_;refine Qp Cc ?_;refine Bt 0 Aq (_::_::_::_) (Bs (AOL.Aan (A2 (k:=0) (l:=Aq) tok rfl rfl rfl rfl rfl) rfl rfl ?_));refine Bt 1 Aq (_::_::_::_) (Ra ?_);refine ⟨.inr rfl,[.agg Aq],.cons (.box _ _ _ 1 _ _ _ _ rfl rfl rfl rfl rfl rfl) <| .nil,_,.cons _ (.cons _ (.refl _)),?_⟩;refine ⟨?_,congrArg (fun c=>HO.box bp 223 c::H) ?_⟩
  ·
   try simp only [Ag,Jd,hfd,cSyn,E7,Di,Bn,hc1,hc2,hc4,hc5,hc6,hc7,↓reduceIte,B0,Ce,Fg]
   try rfl
  try simp only [cP,Jd,hfd,hc1,hc2,hc4,hc5,hc6,hc7,↓reduceIte,B0,Ce,Fg]
  try rfl
 try simp only [Et,Fp] at hc6
 refine Rf (Ad (Qp Jb ?_));refine Rt (Dc rfl ((aP _ _ (by simpa using hS)).at (k:=1) (H2:=_::_::_) rfl rfl)) ?_;refine Bt 0 Aq (_::_::_) (Rb ?_);refine ⟨.inr rfl,[.agg Aq],.cons (.box _ _ _ 0 _ _ _ _ rfl rfl rfl rfl rfl rfl) <| .nil,_,.cons _ (.refl _),?_⟩;refine ⟨?_,congrArg (fun c=>HO.box bp 223 c::H) ?_⟩
 ·
  try simp only [Ag,Jd,hfd,cSyn,E7,Di,Bn,hc1,hc2,hc4,hc5,hc6,↓reduceIte,B0,Ce,Fg]
  try rfl
 try simp only [cP,Jd,hfd,hc1,hc2,hc4,hc5,hc6,↓reduceIte,B0,Ce,Fg]
 try rfl
set_option maxHeartbeats 1600000
set_option maxRecDepth 20000

theorem Zw (st:PS)(bp:Nat)(D:Int)(hD:0≤D)(E:PS→Syn×PS)(hFE:C7 E)(hE:∀(st:PS) (bp:Nat),okD (D+1) st→Bl Tryz.prog 164 bp 223 (cP st) (cP (E st).2) [.val (.pointer (some ⟨bp,0,none⟩))] (.agg (cSyn (E st).1)))(hO:okD D st):Bl Tryz.prog 316 bp 223 (cP st) (cP ((Wp E st).2)) [.val (.pointer (some ⟨bp,0,none⟩))] (.agg (cSyn (Wp E st).1)):=by
 intro H;refine B5.body (n:=8) tok Tryz.func316 rfl rfl rfl ?_;refine Ad (Dt L7 fun b2=>Bs (Qp Bw (Qp Bw (Qp (B1 (l:=[.val _]) (l':=[]) rfl rfl) ?_))));refine Qp (Oi (es:=sumL.map cSg) tok (⟨fun cs=>cs=Nk,by simp [globals],fun _ h=>h⟩) rfl rfl rfl rfl rfl rfl rfl rfl rfl) ?_;refine Rt (Dc rfl ((fU st bp D hD 322 (by kernel_rfl) [.val (.pointer (some ⟨bp,0,none⟩))] [] (Jd E) (dI hFE) (fun s ho=>p_unit s bp D hD E hFE hE ho) hO sumL (by decide) (by decide)).at (k:=1) (H2:=_::_::_) rfl rfl)) ?_;refine Bt 0 Aq (_::_::_) (Rb ?_);refine ⟨.inr rfl,[.agg Aq],.cons (.box _ _ _ 0 _ _ _ _ rfl rfl rfl rfl rfl rfl) <| .nil,_,.cons _ (.refl _),?_⟩;refine ⟨rfl,rfl⟩
theorem sG (st:PS)(bp:Nat)(D:Int)(hD:0≤D)(E:PS→Syn×PS)(hFE:C7 E)(hE:∀(st:PS) (bp:Nat),okD (D+1) st→Bl Tryz.prog 164 bp 223 (cP st) (cP (E st).2) [.val (.pointer (some ⟨bp,0,none⟩))] (.agg (cSyn (E st).1)))(hO:okD D st):Bl Tryz.prog 306 bp 223 (cP st) (cP ((Ot E st).2)) [.val (.pointer (some ⟨bp,0,none⟩))] (.agg (cSyn (Ot E st).1)):=by
 intro H;have hO2:=(aG hFE).okD hD hO;have hS:=hO2.1;refine B5.body (n:=65) tok Tryz.func306 rfl rfl rfl ?_;refine Ad (Dt L7 fun b2=>Bs (Qp Bw (mW ((Zw st bp D hD E hFE hE hO).at (k:=1) (H2:=_::_::_) rfl rfl) (Dt L7 fun b3=>?_))));refine Bt 0 Aq (_::_::_::_) ?_;refine AOL.ghost (GS.freeze (t:=3) 0 rfl rfl) ?_;refine Re (AW.block (Ad (Qp Bw ?_)));refine Rt (Dc rfl ((D6 _ _ _ (by simpa using hS) (by decide)).at (k:=1) (H2:=_::_::_) rfl rfl)) ?_;refine Qp Au (Ae (Ao (fun hc1=>?_) fun hc1=>?_))
 ·
  try simp only [Et,Fp] at hc1
  refine AW.ghost (GS.Aaq (H2:=_::_::_) 1 rfl (congrArg cP (Fz hc1)) rfl) ?_;refine AW.seq ?_;refine Gi ?_;refine Qn 0 rfl (Bo Aq) (Qn 1 rfl Bw (Qn 3 rfl (Qf [Iq _]) (Qn 4 rfl Bf ?_)));refine Jj 2 rfl (Dc rfl ((Zw (adv (Wp E st).2) bp D hD E hFE hE (by simpa using hO2)).at (k:=1) (H2:=_::_::_) rfl rfl)) ?_;refine Qn 5 rfl (Qc rfl (Kk _ _ _ _)) ?_;refine Jj 6 rfl (A6 (k:=0) (v:=.agg _) (cs':=Aq) (H2:=_::_::_) tok rfl rfl rfl rfl (rfl) rfl rfl rfl rfl) ?_;refine Ej ?_;refine A5 (AW.ret (B9 (Av ?_)));refine ⟨.inr rfl,[.agg Aq],.cons (.box _ _ _ 0 _ _ _ _ rfl rfl rfl rfl rfl rfl) <| .nil,_,.cons _ (.refl _),?_⟩;refine ⟨?_,congrArg (fun c=>HO.box bp 223 c::H) ?_⟩
  ·
   try simp only [Ag,Ot,cSyn,E7,Di,Bn,hc1,↓reduceIte,B0,Ce,Fg]
   try rfl
  try simp only [cP,Ot,hc1,↓reduceIte,B0,Ce,Fg]
  try rfl
 try simp only [Et,Fp] at hc1
 refine AW.ghost (GS.Aaq (H2:=_::_::_) 1 rfl (congrArg cP (Gw hc1)) rfl) ?_;refine Ad (Qp Bw ?_);refine Rt (Dc rfl ((D6 _ _ _ (by simpa using hS) (by decide)).at (k:=1) (H2:=_::_::_) rfl rfl)) ?_;refine Qp Au (Ae (Ao (fun hc2=>?_) fun hc2=>?_))
 ·
  try simp only [Et,Fp] at hc2
  refine AW.ghost (GS.Aaq (H2:=_::_::_) 1 rfl (congrArg cP (Fz hc2)) rfl) ?_;refine AW.seq ?_;refine Gi ?_;refine Qn 0 rfl (Bo Aq) (Qn 1 rfl Bw (Qn 3 rfl (Qf [Iq _]) (Qn 4 rfl Bf ?_)));refine Jj 2 rfl (Dc rfl ((Zw (adv (Wp E st).2) bp D hD E hFE hE (by simpa using hO2)).at (k:=1) (H2:=_::_::_) rfl rfl)) ?_;refine Qn 5 rfl (Qc rfl (Kk _ _ _ _)) ?_;refine Jj 6 rfl (A6 (k:=0) (v:=.agg _) (cs':=Aq) (H2:=_::_::_) tok rfl rfl rfl rfl (rfl) rfl rfl rfl rfl) ?_;refine Ej ?_;refine A5 (AW.ret (B9 (Av ?_)));refine ⟨.inr rfl,[.agg Aq],.cons (.box _ _ _ 0 _ _ _ _ rfl rfl rfl rfl rfl rfl) <| .nil,_,.cons _ (.refl _),?_⟩;refine ⟨?_,congrArg (fun c=>HO.box bp 223 c::H) ?_⟩
  ·
   try simp only [Ag,Ot,cSyn,E7,Di,Bn,hc1,hc2,↓reduceIte,B0,Ce,Fg]
   try rfl
  try simp only [cP,Ot,hc1,hc2,↓reduceIte,B0,Ce,Fg]
  try rfl
 try simp only [Et,Fp] at hc2
 refine AW.ghost (GS.Aaq (H2:=_::_::_) 1 rfl (congrArg cP (Gw hc2)) rfl) ?_;refine Ad (Qp Bw ?_);refine Rt (Dc rfl ((D6 _ _ _ (by simpa using hS) (by decide)).at (k:=1) (H2:=_::_::_) rfl rfl)) ?_;refine Qp Au (Ae (Ao (fun hc3=>?_) fun hc3=>?_))
 ·
  try simp only [Et,Fp] at hc3
  refine AW.ghost (GS.Aaq (H2:=_::_::_) 1 rfl (congrArg cP (Fz hc3)) rfl) ?_;refine AW.seq ?_;refine Gi ?_;refine Qn 0 rfl Bw (Qn 2 rfl (Bo Aq) (Qn 3 rfl (Qf [Iq _]) (Qn 4 rfl Bf ?_)));refine Jj 1 rfl (Dc rfl ((Zw (adv (Wp E st).2) bp D hD E hFE hE (by simpa using hO2)).at (k:=1) (H2:=_::_::_) rfl rfl)) ?_;refine Qn 5 rfl (Qc rfl (Kk _ _ _ _)) ?_;refine Jj 6 rfl (A6 (k:=0) (v:=.agg _) (cs':=Aq) (H2:=_::_::_) tok rfl rfl rfl rfl (rfl) rfl rfl rfl rfl) ?_;refine Ej ?_;refine A5 (AW.ret (B9 (Av ?_)));refine ⟨.inr rfl,[.agg Aq],.cons (.box _ _ _ 0 _ _ _ _ rfl rfl rfl rfl rfl rfl) <| .nil,_,.cons _ (.refl _),?_⟩;refine ⟨?_,congrArg (fun c=>HO.box bp 223 c::H) ?_⟩
  ·
   try simp only [Ag,Ot,cSyn,E7,Di,Bn,hc1,hc2,hc3,↓reduceIte,B0,Ce,Fg]
   try rfl
  try simp only [cP,Ot,hc1,hc2,hc3,↓reduceIte,B0,Ce,Fg]
  try rfl
 try simp only [Et,Fp] at hc3
 refine AW.ghost (GS.Aaq (H2:=_::_::_) 1 rfl (congrArg cP (Gw hc3)) rfl) ?_;refine Ad (Qp Bw ?_);refine Rt (Dc rfl ((D6 _ _ _ (by simpa using hS) (by decide)).at (k:=1) (H2:=_::_::_) rfl rfl)) ?_;refine Qp Au (Ae (Ao (fun hc4=>?_) fun hc4=>?_))
 ·
  try simp only [Et,Fp] at hc4
  refine AW.ghost (GS.Aaq (H2:=_::_::_) 1 rfl (congrArg cP (Fz hc4)) rfl) ?_;refine AW.seq ?_;refine Gi ?_;refine Qn 0 rfl Bw (Qn 2 rfl (Bo Aq) (Qn 3 rfl (Qf [Iq _]) (Qn 4 rfl Bf ?_)));refine Jj 1 rfl (Dc rfl ((Zw (adv (Wp E st).2) bp D hD E hFE hE (by simpa using hO2)).at (k:=1) (H2:=_::_::_) rfl rfl)) ?_;refine Qn 5 rfl (Qc rfl (Kk _ _ _ _)) ?_;refine Jj 6 rfl (A6 (k:=0) (v:=.agg _) (cs':=Aq) (H2:=_::_::_) tok rfl rfl rfl rfl (rfl) rfl rfl rfl rfl) ?_;refine Ej ?_;refine A5 (AW.ret (B9 (Av ?_)));refine ⟨.inr rfl,[.agg Aq],.cons (.box _ _ _ 0 _ _ _ _ rfl rfl rfl rfl rfl rfl) <| .nil,_,.cons _ (.refl _),?_⟩;refine ⟨?_,congrArg (fun c=>HO.box bp 223 c::H) ?_⟩
  ·
   try simp only [Ag,Ot,cSyn,E7,Di,Bn,hc1,hc2,hc3,hc4,↓reduceIte,B0,Ce,Fg]
   try rfl
  try simp only [cP,Ot,hc1,hc2,hc3,hc4,↓reduceIte,B0,Ce,Fg]
  try rfl
 try simp only [Et,Fp] at hc4
 refine AW.ghost (GS.Aaq (H2:=_::_::_) 1 rfl (congrArg cP (Gw hc4)) rfl) ?_;refine Ad (Qp Bw ?_);refine Rt (Dc rfl ((D6 _ _ _ (by simpa using hS) (by decide)).at (k:=1) (H2:=_::_::_) rfl rfl)) ?_;refine Qp Au (Ae (Ao (fun hc5=>?_) fun hc5=>?_))
 ·
  try simp only [Et,Fp] at hc5
  refine AW.ghost (GS.Aaq (H2:=_::_::_) 1 rfl (congrArg cP (Fz hc5)) rfl) ?_;refine AW.seq ?_;refine Gi ?_;refine Qn 0 rfl (Bo Aq) (Qn 1 rfl Bw (Qn 3 rfl (Qf [Iq _]) (Qn 4 rfl Bf ?_)));refine Jj 2 rfl (Dc rfl ((Zw (adv (Wp E st).2) bp D hD E hFE hE (by simpa using hO2)).at (k:=1) (H2:=_::_::_) rfl rfl)) ?_;refine Qn 5 rfl (Qc rfl (Kk _ _ _ _)) ?_;refine Jj 6 rfl (A6 (k:=0) (v:=.agg _) (cs':=Aq) (H2:=_::_::_) tok rfl rfl rfl rfl (rfl) rfl rfl rfl rfl) ?_;refine Ej ?_;refine A5 (AW.ret (B9 (Av ?_)));refine ⟨.inr rfl,[.agg Aq],.cons (.box _ _ _ 0 _ _ _ _ rfl rfl rfl rfl rfl rfl) <| .nil,_,.cons _ (.refl _),?_⟩;refine ⟨?_,congrArg (fun c=>HO.box bp 223 c::H) ?_⟩
  ·
   try simp only [Ag,Ot,cSyn,E7,Di,Bn,hc1,hc2,hc3,hc4,hc5,↓reduceIte,B0,Ce,Fg]
   try rfl
  try simp only [cP,Ot,hc1,hc2,hc3,hc4,hc5,↓reduceIte,B0,Ce,Fg]
  try rfl
 try simp only [Et,Fp] at hc5
 refine AW.ghost (GS.Aaq (H2:=_::_::_) 1 rfl (congrArg cP (Gw hc5)) rfl) ?_;refine Ad (Qp Bw ?_);refine Rt (Dc rfl ((D6 _ _ _ (by simpa using hS) (by decide)).at (k:=1) (H2:=_::_::_) rfl rfl)) ?_;refine Qp Au (Ae (Ao (fun hc6=>?_) fun hc6=>?_))
 ·
  try simp only [Et,Fp] at hc6
  refine AW.ghost (GS.Aaq (H2:=_::_::_) 1 rfl (congrArg cP (Fz hc6)) rfl) ?_;refine AW.seq ?_;refine Gi ?_;refine Qn 0 rfl (Bo Aq) (Qn 1 rfl Bw (Qn 3 rfl (Qf [Iq _]) (Qn 4 rfl Bf (Qn 7 rfl (Qf [Iq _]) (Qn 8 rfl Bf ?_)))));refine Jj 2 rfl (Dc rfl ((Zw (adv (Wp E st).2) bp D hD E hFE hE (by simpa using hO2)).at (k:=1) (H2:=_::_::_) rfl rfl)) ?_;refine Qn 5 rfl (Qc rfl (Kk _ _ _ _)) (Qn 6 rfl (Ak (es:=[Aq]) tok rfl rfl rfl rfl rfl rfl rfl rfl rfl) (Qn 9 rfl (Du Aq) ?_));refine Jj 10 rfl (A6 (k:=0) (v:=.agg _) (cs':=Aq) (H2:=_::_::_) tok rfl rfl rfl rfl (rfl) rfl rfl rfl rfl) ?_;refine Ej ?_;refine A5 (AW.ret (B9 (Av ?_)));refine ⟨.inr rfl,[.agg Aq],.cons (.box _ _ _ 0 _ _ _ _ rfl rfl rfl rfl rfl rfl) <| .nil,_,.cons _ (.refl _),?_⟩;refine ⟨?_,congrArg (fun c=>HO.box bp 223 c::H) ?_⟩
  ·
   try simp only [Ag,Ot,cSyn,E7,Di,Bn,hc1,hc2,hc3,hc4,hc5,hc6,↓reduceIte,B0,Ce,Fg]
   try rfl
  try simp only [cP,Ot,hc1,hc2,hc3,hc4,hc5,hc6,↓reduceIte,B0,Ce,Fg]
  try rfl
 try simp only [Et,Fp] at hc6
 refine AW.ghost (GS.Aaq (H2:=_::_::_) 1 rfl (congrArg cP (Gw hc6)) rfl) ?_;refine Rf (Ad (Qp (Bo Aq) ?_));refine Bt 0 Aq (_::_::_) (Rb ?_);refine ⟨.inr rfl,[.agg Aq],.cons (.box _ _ _ 0 _ _ _ _ rfl rfl rfl rfl rfl rfl) <| .nil,_,.cons _ (.refl _),?_⟩;refine ⟨?_,congrArg (fun c=>HO.box bp 223 c::H) ?_⟩
 ·
  try simp only [Ag,Ot,cSyn,E7,Di,Bn,hc1,hc2,hc3,hc4,hc5,hc6,↓reduceIte,B0,Ce,Fg]
  try rfl
 try simp only [cP,Ot,hc1,hc2,hc3,hc4,hc5,hc6,↓reduceIte,B0,Ce,Fg]
 try rfl
theorem p_not_1 (st:PS)(bp:Nat)(z:Syn)(bo:Nat)(R:List HO)(D:Int)(hD:0≤D)(E:PS→Syn×PS)(hFE:C7 E)(hE:∀(st:PS) (bp:Nat),okD (D+1) st→Bl Tryz.prog 164 bp 223 (cP st) (cP (E st).2) [.val (.pointer (some ⟨bp,0,none⟩))] (.agg (cSyn (E st).1)))(N:PS→Syn×PS)(hFN:C7 N)(hN:∀(st:PS) (bp:Nat),okD (D+1) st→Bl Tryz.prog 288 bp 223 (cP st) (cP (N st).2) [.val (.pointer (some ⟨bp,0,none⟩))] (.agg (cSyn (N st).1)))(hO:okD (D+1) st):B5 Tryz.prog 307 (.box bp 223 (cP st) :: .box bo 25 (cSyn z)::R) [.ptr [.val (.pointer (some ⟨bp,0,none⟩))],.val (.pointer (some ⟨bo,0,none⟩))] (fun r H'=>r = .tuple []∧H' = .box bp 223 (cP (N st).2) :: .box bo 25 (cSyn { z with kids:=[(N st).1] })::R):=by
 refine B5.body (n:=6) tok Tryz.func307 rfl rfl rfl ?_;refine AW.region (Qp Jb (mW ((hN st bp hO).at (k:=0) (H2:=_::_::_) rfl rfl) (Qp (Ak (es:=[Aq]) tok rfl rfl rfl rfl rfl rfl rfl rfl rfl) (Qp Cc ?_))));refine Bt 1 Aq (_::_::_) (AOL.nil ?_);refine ⟨.inl rfl,[],.nil,_,.refl _,?_⟩;exact ⟨rfl,congrArg (fun l=>HO.box bp 223 (cP (N st).2)::HO.box bo 25 [.int .i64 z.kind,.str z.text,.str z.name,.int .i64 z.num,.sl 6 l,.int .i64 z.pos]::R) (by rw [E7,Di,Bn])⟩
theorem p_not (st:PS)(bp:Nat)(D:Int)(hD:0≤D)(E:PS→Syn×PS)(hFE:C7 E)(hE:∀(st:PS) (bp:Nat),okD (D+1) st→Bl Tryz.prog 164 bp 223 (cP st) (cP (E st).2) [.val (.pointer (some ⟨bp,0,none⟩))] (.agg (cSyn (E st).1)))(N:PS→Syn×PS)(hFN:C7 N)(hN:∀(st:PS) (bp:Nat),okD (D+1) st→Bl Tryz.prog 288 bp 223 (cP st) (cP (N st).2) [.val (.pointer (some ⟨bp,0,none⟩))] (.agg (cSyn (N st).1)))(hO:okD D st):Bl Tryz.prog 288 bp 223 (cP st) (cP ((X2 E N st).2)) [.val (.pointer (some ⟨bp,0,none⟩))] (.agg (cSyn (X2 E N st).1)):=by
 intro H;have hS:=hO.1;refine B5.body (n:=16) tok Tryz.func288 rfl rfl rfl ?_;refine Ad (Qp (Ts (v:=.val _) (cs:=[_]) rfl rfl rfl) (Dt L7 fun b2=>Ae (Rd (Qp Jb ?_))));refine AOL.Aan (Cy (k:=1) (by kernel_rfl) rfl rfl (p_is _ _ _ (by simpa using hS) (by decide))) rfl rfl ?_;refine Qp Ew (Ae (Ao (fun hc1=>?_) fun hc1=>?_))
 ·
  try simp only [Et,Fp] at hc1
  refine Ad (Qp Jb (mW ((sG st bp D hD E hFE hE hO).at (k:=1) (H2:=_::_::_) rfl rfl) ?_));refine Bt 0 Aq (_::_::_) (Rc ?_);refine ⟨.inr rfl,[.agg Aq],.cons (.box _ _ _ 0 _ _ _ _ rfl rfl rfl rfl rfl rfl) <| .nil,_,.cons _ (.refl _),?_⟩;refine ⟨?_,congrArg (fun c=>HO.box bp 223 c::H) ?_⟩
  ·
   try simp only [Ag,X2,cSyn,E7,Di,Bn,hc1,↓reduceIte,B0,Ce,Fg]
   try rfl
  try simp only [cP,X2,hc1,↓reduceIte,B0,Ce,Fg]
  try rfl
 try simp only [Et,Fp] at hc1
 refine A7 (Ad (Qp Jb ?_));refine AOL.Aan (Cy (k:=1) (by kernel_rfl) rfl rfl (Ku _ _)) rfl rfl ?_;refine Qp (Du Aq) (Dt L7 fun b3=>?_);refine Bt 0 Aq (_::_::_::_) (Bs (Qp Jb (Qp (B1 (l:=[]) (l':=[.ptr _,.val _]) rfl rfl) ?_)));refine Rt (Dc rfl (B5.front2 (R:=_::_) 0 1 rfl rfl rfl (Vi (fun z s=>({ z with kids:=[(N s).1] },(N s).2)) ⟨18,[],[],0,[],Dj st⟩ st bp b3 _ 307 (by kernel_rfl) [] [.ptr [.val (.pointer (some ⟨bp,0,none⟩))],.val (.pointer (some ⟨b3,0,none⟩))] (Xu hc1) hS (fun hb=>p_not_1 _ bp ⟨18,[],[],0,[],Dj st⟩ b3 _ D hD E hFE hE N hFN hN (Zf hD hO hb))))) ?_;refine Bs (AOL.Aan (A2 (k:=1) (l:=Aq) tok rfl rfl rfl rfl rfl) rfl rfl ?_);refine Bt 2 Aq (_::_::_::_) (Rb ?_);refine ⟨.inr rfl,[.agg Aq],.cons (.box _ _ _ 2 _ _ _ _ rfl rfl rfl rfl rfl rfl) <| .nil,_,.cons_cons _ (.cons _ (.cons _ (.refl _))),?_⟩;refine ⟨?_,congrArg (fun c=>HO.box bp 223 c::H) ?_⟩
 ·
  try simp only [Ag,X2,cSyn,E7,Di,Bn,hc1,↓reduceIte,B0,Ce,Fg]
  try rfl
 try simp only [cP,X2,hc1,↓reduceIte,B0,Ce,Fg]
 try rfl
theorem p_and (st:PS)(bp:Nat)(D:Int)(hD:0≤D)(E:PS→Syn×PS)(hFE:C7 E)(hE:∀(st:PS) (bp:Nat),okD (D+1) st→Bl Tryz.prog 164 bp 223 (cP st) (cP (E st).2) [.val (.pointer (some ⟨bp,0,none⟩))] (.agg (cSyn (E st).1)))(N:PS→Syn×PS)(hFN:C7 N)(hN:∀(st:PS) (bp:Nat),okD (D+1) st→Bl Tryz.prog 288 bp 223 (cP st) (cP (N st).2) [.val (.pointer (some ⟨bp,0,none⟩))] (.agg (cSyn (N st).1)))(hO:okD D st):Bl Tryz.prog 230 bp 223 (cP st) (cP ((andP E N st).2)) [.val (.pointer (some ⟨bp,0,none⟩))] (.agg (cSyn (andP E N st).1)):=by
 intro H;refine B5.body (n:=8) tok Tryz.func230 rfl rfl rfl ?_;refine Ad (Dt L7 fun b2=>Bs (Qp Bw (Qp Bw (Qp (B1 (l:=[.val _]) (l':=[]) rfl rfl) ?_))));refine Qp (Oi (es:=andL.map cSg) tok (⟨fun cs=>cs=Nr,by simp [globals],fun _ h=>h⟩) rfl rfl rfl rfl rfl rfl rfl rfl rfl) ?_;refine Rt (Dc rfl ((fU st bp D hD 288 (by kernel_rfl) [.val (.pointer (some ⟨bp,0,none⟩))] [] (X2 E N) (Qj hFE hFN) (fun s ho=>p_not s bp D hD E hFE hE N hFN hN ho) hO andL (by decide) (by decide)).at (k:=1) (H2:=_::_::_) rfl rfl)) ?_;refine Bt 0 Aq (_::_::_) (Rb ?_);refine ⟨.inr rfl,[.agg Aq],.cons (.box _ _ _ 0 _ _ _ _ rfl rfl rfl rfl rfl rfl) <| .nil,_,.cons _ (.refl _),?_⟩;refine ⟨rfl,rfl⟩
theorem p_expr (st:PS)(bp:Nat)(D:Int)(hD:0≤D)(E:PS→Syn×PS)(hFE:C7 E)(hE:∀(st:PS) (bp:Nat),okD (D+1) st→Bl Tryz.prog 164 bp 223 (cP st) (cP (E st).2) [.val (.pointer (some ⟨bp,0,none⟩))] (.agg (cSyn (E st).1)))(N:PS→Syn×PS)(hFN:C7 N)(hN:∀(st:PS) (bp:Nat),okD (D+1) st→Bl Tryz.prog 288 bp 223 (cP st) (cP (N st).2) [.val (.pointer (some ⟨bp,0,none⟩))] (.agg (cSyn (N st).1)))(hO:okD D st):Bl Tryz.prog 164 bp 223 (cP st) (cP ((orP E N st).2)) [.val (.pointer (some ⟨bp,0,none⟩))] (.agg (cSyn (orP E N st).1)):=by
 intro H;refine B5.body (n:=8) tok Tryz.func164 rfl rfl rfl ?_;refine Ad (Dt L7 fun b2=>Bs (Qp Bw (Qp Bw (Qp (B1 (l:=[.val _]) (l':=[]) rfl rfl) ?_))));refine Qp (Oi (es:=orL.map cSg) tok (⟨fun cs=>cs=Q9,by simp [globals],fun _ h=>h⟩) rfl rfl rfl rfl rfl rfl rfl rfl rfl) ?_;refine Rt (Dc rfl ((fU st bp D hD 230 (by kernel_rfl) [.val (.pointer (some ⟨bp,0,none⟩))] [] (andP E N) (Ol (Qj hFE hFN) andL) (fun s ho=>p_and s bp D hD E hFE hE N hFN hN ho) hO orL (by decide) (by decide)).at (k:=1) (H2:=_::_::_) rfl rfl)) ?_;refine Bt 0 Aq (_::_::_) (Rb ?_);refine ⟨.inr rfl,[.agg Aq],.cons (.box _ _ _ 0 _ _ _ _ rfl rfl rfl rfl rfl rfl) <| .nil,_,.cons _ (.refl _),?_⟩;refine ⟨rfl,rfl⟩
theorem Qx {st:PS}(h:okD (64+1) st):False:=by have:=h.2.1;have:=h.2.2;omega
theorem qH:∀(n:Nat),n≤64→(∀(st:PS) (bp:Nat),okD (64-(n:Int)) st→Bl Tryz.prog 288 bp 223 (cP st) (cP ((S1 n).1 st).2) [.val (.pointer (some ⟨bp,0,none⟩))] (.agg (cSyn ((S1 n).1 st).1)))∧(∀(st:PS) (bp:Nat),okD (64-(n:Int)) st→Bl Tryz.prog 164 bp 223 (cP st) (cP ((S1 n).2 st).2) [.val (.pointer (some ⟨bp,0,none⟩))] (.agg (cSyn ((S1 n).2 st).1)))
  | 0,_=>⟨fun st bp hO=>p_not st bp 64 (by decide) E4 G7 (fun _ _ h=>(Qx h).elim) E4 G7 (fun _ _ h=>(Qx h).elim) hO,fun st bp hO=>p_expr st bp 64 (by decide) E4 G7 (fun _ _ h=>(Qx h).elim) E4 G7 (fun _ _ h=>(Qx h).elim) hO⟩
  | n+1,hn=>by
    have ih:=qH n (by omega);have e:∀st,okD (64-((n+1:Nat):Int)+1) st→okD (64-(n:Int)) st:=fun st h=>⟨h.1,by have:=h.2.1;omega,h.2.2⟩
    have hD:0≤64-((n+1:Nat):Int):=by omega
    exact ⟨fun st bp hO=>p_not st bp _ hD (S1 n).2 (Jt n).2 (fun s b h=>ih.2 s b (e s h)) (S1 n).1 (Jt n).1 (fun s b h=>ih.1 s b (e s h)) hO,fun st bp hO=>p_expr st bp _ hD (S1 n).2 (Jt n).2 (fun s b h=>ih.2 s b (e s h)) (S1 n).1 (Jt n).1 (fun s b h=>ih.1 s b (e s h)) hO⟩

set_option maxHeartbeats 1600000
set_option maxRecDepth 20000

theorem aC {D:Int}(hD:0≤D){st:PS}(h:okD D st):okD 0 st:=⟨h.1,by have:=h.2.1;omega,h.2.2⟩
theorem Yk {D:Int}(hD:0≤D){st:PS}(h:okD D st):pD st:=⟨by have:=h.2.1;omega,h.2.2⟩
theorem Qz {D:Int}{a b:PS}(h:okD D a)(g:Kj a b):okD D b:=(Wu g.1 g.2.2).2 h
abbrev rD (z:Syn)(v:Value)(es:List (List AV)):List AV:=[.int .i64 z.kind,.str z.text,.str z.name,.int .i64 z.num,.row v 6 es,.int .i64 z.pos]
theorem pG (st:PS)(bp:Nat)(E:PS→Syn×PS)(hFE:C7 E)(hE:∀(st:PS) (bp:Nat),okD 0 st→Bl Tryz.prog 164 bp 223 (cP st) (cP (E st).2) [.val (.pointer (some ⟨bp,0,none⟩))] (.agg (cSyn (E st).1)))(hO:okD 0 st):Bl Tryz.prog 228 bp 223 (cP st) (cP ((K6 E st).2)) [.val (.pointer (some ⟨bp,0,none⟩))] (.agg (cSyn (K6 E st).1)):=by
 intro H;have hS:=hO.1;refine B5.body (n:=18) tok Tryz.func228 rfl rfl rfl ?_;refine Ad (Dt L7 fun b2=>Bs (Qp Bw ?_));refine AOL.Aan (Cy (k:=1) (by kernel_rfl) rfl rfl (Ku _ _)) rfl rfl ?_;refine Qp Bw ?_;refine Rt (Dc rfl ((Ou _ _ (by simpa using hS)).at (k:=1) (H2:=_::_::_) rfl rfl)) ?_;refine Qp Bw ?_;refine Rt (Dc rfl ((Ou _ _ (by simpa using hS)).at (k:=1) (H2:=_::_::_) rfl rfl)) ?_;refine Qp (Du Aq) (Dt L7 fun b3=>?_);refine Bt 0 Aq (_::_::_::_) (Ae (Rd (Qp Bw ?_)));refine Rt (Dc rfl ((D6 _ _ _ (by simpa using hS) (by decide)).at (k:=2) (H2:=_::_::_::_) rfl rfl)) ?_;refine Ae (Ao (fun hc1=>?_) fun hc1=>?_)
 ·
  try simp only [Et,Fp] at hc1
  refine AW.ghost (GS.Aaq (H2:=_::_::_::_) 2 rfl (congrArg cP (Fz hc1)) rfl) ?_;refine AW.region (Qp Bw ?_);refine Rt (Dc rfl ((hE _ bp (by simpa using hO)).at (k:=2) (H2:=_::_::_::_) rfl rfl)) ?_;refine Qp (Ak (es:=[Aq]) tok rfl rfl rfl rfl rfl rfl rfl rfl rfl) (Qp Cc ?_);refine Bt 0 Aq (_::_::_::_) (Bs (AOL.Aan (A2 (k:=0) (l:=Aq) tok rfl rfl rfl rfl rfl) rfl rfl ?_));refine Bt 1 Aq (_::_::_::_) (Rb ?_);refine ⟨.inr rfl,[.agg Aq],.cons (.box _ _ _ 1 _ _ _ _ rfl rfl rfl rfl rfl rfl) <| .nil,_,.cons _ (.cons _ (.refl _)),?_⟩;refine ⟨?_,congrArg (fun c=>HO.box bp 223 c::H) ?_⟩
  ·
   try simp only [Ag,K6,cSyn,E7,Di,Bn,hc1,↓reduceIte,B0,Ce,Fg]
   try rfl
  try simp only [cP,K6,hc1,↓reduceIte,B0,Ce,Fg]
  try rfl
 try simp only [Et,Fp] at hc1
 refine AW.ghost (GS.Aaq (H2:=_::_::_::_) 2 rfl (congrArg cP (Gw hc1)) rfl) ?_;refine A7 (Ad (AOL.Aan (A2 (k:=0) (l:=Aq) tok rfl rfl rfl rfl rfl) rfl rfl ?_));refine Bt 1 Aq (_::_::_::_) (Rb ?_);refine ⟨.inr rfl,[.agg Aq],.cons (.box _ _ _ 1 _ _ _ _ rfl rfl rfl rfl rfl rfl) <| .nil,_,.cons _ (.cons _ (.refl _)),?_⟩;refine ⟨?_,congrArg (fun c=>HO.box bp 223 c::H) ?_⟩
 ·
  try simp only [Ag,K6,cSyn,E7,Di,Bn,hc1,↓reduceIte,B0,Ce,Fg]
  try rfl
 try simp only [cP,K6,hc1,↓reduceIte,B0,Ce,Fg]
 try rfl
theorem p_form2 (st:PS)(bp:Nat)(z:Syn)(bo:Nat)(v:Value)(es:List (List AV))(he:es=z.kids.map Cr)(hz:z.kids.length≤1000)(R:List HO)(E:PS→Syn×PS)(hFE:C7 E)(hE:∀(st:PS) (bp:Nat),okD 0 st→Bl Tryz.prog 164 bp 223 (cP st) (cP (E st).2) [.val (.pointer (some ⟨bp,0,none⟩))] (.agg (cSyn (E st).1)))(hO:okD 0 st):B5 Tryz.prog 283 (.box bp 223 (cP st) :: .box bo 25 (rD z v es) :: .row v es.length 25 6::R) [.val (.pointer (some ⟨bp,0,none⟩)),.val (.pointer (some ⟨bo,0,none⟩))] (fun r H'=>r = .tuple []∧∃v' es',es'=(Ho E E4 10 z st).1.kids.map Cr∧H' = .box bp 223 (cP (Ho E E4 10 z st).2) :: .box bo 25 (rD (Ho E E4 10 z st).1 v' es') :: .row v' es'.length 25 6::R):=by
 have hS:=hO.1;have hsc:∀c∈es,Bc c=true:=by rw [he];exact Vn _
 have hel:es.length≤1000:=by rw [he,D9];exact hz
 refine B5.body (n:=18) tok Tryz.func283 rfl rfl rfl ?_;refine AW.ghostPost (Ad (Qp Bw ?_));refine Rt (Dc rfl ((D3 _ _ _ (by simpa using hS) (by decide)).at (k:=0) (H2:=_::_::_::_) rfl rfl)) ?_;refine Ae ?_;refine AW.draw mixed (fun H'=>_∈H') (B6 (i:=1) rfl) (by kernel_rfl) ?_;refine Qn 0 rfl Bw (Qn 1 rfl (Aj rfl) (Qn 2 rfl Cc (Qn 3 rfl (OpP.Aap (fun k=>Af (k:=k) (c:=.row _ _ _) tok rfl rfl rfl rfl) (fun _ h=>h)) ?_)));refine Qn 4 rfl Bw (Qn 6 rfl (Ec tok rfl rfl rfl rfl) (Qn 7 rfl (Kp tok rfl rfl rfl rfl rfl rfl rfl rfl rfl) ?_));refine Hb.eff _ _ 5 _ _ rfl (by kernel_rfl) rfl rfl (Dc rfl ((pG (C5 Dg st) bp E hFE hE (by simpa using hO)).at (k:=0) (H2:=_::_::_::_) rfl rfl)) (by rintro _ _ ⟨rfl,rfl⟩;simp) ?_;rintro _ _ ⟨rfl,rfl⟩;refine Hb.sync (fun _=>True) _ _ 8 _ _ rfl (by kernel_rfl) rfl rfl (Sa (k:=2) tok rfl rfl rfl rfl rfl rfl rfl rfl (Dy rfl) rfl (hsc) (by simp;omega) (by simp [maxLen];omega)) (by kernel_rfl) (fun _ _ _=>trivial) ?_;rintro _ _ ⟨ba14,ca14,rfl,rfl⟩;refine Qn 9 rfl (Dm (o':=es.length*6) tok rfl rfl rfl rfl rfl (by omega) (by omega) (by simp)) ?_;refine Qn 11 rfl (Aj rfl) (Qn 12 rfl Cc ?_);refine Hb.two _ _ 10 13 _ _ _ _ rfl rfl (by kernel_rfl) rfl rfl rfl rfl (Hk (k:=2) (v:=.agg _) (H2:=_::_::_::_) tok rfl rfl rfl rfl (by simp) (by simp) rfl rfl rfl rfl) (A6 (k:=1) (v:=.val _) (cs':=Aq) (H2:=_::_::_::_) tok rfl rfl rfl rfl (rfl) rfl rfl rfl rfl) (by rintro _ _ ⟨rfl,rfl⟩;trivial) (by rintro _ _ ⟨rfl,rfl⟩;trivial) ?_ ?_
 ·
  rintro _ _ ⟨rfl,rfl⟩;refine Jj 13 rfl (A6 (k:=1) (v:=.val _) (cs':=Aq) (H2:=_::_::_::_) tok rfl rfl rfl rfl (rfl) rfl rfl rfl rfl) ?_;refine Ej ?_;refine ⟨_,GS.appCell (H2:=_::_::_::_) 2 1 4 rfl (by simp) rfl rfl rfl rfl,.inl rfl,[],.nil,_,.refl _,?_⟩;exact ⟨rfl,_,_,Kz he,rfl⟩
 rintro _ _ ⟨rfl,rfl⟩;refine Jj 10 rfl (Hk (k:=2) (v:=.agg _) (H2:=_::_::_::_) tok rfl rfl rfl rfl (by simp) (by simp) rfl rfl rfl rfl) ?_;refine Ej ?_;refine ⟨_,GS.appCell (H2:=_::_::_::_) 2 1 4 rfl (by simp) rfl rfl rfl rfl,.inl rfl,[],.nil,_,.refl _,?_⟩;exact ⟨rfl,_,_,Kz he,rfl⟩
theorem p_form1 (st:PS)(bp:Nat)(z:Syn)(bo:Nat)(v:Value)(es:List (List AV))(he:es=z.kids.map Cr)(hz:z.kids.length≤1000)(R:List HO):B5 Tryz.prog 282 (.box bp 223 (cP st) :: .box bo 25 (rD z v es) :: .row v es.length 25 6::R) [.val (.pointer (some ⟨bp,0,none⟩)),.val (.pointer (some ⟨bo,0,none⟩))] (fun r H'=>r = .tuple []∧∃v' es',es'=(Ho E4 E4 9 z st).1.kids.map Cr∧H' = .box bp 223 (cP (Ho E4 E4 9 z st).2) :: .box bo 25 (rD (Ho E4 E4 9 z st).1 v' es') :: .row v' es'.length 25 6::R):=by
 refine B5.body (n:=4) tok Tryz.func282 rfl rfl rfl ?_;refine AW.skip ?_;refine ⟨.inl rfl,[],.nil,_,.refl _,?_⟩;exact ⟨rfl,_,_,he,rfl⟩
theorem p_form3 (st:PS)(bp:Nat)(z:Syn)(bo:Nat)(v:Value)(es:List (List AV))(he:es=z.kids.map Cr)(hz:z.kids.length≤1000)(R:List HO)(hS:Pn st):B5 Tryz.prog 284 (.box bp 223 (cP st) :: .box bo 25 (rD z v es) :: .row v es.length 25 6::R) [.val (.pointer (some ⟨bp,0,none⟩)),.val (.pointer (some ⟨bo,0,none⟩))] (fun r H'=>r = .tuple []∧∃v' es',es'=(Ho E4 E4 11 z st).1.kids.map Cr∧H' = .box bp 223 (cP (Ho E4 E4 11 z st).2) :: .box bo 25 (rD (Ho E4 E4 11 z st).1 v' es') :: .row v' es'.length 25 6::R):=by
 refine B5.body (n:=11) tok Tryz.func284 rfl rfl rfl ?_;refine Ad (Qp Bw ?_);refine Rt (Dc rfl ((D3 _ _ _ (by simpa using hS) (by decide)).at (k:=0) (H2:=_::_::_::_) rfl rfl)) ?_;refine Ae (AW.region (Qp Bw (Qp Bw ?_)));refine Rt (Dc rfl ((Zx _ _ (by simpa using hS)).at (k:=0) (H2:=_::_::_::_) rfl rfl)) ?_;refine Qp (Aj rfl) (Qp Cc ?_);refine Bt 1 Aq (_::_::_::_) (AOL.nil ?_);refine ⟨.inl rfl,[],.nil,_,.refl _,?_⟩;exact ⟨rfl,_,_,he,rfl⟩
theorem p_form4 (st:PS)(bp:Nat)(z:Syn)(bo:Nat)(v:Value)(es:List (List AV))(he:es=z.kids.map Cr)(hz:z.kids.length≤1000)(R:List HO)(E:PS→Syn×PS)(hFE:C7 E)(hE:∀(st:PS) (bp:Nat),okD 0 st→Bl Tryz.prog 164 bp 223 (cP st) (cP (E st).2) [.val (.pointer (some ⟨bp,0,none⟩))] (.agg (cSyn (E st).1)))(hO:okD 0 st):B5 Tryz.prog 286 (.box bp 223 (cP st) :: .box bo 25 (rD z v es) :: .row v es.length 25 6::R) [.val (.pointer (some ⟨bp,0,none⟩)),.val (.pointer (some ⟨bo,0,none⟩))] (fun r H'=>r = .tuple []∧∃v' es',es'=(Ho E E4 12 z st).1.kids.map Cr∧H' = .box bp 223 (cP (Ho E E4 12 z st).2) :: .box bo 25 (rD (Ho E E4 12 z st).1 v' es') :: .row v' es'.length 25 6::R):=by
 have hS:=hO.1;have hsc:∀c∈es,Bc c=true:=by rw [he];exact Vn _
 have hel:es.length≤1000:=by rw [he,D9];exact hz
 refine B5.body (n:=18) tok Tryz.func286 rfl rfl rfl ?_;refine AW.ghostPost (Ad (Qp Bw ?_));refine Rt (Dc rfl ((D3 _ _ _ (by simpa using hS) (by decide)).at (k:=0) (H2:=_::_::_::_) rfl rfl)) ?_;refine Ae ?_;refine AW.draw mixed (fun H'=>_∈H') (B6 (i:=1) rfl) (by kernel_rfl) ?_;refine Qn 0 rfl Bw (Qn 1 rfl (Aj rfl) (Qn 2 rfl Cc (Qn 3 rfl (OpP.Aap (fun k=>Af (k:=k) (c:=.row _ _ _) tok rfl rfl rfl rfl) (fun _ h=>h)) ?_)));refine Qn 4 rfl Bw (Qn 6 rfl (Ec tok rfl rfl rfl rfl) (Qn 7 rfl (Kp tok rfl rfl rfl rfl rfl rfl rfl rfl rfl) ?_));refine Hb.eff _ _ 5 _ _ rfl (by kernel_rfl) rfl rfl (Dc rfl ((hE (C5 Dg st) bp (by simpa using hO)).at (k:=0) (H2:=_::_::_::_) rfl rfl)) (by rintro _ _ ⟨rfl,rfl⟩;simp) ?_;rintro _ _ ⟨rfl,rfl⟩;refine Hb.sync (fun _=>True) _ _ 8 _ _ rfl (by kernel_rfl) rfl rfl (Sa (k:=2) tok rfl rfl rfl rfl rfl rfl rfl rfl (Dy rfl) rfl (hsc) (by simp;omega) (by simp [maxLen];omega)) (by kernel_rfl) (fun _ _ _=>trivial) ?_;rintro _ _ ⟨ba14,ca14,rfl,rfl⟩;refine Qn 9 rfl (Dm (o':=es.length*6) tok rfl rfl rfl rfl rfl (by omega) (by omega) (by simp)) ?_;refine Qn 11 rfl (Aj rfl) (Qn 12 rfl Cc ?_);refine Hb.two _ _ 10 13 _ _ _ _ rfl rfl (by kernel_rfl) rfl rfl rfl rfl (Hk (k:=2) (v:=.agg _) (H2:=_::_::_::_) tok rfl rfl rfl rfl (by simp) (by simp) rfl rfl rfl rfl) (A6 (k:=1) (v:=.val _) (cs':=Aq) (H2:=_::_::_::_) tok rfl rfl rfl rfl (rfl) rfl rfl rfl rfl) (by rintro _ _ ⟨rfl,rfl⟩;trivial) (by rintro _ _ ⟨rfl,rfl⟩;trivial) ?_ ?_
 ·
  rintro _ _ ⟨rfl,rfl⟩;refine Jj 13 rfl (A6 (k:=1) (v:=.val _) (cs':=Aq) (H2:=_::_::_::_) tok rfl rfl rfl rfl (rfl) rfl rfl rfl rfl) ?_;refine Ej ?_;refine ⟨_,GS.appCell (H2:=_::_::_::_) 2 1 4 rfl (by simp) rfl rfl rfl rfl,.inl rfl,[],.nil,_,.refl _,?_⟩;exact ⟨rfl,_,_,Kz he,rfl⟩
 rintro _ _ ⟨rfl,rfl⟩;refine Jj 10 rfl (Hk (k:=2) (v:=.agg _) (H2:=_::_::_::_) tok rfl rfl rfl rfl (by simp) (by simp) rfl rfl rfl rfl) ?_;refine Ej ?_;refine ⟨_,GS.appCell (H2:=_::_::_::_) 2 1 4 rfl (by simp) rfl rfl rfl rfl,.inl rfl,[],.nil,_,.refl _,?_⟩;exact ⟨rfl,_,_,Kz he,rfl⟩
abbrev Un (T:PS→Syn×PS)(st:PS):Syn×PS:=T (C5 Dg st)
theorem tI (st:PS)(bp:Nat)(z:Syn)(bo:Nat)(v:Value)(es:List (List AV))(he:es=z.kids.map Cr)(hz:z.kids.length≤1000)(R:List HO)(D:Int)(hD:0≤D)(T:PS→Syn×PS)(hFT:C7 T)(hT:∀(st:PS) (bp:Nat),okD D st→Bl Tryz.prog 162 bp 223 (cP st) (cP (T st).2) [.val (.pointer (some ⟨bp,0,none⟩))] (.agg (cSyn (T st).1)))(hO:okD D st):B5 Tryz.prog 281 (.box bp 223 (cP st) :: .box bo 25 (rD z v es) :: .row v es.length 25 6::R) [.val (.pointer (some ⟨bp,0,none⟩)),.val (.pointer (some ⟨bo,0,none⟩))] (fun r H'=>r = .tuple []∧∃v' es',es'=(lR T z st).1.kids.map Cr∧H' = .box bp 223 (cP (lR T z st).2) :: .box bo 25 (rD (lR T z st).1 v' es') :: .row v' es'.length 25 6::R):=by
 have hS:=hO.1;have hsc:∀c∈es,Bc c=true:=by rw [he];exact Vn _
 have hel:es.length≤1000:=by rw [he,D9];exact hz
 have hO1:okD D (C5 Dg st):=by simpa using hO
 have hO3:okD D (Un T st).2:=hFT.okD hD hO1;refine B5.body (n:=32) tok Tryz.func281 rfl rfl rfl ?_;refine AW.ghostPost (Ad (Qp Bw ?_));refine Rt (Dc rfl ((D3 _ _ _ (by simpa using hS) (by decide)).at (k:=0) (H2:=_::_::_::_) rfl rfl)) ?_;refine Ae ?_;refine AW.Aas (fun (q:Value)=>(⟨[(0,.val (.pointer (some ⟨bp,0,none⟩))),(1,.val (.pointer (some ⟨bo,0,none⟩)))],.box bp 223 (cP (Un T st).2) :: .box bo 25 (rD z q (es ++ [cSyn (Un T st).1])) :: .row q (es ++ [cSyn (Un T st).1]).length 25 6::R,32⟩:St)) (fun q=>True) ?_ ?_
 ·
  refine AW.draw mixed (fun H'=>_∈H') (B6 (i:=1) rfl) (by kernel_rfl) ?_;refine Qn 0 rfl Bw (Qn 1 rfl (Aj rfl) (Qn 2 rfl Cc (Qn 3 rfl (OpP.Aap (fun k=>Af (k:=k) (c:=.row _ _ _) tok rfl rfl rfl rfl) (fun _ h=>h)) ?_)));refine Qn 4 rfl Bw (Qn 6 rfl (Ec tok rfl rfl rfl rfl) (Qn 7 rfl (Kp tok rfl rfl rfl rfl rfl rfl rfl rfl rfl) ?_));refine Hb.eff _ _ 5 _ _ rfl (by kernel_rfl) rfl rfl (Dc rfl ((hT (C5 Dg st) bp hO1).at (k:=0) (H2:=_::_::_::_) rfl rfl)) (by rintro _ _ ⟨rfl,rfl⟩;simp) ?_;rintro _ _ ⟨rfl,rfl⟩;refine Hb.sync (fun _=>True) _ _ 8 _ _ rfl (by kernel_rfl) rfl rfl (Sa (k:=2) tok rfl rfl rfl rfl rfl rfl rfl rfl (Dy rfl) rfl (hsc) (by simp;omega) (by simp [maxLen];omega)) (by kernel_rfl) (fun _ _ _=>trivial) ?_;rintro _ _ ⟨ba14,ca14,rfl,rfl⟩;refine Qn 9 rfl (Dm (o':=es.length*6) tok rfl rfl rfl rfl rfl (by omega) (by omega) (by simp)) ?_;refine Qn 11 rfl (Aj rfl) (Qn 12 rfl Cc ?_);refine Hb.two _ _ 10 13 _ _ _ _ rfl rfl (by kernel_rfl) rfl rfl rfl rfl (Hk (k:=2) (v:=.agg _) (H2:=_::_::_::_) tok rfl rfl rfl rfl (by simp) (by simp) rfl rfl rfl rfl) (A6 (k:=1) (v:=.val _) (cs':=Aq) (H2:=_::_::_::_) tok rfl rfl rfl rfl (rfl) rfl rfl rfl rfl) (by rintro _ _ ⟨rfl,rfl⟩;trivial) (by rintro _ _ ⟨rfl,rfl⟩;trivial) ?_ ?_
  ·
   rintro _ _ ⟨rfl,rfl⟩;refine Jj 13 rfl (A6 (k:=1) (v:=.val _) (cs':=Aq) (H2:=_::_::_::_) tok rfl rfl rfl rfl (rfl) rfl rfl rfl rfl) ?_;refine Ej ?_;refine A5 ?_;refine ⟨.slice (some ⟨ba14,0,none⟩) (es.length+1) ca14,?_,GS.trans (GS.appCell (H2:=_::_::_::_) 2 1 4 rfl (by simp) rfl rfl rfl rfl) Bv⟩
   trivial
  rintro _ _ ⟨rfl,rfl⟩;refine Jj 10 rfl (Hk (k:=2) (v:=.agg _) (H2:=_::_::_::_) tok rfl rfl rfl rfl (by simp) (by simp) rfl rfl rfl rfl) ?_;refine Ej ?_;refine A5 ?_;refine ⟨.slice (some ⟨ba14,0,none⟩) (es.length+1) ca14,?_,GS.trans (GS.appCell (H2:=_::_::_::_) 2 1 4 rfl (by simp) rfl rfl rfl rfl) Bv⟩
  trivial
 rintro q _;refine AW.block ?_;refine AW.Aam (fun (p:Nat×PS×List Syn×List (List AV)×Value)=>(⟨[(0,.val (.pointer (some ⟨bp,0,none⟩))),(1,.val (.pointer (some ⟨bo,0,none⟩)))],.box bp 223 (cP p.2.1) :: .box bo 25 (rD z p.2.2.2.2 p.2.2.2.1) :: .row p.2.2.2.2 p.2.2.2.1.length 25 6::R,32⟩:St)) (fun p=>p.2.2.2.1=p.2.2.1.map Cr∧okD D p.2.1∧Bg p.2.1≤p.1∧p.2.2.1.length≤p.2.1.pos+1002∧Kn T (Bg (Un T st).2) (Un T st).2 (z.kids ++ [(Un T st).1])=Kn T p.1 p.2.1 p.2.2.1) (fun p=>p.1) ((Bg (Un T st).2,(Un T st).2,z.kids ++ [(Un T st).1],es ++ [cSyn (Un T st).1],q)) ?_ Bv ?_
 · exact ⟨Kz he,hO3,C6 _,by simp only [Cb,K9];omega,rfl⟩
 rintro p hR;have hes:p.2.2.2.1=p.2.2.1.map Cr:=hR.1;have hO2:okD D p.2.1:=hR.2.1;have hS:=hO2.1;have hfu:Bg p.2.1≤p.1:=hR.2.2.1;have hn:0<p.1:=by unfold Bg at hfu;omega
 have hol:p.2.2.1.length≤p.2.1.pos+1002:=hR.2.2.2.1;have hsc2:∀c∈p.2.2.2.1,Bc c=true:=by rw [hes];exact Vn _
 have hel2:p.2.2.2.1.length=p.2.2.1.length:=by rw [hes,D9]
 refine Rd (Qp Bw ?_);refine Rt (Dc rfl ((D6 _ _ _ (by simpa using hS) (by decide)).at (k:=0) (H2:=_::_::_::_) rfl rfl)) ?_;refine Ae (Ao (fun hc1=>?_) fun hc1=>?_)
 ·
  try simp only [Et,Fp] at hc1
  have hlt:=Xu hc1;have hml:=hS.1;have hFa:=hFT (adv p.2.1) (by have:=hO2.2.1;show (0:Int)≤p.2.1.depth;omega) hO2.2.2;have hps:p.2.1.pos+1≤(T (adv p.2.1)).2.pos:=hFa.2.1;have hts:(T (adv p.2.1)).2.toks=p.2.1.toks:=hFa.1;refine AW.ghost (GS.Aaq (H2:=_::_::_::_) 0 rfl (congrArg cP (Fz hc1)) rfl) ?_;refine A7 (AW.block ?_);refine AW.draw mixed (fun H'=>_∈H') (B6 (i:=1) rfl) (by kernel_rfl) ?_;refine Qn 0 rfl Bw (Qn 1 rfl (Aj rfl) (Qn 2 rfl Cc (Qn 3 rfl (OpP.Aap (fun k=>Af (k:=k) (c:=.row _ _ _) tok rfl rfl rfl rfl) (fun _ h=>h)) ?_)));refine Qn 4 rfl Bw (Qn 6 rfl (Ec tok rfl rfl rfl rfl) (Qn 7 rfl (Kp tok rfl rfl rfl rfl rfl rfl rfl rfl rfl) ?_));refine Hb.eff _ _ 5 _ _ rfl (by kernel_rfl) rfl rfl (Dc rfl ((hT _ bp (by simpa using hO2)).at (k:=0) (H2:=_::_::_::_) rfl rfl)) (by rintro _ _ ⟨rfl,rfl⟩;simp) ?_;rintro _ _ ⟨rfl,rfl⟩;refine Hb.sync (fun _=>True) _ _ 8 _ _ rfl (by kernel_rfl) rfl rfl (Sa (k:=2) tok rfl rfl rfl rfl rfl rfl rfl rfl (Dy rfl) rfl (hsc2) (by simp;omega) (by simp [maxLen];omega)) (by kernel_rfl) (fun _ _ _=>trivial) ?_;rintro _ _ ⟨ba28,ca28,rfl,rfl⟩;refine Qn 9 rfl (Dm (o':=p.2.2.2.1.length*6) tok rfl rfl rfl rfl rfl (by omega) (by omega) (by simp)) ?_;refine Qn 11 rfl (Aj rfl) (Qn 12 rfl Cc ?_);refine Hb.two _ _ 10 13 _ _ _ _ rfl rfl (by kernel_rfl) rfl rfl rfl rfl (Hk (k:=2) (v:=.agg _) (H2:=_::_::_::_) tok rfl rfl rfl rfl (by simp) (by simp) rfl rfl rfl rfl) (A6 (k:=1) (v:=.val _) (cs':=Aq) (H2:=_::_::_::_) tok rfl rfl rfl rfl (rfl) rfl rfl rfl rfl) (by rintro _ _ ⟨rfl,rfl⟩;trivial) (by rintro _ _ ⟨rfl,rfl⟩;trivial) ?_ ?_
  ·
   rintro _ _ ⟨rfl,rfl⟩;refine Jj 13 rfl (A6 (k:=1) (v:=.val _) (cs':=Aq) (H2:=_::_::_::_) tok rfl rfl rfl rfl (rfl) rfl rfl rfl rfl) ?_;refine Ej ?_;refine Ig (A5 ?_);refine ⟨(p.1-1,(T (adv p.2.1)).2,p.2.2.1 ++ [(T (adv p.2.1)).1],p.2.2.2.1 ++ [cSyn (T (adv p.2.1)).1],.slice (some ⟨ba28,0,none⟩) (p.2.2.2.1.length+1) ca28),?_,?_,GS.trans (GS.appCell (H2:=_::_::_::_) 2 1 4 rfl (by simp) rfl rfl rfl rfl) Bv⟩
   · exact ⟨Kz hes,hFT.okD hD (by simpa using hO2),by unfold Bg at hfu ⊢;rw [hts];simp only;omega,by simp only [Cb,K9];omega,hR.2.2.2.2.trans (by rw [L0 hn,if_pos hc1])⟩
   simp only;omega
  rintro _ _ ⟨rfl,rfl⟩;refine Jj 10 rfl (Hk (k:=2) (v:=.agg _) (H2:=_::_::_::_) tok rfl rfl rfl rfl (by simp) (by simp) rfl rfl rfl rfl) ?_;refine Ej ?_;refine Ig (A5 ?_);refine ⟨(p.1-1,(T (adv p.2.1)).2,p.2.2.1 ++ [(T (adv p.2.1)).1],p.2.2.2.1 ++ [cSyn (T (adv p.2.1)).1],.slice (some ⟨ba28,0,none⟩) (p.2.2.2.1.length+1) ca28),?_,?_,GS.trans (GS.appCell (H2:=_::_::_::_) 2 1 4 rfl (by simp) rfl rfl rfl rfl) Bv⟩
  · exact ⟨Kz hes,hFT.okD hD (by simpa using hO2),by unfold Bg at hfu ⊢;rw [hts];simp only;omega,by simp only [Cb,K9];omega,hR.2.2.2.2.trans (by rw [L0 hn,if_pos hc1])⟩
  simp only;omega
 try simp only [Et,Fp] at hc1
 refine AW.ghost (GS.Aaq (H2:=_::_::_::_) 0 rfl (congrArg cP (Gw hc1)) rfl) ?_;refine AW.exit ?_;refine Bk (Bk (Th ?_));refine ⟨_,GS.refl _,.inl rfl,[],.nil,_,.refl _,?_⟩
 have h9:lR T z st=({ z with kids:=p.2.2.1 },p.2.1):=by
  have h8:Kn T (Bg (Un T st).2) (Un T st).2 (z.kids ++ [(Un T st).1])=(p.2.2.1,p.2.1):=hR.2.2.2.2.trans (by rw [L0 hn,iN hc1]);unfold lR;simp only;rw [h8]
 exact ⟨rfl,p.2.2.2.2,p.2.2.2.1,by rw [h9];exact hes,by rw [h9]⟩
end Go.Proofs.YtckhoadldibflaaGreatDoor
