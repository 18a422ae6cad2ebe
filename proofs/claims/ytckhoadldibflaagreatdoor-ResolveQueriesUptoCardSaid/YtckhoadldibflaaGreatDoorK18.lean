/-
  Several texts in one: V8, V9, V10, R21w, R14w. No condition.
-/
import Derived.Test.YtckhoadldibflaaGreatDoorK01
import Derived.Test.YtckhoadldibflaaGreatDoorK17
import Derived.KernelRfl
import Derived.Test.YtckhoadldibflaaGreatDoorK16
import Derived.Test.YtckhoadldibflaaGreatDoorK15
import Derived.Test.YtckhoadldibflaaGreatDoorK12
import Derived.Test.YtckhoadldibflaaGreatDoorK09
import Derived.Test.YtckhoadldibflaaGreatDoorK10
set_option linter.unusedVariables false
set_option linter.unusedSimpArgs false
namespace Go.Proofs.YtckhoadldibflaaGreatDoor
open Go Go.Aw
set_option maxHeartbeats 1600000
set_option maxRecDepth 20000

def formC:List (List AV):=[[.str Sw,.int .i64 6,.fn (.func 281) [] []],[.str Sx,.int .i64 7,.fn (.func 281) [] []],[.str Sq,.int .i64 8,.fn (.func 281) [] []],[.str Mz,.int .i64 9,.fn (.func 282) [] []],[.str Kt,.int .i64 10,.fn (.func 283) [] []],[.str Hq,.int .i64 11,.fn (.func 284) [] []],[.str Ic,.int .i64 12,.fn (.func 286) [] []]]
theorem pp_forms  : An Tryz.prog 225 [] (.sl 3 formC):=by
 refine An.body (n:=9) tok Tryz.func225 rfl rfl rfl fun H=>?_
 refine Ad (Qp (Be (z:=3) rfl) (Bs (Qp (Du kR) (Qp (Du kR) (Qp (Du kR) (Qp (Du kR) (Qp (Du kR) (Qp (Du kR) (Qp (Du kR) (Qp (Ak (es:=[kR,kR,kR,kR,kR,kR,kR]) tok rfl rfl rfl rfl rfl rfl rfl rfl rfl) (Qp Sr (Rb (Qr (.sl _ _) ?_)))))))))))));rfl
def S3 (fn:Nat)(E T:PS→Syn×PS)(D:Int)(k:Int):Prop:=∀(st:PS) (bp:Nat) (z:Syn) (bo:Nat) (v:Value) (es:List (List AV)) (he:es=z.kids.map Cr) (hz:z.kids.length≤1000) (R:List HO),okD D st→B5 Tryz.prog fn (.box bp 223 (cP st) :: .box bo 25 (rD z v es) :: .row v es.length 25 6::R) [.val (.pointer (some ⟨bp,0,none⟩)),.val (.pointer (some ⟨bo,0,none⟩))] (fun r H'=>r = .tuple []∧∃v' es',es'=(Ho E T k z st).1.kids.map Cr∧H' = .box bp 223 (cP (Ho E T k z st).2) :: .box bo 25 (rD (Ho E T k z st).1 v' es') :: .row v' es'.length 25 6::R)
theorem O1 (D:Int)(hD:0≤D)(T:PS→Syn×PS)(hFT:C7 T)(hT:∀(st:PS) (bp:Nat),okD D st→Bl Tryz.prog 162 bp 223 (cP st) (cP (T st).2) [.val (.pointer (some ⟨bp,0,none⟩))] (.agg (cSyn (T st).1)))(E:PS→Syn×PS)(k:Int)(h:k≤8):S3 281 E T D k:=fun st bp z bo v es he hz R hO=>by
 have e:Ho E T k z st=lR T z st:=by unfold Ho;rw [if_pos (decide_eq_true h)]
 rw [e];exact tI st bp z bo v es he hz R D hD T hFT hT hO
theorem sH (D:Int)(E T:PS→Syn×PS):S3 282 E T D 9:=fun st bp z bo v es he hz R hO=>p_form1 st bp z bo v es he hz R
theorem oC (E:PS→Syn×PS)(hFE:C7 E)(hE:∀(st:PS) (bp:Nat),okD 0 st→Bl Tryz.prog 164 bp 223 (cP st) (cP (E st).2) [.val (.pointer (some ⟨bp,0,none⟩))] (.agg (cSyn (E st).1)))(D:Int)(hD:0≤D)(T:PS→Syn×PS):S3 283 E T D 10:=fun st bp z bo v es he hz R hO=>p_form2 st bp z bo v es he hz R E hFE hE (aC hD hO)
theorem jK (D:Int)(E T:PS→Syn×PS):S3 284 E T D 11:=fun st bp z bo v es he hz R hO=>p_form3 st bp z bo v es he hz R hO.1
theorem mS (E:PS→Syn×PS)(hFE:C7 E)(hE:∀(st:PS) (bp:Nat),okD 0 st→Bl Tryz.prog 164 bp 223 (cP st) (cP (E st).2) [.val (.pointer (some ⟨bp,0,none⟩))] (.agg (cSyn (E st).1)))(D:Int)(hD:0≤D)(T:PS→Syn×PS):S3 286 E T D 12:=fun st bp z bo v es he hz R hO=>p_form4 st bp z bo v es he hz R E hFE hE (aC hD hO)
theorem zX (E:PS→Syn×PS)(hFE:C7 E)(hE:∀(st:PS) (bp:Nat),okD 0 st→Bl Tryz.prog 164 bp 223 (cP st) (cP (E st).2) [.val (.pointer (some ⟨bp,0,none⟩))] (.agg (cSyn (E st).1)))(D:Int)(hD:0≤D)(T:PS→Syn×PS)(hFT:C7 T)(hT:∀(st:PS) (bp:Nat),okD D st→Bl Tryz.prog 162 bp 223 (cP st) (cP (T st).2) [.val (.pointer (some ⟨bp,0,none⟩))] (.agg (cSyn (T st).1)))(k:Nat)(hk:k<7):∃(x:A1×Int) (fn:Nat),formL[k]? = some x∧formC[k]? = some [.str x.1,.int .i64 x.2,.fn (.func fn) [] []]∧Tm Tryz.prog fn=true∧x.1.length≤1048576∧S3 fn E T D x.2:=by
 match k,hk with
 | 0,_=>exact ⟨_,_,rfl,rfl,by kernel_rfl,by decide,O1 D hD T hFT hT E 6 (by decide)⟩
 | 1,_=>exact ⟨_,_,rfl,rfl,by kernel_rfl,by decide,O1 D hD T hFT hT E 7 (by decide)⟩
 | 2,_=>exact ⟨_,_,rfl,rfl,by kernel_rfl,by decide,O1 D hD T hFT hT E 8 (by decide)⟩
 | 3,_=>exact ⟨_,_,rfl,rfl,by kernel_rfl,by decide,sH D E T⟩
 | 4,_=>exact ⟨_,_,rfl,rfl,by kernel_rfl,by decide,oC E hFE hE D hD T⟩
 | 5,_=>exact ⟨_,_,rfl,rfl,by kernel_rfl,by decide,jK D E T⟩
 | 6,_=>exact ⟨_,_,rfl,rfl,by kernel_rfl,by decide,mS E hFE hE D hD T⟩
def rP (E T:PS→Syn×PS)(k:Int)(z:Syn)(s:PS):Syn×PS:=((Ho E T k { z with kids:=[(T (C5 F9 s)).1] } (T (C5 F9 s)).2).1,C5 Kc (Ho E T k { z with kids:=[(T (C5 F9 s)).1] } (T (C5 F9 s)).2).2)

theorem kA (st:PS)(bp:Nat)(z:Syn)(bo:Nat)(R:List HO)(E:PS→Syn×PS)(hFE:C7 E)(hE:∀(st:PS) (bp:Nat),okD 0 st→Bl Tryz.prog 164 bp 223 (cP st) (cP (E st).2) [.val (.pointer (some ⟨bp,0,none⟩))] (.agg (cSyn (E st).1)))(D:Int)(hD:0≤D)(T:PS→Syn×PS)(hFT:C7 T)(hT:∀(st:PS) (bp:Nat),okD (D+1) st→Bl Tryz.prog 162 bp 223 (cP st) (cP (T st).2) [.val (.pointer (some ⟨bp,0,none⟩))] (.agg (cSyn (T st).1)))(w:A1)(k:Int)(fn:Nat)(hfn:Tm Tryz.prog fn=true)(hr:S3 fn E T (D+1) k)(hO:okD (D+1) st):B5 Tryz.prog 227 (.box bp 223 (cP st) :: .box bo 25 (cSyn z)::R) [.ptr [.val (.pointer (some ⟨bp,0,none⟩))],.val (.pointer (some ⟨bo,0,none⟩)),.ptr [.str w,.int .i64 k,.fn (.func fn) [] []]] (fun r H'=>r = .tuple []∧H' = .box bp 223 (cP (rP E T k z st).2) :: .box bo 25 (cSyn (rP E T k z st).1)::R):=by
 have hS:=hO.1;have hO1:okD (D+1) (C5 F9 st):=by simpa using hO
 have hO2:=hFT.okD (by omega) hO1;have hO4:okD (D+1) (Ho E T k { z with kids:=[(T (C5 F9 st)).1] } (T (C5 F9 st)).2).2:=Qz hO2 (dA hFE hFT k { z with kids:=[(T (C5 F9 st)).1] } (Yk (by omega) hO2));refine B5.body (n:=15) tok Tryz.func227 rfl rfl rfl ?_;refine AW.ghostPost (Ad (Qp Jb ?_));refine Rt (Dc rfl ((D3 _ _ _ (by simpa using hS) (by decide)).at (k:=0) (H2:=_::_::_) rfl rfl)) ?_;refine Bs (Qp Jb (mW ((hT (C5 F9 st) bp hO1).at (k:=0) (H2:=_::_::_) rfl rfl) (Qe (F7 (es:=[Aq]) tok rfl rfl rfl rfl rfl rfl rfl rfl rfl) ?_)));rintro _ _ ⟨v7,rfl,rfl⟩;refine Qp Cc ?_;refine Bt 2 Aq (_::_::_::_) (Bs (Qp (Qf [_]) (Qp (Ek (c:=.fn _ _ _) tok rfl rfl rfl) (Qp Jb ?_))));refine Qe (Jo (hfn) rfl rfl rfl (B5.front2 (R:=_::_) 2 1 rfl rfl rfl (hr (T (C5 F9 st)).2 bp { z with kids:=[(T (C5 F9 st)).1] } bo _ _ (by rw [E7,Di,Bn]) (by simp) _ hO2))) ?_;rintro _ _ ⟨rfl,v2,e2,rfl,rfl⟩;have hS:=hO4.1;refine Ae (AW.region (Qp Jb ?_));refine Rt (Dc rfl ((D3 _ _ _ (by simpa using hS) (by decide)).at (k:=0) (H2:=_::_::_::_) rfl rfl)) ?_;refine AOL.nil ?_;refine ⟨_,GS.cell (H2:=_::_::_::_) 1 4 rfl rfl rfl rfl E9,.inl rfl,[],.nil,_,.cons_cons _ (.cons_cons _ (.cons _ (.refl _))),?_⟩;exact ⟨rfl,rfl⟩
theorem dZ (st:PS)(bp:Nat)(E:PS→Syn×PS)(hFE:C7 E)(hE:∀(st:PS) (bp:Nat),okD 0 st→Bl Tryz.prog 164 bp 223 (cP st) (cP (E st).2) [.val (.pointer (some ⟨bp,0,none⟩))] (.agg (cSyn (E st).1)))(D:Int)(hD:0≤D)(T:PS→Syn×PS)(hFT:C7 T)(hT:∀(st:PS) (bp:Nat),okD (D+1) st→Bl Tryz.prog 162 bp 223 (cP st) (cP (T st).2) [.val (.pointer (some ⟨bp,0,none⟩))] (.agg (cSyn (T st).1)))(hO:okD D st):Bl Tryz.prog 162 bp 223 (cP st) (cP ((bN E T st).2)) [.val (.pointer (some ⟨bp,0,none⟩))] (.agg (cSyn (bN E T st).1)):=by
 intro H;have hS:=hO.1;refine B5.body (n:=29) tok Tryz.func162 rfl rfl rfl ?_;refine Ad (Qp (Ts (v:=.val _) (cs:=[_]) rfl rfl rfl) (Dt L7 fun b2=>Ae (Rd (Qp (Qc rfl (pp_forms )) (Qp (Ai (n:=7) tok rfl rfl rfl (rfl)) (Qp Am (Ae (AW.block ?_))))))));refine AW.Aam (fun (k:Nat)=>(⟨[(1,.ptr [.val (.pointer (some ⟨bp,0,none⟩))]),(2,.val (.pointer (some ⟨b2,0,none⟩))),(6,.sl 3 formC),(7,.int .i64 7),(8,.int .i64 (k:Int))],.box b2 25 (cSyn Oy) :: .box bp 223 (cP st)::H,29⟩:St)) (fun k=>k≤7∧∀j y,j<k→formL[j]? = some y→K4 y.1 st=false) (fun k=>7-k) (0) ?_ Bv ?_
 · exact ⟨Dh _,fun j y hj=>absurd hj (Nat.not_lt_zero _)⟩
 rintro k hR;refine Ad (Qp Bp (Re (Ao (fun hc1=>?_) fun hc1=>?_)))
 ·
  try simp only [Et,Fp] at hc1
  have hk:k<7:=by have:=Gv hc1;omega
  refine (zX E hFE hE (D+1) (by omega) T hFT hT k hk).elim fun x hx0=>hx0.elim fun fn hx3=>?_
  have hx:=hx3.1;have hx2:=hx3.2.1;have hfn:=hx3.2.2.1;have hwx:=hx3.2.2.2.1;have hrk:=hx3.2.2.2.2;refine A7 (AW.seq (AW.block (Ad ?_)));refine Qp (Aa (c:=[.str x.1,.int .i64 x.2,.fn (.func fn) [] []]) tok rfl rfl rfl rfl rfl rfl (by omega) (hx2)) ?_;refine Qp (Bo kR) (Dt [.str [],.int .i64 0,.val .nilFunc] fun b4=>?_);refine Bt 0 kR (_::_::_::_) ?_;refine AOL.ghost (GS.freeze (t:=4) 0 rfl rfl) ?_;refine Ae (Rd (Qp Jb (Qp (Qf kR) (Qp C9 ?_))));refine AOL.Aan (Cy (k:=1) (by kernel_rfl) rfl rfl (p_is _ _ _ (by simpa using hS) (by assumption))) rfl rfl ?_;refine Qp Ew (Ae (Ao (fun hc2=>?_) fun hc2=>?_))
  ·
   try simp only [Et,Fp] at hc2
   refine AW.exit (Ri (AW.region (Qp Dl (Qp Am (Ae ?_)))));refine ⟨k+1,?_,?_,Bv⟩
   · exact ⟨hk,fun j y hj hy=>by rcases Nat.lt_succ_iff_lt_or_eq.1 hj with h | rfl;exact hR.2 j y h hy;rw [hx] at hy;cases hy;exact hc2⟩
   omega
  try simp only [Et,Fp] at hc2
  have hfd:formL.find? (fun f=>K4 f.1 st)=some x:=U0 hR.2 hx hc2;refine A7 (AW.seq ?_);refine AW.draw mixed (fun H'=>_∈H') (B6 (i:=1) rfl) (by kernel_rfl) ?_;refine Qn 0 rfl (Qf [Iq _,_]) (Qn 1 rfl Bf (Qn 2 rfl Jb ?_));refine Qn 3 rfl (OpP.Aap (fun k=>Cy (k:=k) (by kernel_rfl) rfl rfl (Ku _ _)) (fun _ h=>h)) ?_;refine Qn 4 rfl (Du Aq) ?_;refine Hb.eff _ _ 5 _ _ rfl (by kernel_rfl) rfl rfl (Jp (l:=L7) (by kernel_rfl)) (by rintro _ _ ⟨b5,rfl,rfl⟩;simp) ?_;rintro _ _ ⟨b5,rfl,rfl⟩;refine Hb.last _ _ 6 _ _ rfl (by kernel_rfl) rfl rfl (A6 (k:=0) (v:=.agg _) (cs':=Aq) (H2:=_::_::_::_) tok rfl rfl rfl rfl (rfl) rfl rfl rfl rfl) (by kernel_rfl) ?_;rintro _ _ ⟨rfl,rfl⟩;refine A5 (Ad (Qp Jb (Qp (B1 (l:=[]) (l':=[.ptr _,.val _,.ptr _]) rfl rfl) ?_)));refine Rt (Dc rfl (B5.front2 (R:=_::_) 0 1 rfl rfl rfl (Vi (rP E T x.2) ⟨x.2,[],[],0,[],Dj st⟩ st bp b5 _ 227 (by kernel_rfl) [] [.ptr [.val (.pointer (some ⟨bp,0,none⟩))],.val (.pointer (some ⟨b5,0,none⟩)),.ptr [.str x.1,.int .i64 x.2,.fn (.func fn) [] []]] (Xu hc2) hS (fun hb=>kA _ bp ⟨x.2,[],[],0,[],Dj st⟩ b5 _ E hFE hE D hD T hFT hT x.1 x.2 fn hfn hrk (Zf hD hO hb))))) ?_;refine Bs (AOL.Aan (A2 (k:=1) (l:=Aq) tok rfl rfl rfl rfl rfl) rfl rfl ?_);refine Bt 2 Aq (_::_::_::_) (Ra (Av (B9 (Av ?_))));refine ⟨.inr rfl,[.agg Aq],.cons (.box _ _ _ 2 _ _ _ _ rfl rfl rfl rfl rfl rfl) <| .nil,_,.cons_cons _ (.cons _ (.cons _ (.refl _))),?_⟩;have h9:bN E T st=Nw (rP E T x.2) ⟨x.2,[],[],0,[],Dj st⟩ st:=by unfold bN;rw [hfd];rfl
  exact ⟨by rw [h9];rfl,congrArg (fun s=>HO.box bp 223 (cP s)::H) (by rw [h9])⟩
 try simp only [Et,Fp] at hc1
 have hkn:¬k<7:=by have:=If hc1;omega
 have hfd:formL.find? (fun f=>K4 f.1 st)=none:=aL (k:=k) hkn hR.2;refine AW.exit ?_;refine Bk (Ri (Ad (Qp Jb ?_)));refine mW ((pG st bp E hFE hE (aC hD hO)).at (k:=1) (H2:=_::_::_) rfl rfl) ?_;refine Bt 0 Aq (_::_::_) (Rb ?_);refine ⟨.inr rfl,[.agg Aq],.cons (.box _ _ _ 0 _ _ _ _ rfl rfl rfl rfl rfl rfl) <| .nil,_,.cons _ (.refl _),?_⟩;have h9:bN E T st=K6 E st:=by unfold bN;rw [hfd]
 exact ⟨by rw [h9];rfl,congrArg (fun s=>HO.box bp 223 (cP s)::H) (by rw [h9])⟩
theorem pA (E:PS→Syn×PS)(hFE:C7 E)(hE:∀(st:PS) (bp:Nat),okD 0 st→Bl Tryz.prog 164 bp 223 (cP st) (cP (E st).2) [.val (.pointer (some ⟨bp,0,none⟩))] (.agg (cSyn (E st).1))):∀(n:Nat),n≤64→∀(st:PS) (bp:Nat),okD (64-(n:Int)) st→Bl Tryz.prog 162 bp 223 (cP st) (cP (sO E n st).2) [.val (.pointer (some ⟨bp,0,none⟩))] (.agg (cSyn (sO E n st).1))
  | 0,_=>fun st bp hO=>dZ st bp E hFE hE 64 (by decide) E4 G7 (fun _ _ h=>(Qx h).elim) hO
  | n+1,hn=>fun st bp hO=>by
    have ih:=pA E hFE hE n (by omega);exact dZ st bp E hFE hE (64-((n+1:Nat):Int)) (by omega) (sO E n) (Vu hFE n) (fun s b h=>ih s b ⟨h.1,by have:=h.2.1;omega,h.2.2⟩) hO
theorem Yb:C7 EE:=(Jt 64).2
theorem rB:C7 TT:=Vu Yb 64
theorem p_EE (st:PS)(bp:Nat)(h:okD 0 st):Bl Tryz.prog 164 bp 223 (cP st) (cP (EE st).2) [.val (.pointer (some ⟨bp,0,none⟩))] (.agg (cSyn (EE st).1)):=(qH 64 (C6 _)).2 st bp h
theorem p_TT (st:PS)(bp:Nat)(h:okD 0 st):Bl Tryz.prog 162 bp 223 (cP st) (cP (TT st).2) [.val (.pointer (some ⟨bp,0,none⟩))] (.agg (cSyn (TT st).1)):=pA EE Yb p_EE 64 (C6 _) st bp h

set_option maxHeartbeats 3200000
set_option maxRecDepth 20000

theorem Tg (s:A1):∀(n i:Nat) (b:A1),b.length≤i→i≤s.length→(I7 s n i b).tok.text.length≤s.length
  | 0,i,b,h1,h2=>by simp [I7,Pj,Mh]
  | n+1,i,b,h1,h2=>by
    unfold I7;split
    · rename_i hi
      simp only [Hi] at hi;split
      · split
        · simp [Pj,Mh]
        simp only [oX];omega
      · split
        · split
          · simp [Pj,Mh]
          · rename_i he
            have hp:=oA (s.drop i);rw [Jf] at hp;have hz:(K7 (s.drop i)).2≠0:=by simpa using he
            exact Tg s n _ _ (by rw [Cb,K9];omega) (by omega)
        · split
          · simp [Pj,Mh]
          exact Tg s n _ _ (by rw [Cb,K9];omega) (by omega)
    simp [Pj,Mh]
theorem Xw (s:A1):∀l:List A1,(∀x∈l,x.length≤2)→(Gt s l).tok.text.length≤2
  | [],_=>by simp [Gt,Pj,Mh]
  | x::r,h=>by
    unfold Gt;split
    · exact h x (So ..)
    exact Xw s r fun y hy=>h y (Pv _ hy)
theorem sA (t:A1)(h0:0<t.length):(Dr t).tok.text.length≤t.length+2:=by
 have hn:(Mm t).tok.text.length≤t.length:=by
  unfold Mm;split
  · simp [foZ,Mh]
  split
  · simp [Pj,Mh]
  simp only [oX,Lk];omega
 have hm:(Hh t).tok.text.length≤t.length:=by
  unfold Hh;split
  · simp [foZ,Mh]
  split
  · simp [Pj,Mh]
  split
  · simp [Pj,Mh]
  simp only [oX,Lk];omega
 have hl:(Li t).tok.text.length≤t.length:=by
  unfold Li;split
  · simp [foZ,Mh]
  exact Tg t _ 1 [] (Dh _) h0
 have hs:=Xw t iD (by decide);unfold Dr;split
 · omega
 split
 · omega
 split
 · omega
 exact Lq hs (by omega)
theorem xD (s:A1)(hl:s.length≤100000):okT (H8 s).1:=by
  have key:∀(n i:Nat) (out:List Tok),i≤s.length→out.length≤i→(∀t∈out,t.text.length≤s.length+2)→(Jn s n i out).1.length≤s.length∧∀t∈(Jn s n i out).1,t.text.length≤s.length+2:=by
    intro n
    induction n with
    | zero=>intro i out h1 h2 h3;exact ⟨Dh _,fun t h=>by cases h⟩
    | succ n ih=>
      intro i out h1 h2 h3;unfold Jn;split
      · rename_i hi
        simp only [Hi] at hi;have hs:=vH (s.drop i);have hn:=rU (s.drop i) (by rw [Jf];omega);have ht:=sA (s.drop i) (by rw [Jf];omega);rw [Jf] at hs hn ht;have hs2:=hs.2 (by omega);split
        · exact ih _ _ (by omega) (by omega) h3
        · split
          · exact ⟨Dh _,fun t h=>by cases h⟩
          · rename_i h4
            have hp:=hn.2.2.2.2 (by simpa using h4);refine ih _ _ (by omega) (by rw [Cb,K9];omega) fun t h=>?_
            rcases Wq.1 h with h | h
            · exact h3 t h
            rw [N6] at h;subst h;simp only;omega
      exact ⟨Lq h2 h1,h3⟩
  unfold H8;split
  · exact ⟨Dh _,fun t h=>by cases h⟩
  · have:=key (s.length+1) 0 [] (Dh _) (C6 _) (fun t h=>by cases h)
    exact ⟨by omega,fun t h=>by have:=this.2 t h;omega⟩
theorem tN (s:A1)(hl:s.length≤100000):okD 0 (Oc (H8 s).1 s.length):=⟨xD s hl,Uh _,(by decide:(0:Int)≤64)⟩

theorem sc_pair (x y:Syn):∀c∈[cSyn x,cSyn y],Bc c=true:=by
 intro c hc;simp only [Hp,aM,or_false] at hc;rcases hc with rfl | rfl <;> rfl
abbrev q1 (st:PS):PS:=C5 Hr st
abbrev q2 (st:PS):Syn×PS:=nZ (Ez 0 (q1 st)) (Dj st)
abbrev q3 (T:PS→Syn×PS)(st:PS):Syn×PS:=T (C5 Ij (q2 st).2)
abbrev q4 (T:PS→Syn×PS)(st:PS):PS:=C5 Hw (q3 T st).2
theorem zR {F:PS→Syn×PS}(hF:C7 F){st:PS}(h:okD 0 st):(Uq F st).1.length≤1048600:=by
  have key:∀(n:Nat) (st:PS) (out:List Syn),okD 0 st→out.length≤st.pos+1→out.length≤1048580→(Kn F n st out).1.length≤1048600:=by
    intro n
    induction n with
    | zero=>intro st out _ _ h;exact Lq h (by decide)
    | succ n ih=>
      intro st out hO h1 h2;unfold Kn;split
      · rename_i hi
        have hlt:=Xu hi;have hg:=hF.goes (a:=adv st) (Yk (Uh _) hO);have hp:st.pos+1≤(F (adv st)).2.pos:=hg.2.1;have hml:=hO.1.1;exact ih _ _ (Qz hO ((Kj.adv st).trans hg)) (by rw [Cb,K9];omega) (by rw [Cb,K9];omega)
      exact Lq h2 (by decide)
  exact key _ _ _ (Qz h (hF.goes (Yk (Uh _) h))) (by simp) (by simp)

theorem p_query (st:PS)(bp:Nat)(E:PS→Syn×PS)(hFE:C7 E)(hE:∀(st:PS) (bp:Nat),okD 0 st→Bl Tryz.prog 164 bp 223 (cP st) (cP (E st).2) [.val (.pointer (some ⟨bp,0,none⟩))] (.agg (cSyn (E st).1)))(T:PS→Syn×PS)(hFT:C7 T)(hT:∀(st:PS) (bp:Nat),okD 0 st→Bl Tryz.prog 162 bp 223 (cP st) (cP (T st).2) [.val (.pointer (some ⟨bp,0,none⟩))] (.agg (cSyn (T st).1)))(hO:okD 0 st):Bl Tryz.prog 91 bp 223 (cP st) (cP ((H9 E T st).2)) [.val (.pointer (some ⟨bp,0,none⟩))] (.agg (cSyn (H9 E T st).1)):=by
 intro H;have hS:=hO.1;have hO2:okD 0 (q2 st).2:=Qz (a:=Ez 0 (q1 st)) (by simpa using hO) (kW _ _);have hO3:okD 0 (q3 T st).2:=hFT.okD (Uh _) (by simpa using hO2);have hO4:okD 0 (q4 T st):=by simpa using hO3
 have hO5:=Qz hO4 (eE hFE (Yk (Uh _) hO4));have hll:=zR hFE hO4;refine B5.body (n:=44) tok Tryz.func91 rfl rfl rfl ?_;refine Ad (Dt L7 fun b2=>Bs (Qp Bw ?_));refine AOL.Aan (Cy (k:=1) (by kernel_rfl) rfl rfl (Ku _ _)) rfl rfl ?_;refine Qp (Du Aq) (Dt L7 fun b3=>?_);refine Bt 0 Aq (_::_::_::_) (Bs (Qp Bw ?_));refine Rt (Dc rfl ((D3 _ _ _ (by simpa using hS) (by decide)).at (k:=2) (H2:=_::_::_::_) rfl rfl)) ?_;refine Bs (Qp Bw ?_);refine Rt (Dc rfl ((Ou _ _ (by simpa using hS)).at (k:=2) (H2:=_::_::_::_) rfl rfl)) ?_;refine Qp Cc ?_;refine Bt 0 Aq (_::_::_::_) (Bs (Qp Cc (AOL.Aan (Af (k:=0) (c:=Iq _) tok rfl rfl rfl rfl) rfl rfl (Qp (Du Aq) (Dt L7 fun b4=>?_)))));refine Bt 0 Aq (_::_::_::_::_) (Ae ?_);refine AW.Aas (fun (k:Syn×PS)=>(⟨[(0,.val (.pointer (some ⟨bp,0,none⟩))),(2,.val (.pointer (some ⟨b2,0,none⟩))),(3,.val (.pointer (some ⟨b3,0,none⟩))),(4,.val (.pointer (some ⟨b4,0,none⟩)))],.box b4 25 (cSyn k.1) :: .box b3 25 [.int .i64 3,.str (Hx 0 (q1 st)),.str [],.int .i64 0,.sl 6 [],.int .i64 (Dj st)] :: .box b2 25 (cSyn Oy) :: .box bp 223 (cP k.2)::H,44⟩:St)) (fun k=>k=q2 st) ?_ ?_
 ·
  refine Ad (Qp Bw ?_);refine Rt (Dc rfl ((D6 _ _ _ (by simpa using hS) (by decide)).at (k:=3) (H2:=_::_::_::_::_) rfl rfl)) ?_;refine Ae (Ao (fun hc1=>?_) fun hc1=>?_)
  ·
   try simp only [Et,Fp] at hc1
   refine AW.ghost (GS.Aaq (H2:=_::_::_::_::_) 3 rfl (congrArg cP (Fz hc1)) rfl) ?_;refine Ad (Qp Bw ?_);refine AOL.Aan (Cy (k:=3) (by kernel_rfl) rfl rfl (Ku _ _)) rfl rfl ?_;refine Qp Cc ?_;refine Bt 0 Aq (_::_::_::_::_) (Ae (AW.region (Qp Bw ?_)));refine Rt (Dc rfl ((Ou _ _ (by simpa using hS)).at (k:=3) (H2:=_::_::_::_::_) rfl rfl)) ?_;refine Qp Cc ?_;refine Bt 0 Aq (_::_::_::_::_) (Ae ?_);refine ⟨(⟨4,Hx 0 (adv (Ez 0 (q1 st))),[],0,[],Dj (adv (Ez 0 (q1 st)))⟩,Ez 0 (adv (Ez 0 (q1 st)))),?_,Bv⟩;exact (by unfold q2 nZ;rw [if_pos (show K4 aT (Ez 0 (q1 st))=true from hc1)])
  try simp only [Et,Fp] at hc1
  refine AW.ghost (GS.Aaq (H2:=_::_::_::_::_) 3 rfl (congrArg cP (Gw hc1)) rfl) ?_;refine A7 ?_;refine ⟨(⟨4,[],[],0,[],Dj st⟩,Ez 0 (q1 st)),?_,Bv⟩;exact (by unfold q2 nZ;rw [if_neg (zz45.mp (show K4 aT (Ez 0 (q1 st))=false from hc1))])
 rintro k rfl;have hS:=hO2.1;refine Ad (Qp Bw ?_);refine Rt (Dc rfl ((D3 _ _ _ (by simpa using hS) (by decide)).at (k:=3) (H2:=_::_::_::_::_) rfl rfl)) ?_;refine Re ?_;refine AW.draw mixed (fun H'=>_∈H') (B6 (i:=0) rfl) (by kernel_rfl) ?_;refine Qn 0 rfl (OpP.Aap (fun k=>A2 (k:=k) (l:=Aq) tok rfl rfl rfl rfl rfl) (fun _ h=>h)) ?_;refine Qn 1 rfl Bw ?_;refine Hb.eff _ _ 2 _ _ rfl (by kernel_rfl) rfl rfl (Dc rfl ((hT (C5 Ij (q2 st).2) bp (by simpa using hO2)).at (k:=3) (H2:=_::_::_::_::_) rfl rfl)) (by rintro _ _ ⟨rfl,rfl⟩;simp) ?_;rintro _ _ ⟨rfl,rfl⟩;have hS:=hO3.1;refine Hb.eff _ _ 3 _ _ rfl (by kernel_rfl) rfl rfl (F7 (es:=[Aq,Aq]) tok rfl rfl rfl rfl rfl rfl rfl rfl rfl) (by rintro _ _ ⟨v29,rfl,rfl⟩;simp) ?_;rintro _ _ ⟨v29,rfl,rfl⟩;refine Qn 4 rfl Cc ?_;refine Hb.last _ _ 5 _ _ rfl (by kernel_rfl) rfl rfl (A6 (k:=2) (v:=.row _ _ _) (cs':=Aq) (H2:=_::_::_::_::_::_) tok rfl rfl rfl rfl (rfl) rfl rfl rfl rfl) (by kernel_rfl) ?_;rintro _ _ ⟨rfl,rfl⟩;refine A5 (Ad (Qp Bw ?_));refine Rt (Dc rfl ((D3 _ _ _ (by simpa using hS) (by decide)).at (k:=4) (H2:=_::_::_::_::_::_) rfl rfl)) ?_;refine Re ?_;refine AW.draw mixed (fun H'=>_∈H') (B6 (i:=2) rfl) (by kernel_rfl) ?_;refine Qn 0 rfl Cc (Qn 1 rfl (OpP.Aap (fun k=>Af (k:=k) (c:=.row _ _ _) tok rfl rfl rfl rfl) (fun _ h=>h)) ?_);refine Qn 2 rfl Bw (Qn 3 rfl Bw (Qn 4 rfl (B1 (l:=[.val _]) (l':=[]) rfl rfl) ?_));refine Hb.eff _ _ 5 _ _ rfl (by kernel_rfl) rfl rfl (Dc rfl ((p_list (q4 T st) bp 0 (by decide) 164 (by kernel_rfl) [.val (.pointer (some ⟨bp,0,none⟩))] [] E hFE (fun s ho=>hE s bp ho) hO4).at (k:=4) (H2:=_::_::_::_::_::_) rfl rfl)) (by rintro _ _ ⟨rfl,rfl⟩;simp) ?_;rintro _ _ ⟨rfl,rfl⟩;have hS:=hO5.1;refine Hb.eff _ _ 6 _ _ rfl (by kernel_rfl) rfl rfl (B8 (k:=0) tok rfl rfl rfl rfl rfl rfl rfl rfl (Vn _) (sc_pair _ _) (by simp;omega) (by simp [maxLen];omega)) (by rintro _ _ ⟨v39,rfl,rfl⟩;simp) ?_;rintro _ _ ⟨v39,rfl,rfl⟩;refine Qn 7 rfl Cc ?_;refine Hb.last _ _ 8 _ _ rfl (by kernel_rfl) rfl rfl (A6 (k:=2) (v:=.row _ _ _) (cs':=Aq) (H2:=_::_::_::_::_::_) tok rfl rfl rfl rfl (rfl) rfl rfl rfl rfl) (by kernel_rfl) ?_;rintro _ _ ⟨rfl,rfl⟩;refine A5 (Ad (Qp Bw ?_));refine Rt (Dc rfl ((D3 _ _ _ (by simpa using hS) (by decide)).at (k:=4) (H2:=_::_::_::_::_::_) rfl rfl)) ?_;refine Bs ?_;refine AOL.ghost (GS.cell (H2:=_::_::_::_::_::_) 2 4 rfl rfl rfl rfl E9) ?_;refine AOL.Aan (A2 (k:=2) (l:=Aq) tok rfl rfl rfl rfl rfl) rfl rfl ?_;refine Bt 3 Aq (_::_::_::_::_::_) (Rb ?_);refine ⟨.inr rfl,[.agg Aq],.cons (.box _ _ _ 3 _ _ _ _ rfl rfl rfl rfl rfl rfl) <| .nil,_,.cons _ (.cons _ (.cons _ (.cons _ (.refl _)))),?_⟩;exact ⟨congrArg (fun l=>AV.agg [.int .i64 3,.str (Hx 0 (q1 st)),.str [],.int .i64 0,.sl 6 l,.int .i64 (Dj st)]) (by unfold H9;simp only [Tq,E7,Di,Bn]),rfl⟩
set_option maxHeartbeats 1600000
set_option maxRecDepth 20000

abbrev pg1 (st:PS):List Syn×PS:=eJ Ln kindP (Bg st) st []
abbrev pst (F:PS→Syn×PS)(s:A1):PS:=(F (Oc (H8 s).1 s.length)).2
theorem yT (s:A1)(hl:s.length≤100000)(f:Nat)(hf:Tm Tryz.prog f=true)(F:PS→Syn×PS)(hF:C7 F)(hc:∀(st:PS) (bp:Nat),okD 0 st→Bl Tryz.prog f bp 223 (cP st) (cP (F st).2) [.val (.pointer (some ⟨bp,0,none⟩))] (.agg (cSyn (F st).1))):An Tryz.prog 89 [.str s,.fn (.func f) [] []] (.tuple [.agg (cSyn (Eo F s).1),.int .i64 (Eo F s).2.1,.int .i64 (Eo F s).2.2]):=by
 have hb0:=tN s hl;refine An.body (n:=58) tok Tryz.func89 rfl rfl rfl fun H=>?_
 refine Ad (Dt L7 fun b4=>Qp Al (Qp Al (Bs (Qp D2 ?_))));refine Qp (Qc rfl (c13 s (by omega))) ?_;refine Qp Lm (Qp Qxs (Qp Ib (Qp Ib (Qp Sr (Qp Al (Qp Al (Ae (Rd (Qp Am (Qp Bu (Ae (Ao (fun hc1=>?_) fun hc1=>?_))))))))))))
 ·
  try simp only [Et,Fp] at hc1
  refine Ad (Qp (Du Aq) (Qp Am (Qp Am ?_)));refine Bt 0 Aq (_::_) (Qp Al (Qp Al (Rc ?_)));refine ⟨.inr rfl,[.agg Aq,Iq _,Iq _],.cons (.box _ _ _ 0 _ _ _ _ rfl rfl rfl rfl rfl rfl) <| .cons (.tmp _ _ rfl) <| .cons (.tmp _ _ rfl) <| .nil,.cons _ (.refl _),?_⟩;have h9:Eo F s=(Oy,(H8 s).2.1,(H8 s).2.2):=by unfold Eo;rw [if_pos hc1]
  rw [h9];rfl
 try simp only [Et,Fp] at hc1
 refine A7 (Ad (Qp Fh (Qp D2 (Qp (Bx tok rfl rfl rfl rfl) (Qp (Du giz) (Qe (E_box (v:=.agg _) (cs:=giz) rfl rfl (rfl)) ?_))))));rintro _ _ ⟨b27,rfl,rfl⟩;refine Qp Qk (Bs (Qp (A0 (v:=.fn _ _ _) rfl) (Qp Bw (Rt (Jo (hf) rfl rfl rfl ((hc (Oc (H8 s).1 s.length) b27 hb0).at (k:=0) (H2:=_::_::_) rfl rfl)) (Dt L7 fun b11=>?_)))));refine Bt 0 Aq (_::_::_::_) ?_;refine AOL.ghost (GS.freeze (t:=11) 0 rfl rfl) ?_;refine Re (AW.seq ?_);refine AW.draw mixed (fun H'=>_∈H') (B6 (i:=0) rfl) (by kernel_rfl) ?_;refine Qn 0 rfl Bw (Qn 1 rfl (Aj rfl) (Qn 2 rfl Cc (Qn 3 rfl (OpP.Aap (fun k=>Af (k:=k) (c:=Iq _) tok rfl rfl rfl rfl) (fun _ h=>h)) ?_)));refine Qn 4 rfl Bw (Qn 5 rfl (Aj rfl) (Qn 6 rfl Cc (Qn 7 rfl (OpP.Aap (fun k=>Af (k:=k) (c:=.sl _ _) tok rfl rfl rfl rfl) (fun _ h=>h)) ?_)));refine Qn 8 rfl (Ai (n:=(pst F s).toks.length) tok rfl rfl rfl (by simp)) ?_;refine Qn 9 rfl Bp ?_;refine Ej ?_;refine A5 (Ao (fun hc2=>?_) fun hc2=>?_)
 ·
  try simp only [Et,Fp] at hc2
  refine AW.region (Qp Bw (mW ((fT _ _ _).at (k:=0) (H2:=_::_::_) rfl rfl) (Ae (Rd (Qp Bw (Qp (Aj rfl) (Qp Cc (AOL.Aan (Af (k:=0) (c:=Iq _) tok rfl rfl rfl rfl) rfl rfl (Qp Bu (Ae (Ao (fun hc3=>?_) fun hc3=>?_)))))))))))
  ·
   try simp only [Et,Fp] at hc3
   refine AW.seq ?_;refine AW.draw mixed (fun H'=>_∈H') (B6 (i:=0) rfl) (by kernel_rfl) ?_;refine Qn 0 rfl (Du Aq) (Qn 1 rfl Bw (Qn 2 rfl (Aj rfl) (Qn 3 rfl Cc (Qn 4 rfl (OpP.Aap (fun k=>Af (k:=k) (c:=Iq _) tok rfl rfl rfl rfl) (fun _ h=>h)) ?_))));refine Qn 5 rfl Bw (Qn 6 rfl (Aj rfl) (Qn 7 rfl Cc (Qn 8 rfl (OpP.Aap (fun k=>Af (k:=k) (c:=Iq _) tok rfl rfl rfl rfl) (fun _ h=>h)) ?_)));refine Hb.eff _ _ 9 _ _ rfl (by kernel_rfl) rfl rfl (A6 (k:=1) (v:=.agg _) (cs':=Aq) (H2:=_::_::_) tok rfl rfl rfl rfl (rfl) rfl rfl rfl rfl) (by rintro _ _ ⟨rfl,rfl⟩;simp) ?_;rintro _ _ ⟨rfl,rfl⟩;refine Qn 10 rfl Al (Qn 11 rfl Al ?_);refine Ej ?_;refine A5 (Su ?_);refine ⟨.inr rfl,[.agg Aq,Iq _,Iq _],.cons (.box _ _ _ 1 _ _ _ _ rfl rfl rfl rfl rfl rfl) <| .cons (.tmp _ _ rfl) <| .cons (.tmp _ _ rfl) <| .nil,.cons _ (.cons _ (.refl _)),?_⟩;have h9:Eo F s=Ud (F (Oc (H8 s).1 s.length)):=by unfold Eo;rw [if_neg (by rw [hc1];decide)]
   rw [h9];simp only [Ud,Ag,hc1,hc2,hc3,↓reduceIte,B0]
   try rfl
  try simp only [Et,Fp] at hc3
  refine A7 (Ad (Qp (Bo Aq) ?_));refine Bt 1 Aq (_::_::_) (Qp Al (Qp Al (Rb ?_)));refine ⟨.inr rfl,[.agg Aq,Iq _,Iq _],.cons (.box _ _ _ 1 _ _ _ _ rfl rfl rfl rfl rfl rfl) <| .cons (.tmp _ _ rfl) <| .cons (.tmp _ _ rfl) <| .nil,.cons _ (.cons _ (.refl _)),?_⟩;have h9:Eo F s=Ud (F (Oc (H8 s).1 s.length)):=by unfold Eo;rw [if_neg (by rw [hc1];decide)]
  rw [h9];simp only [Ud,Ag,hc1,hc2,hc3,↓reduceIte,B0]
  try rfl
 try simp only [Et,Fp] at hc2
 refine A7 (Rd (Qp Bw (Qp (Aj rfl) (Qp Cc (AOL.Aan (Af (k:=0) (c:=Iq _) tok rfl rfl rfl rfl) rfl rfl (Qp Bu (Ae (Ao (fun hc4=>?_) fun hc4=>?_))))))))
 ·
  try simp only [Et,Fp] at hc4
  refine AW.seq ?_;refine AW.draw mixed (fun H'=>_∈H') (B6 (i:=0) rfl) (by kernel_rfl) ?_;refine Qn 0 rfl (Du Aq) (Qn 1 rfl Bw (Qn 2 rfl (Aj rfl) (Qn 3 rfl Cc (Qn 4 rfl (OpP.Aap (fun k=>Af (k:=k) (c:=Iq _) tok rfl rfl rfl rfl) (fun _ h=>h)) ?_))));refine Qn 5 rfl Bw (Qn 6 rfl (Aj rfl) (Qn 7 rfl Cc (Qn 8 rfl (OpP.Aap (fun k=>Af (k:=k) (c:=Iq _) tok rfl rfl rfl rfl) (fun _ h=>h)) ?_)));refine Hb.eff _ _ 9 _ _ rfl (by kernel_rfl) rfl rfl (A6 (k:=1) (v:=.agg _) (cs':=Aq) (H2:=_::_::_) tok rfl rfl rfl rfl (rfl) rfl rfl rfl rfl) (by rintro _ _ ⟨rfl,rfl⟩;simp) ?_;rintro _ _ ⟨rfl,rfl⟩;refine Qn 10 rfl Al (Qn 11 rfl Al ?_);refine Ej ?_;refine A5 (Su ?_);refine ⟨.inr rfl,[.agg Aq,Iq _,Iq _],.cons (.box _ _ _ 1 _ _ _ _ rfl rfl rfl rfl rfl rfl) <| .cons (.tmp _ _ rfl) <| .cons (.tmp _ _ rfl) <| .nil,.cons _ (.cons _ (.refl _)),?_⟩;have h9:Eo F s=Ud (F (Oc (H8 s).1 s.length)):=by unfold Eo;rw [if_neg (by rw [hc1];decide)]
  rw [h9];simp only [Ud,Ag,hc1,hc2,hc4,↓reduceIte,B0]
  try rfl
 try simp only [Et,Fp] at hc4
 refine A7 (Ad (Qp (Bo Aq) ?_));refine Bt 1 Aq (_::_::_) (Qp Al (Qp Al (Rb ?_)));refine ⟨.inr rfl,[.agg Aq,Iq _,Iq _],.cons (.box _ _ _ 1 _ _ _ _ rfl rfl rfl rfl rfl rfl) <| .cons (.tmp _ _ rfl) <| .cons (.tmp _ _ rfl) <| .nil,.cons _ (.cons _ (.refl _)),?_⟩;have h9:Eo F s=Ud (F (Oc (H8 s).1 s.length)):=by unfold Eo;rw [if_neg (by rw [hc1];decide)]
 rw [h9];simp only [Ud,Ag,hc1,hc2,hc4,↓reduceIte,B0]
 try rfl
theorem uY (s:A1)(hl:s.length≤100000):An Tryz.prog 40 [.str s] (.tuple [.agg (cSyn (Eo (H9 EE TT) s).1),.int .i64 (Eo (H9 EE TT) s).2.1,.int .i64 (Eo (H9 EE TT) s).2.2]):=by
 refine An.body (n:=10) tok Tryz.func40 rfl rfl rfl fun H=>?_
 refine Ad (Dt L7 fun b2=>Qp Al (Qp Al (Bs (Qp D2 ?_))));refine Qp (Qc rfl (yT s hl 91 (by kernel_rfl) (H9 EE TT) (oM Yb rB) (fun st bp h=>p_query st bp EE Yb p_EE TT rB p_TT h))) ?_;refine Qp (B2 (v:=.agg Aq) rfl rfl) (Qp Ib (Qp Ib ?_));refine Bt 0 Aq (_::_) (Qp Al (Qp Al (Rb ?_)));refine ⟨.inr rfl,[.agg Aq,Iq _,Iq _],.cons (.box _ _ _ 0 _ _ _ _ rfl rfl rfl rfl rfl rfl) <| .cons (.tmp _ _ rfl) <| .cons (.tmp _ _ rfl) <| .nil,.cons _ (.refl _),?_⟩;rfl

set_option maxHeartbeats 12800000
set_option maxRecDepth 20000

set_option maxRecDepth 100000
theorem ydig1 {n:Int}(h:0≤n)(k:n<10):Lib.itoa n = [UInt8.ofNat (48+n.toNat)]:=by
 rw [show Lib.itoa n=Lib.decDigits n.toNat from if_neg (by omega),Lib.decDigits,dif_pos (by omega)]
theorem Ym:Lib.itoa 1 = [49]:=ydig1 (by decide) (by decide)
def exT:List e8Sc:=[⟨[65],[⟨[120],0⟩]⟩]
def ye (v:Int):Ex:=⟨1,[],v,0,0,⟨0,0,[]⟩⟩
def y1:Syn:=⟨3,[113],[],0,[⟨4,[],[],0,[],0⟩,⟨6,[],[],0,[⟨5,[65],[97],0,[],18⟩,⟨5,[65],[98],0,[⟨17,[],[],7,[⟨14,[97],[120],0,[],36⟩,⟨14,[98],[120],0,[],30⟩],30⟩],23⟩],14⟩,⟨14,[97],[120],0,[],48⟩],0⟩
def z1:Qy:=⟨[113],[⟨[97],0⟩,⟨[98],0⟩],[],⟨1,[⟨0,[],0,0,0,0,P9⟩,⟨0,[],0,1,0,0,⟨7,[ye 0,ye 1],0,0,0,v0⟩⟩],0,0,0,0,Ps⟩,[ye 0]⟩
def y2:Syn:=⟨3,[113],[],0,[⟨4,[],[],0,[],0⟩,⟨10,[],[],0,[⟨5,[65],[97],0,[],20⟩,⟨5,[65],[110],0,[],25⟩],14⟩,⟨13,[],Gz,1,[],37⟩],0⟩
def z2:Qy:=⟨[113],[⟨[110],0⟩,⟨[97],0⟩],[],⟨5,[⟨0,[],0,1,0,0,P9⟩],0,0,0,0,P9⟩,[⟨0,[],0,0,0,⟨0,1,[]⟩⟩]⟩
def y3:Syn:=⟨3,[113],[],0,[⟨4,[],[],0,[],0⟩,⟨6,[],[],0,[⟨5,[65],[97],0,[],18⟩,⟨5,[65],[97],0,[],23⟩],14⟩,⟨13,[],Gz,1,[],35⟩],0⟩
def y4:Syn:=⟨3,[113],[],0,[⟨4,[121],[],0,[],11⟩,⟨5,[65],[97],0,[],19⟩,⟨13,[],Gz,1,[],30⟩],0⟩
theorem y1_read:Eo (H9 EE TT) [113,117,101,114,121,32,113,32,109,97,116,99,104,32,115,101,113,40,65,32,97,44,32,65,32,98,32,105,102,32,98,46,120,32,62,32,97,46,120,41,32,114,101,116,117,114,110,32,97,46,120,59]=(y1,0,0):=by kernel_rfl
theorem y2_read:Eo (H9 EE TT) [113,117,101,114,121,32,113,32,109,97,116,99,104,32,108,97,99,107,115,40,65,32,97,44,32,65,32,110,41,32,114,101,116,117,114,110,32,49,59]=(y2,0,0):=by kernel_rfl
theorem y3_read:Eo (H9 EE TT) [113,117,101,114,121,32,113,32,109,97,116,99,104,32,115,101,113,40,65,32,97,44,32,65,32,97,41,32,114,101,116,117,114,110,32,49,59]=(y3,0,0):=by kernel_rfl
theorem y4_read:Eo (H9 EE TT) [113,117,101,114,121,32,113,32,98,121,32,121,32,109,97,116,99,104,32,65,32,97,32,114,101,116,117,114,110,32,49,59]=(y4,0,0):=by kernel_rfl
theorem qM:Es y1∧Es y2∧Es y3∧Es y4:=⟨Fr (by kernel_rfl),Fr (by kernel_rfl),Fr (by kernel_rfl),Fr (by kernel_rfl)⟩
theorem y_wr {t:Syn}{p:Pl}{w:A1}(h1:Ba t p=0)(h2:decide (64<(Gf t:Int))=false)(h3:Ah t=w)(h4:decide (65536<(w.length:Int))=false):((Bh t p).2 != 0)=false:=by
 subst h3
 have:Bh t p=(Ah t,0):=by
  unfold Bh;rw [h1];exact (Bi (by decide)).trans ((Bi h2).trans (Bi h4))
 rw [this];rfl
theorem y1_w:((Bh y1 (.only 3)).2 != 0)=false:=y_wr (by kernel_rfl) (by kernel_rfl) (show Ah y1 = [113,117,101,114,121,32,113,10,109,97,116,99,104,32,115,101,113,40,65,32,97,44,32,65,32,98,32,105,102,32,97,46,120,32,60,32,98,46,120,41,10,114,101,116,117,114,110,32,97,46,120,59,10] by simp [y1,Ah,N9,Df,Lg,E2,Gc,Bb,Hs,J6,Lb,Ci,Ym]) (by kernel_rfl)
theorem y2_w:((Bh y2 (.only 3)).2 != 0)=false:=y_wr (by kernel_rfl) (by kernel_rfl) (show Ah y2 = [113,117,101,114,121,32,113,10,109,97,116,99,104,32,108,97,99,107,115,40,65,32,97,44,32,65,32,110,41,10,114,101,116,117,114,110,32,49,59,10] by simp [y2,Ah,N9,Df,Lg,E2,Gc,Bb,Hs,J6,Lb,Ci,Ym]) (by kernel_rfl)
theorem y3_w:((Bh y3 (.only 3)).2 != 0)=false:=y_wr (by kernel_rfl) (by kernel_rfl) (show Ah y3 = [113,117,101,114,121,32,113,10,109,97,116,99,104,32,115,101,113,40,65,32,97,44,32,65,32,97,41,10,114,101,116,117,114,110,32,49,59,10] by simp [y3,Ah,N9,Df,Lg,E2,Gc,Bb,Hs,J6,Lb,Ci,Ym]) (by kernel_rfl)
theorem y4_w:((Bh y4 (.only 3)).2 != 0)=false:=y_wr (by kernel_rfl) (by kernel_rfl) (show Ah y4 = [113,117,101,114,121,32,113,32,98,121,32,121,10,109,97,116,99,104,32,65,32,97,10,114,101,116,117,114,110,32,49,59,10] by simp [y4,Ah,N9,Df,Lg,E2,Gc,Bb,Hs,J6,Lb,Ci,Ym]) (by kernel_rfl)
theorem fQ:(Fv exT != 0)=false:=by kernel_rfl
theorem y1_q:Pu exT y1=(z1,0,0):=(tR _ _ fQ y1_w).trans (by kernel_rfl)
theorem y2_q:Pu exT y2=(z2,0,0):=(tR _ _ fQ y2_w).trans (by kernel_rfl)
theorem y3_q:Pu exT y3=(aV,23,7):=(tR _ _ fQ y3_w).trans (by kernel_rfl)
theorem y4_q:Pu exT y4=(aV,11,16):=(tR _ _ fQ y4_w).trans (by kernel_rfl)
theorem exT_sc:∀s∈exT,Zd s:=fun s h=>by
 rw [N6.1 h];exact ⟨by decide,by decide,fun f hf=>by rw [N6.1 hf];decide⟩
theorem c_qq (t:Syn)(ht:Es t){r:Qy×Int×Int}(h:Pu exT t=r):An Tryz.prog 14 [.sl 2 (exT.map F1),.agg (cSyn t)] (.tuple [.agg (cQy r.1),.int .i64 r.2.1,.int .i64 r.2.2]):=by
 subst h;exact kM exT (by decide) exT_sc t ht
theorem c_pq (s:A1)(hs:s.length≤100000){t:Syn}(h:Eo (H9 EE TT) s=(t,0,0)):An Tryz.prog 40 [.str s] (.tuple [.agg (cSyn t),.int .i64 0,.int .i64 0]):=by
 have h2:=uY s hs;rw [h] at h2;exact h2
theorem xO  : An Tryz.prog 41 [] (.sl 2 (exT.map F1)):=by
 refine An.body (n:=5) tok Tryz.func41 rfl rfl rfl fun H=>?_
 refine Ad (Qp (Be (z:=2) rfl) (Bs (Qp (Du H6) (Qp (Ak (es:=[H6]) tok rfl rfl rfl rfl rfl rfl rfl rfl rfl) (Qp (Du Ji) (Qp (Ak (es:=[Ji]) tok rfl rfl rfl rfl rfl rfl rfl rfl rfl) (Qp Sr (Rb (Qr (.sl _ _) ?_)))))))));rfl
theorem qY (s:A1)(k e:Int)(t:Syn)(hs:s.length≤100000)(hp:Eo (H9 EE TT) s=(t,0,0))(ht:Es t)(hq:Pu exT t=(aV,k,e)):An Tryz.prog 43 [.str s,.int .i64 k,.int .i64 e] (.bool true):=by
 refine An.body (n:=38) tok Tryz.func43 rfl rfl rfl fun H=>?_
 refine Ad (Qp Au (Bs (Qp D2 (Qp (Qc rfl (c_pq s hs hp)) (Qp Lm (Qp (B2 (v:=.agg Aq) rfl rfl) (Qp Ib (Qp Ib (Dt L7 fun b7=>?_)))))))));refine Bt 0 Aq (_::_) (Qp Al (Qp Al ?_));refine AOL.ghost (GS.freeze (t:=7) 0 rfl rfl) ?_;refine Re ?_;refine Gi ?_;refine Qn 0 rfl (Qc rfl (xO)) (Qn 1 rfl (Bo Aq) (Qn 2 rfl (Qc rfl (c_qq t ht hq)) (Qn 3 rfl Lm (Qn 4 rfl (B2 (v:=.agg Fu) rfl rfl) (Qn 5 rfl Ib (Qn 6 rfl Ib ?_))))));refine lZ 7 rfl (Jp (l:=cL) (by kernel_rfl)) ?_;rintro _ _ ⟨b10,rfl,rfl⟩;refine Jj 8 rfl (A6 (k:=0) (v:=.agg _) (cs':=Fu) (H2:=_::_) tok rfl rfl rfl rfl (rfl) rfl rfl rfl rfl) ?_;refine Qn 9 rfl Al (Qn 10 rfl Al ?_);refine Ej ?_;refine A5 ?_;refine AW.ghost (GS.freeze (t:=10) 0 rfl rfl) ?_;refine Ad (Qp Am (Qp Ap (Qp A9 (Qg [] Qw Am (Qg [] Qw Am (AOL.Aal (y:=.bool _) _ [(29,_),(30,_)] rfl (uB.all ⟨Ent.Aak _ _,Ent.Aak _ _,trivial⟩) (fun hG=>Sy rfl rfl) rfl ?_))))));refine Qp Ea (Qp A9 (Qg [] Qw Am (Qg [] Qw Am (AOL.Aal (y:=.bool _) _ [(34,_),(35,_)] rfl (uB.all ⟨Ent.Aak _ _,Ent.Aak _ _,trivial⟩) (fun hG=>Sy rfl rfl) rfl ?_))));refine Qp Ea (Qp Au (Rb (Qr (.bool _) ?_)));show AV.bool (((0:Int)==0&&(e==e))&&(k==k))=AV.bool true;have h9:(e==e)=true:=by simp
 have h8:(k==k)=true:=by simp
 rw [h9,h8];rfl
theorem Ye  : An Tryz.prog 13 [] (.bool true):=by
 refine An.body (n:=133) tok Tryz.func13 rfl rfl rfl fun H=>?_
 refine Ad (Qp Au (Bs ?_));refine Qp (Qc rfl (c_pq [113,117,101,114,121,32,113,32,109,97,116,99,104,32,115,101,113,40,65,32,97,44,32,65,32,98,32,105,102,32,98,46,120,32,62,32,97,46,120,41,32,114,101,116,117,114,110,32,97,46,120,59] (by decide) y1_read)) ?_;refine Qp Lm (Qp (B2 (v:=.agg Aq) rfl rfl) (Qp Ib (Qp Ib (Dt L7 fun b1=>?_))));refine Bt 0 Aq (_::_) (Qp Al (Qp Al (Re ?_)));refine AW.draw mixed (fun H'=>_∈H') (B6 (i:=0) rfl) (by kernel_rfl) ?_;refine Qn 0 rfl (Qc rfl (xO)) (Qn 1 rfl (OpP.Aap (fun k=>A2 (k:=k) (l:=Aq) tok rfl rfl rfl rfl rfl) (fun _ h=>h)) ?_);refine Qn 2 rfl (Qc rfl (c_qq y1 qM.1 y1_q)) (Qn 3 rfl Lm (Qn 4 rfl (B2 (v:=.agg Fu) rfl rfl) (Qn 5 rfl Ib (Qn 6 rfl Ib ?_))));refine Hb.eff _ _ 7 _ _ rfl (by kernel_rfl) rfl rfl (Jp (l:=cL) (by kernel_rfl)) (by rintro _ _ ⟨b4,rfl,rfl⟩;simp) ?_;rintro _ _ ⟨b4,rfl,rfl⟩;refine Hb.eff _ _ 8 _ _ rfl (by kernel_rfl) rfl rfl (A6 (k:=0) (v:=.agg _) (cs':=Fu) (H2:=_::_::_) tok rfl rfl rfl rfl (rfl) rfl rfl rfl rfl) (by rintro _ _ ⟨rfl,rfl⟩;simp) ?_;rintro _ _ ⟨rfl,rfl⟩;refine Qn 9 rfl Al (Qn 10 rfl Al ?_);refine Ej ?_;refine A5 (Rd (Qp Am (Qp Bu (Qp A9 (Qg [] Qw Am (Qg [(23,_)] Qw Bu (Qp Cf (Qp A9 (Qg [] Qw Cc (AOL.gk (y:=.sl _ _) _ [(27,_)] rfl (uB.all ⟨Ent.Aak _ _,trivial⟩) (fun hG=>Af (k:=0) (c:=.sl _ _) tok rfl rfl rfl rfl) rfl rfl ?_))))))))));refine AOL.Aal (y:=Iq _) _ [(28,_)] rfl (uB.all ⟨Ent.Aak _ _,trivial⟩) (fun hG=>Ai (n:=2) tok rfl rfl rfl (rfl)) rfl ?_;refine Qg [(29,_)] Qw Bu (Qp Cf (Qp A9 (Qg [] Qw Cc (AOL.gk (y:=.sl _ _) _ [(33,_)] rfl (uB.all ⟨Ent.Aak _ _,trivial⟩) (fun hG=>Af (k:=0) (c:=.sl _ _) tok rfl rfl rfl rfl) rfl rfl ?_))));refine AOL.Aal (y:=.ptr _) _ [(34,_)] rfl (uB.all ⟨Ent.Aak _ _,trivial⟩) (fun hG=>Aa (c:=H6) tok rfl rfl rfl rfl rfl rfl (by decide) (rfl)) rfl ?_;refine Qg [(35,_)] Qw (Bo H6) (Qg [] Qw (Du H6) (AOL.Aal (y:=.bool _) _ [(36,_),(37,_)] rfl (uB.all ⟨Ent.Aak _ _,Ent.Aak _ _,trivial⟩) (fun hG=>F5 tok rfl rfl rfl rfl rfl) rfl ?_));refine Qp Cf (Qp A9 (Qg [] Qw Cc (Qg [(41,_)] Qw Cc (AOL.gk (y:=.sl _ _) _ [(42,_)] rfl (uB.all ⟨Ent.Aak _ _,trivial⟩) (fun hG=>Af (k:=0) (c:=.sl _ _) tok rfl rfl rfl rfl) rfl rfl ?_))));refine AOL.Aal (y:=Iq _) _ [(43,_)] rfl (uB.all ⟨Ent.Aak _ _,trivial⟩) (fun hG=>Ai (n:=2) tok rfl rfl rfl (rfl)) rfl ?_;refine Qg [(44,_)] Qw Bu (Qp Cf (Qp A9 (Qg [] Qw Cc (AOL.gk (y:=.sl _ _) _ [(48,_)] rfl (uB.all ⟨Ent.Aak _ _,trivial⟩) (fun hG=>Af (k:=0) (c:=.sl _ _) tok rfl rfl rfl rfl) rfl rfl ?_))));refine AOL.Aal (y:=Iq _) _ [(49,_)] rfl (uB.all ⟨Ent.Aak _ _,trivial⟩) (fun hG=>Ai (n:=1) tok rfl rfl rfl (rfl)) rfl ?_;refine Qg [(50,_)] Qw Bu (Qp Cf (Ae (Ao (fun hc1=>?_) fun hc1=>A7 (Ad (Qp (Du Ft) (Qp (Du Ft) (Qp (Ak (es:=[Ft,Ft]) tok rfl rfl rfl rfl rfl rfl rfl rfl rfl) (Qp (Du Ft) (Dt oB fun b7=>?_)))))))))
 · cases hc1
 refine Bt 0 Ft (_::_::_::_) ?_;refine AOL.ghost (GS.freeze (t:=7) 0 rfl rfl) ?_;refine Re (AW.seq ?_);refine AW.draw mixed (fun H'=>_∈H') (B6 (i:=0) rfl) (by kernel_rfl) ?_;refine Qn 0 rfl Cc (Qn 1 rfl Cc (Qn 2 rfl (OpP.Aap (fun k=>Af (k:=k) (c:=.sl _ _) tok rfl rfl rfl rfl) (fun _ h=>h)) ?_));refine Qn 3 rfl (Aa (c:=Cu) tok rfl rfl rfl rfl rfl rfl (by decide) (rfl)) ?_;refine Qn 4 rfl bB (Qn 5 rfl Py (Qn 6 rfl Py ?_));refine Qn 7 rfl (Qc rfl (dN ⟨7,[ye 0,ye 1],0,0,0,v0⟩ ⟨7,[ye 0,ye 1],0,0,0,v0⟩ (by decide))) ?_;refine Qn 8 rfl Ew (Qn 9 rfl A9 (Qo 10 rfl [] Qw Cc ?_));refine Hb.pure _ _ 11 _ _ rfl (by kernel_rfl) (by kernel_rfl) rfl (.opt _ (.sl _ _) [(67,_)] rfl (uB.all ⟨Ent.Aak _ _,trivial⟩) (fun hG=>OpP.Aap (fun k=>Af (k:=k) (c:=.sl _ _) tok rfl rfl rfl rfl) (fun _ h=>h)) rfl) ?_;refine Hb.pure _ _ 12 _ _ rfl (by kernel_rfl) (by kernel_rfl) rfl (.opt _ (.ptr _) [(68,_)] rfl (uB.all ⟨Ent.Aak _ _,trivial⟩) (fun hG=>Aa (c:=Ft) tok rfl rfl rfl rfl rfl rfl (by decide) (rfl)) rfl) ?_;refine Qo 13 rfl [(69,_)] Qw Py (Qo 14 rfl [] Qw (Du Ft) ?_);refine Hb.pure _ _ 15 _ _ rfl (by kernel_rfl) (by kernel_rfl) rfl (.opt _ (.bool _) [(70,_),(71,_)] rfl (uB.all ⟨Ent.Aak _ _,Ent.Aak _ _,trivial⟩) (fun hG=>Qc rfl (dN (ye 0) (ye 0) (by decide))) rfl) ?_;refine Qo 16 rfl [(72,_)] Qw Ew (Qn 17 rfl Cf ?_);refine Ej ?_;refine A5 (Ao (fun hc2=>?_) fun hc2=>A7 (Ad ?_))
 · rw [Oj,Oj] at hc2;cases hc2
 refine Qp (Qc rfl (c_pq [113,117,101,114,121,32,113,32,109,97,116,99,104,32,108,97,99,107,115,40,65,32,97,44,32,65,32,110,41,32,114,101,116,117,114,110,32,49,59] (by decide) y2_read)) ?_;refine Qp Lm (Qp (B2 (v:=.agg Aq) rfl rfl) (Qp Ib (Qp Ib ?_)));refine Bt 1 Aq (_::_::_) (Qp Al (Re ?_));refine AW.draw mixed (fun H'=>_∈H') (B6 (i:=1) rfl) (by kernel_rfl) ?_;refine Qn 0 rfl (Qc rfl (xO)) (Qn 1 rfl (OpP.Aap (fun k=>A2 (k:=k) (l:=Aq) tok rfl rfl rfl rfl rfl) (fun _ h=>h)) ?_);refine Qn 2 rfl (Qc rfl (c_qq y2 qM.2.1 y2_q)) (Qn 3 rfl Lm (Qn 4 rfl (B2 (v:=.agg Fu) rfl rfl) (Qn 5 rfl Ib (Qn 6 rfl Ib ?_))));refine Hb.eff _ _ 7 _ _ rfl (by kernel_rfl) rfl rfl (A6 (k:=0) (v:=.agg _) (cs':=Fu) (H2:=_::_::_) tok rfl rfl rfl rfl (rfl) rfl rfl rfl rfl) (by rintro _ _ ⟨rfl,rfl⟩;simp) ?_;rintro _ _ ⟨rfl,rfl⟩;refine Qn 8 rfl Al ?_;refine Ej ?_;refine A5 (Rd (Qp Am (Qp Bu (Qp A9 (Qg [] Qw Am (Qg [(90,_)] Qw Bu (Qp Cf (Qp A9 (Qg [] Qw Cc (Qg [(94,_)] Qw Cc (AOL.gk (y:=Iq _) _ [(95,_)] rfl (uB.all ⟨Ent.Aak _ _,trivial⟩) (fun hG=>Af (k:=0) (c:=Iq _) tok rfl rfl rfl rfl) rfl rfl ?_)))))))))));refine Qg [(96,_)] Qw Bu (Qp Cf (Qp A9 (Qg [] Qw Cc (Qg [(100,_)] Qw Cc (AOL.gk (y:=.sl _ _) _ [(101,_)] rfl (uB.all ⟨Ent.Aak _ _,trivial⟩) (fun hG=>Af (k:=0) (c:=.sl _ _) tok rfl rfl rfl rfl) rfl rfl ?_)))));refine AOL.Aal (y:=Iq _) _ [(102,_)] rfl (uB.all ⟨Ent.Aak _ _,trivial⟩) (fun hG=>Ai (n:=1) tok rfl rfl rfl (rfl)) rfl ?_;refine Qg [(103,_)] Qw Bu (Qp Cf (Qp A9 (Qg [] Qw Cc (Qg [(107,_)] Qw Cc (AOL.gk (y:=.sl _ _) _ [(108,_)] rfl (uB.all ⟨Ent.Aak _ _,trivial⟩) (fun hG=>Af (k:=0) (c:=.sl _ _) tok rfl rfl rfl rfl) rfl rfl ?_)))));refine AOL.Aal (y:=.ptr _) _ [(109,_)] rfl (uB.all ⟨Ent.Aak _ _,trivial⟩) (fun hG=>Aa (c:=Cu) tok rfl rfl rfl rfl rfl rfl (by decide) (rfl)) rfl ?_;refine Qg [(110,_)] Qw (Qf ghz) (Qg [(111,_)] Qw Bf (Qg [(112,_)] Qw Bu (Qp Cf (Qp A9 (Qg [] Qw Cc (AOL.gk (y:=.sl _ _) _ [(116,_)] rfl (uB.all ⟨Ent.Aak _ _,trivial⟩) (fun hG=>Af (k:=0) (c:=.sl _ _) tok rfl rfl rfl rfl) rfl rfl ?_))))));refine AOL.Aal (y:=Iq _) _ [(117,_)] rfl (uB.all ⟨Ent.Aak _ _,trivial⟩) (fun hG=>Ai (n:=2) tok rfl rfl rfl (rfl)) rfl ?_;refine Qg [(118,_)] Qw Bu (Qp Cf (Qp A9 (Qg [] Qw Cc (AOL.gk (y:=.sl _ _) _ [(122,_)] rfl (uB.all ⟨Ent.Aak _ _,trivial⟩) (fun hG=>Af (k:=0) (c:=.sl _ _) tok rfl rfl rfl rfl) rfl rfl ?_))));refine AOL.Aal (y:=.ptr _) _ [(123,_)] rfl (uB.all ⟨Ent.Aak _ _,trivial⟩) (fun hG=>Aa (c:=H6) tok rfl rfl rfl rfl rfl rfl (by decide) (rfl)) rfl ?_;refine Qg [(124,_)] Qw (Qf H6) (Qg [(125,_)] Qw C9 (AOL.Aal (y:=.bool _) _ [(126,_)] rfl (uB.all ⟨Ent.Aak _ _,trivial⟩) (fun hG=>Cs rfl rfl) rfl ?_));refine Qp Cf (Ae (Ao (fun hc3=>?_) fun hc3=>A7 (Ad ?_)))
 · cases hc3
 refine Qp (Qc rfl (qY [113,117,101,114,121,32,113,32,109,97,116,99,104,32,115,101,113,40,65,32,97,44,32,65,32,97,41,32,114,101,116,117,114,110,32,49,59] 23 7 y3 (by decide) y3_read qM.2.2.1 y3_q)) ?_;refine Qp A9 ?_;refine Qg [] Qw (Qc rfl (qY [113,117,101,114,121,32,113,32,98,121,32,121,32,109,97,116,99,104,32,65,32,97,32,114,101,116,117,114,110,32,49,59] 11 16 y4 (by decide) y4_read qM.2.2.2 y4_q)) ?_;refine Qp Ea (Qp Au (Rb ?_));refine ⟨.inr rfl,[.bool _],.cons (.tmp _ _ rfl) <| .nil,.cons _ (.cons _ (.refl _)),?_⟩;rfl
set_option maxHeartbeats 1600000
set_option maxRecDepth 20000

theorem evs_n {t:Syn}{n:Nat}(hc:Ba t .pats=0)(h1:(t.kind==5)=false)(h2:(t.kind==10)=false)(hn1:t.kind=12→n=1)(hn2:t.kind≠12→n=t.kids.length):Hj t=(t.kids.take n).flatMap Hj:=by
 by_cases h:t.kind=12
 ·
  have h3:=Hz hc (.inr h);rw [evs_3 h1 h2 (by simpa using h) (by omega),hn1 h];have:=Cp (t:=t) (k:=0) (by omega);rw [C2 (k:=0) this];simp
 rw [evs_4 h1 h2 (by simpa using h),hn2 h,bH]
theorem Zn (l:List Fi)(hl:l.length≤1048576)(n:A1):An Tryz.prog 62 [.sl 2 (l.map lY),.str n] (.int .i64 (B4 (l.map (·.name)) n)):=by
 refine An.body (n:=20) tok Tryz.func62 rfl rfl rfl fun H=>?_
 refine Ad (Qp Al (Ae (Rd (Qp Al (Ae (AW.block ?_))))));refine AW.Aam (fun (k:Nat)=>(⟨[(0,.sl 2 (l.map lY)),(1,.str n),(5,.int .i64 (k:Int))],H,20⟩:St)) (fun k=>k≤l.length∧((l.map (·.name)).take k).contains n=false) (fun k=>l.length-k) (0) ?_ Bv ?_
 · exact ⟨Dh _,by simp⟩
 rintro k hR;refine Rd (Qp Am (Qp Fh ?_));refine Qp (Ai (n:=l.length) tok rfl rfl rfl (by simp)) ?_;refine Qp Bp (Ae (Ao (fun hc1=>?_) fun hc1=>?_))
 ·
  obtain ⟨a,ha⟩:=By hc1;have hlt:=Bj ha;have hm:=B6 ha;have hna:(l.map (·.name))[k]? = some a.name:=by simp [ha]
  refine A7 (AW.seq (AW.block (Ad (Qp Fh (Qp Am ?_)))));refine Qp (Aa (c:=H6) tok rfl rfl rfl rfl rfl rfl (by omega) (Ct ha)) ?_;refine Qp (Qf H6) (Qp C9 (Qp D2 (Qp (A4 rfl rfl) (Ae (Ao (fun hc2=>Ad (Qp Am (Qp Al (Ra (Av (B9 (Av (Qr (Iq _) ?_)))))))) fun hc2=>Rf (AW.region (Qp Am (Qp Dl (Qp Al (Ae ?_))))))))))
  ·
   have e:a.name=n:=by simpa using hc2
   rw [e] at hna;exact Eq.trans rfl (congrArg (fun q:Int=>AV.int .i64 q) (Nm hna hR.2)).symm
  refine ⟨k+1,?_,?_,Bv⟩
  · exact ⟨hlt,In hna hR.2 hc2⟩
  omega
 have hte:=Cn hc1;refine AW.exit ?_;refine Bk (Ri (Ad (Qp Al (Rb ?_))));refine Qr (Iq _) ?_;have h2:=hR.2;rw [←Uk,hte] at h2;exact Eq.trans rfl (congrArg (fun q:Int=>AV.int .i64 q) (Ly h2)).symm
theorem vI (l:List e8Sc)(hl:l.length≤1048576)(n:A1):An Tryz.prog 61 [.sl 2 (l.map F1),.str n] (.int .i64 (B4 (l.map (·.name)) n)):=by
 refine An.body (n:=20) tok Tryz.func61 rfl rfl rfl fun H=>?_
 refine Ad (Qp Al (Ae (Rd (Qp Al (Ae (AW.block ?_))))));refine AW.Aam (fun (k:Nat)=>(⟨[(0,.sl 2 (l.map F1)),(1,.str n),(5,.int .i64 (k:Int))],H,20⟩:St)) (fun k=>k≤l.length∧((l.map (·.name)).take k).contains n=false) (fun k=>l.length-k) (0) ?_ Bv ?_
 · exact ⟨Dh _,by simp⟩
 rintro k hR;refine Rd (Qp Am (Qp Fh ?_));refine Qp (Ai (n:=l.length) tok rfl rfl rfl (by simp)) ?_;refine Qp Bp (Ae (Ao (fun hc1=>?_) fun hc1=>?_))
 ·
  obtain ⟨a,ha⟩:=By hc1;have hlt:=Bj ha;have hm:=B6 ha;have hna:(l.map (·.name))[k]? = some a.name:=by simp [ha]
  refine A7 (AW.seq (AW.block (Ad (Qp Fh (Qp Am ?_)))));refine Qp (Aa (c:=Ji) tok rfl rfl rfl rfl rfl rfl (by omega) (Ct ha)) ?_;refine Qp (Qf Ji) (Qp C9 (Qp D2 (Qp (A4 rfl rfl) (Ae (Ao (fun hc2=>Ad (Qp Am (Qp Al (Ra (Av (B9 (Av (Qr (Iq _) ?_)))))))) fun hc2=>Rf (AW.region (Qp Am (Qp Dl (Qp Al (Ae ?_))))))))))
  ·
   have e:a.name=n:=by simpa using hc2
   rw [e] at hna;exact Eq.trans rfl (congrArg (fun q:Int=>AV.int .i64 q) (Nm hna hR.2)).symm
  refine ⟨k+1,?_,?_,Bv⟩
  · exact ⟨hlt,In hna hR.2 hc2⟩
  omega
 have hte:=Cn hc1;refine AW.exit ?_;refine Bk (Ri (Ad (Qp Al (Rb ?_))));refine Qr (Iq _) ?_;have h2:=hR.2;rw [←Uk,hte] at h2;exact Eq.trans rfl (congrArg (fun q:Int=>AV.int .i64 q) (Ly h2)).symm
theorem gI (l:List Va)(hl:l.length≤1048576)(n:A1):An Tryz.prog 137 [.sl 2 (l.map Ls),.str n] (.int .i64 (B4 (l.map (·.name)) n)):=by
 refine An.body (n:=20) tok Tryz.func137 rfl rfl rfl fun H=>?_
 refine Ad (Qp Al (Ae (Rd (Qp Al (Ae (AW.block ?_))))));refine AW.Aam (fun (k:Nat)=>(⟨[(0,.sl 2 (l.map Ls)),(1,.str n),(5,.int .i64 (k:Int))],H,20⟩:St)) (fun k=>k≤l.length∧((l.map (·.name)).take k).contains n=false) (fun k=>l.length-k) (0) ?_ Bv ?_
 · exact ⟨Dh _,by simp⟩
 rintro k hR;refine Rd (Qp Am (Qp Fh ?_));refine Qp (Ai (n:=l.length) tok rfl rfl rfl (by simp)) ?_;refine Qp Bp (Ae (Ao (fun hc1=>?_) fun hc1=>?_))
 ·
  obtain ⟨a,ha⟩:=By hc1;have hlt:=Bj ha;have hm:=B6 ha;have hna:(l.map (·.name))[k]? = some a.name:=by simp [ha]
  refine A7 (AW.seq (AW.block (Ad (Qp Fh (Qp Am ?_)))));refine Qp (Aa (c:=H6) tok rfl rfl rfl rfl rfl rfl (by omega) (Ct ha)) ?_;refine Qp (Qf H6) (Qp C9 (Qp D2 (Qp (A4 rfl rfl) (Ae (Ao (fun hc2=>Ad (Qp Am (Qp Al (Ra (Av (B9 (Av (Qr (Iq _) ?_)))))))) fun hc2=>Rf (AW.region (Qp Am (Qp Dl (Qp Al (Ae ?_))))))))))
  ·
   have e:a.name=n:=by simpa using hc2
   rw [e] at hna;exact Eq.trans rfl (congrArg (fun q:Int=>AV.int .i64 q) (Nm hna hR.2)).symm
  refine ⟨k+1,?_,?_,Bv⟩
  · exact ⟨hlt,In hna hR.2 hc2⟩
  omega
 have hte:=Cn hc1;refine AW.exit ?_;refine Bk (Ri (Ad (Qp Al (Rb ?_))));refine Qr (Iq _) ?_;have h2:=hR.2;rw [←Uk,hte] at h2;exact Eq.trans rfl (congrArg (fun q:Int=>AV.int .i64 q) (Ly h2)).symm
theorem uT (t:Syn):An Tryz.prog 182 [.agg (cSyn t)] (.agg (cV (Wo t))):=by
 refine An.body (n:=18) tok Tryz.func182 rfl rfl rfl fun H=>?_
 refine Ad (Qp (Ed Aq) (Dt [.int .i64 0,.int .i64 0,.str []] fun b2=>Ae (Rd (Qp (Qf Po) (Qp C9 (Ae (AW.block (Ad ?_))))))));refine Qp (A4 rfl rfl) (Qp Au (Ae (Ao (fun hc1=>Ad (Qp (Qf J8) (Qp Bf (Qp (Du J2) ?_)))) fun hc1=>Ad (Qp (A4 rfl rfl) (Qp Au (Ae (Ao (fun hc2=>Ad (Qp (Qf Ik) (Qp C9 (Qp (Du J2) ?_)))) fun hc2=>Rf (Ad (Qp (Qf J8) (Qp Bf (Qp (Du J2) ?_)))))))))))
 ·
  refine Bt 0 J2 (_::_) (Ra ?_);refine ⟨.inr rfl,[.agg J2],.cons (.box _ _ _ 0 _ _ _ _ rfl rfl rfl rfl rfl rfl) <| .nil,.cons _ (.refl _),?_⟩;simp only [Ag,Wo,hc1,↓reduceIte,B0];rfl
 ·
  refine Bt 0 J2 (_::_) (Ra ?_);refine ⟨.inr rfl,[.agg J2],.cons (.box _ _ _ 0 _ _ _ _ rfl rfl rfl rfl rfl rfl) <| .nil,.cons _ (.refl _),?_⟩;simp only [Ag,Wo,hc1,hc2,↓reduceIte,B0];rfl
 refine Bt 0 J2 (_::_) (Rb ?_);refine ⟨.inr rfl,[.agg J2],.cons (.box _ _ _ 0 _ _ _ _ rfl rfl rfl rfl rfl rfl) <| .nil,.cons _ (.refl _),?_⟩;simp only [Ag,Wo,hc1,hc2,↓reduceIte,B0];rfl
theorem sN (t:Syn)(ht:Es t)(hc:Ba t .pats=0):An Tryz.prog 180 [.agg (cSyn t)] (.sl 6 ((Hj t).map Cr)):=by
 induction t using Syn.ind
 rename_i t ih;have hrg:=Lu hc;have hkl:=E3 ht;refine An.body (n:=45) tok Tryz.func180 rfl rfl rfl fun H=>?_
 refine Ad (Qp (Ed Aq) (Qp (Be (z:=6) rfl) (Ae (Rd (Qp (Qf Aq) (Qp Bf (Qp Ap (Ae (Ao (fun hc1=>Ad (Qp (Bo Aq) (Qp (Ak (es:=[Aq]) tok rfl rfl rfl rfl rfl rfl rfl rfl rfl) (Qp Sr (Rc (Qr (.sl _ _) ?_)))))) fun hc1=>?_)))))))))
 · exact Eq.trans rfl (congrArg (AV.sl 6) (evs_1 hc1)).symm
 have h5:t.kind≠5:=by simpa using hc1
 refine A7 (Rd (Qp (Qf Aq) (Qp Bf (Qp Ap (Ae (Ao (fun hc2=>?_) fun hc2=>A7 (Ad (Qp Qk ?_))))))))
 ·
  have h2:=Hz hc (.inl (by simpa using hc2));have h1:1<t.kids.length:=by omega
  have h0:0<t.kids.length:=by omega
  have hb2:=fZ (Le ht h0);refine AW.seq ?_;refine Gi ?_;refine Qn 0 rfl (Qf Ef) (Qn 1 rfl B7 ?_);refine Qn 2 rfl (Aa (c:=Aq) tok rfl rfl rfl rfl rfl rfl (by decide) (Bz (Cp h1))) ?_;refine Qn 3 rfl (Bo Aq) (Qn 5 rfl (Qf Ef) (Qn 6 rfl B7 ?_));refine Qn 7 rfl (Aa (c:=Aq) tok rfl rfl rfl rfl rfl rfl (by decide) (Bz (Cp h0))) ?_;refine Qn 8 rfl (Bo Aq) (Qn 9 rfl (Qc rfl (ih (Bb t 0) (B6 (Cp h0)) (Le ht h0) (Mq hc h5 (Cp h0) (fun _=>rfl)))) ?_);refine lZ 4 rfl (F7 (es:=[Aq]) tok rfl rfl rfl rfl rfl rfl rfl rfl rfl) ?_;rintro _ _ ⟨v18,rfl,rfl⟩;refine lZ 10 rfl (B8 (k:=0) tok rfl rfl rfl rfl rfl rfl rfl rfl (eD _) (Dy rfl) (by simp at hb2 ⊢;omega) (by simp [maxLen] at hb2 ⊢;omega)) ?_;rintro _ _ ⟨v24,rfl,rfl⟩;refine Qn 11 rfl (A8 (v:=.row _ _ _) rfl) ?_;refine Ej ?_;refine A5 ?_;refine AW.ghost (GS.unrow 2 rfl) ?_;refine Su ?_;refine ⟨.inr rfl,[.sl _ _],.cons (.tmp _ _ rfl) <| .nil,.cons _ (.refl _),?_⟩;exact Eq.trans rfl (congrArg (AV.sl 6) (evs_2 hc1 hc2 (by omega))).symm
 refine AOL.ghost (GS.row (t:=3) 25 6 rfl) ?_;refine Bs (Qp (Qf Ef) (Qp B7 ?_));refine Qp (Ai (n:=t.kids.length) tok rfl rfl rfl (by simp)) ?_;refine Qp Al (Ae ?_);refine AW.Aas (fun (n:Nat)=>(⟨[(1,.ptr (cSyn t)),(3,.row (.slice none 0 0) 6 []),(4,.int .i64 (n:Int))],.row (.slice none 0 0) 0 25 6::H,45⟩:St)) (fun n=>n≤t.kids.length∧(t.kind=12→n=1)∧(t.kind≠12→n=t.kids.length)) ?_ ?_
 ·
  refine Ad (Qp (Qf Aq) (Qp Bf (Qp Ap (Ae (Ao (fun hc3=>?_) fun hc3=>A7 ?_)))))
  ·
   have h2:=Hz hc (.inr (by simpa using hc3));refine AW.region (Qp Al (Ae ?_));refine ⟨1,?_,Bv⟩;have hk:t.kind=12:=by simpa using hc3
   exact ⟨by omega,fun _=>rfl,fun h=>absurd hk h⟩
  refine ⟨t.kids.length,?_,Bv⟩;have hk:t.kind≠12:=by simpa using hc3
  exact ⟨C6 _,fun h=>absurd h hk,fun _=>rfl⟩
 rintro n ⟨hnl,hn1,hn2⟩;refine Rd (Qp Al (Ae (AW.block ?_)));refine AW.Aam (fun (p:Nat×List (List AV)×Value)=>(⟨[(1,.ptr (cSyn t)),(3,.row p.2.2 6 p.2.1),(4,.int .i64 (n:Int)),(5,.int .i64 (p.1:Int))],.row p.2.2 p.2.1.length 25 6::H,45⟩:St)) (fun p=>p.1≤n∧p.2.1=((t.kids.take p.1).flatMap Hj).map Cr) (fun p=>n-p.1) ((0,[],.slice none 0 0)) ?_ Bv ?_
 · exact ⟨Dh _,rfl⟩
 rintro p hR;refine Rd (Qp Am (Qp Am (Qp Bp (Ae (Ao (fun hc4=>?_) fun hc4=>?_)))))
 ·
  have hltn:p.1<n:=by have:=Gv hc4;omega
  have ha:=List.getElem?_eq_getElem (l:=t.kids) (i:=p.1) (by omega);generalize t.kids[p.1]=a at ha;have hm:=B6 ha;have hsc:∀c∈p.2.1,Bc c=true:=by rw [hR.2];exact eD _
  have hb1:p.2.1.length≤1000000:=by rw [hR.2];exact pV ht _
  have hb2:=fZ (C4 ht hm);refine A7 (AW.seq (AW.block (AW.region (Qp (A0 (v:=.row _ _ _) rfl) (Qp (Qf Ef) (Qp B7 (Qp Am ?_)))))));refine Qp (Aa (c:=Aq) tok rfl rfl rfl rfl rfl rfl (by omega) (Bz ha)) ?_;refine Qp (Bo Aq) ?_;refine Qp (Qc rfl (ih a hm (C4 ht hm) (Mq hc h5 ha (fun h=>by have h12:t.kind=12:=(by have h10:t.kind≠10:=(by simpa using hc2);omega);have:=hn1 h12;omega)))) ?_;refine Qe (B8 (k:=0) tok rfl rfl rfl rfl rfl rfl rfl rfl (eD _) (hsc) (by simp at hb1 hb2 ⊢;omega) (by simp [maxLen] at hb1 hb2 ⊢;omega)) ?_;rintro _ _ ⟨v43,rfl,rfl⟩;refine Qp (A8 (v:=.row _ _ _) rfl) (Rk (AW.region (Qp Am (Qp Dl (Qp Al (Ae ?_))))));refine ⟨(p.1+1,p.2.1++(Hj a).map Cr,v43),?_,?_,Bv⟩
  · exact ⟨hltn,by simp only;rw [C2 ha,hR.2];simp⟩
  simp only;omega
 have hpn:p.1=n:=by have:=If hc4;have:=hR.1;omega
 have hall:=hR.2;rw [hpn] at hall;refine AW.exit ?_;refine Bk (Ri (Ad ?_));refine Qp (A0 (v:=.row _ _ _) rfl) ?_;refine AOL.ghost (GS.unrow 44 rfl) ?_;refine Qp Sr (Rb ?_);refine ⟨.inr rfl,[.sl _ _],.cons (.tmp _ _ rfl) <| .nil,.cons _ (.refl _),?_⟩;exact (congrArg (AV.sl 6) hall).trans (congrArg (fun q:List Syn=>AV.sl 6 (q.map Cr)) (evs_n hc hc1 hc2 hn1 hn2)).symm
theorem n8_flag (x:Bool):An Tryz.prog 260 [.bool x] (.agg (cV ⟨1,if x then 1 else 0,[]⟩)):=by
 refine An.body (n:=6) tok Tryz.func260 rfl rfl rfl fun H=>?_
 refine Ad (Dt [.int .i64 0,.int .i64 0,.str []] fun b2=>Ae (Rd (Qp A9 (Ae (Ao (fun hc1=>Ad (Qp (Du J2) ?_)) fun hc1=>A7 (Ad (Qp (Du J2) ?_)))))))
 ·
  refine Bt 0 J2 (_::_) (Rc ?_);refine ⟨.inr rfl,[.agg J2],.cons (.box _ _ _ 0 _ _ _ _ rfl rfl rfl rfl rfl rfl) <| .nil,.cons _ (.refl _),?_⟩;simp only [Ag,hc1,↓reduceIte,B0];rfl
 refine Bt 0 J2 (_::_) (Rb ?_);refine ⟨.inr rfl,[.agg J2],.cons (.box _ _ _ 0 _ _ _ _ rfl rfl rfl rfl rfl rfl) <| .nil,.cons _ (.refl _),?_⟩;simp only [Ag,hc1,↓reduceIte,B0];rfl
theorem n4_yes  : An Tryz.prog 198 [] (.agg (cE P9)):=by
 refine An.body (n:=3) tok Tryz.func198 rfl rfl rfl fun H=>?_
 refine Ad (Dt oB fun b0=>Bs (Qp (Qc rfl (n8_flag true)) (Qp (Du Ft) ?_)));refine Bt 0 Ft (_::_) (Rb ?_);refine ⟨.inr rfl,[.agg Ft],.cons (.box _ _ _ 0 _ _ _ _ rfl rfl rfl rfl rfl rfl) <| .nil,.cons _ (.refl _),?_⟩;rfl

end Go.Proofs.YtckhoadldibflaaGreatDoor
