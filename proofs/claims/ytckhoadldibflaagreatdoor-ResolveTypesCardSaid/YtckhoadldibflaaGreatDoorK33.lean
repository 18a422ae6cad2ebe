/-
  Several texts in one: V8, V9. No condition.
-/
import Derived.Test.YtckhoadldibflaaGreatDoorK01
import Derived.Test.YtckhoadldibflaaGreatDoorV7
import Derived.KernelRfl
set_option linter.unusedVariables false
set_option linter.unusedSimpArgs false
namespace Go.Proofs.YtckhoadldibflaaGreatDoor
open Go Go.Aw
set_option maxHeartbeats 1600000
set_option maxRecDepth 20000

def lF:List (List AV):=[[.str Nm,.int .i64 6,.fn (.func 281) [] []],[.str Nq,.int .i64 7,.fn (.func 281) [] []],[.str Nn,.int .i64 8,.fn (.func 281) [] []],[.str Ke,.int .i64 9,.fn (.func 282) [] []],[.str Ib,.int .i64 10,.fn (.func 283) [] []],[.str Fr,.int .i64 11,.fn (.func 284) [] []],[.str Ge,.int .i64 12,.fn (.func 286) [] []]]
theorem jM  : Ap Tryz.prog 225 [] (.sl 3 lF):=by
 refine Ap.body (n:=9) tok Tryz.func225 rfl rfl rfl fun H=>?_
 refine Ad ?_
 refine Qp (Bk (z:=3) rfl) ?_
 refine By (Qp (Ea [.str _,Iq _,_]) (Qp (Ea [.str _,Iq _,_]) (Qp (Ea [.str _,Iq _,_]) (Qp (Ea [.str _,Iq _,_]) (Qp (Ea [.str _,Iq _,_]) (Qp (Ea [.str _,Iq _,_]) (Qp (Ea [.str _,Iq _,_]) ?_)))))))
 refine Qp (Am (es:=[[.str _,Iq _,_],[.str _,Iq _,_],[.str _,Iq _,_],[.str _,Iq _,_],[.str _,Iq _,_],[.str _,Iq _,_],[.str _,Iq _,_]]) tok rfl rfl rfl rfl rfl rfl rfl rfl rfl) ?_
 refine Qp U8 (Aa (AW.ret ?_))
 refine Qr (.sl _ _) ?_
 rfl
def Nt (fn:Nat)(E T:PS→Syn×PS)(D:Int)(k:Int):Prop:=∀(st:PS) (bp:Nat) (z:Syn) (bo:Nat) (v:Value) (es:List (List AV)) (he:es=z.kids.map Cl) (hz:z.kids.length≤1000) (R:List HO),okD D st→Bw Tryz.prog fn (.box bp 223 (cP st) :: .box bo 25 (eA z v es) :: .row v es.length 25 6::R) [.val (.pointer (some ⟨bp,0,none⟩)),.val (.pointer (some ⟨bo,0,none⟩))] (fun r H'=>r = .tuple []∧∃v' es',es'=(Fp E T k z st).1.kids.map Cl∧H' = .box bp 223 (cP (Fp E T k z st).2) :: .box bo 25 (eA (Fp E T k z st).1 v' es') :: .row v' es'.length 25 6::R)
theorem Ky (D:Int)(hD:0≤D)(T:PS→Syn×PS)(hFT:Ch T)(hT:∀(st:PS) (bp:Nat),okD D st→Bd Tryz.prog 162 bp 223 (cP st) (cP (T st).2) [.val (.pointer (some ⟨bp,0,none⟩))] (.agg (cSyn (T st).1)))(E:PS→Syn×PS)(k:Int)(h:k≤8):Nt 281 E T D k:=fun st bp z bo v es he hz R hO=>by
 have e:Fp E T k z st=aP T z st:=by unfold Fp;rw [if_pos (decide_eq_true h)]
 rw [e]
 exact iF st bp z bo v es he hz R D hD T hFT hT hO
theorem iA (D:Int)(E T:PS→Syn×PS):Nt 282 E T D 9:=fun st bp z bo v es he hz R hO=>qX st bp z bo v es he hz R
theorem bC (E:PS→Syn×PS)(hFE:Ch E)(hE:∀(st:PS) (bp:Nat),okD 0 st→Bd Tryz.prog 164 bp 223 (cP st) (cP (E st).2) [.val (.pointer (some ⟨bp,0,none⟩))] (.agg (cSyn (E st).1)))(D:Int)(hD:0≤D)(T:PS→Syn×PS):Nt 283 E T D 10:=fun st bp z bo v es he hz R hO=>sB st bp z bo v es he hz R E hFE hE (Uv hD hO)
theorem Zj (D:Int)(E T:PS→Syn×PS):Nt 284 E T D 11:=fun st bp z bo v es he hz R hO=>rD st bp z bo v es he hz R hO.1
theorem bU (E:PS→Syn×PS)(hFE:Ch E)(hE:∀(st:PS) (bp:Nat),okD 0 st→Bd Tryz.prog 164 bp 223 (cP st) (cP (E st).2) [.val (.pointer (some ⟨bp,0,none⟩))] (.agg (cSyn (E st).1)))(D:Int)(hD:0≤D)(T:PS→Syn×PS):Nt 286 E T D 12:=fun st bp z bo v es he hz R hO=>uL st bp z bo v es he hz R E hFE hE (Uv hD hO)
theorem lV (E:PS→Syn×PS)(hFE:Ch E)(hE:∀(st:PS) (bp:Nat),okD 0 st→Bd Tryz.prog 164 bp 223 (cP st) (cP (E st).2) [.val (.pointer (some ⟨bp,0,none⟩))] (.agg (cSyn (E st).1)))(D:Int)(hD:0≤D)(T:PS→Syn×PS)(hFT:Ch T)(hT:∀(st:PS) (bp:Nat),okD D st→Bd Tryz.prog 162 bp 223 (cP st) (cP (T st).2) [.val (.pointer (some ⟨bp,0,none⟩))] (.agg (cSyn (T st).1)))(k:Nat)(hk:k<7):∃(x:Aq×Int) (fn:Nat),vD[k]? = some x∧lF[k]? = some [.str x.1,.int .i64 x.2,.fn (.func fn) [] []]∧Oo Tryz.prog fn=true∧x.1.length≤1048576∧Nt fn E T D x.2:=by
 match k,hk with
 | 0,_=>exact ⟨_,_,rfl,rfl,by kernel_rfl,by decide,Ky D hD T hFT hT E 6 (by decide)⟩
 | 1,_=>exact ⟨_,_,rfl,rfl,by kernel_rfl,by decide,Ky D hD T hFT hT E 7 (by decide)⟩
 | 2,_=>exact ⟨_,_,rfl,rfl,by kernel_rfl,by decide,Ky D hD T hFT hT E 8 (by decide)⟩
 | 3,_=>exact ⟨_,_,rfl,rfl,by kernel_rfl,by decide,iA D E T⟩
 | 4,_=>exact ⟨_,_,rfl,rfl,by kernel_rfl,by decide,bC E hFE hE D hD T⟩
 | 5,_=>exact ⟨_,_,rfl,rfl,by kernel_rfl,by decide,Zj D E T⟩
 | 6,_=>exact ⟨_,_,rfl,rfl,by kernel_rfl,by decide,bU E hFE hE D hD T⟩
def eR (E T:PS→Syn×PS)(k:Int)(z:Syn)(s:PS):Syn×PS:=((Fp E T k { z with kids:=[(T (Cg Eh s)).1] } (T (Cg Eh s)).2).1,Cg H0 (Fp E T k { z with kids:=[(T (Cg Eh s)).1] } (T (Cg Eh s)).2).2)

theorem Z3 (st:PS)(bp:Nat)(z:Syn)(bo:Nat)(R:List HO)(E:PS→Syn×PS)(hFE:Ch E)(hE:∀(st:PS) (bp:Nat),okD 0 st→Bd Tryz.prog 164 bp 223 (cP st) (cP (E st).2) [.val (.pointer (some ⟨bp,0,none⟩))] (.agg (cSyn (E st).1)))(D:Int)(hD:0≤D)(T:PS→Syn×PS)(hFT:Ch T)(hT:∀(st:PS) (bp:Nat),okD (D+1) st→Bd Tryz.prog 162 bp 223 (cP st) (cP (T st).2) [.val (.pointer (some ⟨bp,0,none⟩))] (.agg (cSyn (T st).1)))(w:Aq)(k:Int)(fn:Nat)(hfn:Oo Tryz.prog fn=true)(hr:Nt fn E T (D+1) k)(hO:okD (D+1) st):Bw Tryz.prog 227 (.box bp 223 (cP st) :: .box bo 25 (cSyn z)::R) [.ptr [.val (.pointer (some ⟨bp,0,none⟩))],.val (.pointer (some ⟨bo,0,none⟩)),.ptr [.str w,.int .i64 k,.fn (.func fn) [] []]] (fun r H'=>r = .tuple []∧H' = .box bp 223 (cP (eR E T k z st).2) :: .box bo 25 (cSyn (eR E T k z st).1)::R):=by
 have hS:=hO.1
 have hO1:okD (D+1) (Cg Eh st):=by simpa using hO
 have hO2:=hFT.okD (by omega) hO1
 have hO4:okD (D+1) (Fp E T k { z with kids:=[(T (Cg Eh st)).1] } (T (Cg Eh st)).2).2:=L5 hO2 (Wm hFE hFT k { z with kids:=[(T (Cg Eh st)).1] } (S2 (by omega) hO2))
 refine Bw.body (n:=15) tok Tryz.func227 rfl rfl rfl ?_
 refine AW.ghostPost ?_
 refine Ad (Qp G0 ?_)
 refine Qe (Al (by kernel_rfl) rfl rfl ((C5 _ _ _ (by simpa using hS) (by first | assumption | decide)).at (k:=0) (H2:=_::_::_) rfl rfl)) ?_
 rintro _ _ ⟨rfl,rfl⟩
 refine By (Qp G0 ?_)
 refine Qe (Al (by kernel_rfl) rfl rfl ((hT (Cg Eh st) bp hO1).at (k:=0) (H2:=_::_::_) rfl rfl)) ?_
 rintro _ _ ⟨rfl,rfl⟩
 refine Qe (Fy (es:=[[Iq _,.str _,.str _,Iq _,_,Iq _]]) tok rfl rfl rfl rfl rfl rfl rfl rfl rfl) ?_
 rintro _ _ ⟨v7,rfl,rfl⟩
 refine Qp Cb ?_
 refine B0 2 [Iq _,.str _,.str _,Iq _,_,Iq _] (_::_::_::_) ?_
 refine By (Qp (Qf [_]) ?_)
 refine Qp (De (c:=.fn _ _ _) tok rfl rfl rfl) ?_
 refine Qp G0 ?_
 refine Qe (Hb (hfn) rfl rfl rfl (Bw.front2 (R:=_::_) 2 1 rfl rfl rfl (hr (T (Cg Eh st)).2 bp { z with kids:=[(T (Cg Eh st)).1] } bo _ _ (by rw [List.map_cons,List.map_nil,Bi]) (by simp) _ hO2))) ?_
 rintro _ _ ⟨rfl,v2,e2,rfl,rfl⟩
 have hS:=hO4.1
 refine Aa (AW.region (Qp G0 ?_))
 refine Qe (Al (by kernel_rfl) rfl rfl ((C5 _ _ _ (by simpa using hS) (by first | assumption | decide)).at (k:=0) (H2:=_::_::_::_) rfl rfl)) ?_
 rintro _ _ ⟨rfl,rfl⟩
 refine AOL.nil ?_
 refine ⟨_,GS.cell (H2:=_::_::_::_) 1 4 rfl rfl rfl rfl Hw,.inl rfl,[],.nil,_,.cons_cons _ (.cons_cons _ (.cons _ (.refl _))),?_⟩
 exact ⟨rfl,rfl⟩
theorem Wc (st:PS)(bp:Nat)(E:PS→Syn×PS)(hFE:Ch E)(hE:∀(st:PS) (bp:Nat),okD 0 st→Bd Tryz.prog 164 bp 223 (cP st) (cP (E st).2) [.val (.pointer (some ⟨bp,0,none⟩))] (.agg (cSyn (E st).1)))(D:Int)(hD:0≤D)(T:PS→Syn×PS)(hFT:Ch T)(hT:∀(st:PS) (bp:Nat),okD (D+1) st→Bd Tryz.prog 162 bp 223 (cP st) (cP (T st).2) [.val (.pointer (some ⟨bp,0,none⟩))] (.agg (cSyn (T st).1)))(hO:okD D st):Bd Tryz.prog 162 bp 223 (cP st) (cP ((U9 E T st).2)) [.val (.pointer (some ⟨bp,0,none⟩))] (.agg (cSyn (U9 E T st).1)):=by
 intro H
 have hS:=hO.1
 refine Bw.body (n:=29) tok Tryz.func162 rfl rfl rfl ?_
 refine Ad ?_
 refine Qp (Pn (v:=.val _) (cs:=[_]) rfl rfl rfl) ?_
 refine Qe (An (l:=[.int .i64 0,.str [],.str [],.int .i64 0,.sl 6 [],.int .i64 0]) (by kernel_rfl)) ?_
 rintro _ _ ⟨b2,rfl,rfl⟩
 refine Aa (AW.seq (Ad ?_))
 refine Qp (Qc rfl (jM )) ?_
 refine Qp (Ax (n:=7) tok rfl rfl rfl (rfl)) ?_
 refine Qp A4 (Aa (AW.block ?_))
 refine AW.Aat (fun (k:Nat)=>(⟨[(1,.ptr [.val (.pointer (some ⟨bp,0,none⟩))]),(2,.val (.pointer (some ⟨b2,0,none⟩))),(6,.sl 3 lF),(7,.int .i64 7),(8,.int .i64 (k:Int))],.box b2 25 (cSyn Lc) :: .box bp 223 (cP st)::H,29⟩:St)) (fun (k:Nat)=>k≤7∧∀j y,j<k→vD[j]? = some y→Im y.1 st=false) (fun (k:Nat)=>7-k) (0) ?_ (GS.weaken ⟨rfl,rfl,rfl,rfl,rfl,trivial⟩ (.refl _)) ?_
 · exact ⟨Nat.zero_le _,fun j y hj=>absurd hj (Nat.not_lt_zero _)⟩
 ·
  rintro k hR
  refine Ad (Qp B7 (Aa (AW.seq (Au (fun hc1=>?_) fun hc1=>?_))))
  ·
   try simp only [Bool.not_eq_true',Bool.not_eq_false'] at hc1
   have hk:k<7:=by have:=of_decide_eq_true hc1;omega
   refine (lV E hFE hE (D+1) (by omega) T hFT hT k hk).elim fun x hx0=>hx0.elim fun fn hx3=>?_
   have hx:=hx3.1
   have hx2:=hx3.2.1
   have hfn:=hx3.2.2.1
   have hwx:=hx3.2.2.2.1
   have hrk:=hx3.2.2.2.2
   refine Bl (AW.seq (AW.block (Ad ?_)))
   refine Qp (Ag (c:=[.str x.1,.int .i64 x.2,.fn (.func fn) [] []]) tok rfl rfl rfl rfl rfl rfl (by omega) (hx2)) ?_
   refine Qp (B2 [.str _,Iq _,_]) ?_
   refine Qe (An (l:=[.str [],.int .i64 0,.val .nilFunc]) (by kernel_rfl)) ?_
   rintro _ _ ⟨b4,rfl,rfl⟩
   refine B0 0 [.str _,Iq _,_] (_::_::_::_) ?_
   refine AOL.ghost (GS.freeze (t:=4) 0 rfl rfl) ?_
   refine Aa (AW.seq (Ad (Qp G0 (Qp (Qf [.str _,Iq _,_]) (Qp Df ?_)))))
   refine AOL.Aaq (Ce (k:=1) (by kernel_rfl) rfl rfl (tH _ _ _ (by simpa using hS) (by first | assumption | decide))) rfl rfl ?_
   refine Qp Fz (Aa (Au (fun hc2=>?_) fun hc2=>?_))
   ·
    try simp only [Bool.not_eq_true',Bool.not_eq_false'] at hc2
    refine AW.exit ?_
    refine A7 (Bp (Af (AW.region (Qp Ei (Qp A4 (Aa ?_))))))
    refine ⟨k+1,?_,?_,GS.weaken ⟨rfl,rfl,rfl,rfl,rfl,trivial⟩ (.refl _)⟩
    · exact ⟨hk,fun j y hj hy=>by rcases Nat.lt_succ_iff_lt_or_eq.1 hj with h | rfl;exact hR.2 j y h hy;rw [hx] at hy;cases hy;exact hc2⟩
    · omega
   ·
    try simp only [Bool.not_eq_true',Bool.not_eq_false'] at hc2
    have hfd:vD.find? (fun f=>Im f.1 st)=some x:=Oq hR.2 hx hc2
    refine Bl (AW.seq ?_)
    refine AW.draw mixed (fun H'=>_∈H') (List.mem_of_getElem? (i:=1) rfl) (by kernel_rfl) ?_
    refine Qn 0 rfl (Qf [Iq _,_]) (Qn 1 rfl Bt (Qn 2 rfl G0 ?_))
    refine Qn 3 rfl (OpP.Aas (fun k=>Ce (k:=k) (by kernel_rfl) rfl rfl (If _ _)) (fun _ h=>h)) ?_
    refine Qn 4 rfl (Ea [Iq _,.str _,.str _,Iq _,_,Iq _]) ?_
    refine Hs.eff _ _ 5 _ _ rfl (by kernel_rfl) rfl rfl (An (l:=[.int .i64 0,.str [],.str [],.int .i64 0,.sl 6 [],.int .i64 0]) (by kernel_rfl)) (by rintro _ _ ⟨b5,rfl,rfl⟩;simp) ?_
    rintro _ _ ⟨b5,rfl,rfl⟩
    refine Hs.last _ _ 6 _ _ rfl (by kernel_rfl) rfl rfl (Be (k:=0) (v:=.agg _) (cs':=[Iq _,.str _,.str _,Iq _,_,Iq _]) (H2:=_::_::_::_) tok rfl rfl rfl rfl (rfl) rfl rfl rfl rfl) (by kernel_rfl) ?_
    rintro _ _ ⟨rfl,rfl⟩
    refine Af (Ad (Qp G0 ?_))
    refine Qp (Bv (l:=[]) (l':=[.ptr _,.val _,.ptr _]) rfl rfl) ?_
    refine Qe (Al (by kernel_rfl) rfl rfl (Bw.front2 (R:=_::_) 0 1 rfl rfl rfl (Qj (eR E T x.2) ⟨x.2,[],[],0,[],Ct st⟩ st bp b5 _ 227 (by kernel_rfl) [] [.ptr [.val (.pointer (some ⟨bp,0,none⟩))],.val (.pointer (some ⟨b5,0,none⟩)),.ptr [.str x.1,.int .i64 x.2,.fn (.func fn) [] []]] (Rq hc2) hS (fun hb=>Z3 _ bp ⟨x.2,[],[],0,[],Ct st⟩ b5 _ E hFE hE D hD T hFT hT x.1 x.2 fn hfn hrk (Tl hD hO hb))))) ?_
    rintro _ _ ⟨rfl,rfl⟩
    refine By ?_
    refine AOL.Aaq (A8 (k:=1) (l:=[Iq _,.str _,.str _,Iq _,_,Iq _]) tok rfl rfl rfl rfl rfl) rfl rfl ?_
    refine B0 2 [Iq _,.str _,.str _,Iq _,_,Iq _] (_::_::_::_) ?_
    refine Aa (AW.ret (Ao (Ai (Ai (Ao (Ai ?_))))))
    refine ⟨.inr rfl,[.agg [Iq _,.str _,.str _,Iq _,_,Iq _]],.cons (.box _ _ _ 2 _ _ _ _ rfl rfl rfl rfl rfl rfl) <| .nil,_,.cons_cons _ (.cons _ (.cons _ (.refl _))),?_⟩
    have h9:U9 E T st=Kn (eR E T x.2) ⟨x.2,[],[],0,[],Ct st⟩ st:=by unfold U9;rw [hfd];rfl
    exact ⟨by rw [h9];rfl,congrArg (fun s=>HO.box bp 223 (cP s)::H) (by rw [h9])⟩
  ·
   try simp only [Bool.not_eq_true',Bool.not_eq_false'] at hc1
   have hkn:¬k<7:=by have:=of_decide_eq_false hc1;omega
   have hfd:vD.find? (fun f=>Im f.1 st)=none:=Ty (k:=k) hkn hR.2
   refine AW.exit ?_
   refine A7 (A7 (Bp (Af (Ad (Qp G0 ?_)))))
   refine Qe (Al (by kernel_rfl) rfl rfl ((fE st bp E hFE hE (Uv hD hO)).at (k:=1) (H2:=_::_::_) rfl rfl)) ?_
   rintro _ _ ⟨rfl,rfl⟩
   refine B0 0 [Iq _,.str _,.str _,Iq _,_,Iq _] (_::_::_) ?_
   refine Aa (AW.ret ?_)
   refine ⟨.inr rfl,[.agg [Iq _,.str _,.str _,Iq _,_,Iq _]],.cons (.box _ _ _ 0 _ _ _ _ rfl rfl rfl rfl rfl rfl) <| .nil,_,.cons _ (.refl _),?_⟩
   have h9:U9 E T st=Ip E st:=by unfold U9;rw [hfd]
   exact ⟨by rw [h9];rfl,congrArg (fun s=>HO.box bp 223 (cP s)::H) (by rw [h9])⟩
theorem eJ (E:PS→Syn×PS)(hFE:Ch E)(hE:∀(st:PS) (bp:Nat),okD 0 st→Bd Tryz.prog 164 bp 223 (cP st) (cP (E st).2) [.val (.pointer (some ⟨bp,0,none⟩))] (.agg (cSyn (E st).1))):∀(n:Nat),n≤64→∀(st:PS) (bp:Nat),okD (64-(n:Int)) st→Bd Tryz.prog 162 bp 223 (cP st) (cP (iZ E n st).2) [.val (.pointer (some ⟨bp,0,none⟩))] (.agg (cSyn (iZ E n st).1))
  | 0,_=>fun st bp hO=>Wc st bp E hFE hE 64 (by decide) Do Fc (fun _ _ h=>(Mo h).elim) hO
  | n+1,hn=>fun st bp hO=>by
    have ih:=eJ E hFE hE n (by omega)
    exact Wc st bp E hFE hE (64-((n+1:Nat):Int)) (by omega) (iZ E n) (Qz hFE n) (fun s b h=>ih s b ⟨h.1,by have:=h.2.1;omega,h.2.2⟩) hO
theorem Su:Ch EE:=(Hh 64).2
theorem fI:Ch TT:=Qz Su 64
theorem p_EE (st:PS)(bp:Nat)(h:okD 0 st):Bd Tryz.prog 164 bp 223 (cP st) (cP (EE st).2) [.val (.pointer (some ⟨bp,0,none⟩))] (.agg (cSyn (EE st).1)):=(eN 64 (Nat.le_refl _)).2 st bp h
theorem p_TT (st:PS)(bp:Nat)(h:okD 0 st):Bd Tryz.prog 162 bp 223 (cP st) (cP (TT st).2) [.val (.pointer (some ⟨bp,0,none⟩))] (.agg (cSyn (TT st).1)):=eJ EE Su p_EE 64 (Nat.le_refl _) st bp h

set_option maxHeartbeats 3200000
set_option maxRecDepth 20000

theorem Og (s:Aq):∀(n i:Nat) (b:Aq),b.length≤i→i≤s.length→(Gw s n i b).tok.text.length≤s.length
  | 0,i,b,h1,h2=>by simp [Gw,Lv,Jx]
  | n+1,i,b,h1,h2=>by
    unfold Gw
    split
    · rename_i hi
      simp only [decide_eq_true_eq] at hi
      split
      · split
        · simp [Lv,Jx]
        · simp only [fA];omega
      · split
        · split
          · simp [Lv,Jx]
          · rename_i he
            have hp:=cY (s.drop i)
            rw [List.length_drop] at hp
            have hz:(Io (s.drop i)).2≠0:=by simpa using he
            exact Og s n _ _ (by rw [List.length_append,List.length_singleton];omega) (by omega)
        · split
          · simp [Lv,Jx]
          · exact Og s n _ _ (by rw [List.length_append,List.length_singleton];omega) (by omega)
    · simp [Lv,Jx]
theorem Sc (s:Aq):∀l:List Aq,(∀x∈l,x.length≤2)→(E4 s l).tok.text.length≤2
  | [],_=>by simp [E4,Lv,Jx]
  | x::r,h=>by
    unfold E4
    split
    · exact h x (List.mem_cons_self ..)
    · exact Sc s r fun y hy=>h y (List.mem_cons_of_mem _ hy)
theorem gR (t:Aq)(h0:0<t.length):(Cw t).tok.text.length≤t.length+2:=by
 have hn:(J4 t).tok.text.length≤t.length:=by
  unfold J4
  split
  · simp [tA,Jx]
  ·
   split
   · simp [Lv,Jx]
   · simp only [fA,List.length_take];omega
 have hm:(Fh t).tok.text.length≤t.length:=by
  unfold Fh
  split
  · simp [tA,Jx]
  ·
   split
   · simp [Lv,Jx]
   ·
    split
    · simp [Lv,Jx]
    · simp only [fA,List.length_take];omega
 have hl:(Ix t).tok.text.length≤t.length:=by
  unfold Ix
  split
  · simp [tA,Jx]
  · exact Og t _ 1 [] (Nat.zero_le _) h0
 have hs:=Sc t Zp (by decide)
 unfold Cw
 split
 · omega
 ·
  split
  · omega
  ·
   split
   · omega
   · exact Nat.le_trans hs (by omega)
theorem jP (s:Aq)(hl:s.length≤100000):okT (F3 s).1:=by
  have key:∀(n i:Nat) (out:List Tok),i≤s.length→out.length≤i→(∀t∈out,t.text.length≤s.length+2)→(He s n i out).1.length≤s.length∧∀t∈(He s n i out).1,t.text.length≤s.length+2:=by
    intro n
    induction n with
    | zero=>intro i out h1 h2 h3;exact ⟨Nat.zero_le _,fun t h=>by cases h⟩
    | succ n ih=>
      intro i out h1 h2 h3
      unfold He
      split
      · rename_i hi
        simp only [decide_eq_true_eq] at hi
        have hs:=jE (s.drop i)
        have hn:=fJ (s.drop i) (by rw [List.length_drop];omega)
        have ht:=gR (s.drop i) (by rw [List.length_drop];omega)
        rw [List.length_drop] at hs hn ht
        have hs2:=hs.2 (by omega)
        split
        · exact ih _ _ (by omega) (by omega) h3
        · split
          · exact ⟨Nat.zero_le _,fun t h=>by cases h⟩
          · rename_i h4
            have hp:=hn.2.2.2.2 (by simpa using h4)
            refine ih _ _ (by omega) (by rw [List.length_append,List.length_singleton];omega) fun t h=>?_
            rcases List.mem_append.1 h with h | h
            · exact h3 t h
            · rw [List.mem_singleton] at h;subst h;simp only;omega
      · exact ⟨Nat.le_trans h2 h1,h3⟩
  unfold F3
  split
  · exact ⟨Nat.zero_le _,fun t h=>by cases h⟩
  · have:=key (s.length+1) 0 [] (Nat.zero_le _) (Nat.le_refl _) (fun t h=>by cases h)
    exact ⟨by omega,fun t h=>by have:=this.2 t h;omega⟩
theorem iI (s:Aq)(hl:s.length≤100000):okD 0 (K3 (F3 s).1 s.length):=⟨jP s hl,Int.le_refl _,(by decide:(0:Int)≤64)⟩

theorem sL (x y:Syn):∀c∈[cSyn x,cSyn y],Ba c=true:=by
 intro c hc
 simp only [List.mem_cons,List.not_mem_nil,or_false] at hc
 rcases hc with rfl | rfl <;> rfl
abbrev q1 (st:PS):PS:=Cg Fk st
abbrev q2 (st:PS):Syn×PS:=cK (Dm 0 (q1 st)) (Ct st)
abbrev q3 (T:PS→Syn×PS)(st:PS):Syn×PS:=T (Cg Gd (q2 st).2)
abbrev q4 (T:PS→Syn×PS)(st:PS):PS:=Cg Fw (q3 T st).2
theorem oH {F:PS→Syn×PS}(hF:Ch F){st:PS}(h:okD 0 st):(Pi F st).1.length≤1048600:=by
  have key:∀(n:Nat) (st:PS) (out:List Syn),okD 0 st→out.length≤st.pos+1→out.length≤1048580→(Ht F n st out).1.length≤1048600:=by
    intro n
    induction n with
    | zero=>intro st out _ _ h;exact Nat.le_trans h (by decide)
    | succ n ih=>
      intro st out hO h1 h2
      unfold Ht
      split
      · rename_i hi
        have hlt:=Rq hi
        have hg:=hF.goes (a:=adv st) (S2 (Int.le_refl _) hO)
        have hp:st.pos+1≤(F (adv st)).2.pos:=hg.2.1
        have hml:=hO.1.1
        exact ih _ _ (L5 hO ((H6.adv st).trans hg)) (by rw [List.length_append,List.length_singleton];omega) (by rw [List.length_append,List.length_singleton];omega)
      · exact Nat.le_trans h2 (by decide)
  exact key _ _ _ (L5 h (hF.goes (S2 (Int.le_refl _) h))) (by simp) (by simp)

theorem sG (st:PS)(bp:Nat)(E:PS→Syn×PS)(hFE:Ch E)(hE:∀(st:PS) (bp:Nat),okD 0 st→Bd Tryz.prog 164 bp 223 (cP st) (cP (E st).2) [.val (.pointer (some ⟨bp,0,none⟩))] (.agg (cSyn (E st).1)))(T:PS→Syn×PS)(hFT:Ch T)(hT:∀(st:PS) (bp:Nat),okD 0 st→Bd Tryz.prog 162 bp 223 (cP st) (cP (T st).2) [.val (.pointer (some ⟨bp,0,none⟩))] (.agg (cSyn (T st).1)))(hO:okD 0 st):Bd Tryz.prog 91 bp 223 (cP st) (cP ((F9 E T st).2)) [.val (.pointer (some ⟨bp,0,none⟩))] (.agg (cSyn (F9 E T st).1)):=by
 intro H
 have hS:=hO.1
 have hO2:okD 0 (q2 st).2:=L5 (a:=Dm 0 (q1 st)) (by simpa using hO) (Z5 _ _)
 have hO3:okD 0 (q3 T st).2:=hFT.okD (Int.le_refl _) (by simpa using hO2)
 have hO4:okD 0 (q4 T st):=by simpa using hO3
 have hO5:=L5 hO4 (Wx hFE (S2 (Int.le_refl _) hO4))
 have hll:=oH hFE hO4
 refine Bw.body (n:=44) tok Tryz.func91 rfl rfl rfl ?_
 refine Ad ?_
 refine Qe (An (l:=[.int .i64 0,.str [],.str [],.int .i64 0,.sl 6 [],.int .i64 0]) (by kernel_rfl)) ?_
 rintro _ _ ⟨b2,rfl,rfl⟩
 refine By (Qp Br ?_)
 refine AOL.Aaq (Ce (k:=1) (by kernel_rfl) rfl rfl (If _ _)) rfl rfl ?_
 refine Qp (Ea [Iq _,.str _,.str _,Iq _,_,Iq _]) ?_
 refine Qe (An (l:=[.int .i64 0,.str [],.str [],.int .i64 0,.sl 6 [],.int .i64 0]) (by kernel_rfl)) ?_
 rintro _ _ ⟨b3,rfl,rfl⟩
 refine B0 0 [Iq _,.str _,.str _,Iq _,_,Iq _] (_::_::_::_) ?_
 refine By (Qp Br ?_)
 refine Qe (Al (by kernel_rfl) rfl rfl ((C5 _ _ _ (by simpa using hS) (by first | assumption | decide)).at (k:=2) (H2:=_::_::_::_) rfl rfl)) ?_
 rintro _ _ ⟨rfl,rfl⟩
 refine By (Qp Br ?_)
 refine Qe (Al (by kernel_rfl) rfl rfl ((Lb _ _ (by simpa using hS)).at (k:=2) (H2:=_::_::_::_) rfl rfl)) ?_
 rintro _ _ ⟨rfl,rfl⟩
 refine Qp Cb ?_
 refine B0 0 [Iq _,.str _,.str _,Iq _,_,Iq _] (_::_::_::_) ?_
 refine By (Qp Cb ?_)
 refine AOL.Aaq (Aj (k:=0) (c:=Iq _) tok rfl rfl rfl rfl) rfl rfl ?_
 refine Qp (Ea [Iq _,.str _,.str _,Iq _,_,Iq _]) ?_
 refine Qe (An (l:=[.int .i64 0,.str [],.str [],.int .i64 0,.sl 6 [],.int .i64 0]) (by kernel_rfl)) ?_
 rintro _ _ ⟨b4,rfl,rfl⟩
 refine B0 0 [Iq _,.str _,.str _,Iq _,_,Iq _] (_::_::_::_::_) ?_
 refine Aa ?_
 refine AW.Aaw (fun (k:Syn×PS)=>(⟨[(0,.val (.pointer (some ⟨bp,0,none⟩))),(2,.val (.pointer (some ⟨b2,0,none⟩))),(3,.val (.pointer (some ⟨b3,0,none⟩))),(4,.val (.pointer (some ⟨b4,0,none⟩)))],.box b4 25 (cSyn k.1) :: .box b3 25 [.int .i64 3,.str (Fv 0 (q1 st)),.str [],.int .i64 0,.sl 6 [],.int .i64 (Ct st)] :: .box b2 25 (cSyn Lc) :: .box bp 223 (cP k.2)::H,44⟩:St)) (fun (k:Syn×PS)=>k=q2 st) ?_ ?_
 ·
  refine Ad (Qp Br ?_)
  refine Qe (Al (by kernel_rfl) rfl rfl ((C8 _ _ _ (by simpa using hS) (by first | assumption | decide)).at (k:=3) (H2:=_::_::_::_::_) rfl rfl)) ?_
  rintro _ _ ⟨rfl,rfl⟩
  refine Aa (Au (fun hc1=>?_) fun hc1=>?_)
  ·
   try simp only [Bool.not_eq_true',Bool.not_eq_false'] at hc1
   refine AW.ghost (GS.Aau (H2:=_::_::_::_::_) 3 rfl (congrArg cP (D4 hc1)) rfl) ?_
   refine Ad (Qp Br ?_)
   refine AOL.Aaq (Ce (k:=3) (by kernel_rfl) rfl rfl (If _ _)) rfl rfl ?_
   refine Qp Cb ?_
   refine B0 0 [Iq _,.str _,.str _,Iq _,_,Iq _] (_::_::_::_::_) ?_
   refine Aa (AW.region (Qp Br ?_))
   refine Qe (Al (by kernel_rfl) rfl rfl ((Lb _ _ (by simpa using hS)).at (k:=3) (H2:=_::_::_::_::_) rfl rfl)) ?_
   rintro _ _ ⟨rfl,rfl⟩
   refine Qp Cb ?_
   refine B0 0 [Iq _,.str _,.str _,Iq _,_,Iq _] (_::_::_::_::_) ?_
   refine Aa ?_
   refine ⟨(⟨4,Fv 0 (adv (Dm 0 (q1 st))),[],0,[],Ct (adv (Dm 0 (q1 st)))⟩,Dm 0 (adv (Dm 0 (q1 st)))),?_,GS.weaken ⟨rfl,rfl,rfl,rfl,trivial⟩ (.refl _)⟩
   exact (by unfold q2 cK;rw [if_pos (show Im T7 (Dm 0 (q1 st))=true from hc1)])
  ·
   try simp only [Bool.not_eq_true',Bool.not_eq_false'] at hc1
   refine AW.ghost (GS.Aau (H2:=_::_::_::_::_) 3 rfl (congrArg cP (Ey hc1)) rfl) ?_
   refine Bl ?_
   refine ⟨(⟨4,[],[],0,[],Ct st⟩,Dm 0 (q1 st)),?_,GS.weaken ⟨rfl,rfl,rfl,rfl,trivial⟩ (.refl _)⟩
   exact (by unfold q2 cK;rw [if_neg (Bool.eq_false_iff.mp (show Im T7 (Dm 0 (q1 st))=false from hc1))])
 ·
  rintro k rfl
  have hS:=hO2.1
  refine Ad (Qp Br ?_)
  refine Qe (Al (by kernel_rfl) rfl rfl ((C5 _ _ _ (by simpa using hS) (by first | assumption | decide)).at (k:=3) (H2:=_::_::_::_::_) rfl rfl)) ?_
  rintro _ _ ⟨rfl,rfl⟩
  refine Aa (AW.seq ?_)
  refine AW.draw mixed (fun H'=>_∈H') (List.mem_of_getElem? (i:=0) rfl) (by kernel_rfl) ?_
  refine Qn 0 rfl (OpP.Aas (fun k=>A8 (k:=k) (l:=[Iq _,.str _,.str _,Iq _,_,Iq _]) tok rfl rfl rfl rfl rfl) (fun _ h=>h)) ?_
  refine Qn 1 rfl Br ?_
  refine Hs.eff _ _ 2 _ _ rfl (by kernel_rfl) rfl rfl (Al (by kernel_rfl) rfl rfl ((hT (Cg Gd (q2 st).2) bp (by simpa using hO2)).at (k:=3) (H2:=_::_::_::_::_) rfl rfl)) (by rintro _ _ ⟨rfl,rfl⟩;simp) ?_
  rintro _ _ ⟨rfl,rfl⟩
  have hS:=hO3.1
  refine Hs.eff _ _ 3 _ _ rfl (by kernel_rfl) rfl rfl (Fy (es:=[[Iq _,.str _,.str _,Iq _,_,Iq _],[Iq _,.str _,.str _,Iq _,_,Iq _]]) tok rfl rfl rfl rfl rfl rfl rfl rfl rfl) (by rintro _ _ ⟨v29,rfl,rfl⟩;simp) ?_
  rintro _ _ ⟨v29,rfl,rfl⟩
  refine Qn 4 rfl Cb ?_
  refine Hs.last _ _ 5 _ _ rfl (by kernel_rfl) rfl rfl (Be (k:=2) (v:=.row _ _ _) (cs':=[Iq _,.str _,.str _,Iq _,_,Iq _]) (H2:=_::_::_::_::_::_) tok rfl rfl rfl rfl (rfl) rfl rfl rfl rfl) (by kernel_rfl) ?_
  rintro _ _ ⟨rfl,rfl⟩
  refine Af (Ad (Qp Br ?_))
  refine Qe (Al (by kernel_rfl) rfl rfl ((C5 _ _ _ (by simpa using hS) (by first | assumption | decide)).at (k:=4) (H2:=_::_::_::_::_::_) rfl rfl)) ?_
  rintro _ _ ⟨rfl,rfl⟩
  refine Aa (AW.seq ?_)
  refine AW.draw mixed (fun H'=>_∈H') (List.mem_of_getElem? (i:=2) rfl) (by kernel_rfl) ?_
  refine Qn 0 rfl Cb ?_
  refine Qn 1 rfl (OpP.Aas (fun k=>Aj (k:=k) (c:=.row _ _ _) tok rfl rfl rfl rfl) (fun _ h=>h)) ?_
  refine Qn 2 rfl Br (Qn 3 rfl Br ?_)
  refine Qn 4 rfl (Bv (l:=[.val _]) (l':=[]) rfl rfl) ?_
  refine Hs.eff _ _ 5 _ _ rfl (by kernel_rfl) rfl rfl (Al (by kernel_rfl) rfl rfl ((yE (q4 T st) bp 0 (by decide) 164 (by kernel_rfl) [.val (.pointer (some ⟨bp,0,none⟩))] [] E hFE (fun s ho=>hE s bp ho) hO4).at (k:=4) (H2:=_::_::_::_::_::_) rfl rfl)) (by rintro _ _ ⟨rfl,rfl⟩;simp) ?_
  rintro _ _ ⟨rfl,rfl⟩
  have hS:=hO5.1
  refine Hs.eff _ _ 6 _ _ rfl (by kernel_rfl) rfl rfl (Ci (k:=0) tok rfl rfl rfl rfl rfl rfl rfl rfl (Qh _) (sL _ _) (by simp;omega) (by simp [maxLen];omega)) (by rintro _ _ ⟨v39,rfl,rfl⟩;simp) ?_
  rintro _ _ ⟨v39,rfl,rfl⟩
  refine Qn 7 rfl Cb ?_
  refine Hs.last _ _ 8 _ _ rfl (by kernel_rfl) rfl rfl (Be (k:=2) (v:=.row _ _ _) (cs':=[Iq _,.str _,.str _,Iq _,_,Iq _]) (H2:=_::_::_::_::_::_) tok rfl rfl rfl rfl (rfl) rfl rfl rfl rfl) (by kernel_rfl) ?_
  rintro _ _ ⟨rfl,rfl⟩
  refine Af (Ad (Qp Br ?_))
  refine Qe (Al (by kernel_rfl) rfl rfl ((C5 _ _ _ (by simpa using hS) (by first | assumption | decide)).at (k:=4) (H2:=_::_::_::_::_::_) rfl rfl)) ?_
  rintro _ _ ⟨rfl,rfl⟩
  refine By ?_
  refine AOL.ghost (GS.cell (H2:=_::_::_::_::_::_) 2 4 rfl rfl rfl rfl Hw) ?_
  refine AOL.Aaq (A8 (k:=2) (l:=[Iq _,.str _,.str _,Iq _,_,Iq _]) tok rfl rfl rfl rfl rfl) rfl rfl ?_
  refine B0 3 [Iq _,.str _,.str _,Iq _,_,Iq _] (_::_::_::_::_::_) ?_
  refine Aa (AW.ret ?_)
  refine ⟨.inr rfl,[.agg [Iq _,.str _,.str _,Iq _,_,Iq _]],.cons (.box _ _ _ 3 _ _ _ _ rfl rfl rfl rfl rfl rfl) <| .nil,_,.cons _ (.cons _ (.cons _ (.cons _ (.refl _)))),?_⟩
  exact ⟨congrArg (fun l=>AV.agg [.int .i64 3,.str (Fv 0 (q1 st)),.str [],.int .i64 0,.sl 6 l,.int .i64 (Ct st)]) (by unfold F9;simp only [List.map_append,List.map_cons,List.map_nil,Bi]),rfl⟩

end Go.Proofs.YtckhoadldibflaaGreatDoor
