/-
  Walks of the parser: nesting. No condition.
-/
import Derived.Test.YtckhoadldibflaaGreatDoorK01
import Derived.Test.YtckhoadldibflaaGreatDoorK29
import Derived.KernelRfl
namespace Go.Proofs.YtckhoadldibflaaGreatDoor
open Go Go.Aw
set_option maxHeartbeats 3200000
set_option maxRecDepth 20000
set_option linter.unusedVariables false
set_option linter.unusedSimpArgs false

theorem aC (read:Syn→PS→Syn×PS)(z:Syn)(st:PS):Kn read z st=if ((Gx st).bad != 0) then (z,Gx st) else ((read z (adv (Hu st))).1,Id (read z (adv (Hu st))).2):=rfl
theorem Qj (read:Syn→PS→Syn×PS)(z:Syn)(st:PS)(bp bo:Nat)(R:List HO)(f:Nat)(hf:Oo Tryz.prog f=true)(first cap:List AV)(hlt:st.pos<st.toks.length)(hS:Ly st)
  (hcl:(Gx st).bad=0→Bw Tryz.prog f (.box bp 223 (cP (adv (Hu st))) :: .box bo 25 (cSyn z)::R) (first ++ []++cap) (fun r H'=>r = .tuple []∧H' = .box bp 223 (cP (read z (adv (Hu st))).2) :: .box bo 25 (cSyn (read z (adv (Hu st))).1)::R)) :
  Bw Tryz.prog 226 (.box bp 223 (cP st) :: .box bo 25 (cSyn z)::R) [.val (.pointer (some ⟨bp,0,none⟩)),.fn (.func f) first cap] (fun r H'=>r = .tuple []∧H' = .box bp 223 (cP (Kn read z st).2) :: .box bo 25 (cSyn (Kn read z st).1)::R):=by
 refine oT st (read z (adv (Hu st))).2 (Kn read z st).2 bp (.box bo 25 (cSyn z)::R) (.box bo 25 (cSyn (Kn read z st).1)::R) f hf first cap hlt hS (fun hb=>?_) (fun hb=>?_)
 ·
  have e:Kn read z st=((read z (adv (Hu st))).1,Id (read z (adv (Hu st))).2):=by rw [aC,hb];rfl
  refine Bw.mono' (hcl hb) fun r K hk=>⟨?_,by rw [e]⟩
  rw [hk.2,e]
 ·
  have e:Kn read z st=(z,Gx st):=by rw [aC,if_pos (by simpa using hb)]
  rw [e]
  exact ⟨rfl,rfl⟩
theorem Tl {D:Int}{st:PS}(hD:0≤D)(h:okD D st)(hb:(Gx st).bad=0):okD (D+1) (adv (Hu st)):=by
 obtain ⟨h1,h2,h3⟩:=h
 have hd:¬64≤st.depth:=fun hd=>by
  unfold Gx at hb
  rw [if_pos (decide_eq_true hd)] at hb
  exact absurd (S5 (e:=12) (by decide) st) (by simp [hb])
 have e1:(Hu st).depth=st.depth+1:=X7 (by omega) (by omega)
 exact ⟨h1,show D+1≤(Hu st).depth by omega,show (Hu st).depth≤64 by omega⟩
theorem qW (k:Nat)(h:k<4):∃s,totL[k]? = some s∧(Gv.drop (k*2)).take 2 = [AV.str s.1,.int .i64 s.2]∧s.1.length≤1048576:=by
 match k,h with
 | 0,_=>exact ⟨_,rfl,rfl,by decide⟩
 | 1,_=>exact ⟨_,rfl,rfl,by decide⟩
 | 2,_=>exact ⟨_,rfl,rfl,by decide⟩
 | 3,_=>exact ⟨_,rfl,rfl,by decide⟩

theorem kE (st:PS)(bp:Nat)(z:Syn)(bo:Nat)(R:List HO)(D:Int)(hD:0≤D)(E:PS→Syn×PS)(hFE:Ch E)(hE:∀(st:PS) (bp:Nat),okD (D+1) st→Bd Tryz.prog 164 bp 223 (cP st) (cP (E st).2) [.val (.pointer (some ⟨bp,0,none⟩))] (.agg (cSyn (E st).1)))(hO:okD (D+1) st):Bw Tryz.prog 328 (.box bp 223 (cP st) :: .box bo 25 (cSyn z)::R) [.ptr [.val (.pointer (some ⟨bp,0,none⟩))],.val (.pointer (some ⟨bo,0,none⟩))] (fun r H'=>r = .tuple []∧H' = .box bp 223 (cP (Cg H0 (E st).2)) :: .box bo 25 (cSyn (E st).1)::R):=by
 have hS:=((hFE.okD (by omega) hO).1)
 refine Bw.body (n:=6) tok Tryz.func328 rfl rfl rfl ?_
 refine Ad (Qp G0 ?_)
 refine Qe (Al (by kernel_rfl) rfl rfl ((hE st bp hO).at (k:=0) (H2:=_::_::_) rfl rfl)) ?_
 rintro _ _ ⟨rfl,rfl⟩
 refine B0 1 [Iq _,.str _,.str _,Iq _,_,Iq _] (_::_::_) ?_
 refine Aa (AW.region (Qp G0 ?_))
 refine Qe (Al (by kernel_rfl) rfl rfl ((C5 _ _ _ (by simpa using hS) (by first | assumption | decide)).at (k:=0) (H2:=_::_::_) rfl rfl)) ?_
 rintro _ _ ⟨rfl,rfl⟩
 refine AOL.nil ?_
 refine ⟨.inl rfl,[],.nil,_,.refl _,?_⟩
 exact ⟨rfl,rfl⟩
theorem Ty {α:Type}{p:α→Bool}{l:List α}{k:Nat}(hk:¬k<l.length)(hn:∀j y,j<k→l[j]? = some y→p y=false):l.find? p=none:=
 Wp fun j y hj hy=>hn j y (by omega) hy

theorem xZ (st:PS)(bp:Nat)(D:Int)(hD:0≤D)(E:PS→Syn×PS)(hFE:Ch E)(hE:∀(st:PS) (bp:Nat),okD (D+1) st→Bd Tryz.prog 164 bp 223 (cP st) (cP (E st).2) [.val (.pointer (some ⟨bp,0,none⟩))] (.agg (cSyn (E st).1)))(hO:okD D st):Bd Tryz.prog 322 bp 223 (cP st) (cP ((G3 E st).2)) [.val (.pointer (some ⟨bp,0,none⟩))] (.agg (cSyn (G3 E st).1)):=by
 intro H
 have hS:=hO.1
 refine Bw.body (n:=83) tok Tryz.func322 rfl rfl rfl ?_
 refine Ad ?_
 refine Qp (Pn (v:=.val _) (cs:=[_]) rfl rfl rfl) ?_
 refine Qe (An (l:=[.int .i64 0,.str [],.str [],.int .i64 0,.sl 6 [],.int .i64 0]) (by kernel_rfl)) ?_
 rintro _ _ ⟨b2,rfl,rfl⟩
 refine By (Qp G0 ?_)
 refine AOL.Aaq (Ce (k:=1) (by kernel_rfl) rfl rfl (If _ _)) rfl rfl ?_
 refine Qp A0 (Aa (AW.seq (Ad (Qp G0 ?_))))
 refine AOL.Aaq (Ce (k:=1) (by kernel_rfl) rfl rfl (tH _ _ _ (by simpa using hS) (by first | assumption | decide))) rfl rfl ?_
 refine Aa (Au (fun hc1=>?_) fun hc1=>?_)
 ·
  try simp only [Bool.not_eq_true',Bool.not_eq_false'] at hc1
  refine Ad ?_
  refine Qe (An (l:=[.int .i64 0,.str [],.str [],.int .i64 0,.sl 6 [],.int .i64 0]) (by kernel_rfl)) ?_
  rintro _ _ ⟨b4,rfl,rfl⟩
  refine By (Qp G0 ?_)
  refine Qp (Bv (l:=[]) (l':=[.ptr _,.val _]) rfl rfl) ?_
  refine Qe (Al (by kernel_rfl) rfl rfl (Bw.front2 (R:=_::_) 0 1 rfl rfl rfl (Qj (fun _ s=>((E s).1,Cg H0 (E s).2)) Lc st bp b4 _ 328 (by kernel_rfl) [] [.ptr [.val (.pointer (some ⟨bp,0,none⟩))],.val (.pointer (some ⟨b4,0,none⟩))] (Rq hc1) hS (fun hb=>kE _ bp Lc b4 _ D hD E hFE hE (Tl hD hO hb))))) ?_
  rintro _ _ ⟨rfl,rfl⟩
  refine By ?_
  refine AOL.Aaq (A8 (k:=1) (l:=[Iq _,.str _,.str _,Iq _,_,Iq _]) tok rfl rfl rfl rfl rfl) rfl rfl ?_
  refine B0 2 [Iq _,.str _,.str _,Iq _,_,Iq _] (_::_::_::_) ?_
  refine Aa (Cx ?_)
  refine ⟨.inr rfl,[.agg [Iq _,.str _,.str _,Iq _,_,Iq _]],.cons (.box _ _ _ 2 _ _ _ _ rfl rfl rfl rfl rfl rfl) <| .nil,_,.cons_cons _ (.cons _ (.cons _ (.refl _))),?_⟩
  refine ⟨?_,congrArg (fun c=>HO.box bp 223 c::H) ?_⟩
  ·
   try simp only [Ae,G3,cSyn,List.map_cons,List.map_nil,Bi,hc1,↓reduceIte,Bool.false_eq_true,Bool.not_true,Bool.not_false]
   try rfl
  ·
   try simp only [cP,G3,hc1,↓reduceIte,Bool.false_eq_true,Bool.not_true,Bool.not_false]
   try rfl
 ·
  try simp only [Bool.not_eq_true',Bool.not_eq_false'] at hc1
  refine Bl (AW.seq (Ad ?_))
  refine Qp (Rn (l:=Gv) tok (⟨_,by simp [globals],fun _ h=>h⟩) rfl rfl rfl rfl) ?_
  refine Qp A4 (Aa (AW.block ?_))
  refine AW.Aat (fun (k:Nat)=>(⟨[(1,.ptr [.val (.pointer (some ⟨bp,0,none⟩))]),(2,.val (.pointer (some ⟨b2,0,none⟩))),(3,.int .i64 (Ct st)),(19,.agg Gv),(20,.int .i64 (k:Int))],.box b2 25 (cSyn Lc) :: .box bp 223 (cP st)::H,83⟩:St)) (fun (k:Nat)=>k≤4∧∀j y,j<k→totL[j]? = some y→Im y.1 st=false) (fun (k:Nat)=>4-k) (0) ?_ (GS.weaken ⟨rfl,rfl,rfl,rfl,rfl,trivial⟩ (.refl _)) ?_
  · exact ⟨Nat.zero_le _,fun j y hj=>absurd hj (Nat.not_lt_zero _)⟩
  ·
   rintro k hR
   refine Ad (Qp B7 (Aa (AW.seq (Au (fun hc2=>?_) fun hc2=>?_))))
   ·
    try simp only [Bool.not_eq_true',Bool.not_eq_false'] at hc2
    have hk:k<4:=by have:=of_decide_eq_true hc2;omega
    refine (qW k hk).elim fun x hx3=>?_
    have hx:=hx3.1
    have hx2:=hx3.2.1
    have hwx:=hx3.2.2
    refine Bl (AW.seq (AW.block (Ad ?_)))
    refine Qp (X6 (l:=[.str x.1,.int .i64 x.2]) tok rfl rfl rfl rfl rfl rfl (by omega) (by omega) (by show k*2+2≤8;omega) (hx2)) ?_
    refine Qe (An (l:=[.str [],.int .i64 0]) (by kernel_rfl)) ?_
    rintro _ _ ⟨b6,rfl,rfl⟩
    refine B0 0 [.str _,Iq _] (_::_::_::_) ?_
    refine AOL.ghost (GS.freeze (t:=6) 0 rfl rfl) ?_
    refine By (Qp G0 (Qp (Qf [.str _,Iq _]) (Qp Df ?_)))
    refine Qe (Al (by kernel_rfl) rfl rfl ((C8 _ _ _ (by simpa using hS) (by first | assumption | decide)).at (k:=1) (H2:=_::_::_) rfl rfl)) ?_
    rintro _ _ ⟨rfl,rfl⟩
    refine Aa (Au (fun hc3=>?_) fun hc3=>?_)
    ·
     try simp only [Bool.not_eq_true',Bool.not_eq_false'] at hc3
     have hfd:totL.find? (fun s=>Im s.1 st)=some x:=Oq hR.2 hx hc3
     refine AW.ghost (GS.Aau (H2:=_::_::_) 1 rfl (congrArg cP (D4 hc3)) rfl) ?_
     refine Ad (Qp (Qf [Iq _]) (Qp Bt (Qp A4 (Qp (Ea [Iq _,.str _,.str _,Iq _,_,Iq _]) ?_))))
     refine Qe (An (l:=[.int .i64 0,.str [],.str [],.int .i64 0,.sl 6 [],.int .i64 0]) (by kernel_rfl)) ?_
     rintro _ _ ⟨b7,rfl,rfl⟩
     refine B0 0 [Iq _,.str _,.str _,Iq _,_,Iq _] (_::_::_::_) ?_
     refine By (Qp G0 ?_)
     refine Qe (Al (by kernel_rfl) rfl rfl (Bw.front2 (R:=_::_) 0 1 rfl rfl rfl (Zq (adv st) bp (⟨16,[],[],x.2,[],Ct st⟩) b7 (by simpa using hS) _))) ?_
     rintro _ _ ⟨rfl,rfl⟩
     refine By (Qp G0 ?_)
     refine Qe (Al (by kernel_rfl) rfl rfl ((C5 _ _ _ (by simpa using hS) (by first | assumption | decide)).at (k:=0) (H2:=_::_::_::_) rfl rfl)) ?_
     rintro _ _ ⟨rfl,rfl⟩
     refine By (Qp G0 ?_)
     refine Qe (Al (by kernel_rfl) rfl rfl ((S6 _ _ (by simpa using hS)).at (k:=0) (H2:=_::_::_::_) rfl rfl)) ?_
     rintro _ _ ⟨rfl,rfl⟩
     refine Qp (Am (es:=[[Iq _,.str _,.str _,Iq _,_,Iq _]]) tok rfl rfl rfl rfl rfl rfl rfl rfl rfl) ?_
     refine Qp Cb ?_
     refine B0 1 [Iq _,.str _,.str _,Iq _,_,Iq _] (_::_::_::_) ?_
     refine By (Qp G0 ?_)
     refine Qe (Al (by kernel_rfl) rfl rfl ((C5 _ _ _ (by simpa using hS) (by first | assumption | decide)).at (k:=0) (H2:=_::_::_::_) rfl rfl)) ?_
     rintro _ _ ⟨rfl,rfl⟩
     refine By ?_
     refine AOL.Aaq (A8 (k:=1) (l:=[Iq _,.str _,.str _,Iq _,_,Iq _]) tok rfl rfl rfl rfl rfl) rfl rfl ?_
     refine B0 2 [Iq _,.str _,.str _,Iq _,_,Iq _] (_::_::_::_) ?_
     refine Aa (AW.ret (Ao (Ai (Ai (Ao (Ai ?_))))))
     refine ⟨.inr rfl,[.agg [Iq _,.str _,.str _,Iq _,_,Iq _]],.cons (.box _ _ _ 2 _ _ _ _ rfl rfl rfl rfl rfl rfl) <| .nil,_,.cons_cons _ (.cons _ (.cons _ (.refl _))),?_⟩
     refine ⟨?_,congrArg (fun c=>HO.box bp 223 c::H) ?_⟩
     ·
      try simp only [Ae,G3,hfd,cSyn,List.map_cons,List.map_nil,Bi,hc1,hc2,hc3,↓reduceIte,Bool.false_eq_true,Bool.not_true,Bool.not_false]
      try rfl
     ·
      try simp only [cP,G3,hfd,hc1,hc2,hc3,↓reduceIte,Bool.false_eq_true,Bool.not_true,Bool.not_false]
      try rfl
    ·
     try simp only [Bool.not_eq_true',Bool.not_eq_false'] at hc3
     refine AW.ghost (GS.Aau (H2:=_::_::_) 1 rfl (congrArg cP (Ey hc3)) rfl) ?_
     refine AW.skip (Bc (Af (AW.region (Qp Ei (Qp A4 (Aa ?_))))))
     refine ⟨k+1,?_,?_,GS.weaken ⟨rfl,rfl,rfl,rfl,rfl,trivial⟩ (.refl _)⟩
     · exact ⟨hk,fun j y hj hy=>by rcases Nat.lt_succ_iff_lt_or_eq.1 hj with h | rfl;exact hR.2 j y h hy;rw [hx] at hy;cases hy;exact hc3⟩
     · omega
   ·
    try simp only [Bool.not_eq_true',Bool.not_eq_false'] at hc2
    have hkn:¬k<4:=by have:=of_decide_eq_false hc2;omega
    have hfd:totL.find? (fun s=>Im s.1 st)=none:=Ty (k:=k) hkn hR.2
    refine AW.exit ?_
    refine A7 (A7 (Bp (Af (AW.seq (AW.block (Ad (Qp G0 ?_)))))))
    refine Qe (Al (by kernel_rfl) rfl rfl ((C8 _ _ _ (by simpa using hS) (by first | assumption | decide)).at (k:=1) (H2:=_::_::_) rfl rfl)) ?_
    rintro _ _ ⟨rfl,rfl⟩
    refine Qp A3 (Aa (Au (fun hc4=>?_) fun hc4=>?_))
    ·
     try simp only [Bool.not_eq_true',Bool.not_eq_false'] at hc4
     refine AW.ghost (GS.Aau (H2:=_::_::_) 1 rfl (congrArg cP (D4 hc4)) rfl) ?_
     refine Ad (Qp A4 (Qp (Ea [Iq _,.str _,.str _,Iq _,_,Iq _]) ?_))
     refine Qe (An (l:=[.int .i64 0,.str [],.str [],.int .i64 0,.sl 6 [],.int .i64 0]) (by kernel_rfl)) ?_
     rintro _ _ ⟨b8,rfl,rfl⟩
     refine B0 0 [Iq _,.str _,.str _,Iq _,_,Iq _] (_::_::_::_) ?_
     refine By (Qp G0 ?_)
     refine Qe (Al (by kernel_rfl) rfl rfl (Bw.front2 (R:=_::_) 0 1 rfl rfl rfl (Zq (adv st) bp (⟨16,[],[],1,[],Ct st⟩) b8 (by simpa using hS) _))) ?_
     rintro _ _ ⟨rfl,rfl⟩
     refine By (Qp G0 ?_)
     refine Qe (Al (by kernel_rfl) rfl rfl ((C5 _ _ _ (by simpa using hS) (by first | assumption | decide)).at (k:=0) (H2:=_::_::_::_) rfl rfl)) ?_
     rintro _ _ ⟨rfl,rfl⟩
     refine By ?_
     refine AOL.Aaq (A8 (k:=1) (l:=[Iq _,.str _,.str _,Iq _,_,Iq _]) tok rfl rfl rfl rfl rfl) rfl rfl ?_
     refine B0 2 [Iq _,.str _,.str _,Iq _,_,Iq _] (_::_::_::_) ?_
     refine Aa (AW.ret (Ao (Ai ?_)))
     refine ⟨.inr rfl,[.agg [Iq _,.str _,.str _,Iq _,_,Iq _]],.cons (.box _ _ _ 2 _ _ _ _ rfl rfl rfl rfl rfl rfl) <| .nil,_,.cons_cons _ (.cons _ (.cons _ (.refl _))),?_⟩
     refine ⟨?_,congrArg (fun c=>HO.box bp 223 c::H) ?_⟩
     ·
      try simp only [Ae,G3,hfd,cSyn,List.map_cons,List.map_nil,Bi,hc1,hc2,hc4,↓reduceIte,Bool.false_eq_true,Bool.not_true,Bool.not_false]
      try rfl
     ·
      try simp only [cP,G3,hfd,hc1,hc2,hc4,↓reduceIte,Bool.false_eq_true,Bool.not_true,Bool.not_false]
      try rfl
    ·
     try simp only [Bool.not_eq_true',Bool.not_eq_false'] at hc4
     refine AW.ghost (GS.Aau (H2:=_::_::_) 1 rfl (congrArg cP (Ey hc4)) rfl) ?_
     refine Ad (Qp G0 ?_)
     refine Qe (Al (by kernel_rfl) rfl rfl ((C8 _ _ _ (by simpa using hS) (by first | assumption | decide)).at (k:=1) (H2:=_::_::_) rfl rfl)) ?_
     rintro _ _ ⟨rfl,rfl⟩
     refine Qp A3 (Aa (Au (fun hc5=>?_) fun hc5=>?_))
     ·
      try simp only [Bool.not_eq_true',Bool.not_eq_false'] at hc5
      refine AW.ghost (GS.Aau (H2:=_::_::_) 1 rfl (congrArg cP (D4 hc5)) rfl) ?_
      refine Ad (Qp G0 ?_)
      refine Qe (Al (by kernel_rfl) rfl rfl ((C5 _ _ _ (by simpa using hS) (by first | assumption | decide)).at (k:=1) (H2:=_::_::_) rfl rfl)) ?_
      rintro _ _ ⟨rfl,rfl⟩
      refine By (Qp G0 ?_)
      refine Qe (Al (by kernel_rfl) rfl rfl ((Lb _ _ (by simpa using hS)).at (k:=1) (H2:=_::_::_) rfl rfl)) ?_
      rintro _ _ ⟨rfl,rfl⟩
      refine Qp A4 (Qp (Ea [Iq _,.str _,.str _,Iq _,_,Iq _]) ?_)
      refine Qe (An (l:=[.int .i64 0,.str [],.str [],.int .i64 0,.sl 6 [],.int .i64 0]) (by kernel_rfl)) ?_
      rintro _ _ ⟨b9,rfl,rfl⟩
      refine B0 0 [Iq _,.str _,.str _,Iq _,_,Iq _] (_::_::_::_) ?_
      refine AOL.ghost (GS.freeze (t:=9) 0 rfl rfl) ?_
      refine By (Qp G0 ?_)
      refine Qe (Al (by kernel_rfl) rfl rfl ((C5 _ _ _ (by simpa using hS) (by first | assumption | decide)).at (k:=1) (H2:=_::_::_) rfl rfl)) ?_
      rintro _ _ ⟨rfl,rfl⟩
      refine By (Qp (B2 [Iq _,.str _,.str _,Iq _,_,Iq _]) ?_)
      refine B0 0 [Iq _,.str _,.str _,Iq _,_,Iq _] (_::_::_) ?_
      refine Aa (AW.ret (Ao (Ai ?_)))
      refine ⟨.inr rfl,[.agg [Iq _,.str _,.str _,Iq _,_,Iq _]],.cons (.box _ _ _ 0 _ _ _ _ rfl rfl rfl rfl rfl rfl) <| .nil,_,.cons _ (.refl _),?_⟩
      refine ⟨?_,congrArg (fun c=>HO.box bp 223 c::H) ?_⟩
      ·
       try simp only [Ae,G3,hfd,cSyn,List.map_cons,List.map_nil,Bi,hc1,hc2,hc4,hc5,↓reduceIte,Bool.false_eq_true,Bool.not_true,Bool.not_false]
       try rfl
      ·
       try simp only [cP,G3,hfd,hc1,hc2,hc4,hc5,↓reduceIte,Bool.false_eq_true,Bool.not_true,Bool.not_false]
       try rfl
     ·
      try simp only [Bool.not_eq_true',Bool.not_eq_false'] at hc5
      refine AW.ghost (GS.Aau (H2:=_::_::_) 1 rfl (congrArg cP (Ey hc5)) rfl) ?_
      refine Ad (Qp G0 ?_)
      refine AOL.Aaq (Ce (k:=1) (by kernel_rfl) rfl rfl (dD _ _ _ (by simpa using hS))) rfl rfl ?_
      refine Qp A3 (Aa (Au (fun hc6=>?_) fun hc6=>?_))
      ·
       try simp only [Bool.not_eq_true',Bool.not_eq_false'] at hc6
       refine Ad (Qp G0 ?_)
       refine Qe (Al (by kernel_rfl) rfl rfl ((Lb _ _ (by simpa using hS)).at (k:=1) (H2:=_::_::_) rfl rfl)) ?_
       rintro _ _ ⟨rfl,rfl⟩
       refine Qp A4 (Qp (Ea [Iq _,.str _,.str _,Iq _,_,Iq _]) ?_)
       refine Qe (An (l:=[.int .i64 0,.str [],.str [],.int .i64 0,.sl 6 [],.int .i64 0]) (by kernel_rfl)) ?_
       rintro _ _ ⟨b10,rfl,rfl⟩
       refine B0 0 [Iq _,.str _,.str _,Iq _,_,Iq _] (_::_::_::_) ?_
       refine By (Qp G0 ?_)
       refine Qe (Al (by kernel_rfl) rfl rfl ((C5 _ _ _ (by simpa using hS) (by first | assumption | decide)).at (k:=2) (H2:=_::_::_::_) rfl rfl)) ?_
       rintro _ _ ⟨rfl,rfl⟩
       refine Aa (AW.seq (Ad (Qp G0 ?_)))
       refine Qe (Al (by kernel_rfl) rfl rfl ((C8 _ _ _ (by simpa using hS) (by first | assumption | decide)).at (k:=2) (H2:=_::_::_::_) rfl rfl)) ?_
       rintro _ _ ⟨rfl,rfl⟩
       refine Aa (Au (fun hc7=>?_) fun hc7=>?_)
       ·
        try simp only [Bool.not_eq_true',Bool.not_eq_false'] at hc7
        refine AW.ghost (GS.Aau (H2:=_::_::_::_) 2 rfl (congrArg cP (D4 hc7)) rfl) ?_
        refine AW.region (Qp Cb ?_)
        refine B0 0 [Iq _,.str _,.str _,Iq _,_,Iq _] (_::_::_::_) ?_
        refine By ?_
        refine AOL.Aaq (A8 (k:=0) (l:=[Iq _,.str _,.str _,Iq _,_,Iq _]) tok rfl rfl rfl rfl rfl) rfl rfl ?_
        refine B0 1 [Iq _,.str _,.str _,Iq _,_,Iq _] (_::_::_::_) ?_
        refine Aa (AW.ret (Ao (Ai ?_)))
        refine ⟨.inr rfl,[.agg [Iq _,.str _,.str _,Iq _,_,Iq _]],.cons (.box _ _ _ 1 _ _ _ _ rfl rfl rfl rfl rfl rfl) <| .nil,_,.cons _ (.cons _ (.refl _)),?_⟩
        refine ⟨?_,congrArg (fun c=>HO.box bp 223 c::H) ?_⟩
        ·
         try simp only [Ae,G3,hfd,cSyn,List.map_cons,List.map_nil,Bi,hc1,hc2,hc4,hc5,hc6,hc7,↓reduceIte,Bool.false_eq_true,Bool.not_true,Bool.not_false]
         try rfl
        ·
         try simp only [cP,G3,hfd,hc1,hc2,hc4,hc5,hc6,hc7,↓reduceIte,Bool.false_eq_true,Bool.not_true,Bool.not_false]
         try rfl
       ·
        try simp only [Bool.not_eq_true',Bool.not_eq_false'] at hc7
        refine AW.ghost (GS.Aau (H2:=_::_::_::_) 2 rfl (congrArg cP (Ey hc7)) rfl) ?_
        refine AW.region (Qp G0 ?_)
        refine Qe (Al (by kernel_rfl) rfl rfl ((Lb _ _ (by simpa using hS)).at (k:=2) (H2:=_::_::_::_) rfl rfl)) ?_
        rintro _ _ ⟨rfl,rfl⟩
        refine Qp Cb ?_
        refine B0 0 [Iq _,.str _,.str _,Iq _,_,Iq _] (_::_::_::_) ?_
        refine By ?_
        refine AOL.Aaq (A8 (k:=0) (l:=[Iq _,.str _,.str _,Iq _,_,Iq _]) tok rfl rfl rfl rfl rfl) rfl rfl ?_
        refine B0 1 [Iq _,.str _,.str _,Iq _,_,Iq _] (_::_::_::_) ?_
        refine Aa (AW.ret (Ao (Ai ?_)))
        refine ⟨.inr rfl,[.agg [Iq _,.str _,.str _,Iq _,_,Iq _]],.cons (.box _ _ _ 1 _ _ _ _ rfl rfl rfl rfl rfl rfl) <| .nil,_,.cons _ (.cons _ (.refl _)),?_⟩
        refine ⟨?_,congrArg (fun c=>HO.box bp 223 c::H) ?_⟩
        ·
         try simp only [Ae,G3,hfd,cSyn,List.map_cons,List.map_nil,Bi,hc1,hc2,hc4,hc5,hc6,hc7,↓reduceIte,Bool.false_eq_true,Bool.not_true,Bool.not_false]
         try rfl
        ·
         try simp only [cP,G3,hfd,hc1,hc2,hc4,hc5,hc6,hc7,↓reduceIte,Bool.false_eq_true,Bool.not_true,Bool.not_false]
         try rfl
      ·
       try simp only [Bool.not_eq_true',Bool.not_eq_false'] at hc6
       refine AW.skip (Bc (Af (Ad (Qp G0 ?_))))
       refine Qe (Al (by kernel_rfl) rfl rfl ((S6 _ _ (by simpa using hS)).at (k:=1) (H2:=_::_::_) rfl rfl)) ?_
       rintro _ _ ⟨rfl,rfl⟩
       refine B0 0 [Iq _,.str _,.str _,Iq _,_,Iq _] (_::_::_) ?_
       refine Aa (AW.ret ?_)
       refine ⟨.inr rfl,[.agg [Iq _,.str _,.str _,Iq _,_,Iq _]],.cons (.box _ _ _ 0 _ _ _ _ rfl rfl rfl rfl rfl rfl) <| .nil,_,.cons _ (.refl _),?_⟩
       refine ⟨?_,congrArg (fun c=>HO.box bp 223 c::H) ?_⟩
       ·
        try simp only [Ae,G3,hfd,cSyn,List.map_cons,List.map_nil,Bi,hc1,hc2,hc4,hc5,hc6,↓reduceIte,Bool.false_eq_true,Bool.not_true,Bool.not_false]
        try rfl
       ·
        try simp only [cP,G3,hfd,hc1,hc2,hc4,hc5,hc6,↓reduceIte,Bool.false_eq_true,Bool.not_true,Bool.not_false]
        try rfl

end Go.Proofs.YtckhoadldibflaaGreatDoor
