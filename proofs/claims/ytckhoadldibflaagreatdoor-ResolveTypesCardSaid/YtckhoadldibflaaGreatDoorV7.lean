/-
  Walks of the parser: events, and what follows in patterns. No condition.
-/
import Derived.Test.YtckhoadldibflaaGreatDoorK01
import Derived.Test.YtckhoadldibflaaGreatDoorV6
import Derived.KernelRfl
namespace Go.Proofs.YtckhoadldibflaaGreatDoor
open Go Go.Aw
set_option maxHeartbeats 1600000
set_option maxRecDepth 20000
set_option linter.unusedVariables false
set_option linter.unusedSimpArgs false

theorem Uv {D:Int}(hD:0≤D){st:PS}(h:okD D st):okD 0 st:=⟨h.1,by have:=h.2.1;omega,h.2.2⟩
theorem S2 {D:Int}(hD:0≤D){st:PS}(h:okD D st):eZ st:=⟨by have:=h.2.1;omega,h.2.2⟩
theorem L5 {D:Int}{a b:PS}(h:okD D a)(g:H6 a b):okD D b:=(Rg g.1 g.2.2).2 h
abbrev eA (z:Syn)(v:Value)(es:List (List AV)):List AV:=[.int .i64 z.kind,.str z.text,.str z.name,.int .i64 z.num,.row v 6 es,.int .i64 z.pos]
theorem fE (st:PS)(bp:Nat)(E:PS→Syn×PS)(hFE:Ch E)(hE:∀(st:PS) (bp:Nat),okD 0 st→Bd Tryz.prog 164 bp 223 (cP st) (cP (E st).2) [.val (.pointer (some ⟨bp,0,none⟩))] (.agg (cSyn (E st).1)))(hO:okD 0 st):Bd Tryz.prog 228 bp 223 (cP st) (cP ((Ip E st).2)) [.val (.pointer (some ⟨bp,0,none⟩))] (.agg (cSyn (Ip E st).1)):=by
 intro H
 have hS:=hO.1
 refine Bw.body (n:=18) tok Tryz.func228 rfl rfl rfl ?_
 refine Ad ?_
 refine Qe (An (l:=[.int .i64 0,.str [],.str [],.int .i64 0,.sl 6 [],.int .i64 0]) (by kernel_rfl)) ?_
 rintro _ _ ⟨b2,rfl,rfl⟩
 refine By (Qp Br ?_)
 refine AOL.Aaq (Ce (k:=1) (by kernel_rfl) rfl rfl (If _ _)) rfl rfl ?_
 refine Qp Br ?_
 refine Qe (Al (by kernel_rfl) rfl rfl ((Lb _ _ (by simpa using hS)).at (k:=1) (H2:=_::_::_) rfl rfl)) ?_
 rintro _ _ ⟨rfl,rfl⟩
 refine Qp Br ?_
 refine Qe (Al (by kernel_rfl) rfl rfl ((Lb _ _ (by simpa using hS)).at (k:=1) (H2:=_::_::_) rfl rfl)) ?_
 rintro _ _ ⟨rfl,rfl⟩
 refine Qp (Ea [Iq _,.str _,.str _,Iq _,_,Iq _]) ?_
 refine Qe (An (l:=[.int .i64 0,.str [],.str [],.int .i64 0,.sl 6 [],.int .i64 0]) (by kernel_rfl)) ?_
 rintro _ _ ⟨b3,rfl,rfl⟩
 refine B0 0 [Iq _,.str _,.str _,Iq _,_,Iq _] (_::_::_::_) ?_
 refine Aa (AW.seq (Ad (Qp Br ?_)))
 refine Qe (Al (by kernel_rfl) rfl rfl ((C8 _ _ _ (by simpa using hS) (by first | assumption | decide)).at (k:=2) (H2:=_::_::_::_) rfl rfl)) ?_
 rintro _ _ ⟨rfl,rfl⟩
 refine Aa (Au (fun hc1=>?_) fun hc1=>?_)
 ·
  try simp only [Bool.not_eq_true',Bool.not_eq_false'] at hc1
  refine AW.ghost (GS.Aau (H2:=_::_::_::_) 2 rfl (congrArg cP (D4 hc1)) rfl) ?_
  refine AW.region (Qp Br ?_)
  refine Qe (Al (by kernel_rfl) rfl rfl ((hE _ bp (by simpa using hO)).at (k:=2) (H2:=_::_::_::_) rfl rfl)) ?_
  rintro _ _ ⟨rfl,rfl⟩
  refine Qp (Am (es:=[[Iq _,.str _,.str _,Iq _,_,Iq _]]) tok rfl rfl rfl rfl rfl rfl rfl rfl rfl) ?_
  refine Qp Cb ?_
  refine B0 0 [Iq _,.str _,.str _,Iq _,_,Iq _] (_::_::_::_) ?_
  refine By ?_
  refine AOL.Aaq (A8 (k:=0) (l:=[Iq _,.str _,.str _,Iq _,_,Iq _]) tok rfl rfl rfl rfl rfl) rfl rfl ?_
  refine B0 1 [Iq _,.str _,.str _,Iq _,_,Iq _] (_::_::_::_) ?_
  refine Aa (AW.ret ?_)
  refine ⟨.inr rfl,[.agg [Iq _,.str _,.str _,Iq _,_,Iq _]],.cons (.box _ _ _ 1 _ _ _ _ rfl rfl rfl rfl rfl rfl) <| .nil,_,.cons _ (.cons _ (.refl _)),?_⟩
  refine ⟨?_,congrArg (fun c=>HO.box bp 223 c::H) ?_⟩
  ·
   try simp only [Ae,Ip,cSyn,List.map_cons,List.map_nil,Bi,hc1,↓reduceIte,Bool.false_eq_true,Bool.not_true,Bool.not_false]
   try rfl
  ·
   try simp only [cP,Ip,hc1,↓reduceIte,Bool.false_eq_true,Bool.not_true,Bool.not_false]
   try rfl
 ·
  try simp only [Bool.not_eq_true',Bool.not_eq_false'] at hc1
  refine AW.ghost (GS.Aau (H2:=_::_::_::_) 2 rfl (congrArg cP (Ey hc1)) rfl) ?_
  refine Bl (Ad ?_)
  refine AOL.Aaq (A8 (k:=0) (l:=[Iq _,.str _,.str _,Iq _,_,Iq _]) tok rfl rfl rfl rfl rfl) rfl rfl ?_
  refine B0 1 [Iq _,.str _,.str _,Iq _,_,Iq _] (_::_::_::_) ?_
  refine Aa (AW.ret ?_)
  refine ⟨.inr rfl,[.agg [Iq _,.str _,.str _,Iq _,_,Iq _]],.cons (.box _ _ _ 1 _ _ _ _ rfl rfl rfl rfl rfl rfl) <| .nil,_,.cons _ (.cons _ (.refl _)),?_⟩
  refine ⟨?_,congrArg (fun c=>HO.box bp 223 c::H) ?_⟩
  ·
   try simp only [Ae,Ip,cSyn,List.map_cons,List.map_nil,Bi,hc1,↓reduceIte,Bool.false_eq_true,Bool.not_true,Bool.not_false]
   try rfl
  ·
   try simp only [cP,Ip,hc1,↓reduceIte,Bool.false_eq_true,Bool.not_true,Bool.not_false]
   try rfl
theorem sB (st:PS)(bp:Nat)(z:Syn)(bo:Nat)(v:Value)(es:List (List AV))(he:es=z.kids.map Cl)(hz:z.kids.length≤1000)(R:List HO)(E:PS→Syn×PS)(hFE:Ch E)(hE:∀(st:PS) (bp:Nat),okD 0 st→Bd Tryz.prog 164 bp 223 (cP st) (cP (E st).2) [.val (.pointer (some ⟨bp,0,none⟩))] (.agg (cSyn (E st).1)))(hO:okD 0 st):Bw Tryz.prog 283 (.box bp 223 (cP st) :: .box bo 25 (eA z v es) :: .row v es.length 25 6::R) [.val (.pointer (some ⟨bp,0,none⟩)),.val (.pointer (some ⟨bo,0,none⟩))] (fun r H'=>r = .tuple []∧∃v' es',es'=(Fp E Do 10 z st).1.kids.map Cl∧H' = .box bp 223 (cP (Fp E Do 10 z st).2) :: .box bo 25 (eA (Fp E Do 10 z st).1 v' es') :: .row v' es'.length 25 6::R):=by
 have hS:=hO.1
 have hsc:∀c∈es,Ba c=true:=by rw [he];exact Qh _
 have hel:es.length≤1000:=by rw [he,List.length_map];exact hz
 refine Bw.body (n:=18) tok Tryz.func283 rfl rfl rfl ?_
 refine AW.ghostPost ?_
 refine Ad (Qp Br ?_)
 refine Qe (Al (by kernel_rfl) rfl rfl ((C5 _ _ _ (by simpa using hS) (by first | assumption | decide)).at (k:=0) (H2:=_::_::_::_) rfl rfl)) ?_
 rintro _ _ ⟨rfl,rfl⟩
 refine Aa ?_
 refine AW.draw mixed (fun H'=>_∈H') (List.mem_of_getElem? (i:=1) rfl) (by kernel_rfl) ?_
 refine Qn 0 rfl Br ?_
 refine Qn 1 rfl (Ak rfl) ?_
 refine Qn 2 rfl Cb ?_
 refine Qn 3 rfl (OpP.Aas (fun k=>Aj (k:=k) (c:=.row _ _ _) tok rfl rfl rfl rfl) (fun _ h=>h)) ?_
 refine Qn 4 rfl Br ?_
 refine Qn 6 rfl (Dx tok rfl rfl rfl rfl) ?_
 refine Qn 7 rfl (H7 tok rfl rfl rfl rfl rfl rfl rfl rfl rfl) ?_
 refine Hs.eff _ _ 5 _ _ rfl (by kernel_rfl) rfl rfl (Al (by kernel_rfl) rfl rfl ((fE (Cg Co st) bp E hFE hE (by simpa using hO)).at (k:=0) (H2:=_::_::_::_) rfl rfl)) (by rintro _ _ ⟨rfl,rfl⟩;simp) ?_
 rintro _ _ ⟨rfl,rfl⟩
 refine Hs.sync (fun _=>True) _ _ 8 _ _ rfl (by kernel_rfl) rfl rfl (M6 (k:=2) tok rfl rfl rfl rfl rfl rfl rfl rfl (D7 rfl) rfl (hsc) (by simp;omega) (by simp [maxLen];omega)) (by kernel_rfl) (fun _ _ _=>trivial) ?_
 rintro _ _ ⟨ba14,ca14,rfl,rfl⟩
 refine Qn 9 rfl (D9 (o':=es.length*6) tok rfl rfl rfl rfl rfl (by omega) (by omega) (by simp)) ?_
 refine Qn 11 rfl (Ak rfl) ?_
 refine Qn 12 rfl Cb ?_
 refine Hs.two _ _ 10 13 _ _ _ _ rfl rfl (by kernel_rfl) rfl rfl rfl rfl (Ft (k:=2) (v:=.agg _) (H2:=_::_::_::_) tok rfl rfl rfl rfl (by simp) (by simp) rfl rfl rfl rfl) (Be (k:=1) (v:=.val _) (cs':=[Iq _,.str _,.str _,Iq _,_,Iq _]) (H2:=_::_::_::_) tok rfl rfl rfl rfl (rfl) rfl rfl rfl rfl) (by rintro _ _ ⟨rfl,rfl⟩;trivial) (by rintro _ _ ⟨rfl,rfl⟩;trivial) ?_ ?_
 ·
  rintro _ _ ⟨rfl,rfl⟩
  refine Hs.eff _ _ 13 _ _ rfl (by kernel_rfl) rfl rfl (Be (k:=1) (v:=.val _) (cs':=[Iq _,.str _,.str _,Iq _,_,Iq _]) (H2:=_::_::_::_) tok rfl rfl rfl rfl (rfl) rfl rfl rfl rfl) (fun _ _ _=>trivial) ?_
  rintro _ _ ⟨rfl,rfl⟩
  refine Hs.done _ _ (by kernel_rfl) ?_
  refine ⟨_,GS.appCell (H2:=_::_::_::_) 2 1 4 rfl (by simp) rfl rfl rfl rfl,.inl rfl,[],.nil,_,.refl _,?_⟩
  exact ⟨rfl,_,_,Ii he,rfl⟩
 ·
  rintro _ _ ⟨rfl,rfl⟩
  refine Hs.eff _ _ 10 _ _ rfl (by kernel_rfl) rfl rfl (Ft (k:=2) (v:=.agg _) (H2:=_::_::_::_) tok rfl rfl rfl rfl (by simp) (by simp) rfl rfl rfl rfl) (fun _ _ _=>trivial) ?_
  rintro _ _ ⟨rfl,rfl⟩
  refine Hs.done _ _ (by kernel_rfl) ?_
  refine ⟨_,GS.appCell (H2:=_::_::_::_) 2 1 4 rfl (by simp) rfl rfl rfl rfl,.inl rfl,[],.nil,_,.refl _,?_⟩
  exact ⟨rfl,_,_,Ii he,rfl⟩
theorem qX (st:PS)(bp:Nat)(z:Syn)(bo:Nat)(v:Value)(es:List (List AV))(he:es=z.kids.map Cl)(hz:z.kids.length≤1000)(R:List HO):Bw Tryz.prog 282 (.box bp 223 (cP st) :: .box bo 25 (eA z v es) :: .row v es.length 25 6::R) [.val (.pointer (some ⟨bp,0,none⟩)),.val (.pointer (some ⟨bo,0,none⟩))] (fun r H'=>r = .tuple []∧∃v' es',es'=(Fp Do Do 9 z st).1.kids.map Cl∧H' = .box bp 223 (cP (Fp Do Do 9 z st).2) :: .box bo 25 (eA (Fp Do Do 9 z st).1 v' es') :: .row v' es'.length 25 6::R):=by
 refine Bw.body (n:=4) tok Tryz.func282 rfl rfl rfl ?_
 refine AW.skip ?_
 refine ⟨.inl rfl,[],.nil,_,.refl _,?_⟩
 exact ⟨rfl,_,_,he,rfl⟩
theorem rD (st:PS)(bp:Nat)(z:Syn)(bo:Nat)(v:Value)(es:List (List AV))(he:es=z.kids.map Cl)(hz:z.kids.length≤1000)(R:List HO)(hS:Ly st):Bw Tryz.prog 284 (.box bp 223 (cP st) :: .box bo 25 (eA z v es) :: .row v es.length 25 6::R) [.val (.pointer (some ⟨bp,0,none⟩)),.val (.pointer (some ⟨bo,0,none⟩))] (fun r H'=>r = .tuple []∧∃v' es',es'=(Fp Do Do 11 z st).1.kids.map Cl∧H' = .box bp 223 (cP (Fp Do Do 11 z st).2) :: .box bo 25 (eA (Fp Do Do 11 z st).1 v' es') :: .row v' es'.length 25 6::R):=by
 refine Bw.body (n:=11) tok Tryz.func284 rfl rfl rfl ?_
 refine Ad (Qp Br ?_)
 refine Qe (Al (by kernel_rfl) rfl rfl ((C5 _ _ _ (by simpa using hS) (by first | assumption | decide)).at (k:=0) (H2:=_::_::_::_) rfl rfl)) ?_
 rintro _ _ ⟨rfl,rfl⟩
 refine Aa (AW.region (Qp Br (Qp Br ?_)))
 refine Qe (Al (by kernel_rfl) rfl rfl ((S8 _ _ (by simpa using hS)).at (k:=0) (H2:=_::_::_::_) rfl rfl)) ?_
 rintro _ _ ⟨rfl,rfl⟩
 refine Qp (Ak rfl) ?_
 refine Qp Cb ?_
 refine B0 1 [Iq _,.str _,.str _,Iq _,_,Iq _] (_::_::_::_) ?_
 refine AOL.nil ?_
 refine ⟨.inl rfl,[],.nil,_,.refl _,?_⟩
 exact ⟨rfl,_,_,he,rfl⟩
theorem uL (st:PS)(bp:Nat)(z:Syn)(bo:Nat)(v:Value)(es:List (List AV))(he:es=z.kids.map Cl)(hz:z.kids.length≤1000)(R:List HO)(E:PS→Syn×PS)(hFE:Ch E)(hE:∀(st:PS) (bp:Nat),okD 0 st→Bd Tryz.prog 164 bp 223 (cP st) (cP (E st).2) [.val (.pointer (some ⟨bp,0,none⟩))] (.agg (cSyn (E st).1)))(hO:okD 0 st):Bw Tryz.prog 286 (.box bp 223 (cP st) :: .box bo 25 (eA z v es) :: .row v es.length 25 6::R) [.val (.pointer (some ⟨bp,0,none⟩)),.val (.pointer (some ⟨bo,0,none⟩))] (fun r H'=>r = .tuple []∧∃v' es',es'=(Fp E Do 12 z st).1.kids.map Cl∧H' = .box bp 223 (cP (Fp E Do 12 z st).2) :: .box bo 25 (eA (Fp E Do 12 z st).1 v' es') :: .row v' es'.length 25 6::R):=by
 have hS:=hO.1
 have hsc:∀c∈es,Ba c=true:=by rw [he];exact Qh _
 have hel:es.length≤1000:=by rw [he,List.length_map];exact hz
 refine Bw.body (n:=18) tok Tryz.func286 rfl rfl rfl ?_
 refine AW.ghostPost ?_
 refine Ad (Qp Br ?_)
 refine Qe (Al (by kernel_rfl) rfl rfl ((C5 _ _ _ (by simpa using hS) (by first | assumption | decide)).at (k:=0) (H2:=_::_::_::_) rfl rfl)) ?_
 rintro _ _ ⟨rfl,rfl⟩
 refine Aa ?_
 refine AW.draw mixed (fun H'=>_∈H') (List.mem_of_getElem? (i:=1) rfl) (by kernel_rfl) ?_
 refine Qn 0 rfl Br ?_
 refine Qn 1 rfl (Ak rfl) ?_
 refine Qn 2 rfl Cb ?_
 refine Qn 3 rfl (OpP.Aas (fun k=>Aj (k:=k) (c:=.row _ _ _) tok rfl rfl rfl rfl) (fun _ h=>h)) ?_
 refine Qn 4 rfl Br ?_
 refine Qn 6 rfl (Dx tok rfl rfl rfl rfl) ?_
 refine Qn 7 rfl (H7 tok rfl rfl rfl rfl rfl rfl rfl rfl rfl) ?_
 refine Hs.eff _ _ 5 _ _ rfl (by kernel_rfl) rfl rfl (Al (by kernel_rfl) rfl rfl ((hE (Cg Co st) bp (by simpa using hO)).at (k:=0) (H2:=_::_::_::_) rfl rfl)) (by rintro _ _ ⟨rfl,rfl⟩;simp) ?_
 rintro _ _ ⟨rfl,rfl⟩
 refine Hs.sync (fun _=>True) _ _ 8 _ _ rfl (by kernel_rfl) rfl rfl (M6 (k:=2) tok rfl rfl rfl rfl rfl rfl rfl rfl (D7 rfl) rfl (hsc) (by simp;omega) (by simp [maxLen];omega)) (by kernel_rfl) (fun _ _ _=>trivial) ?_
 rintro _ _ ⟨ba14,ca14,rfl,rfl⟩
 refine Qn 9 rfl (D9 (o':=es.length*6) tok rfl rfl rfl rfl rfl (by omega) (by omega) (by simp)) ?_
 refine Qn 11 rfl (Ak rfl) ?_
 refine Qn 12 rfl Cb ?_
 refine Hs.two _ _ 10 13 _ _ _ _ rfl rfl (by kernel_rfl) rfl rfl rfl rfl (Ft (k:=2) (v:=.agg _) (H2:=_::_::_::_) tok rfl rfl rfl rfl (by simp) (by simp) rfl rfl rfl rfl) (Be (k:=1) (v:=.val _) (cs':=[Iq _,.str _,.str _,Iq _,_,Iq _]) (H2:=_::_::_::_) tok rfl rfl rfl rfl (rfl) rfl rfl rfl rfl) (by rintro _ _ ⟨rfl,rfl⟩;trivial) (by rintro _ _ ⟨rfl,rfl⟩;trivial) ?_ ?_
 ·
  rintro _ _ ⟨rfl,rfl⟩
  refine Hs.eff _ _ 13 _ _ rfl (by kernel_rfl) rfl rfl (Be (k:=1) (v:=.val _) (cs':=[Iq _,.str _,.str _,Iq _,_,Iq _]) (H2:=_::_::_::_) tok rfl rfl rfl rfl (rfl) rfl rfl rfl rfl) (fun _ _ _=>trivial) ?_
  rintro _ _ ⟨rfl,rfl⟩
  refine Hs.done _ _ (by kernel_rfl) ?_
  refine ⟨_,GS.appCell (H2:=_::_::_::_) 2 1 4 rfl (by simp) rfl rfl rfl rfl,.inl rfl,[],.nil,_,.refl _,?_⟩
  exact ⟨rfl,_,_,Ii he,rfl⟩
 ·
  rintro _ _ ⟨rfl,rfl⟩
  refine Hs.eff _ _ 10 _ _ rfl (by kernel_rfl) rfl rfl (Ft (k:=2) (v:=.agg _) (H2:=_::_::_::_) tok rfl rfl rfl rfl (by simp) (by simp) rfl rfl rfl rfl) (fun _ _ _=>trivial) ?_
  rintro _ _ ⟨rfl,rfl⟩
  refine Hs.done _ _ (by kernel_rfl) ?_
  refine ⟨_,GS.appCell (H2:=_::_::_::_) 2 1 4 rfl (by simp) rfl rfl rfl rfl,.inl rfl,[],.nil,_,.refl _,?_⟩
  exact ⟨rfl,_,_,Ii he,rfl⟩
abbrev Ol (T:PS→Syn×PS)(st:PS):Syn×PS:=T (Cg Co st)
theorem iF (st:PS)(bp:Nat)(z:Syn)(bo:Nat)(v:Value)(es:List (List AV))(he:es=z.kids.map Cl)(hz:z.kids.length≤1000)(R:List HO)(D:Int)(hD:0≤D)(T:PS→Syn×PS)(hFT:Ch T)(hT:∀(st:PS) (bp:Nat),okD D st→Bd Tryz.prog 162 bp 223 (cP st) (cP (T st).2) [.val (.pointer (some ⟨bp,0,none⟩))] (.agg (cSyn (T st).1)))(hO:okD D st):Bw Tryz.prog 281 (.box bp 223 (cP st) :: .box bo 25 (eA z v es) :: .row v es.length 25 6::R) [.val (.pointer (some ⟨bp,0,none⟩)),.val (.pointer (some ⟨bo,0,none⟩))] (fun r H'=>r = .tuple []∧∃v' es',es'=(aP T z st).1.kids.map Cl∧H' = .box bp 223 (cP (aP T z st).2) :: .box bo 25 (eA (aP T z st).1 v' es') :: .row v' es'.length 25 6::R):=by
 have hS:=hO.1
 have hsc:∀c∈es,Ba c=true:=by rw [he];exact Qh _
 have hel:es.length≤1000:=by rw [he,List.length_map];exact hz
 have hO1:okD D (Cg Co st):=by simpa using hO
 have hO3:okD D (Ol T st).2:=hFT.okD hD hO1
 refine Bw.body (n:=32) tok Tryz.func281 rfl rfl rfl ?_
 refine AW.ghostPost ?_
 refine Ad (Qp Br ?_)
 refine Qe (Al (by kernel_rfl) rfl rfl ((C5 _ _ _ (by simpa using hS) (by first | assumption | decide)).at (k:=0) (H2:=_::_::_::_) rfl rfl)) ?_
 rintro _ _ ⟨rfl,rfl⟩
 refine Aa ?_
 refine AW.Aaw (fun (q:Value)=>(⟨[(0,.val (.pointer (some ⟨bp,0,none⟩))),(1,.val (.pointer (some ⟨bo,0,none⟩)))],.box bp 223 (cP (Ol T st).2) :: .box bo 25 (eA z q (es ++ [cSyn (Ol T st).1])) :: .row q (es ++ [cSyn (Ol T st).1]).length 25 6::R,32⟩:St)) (fun (q:Value)=>True) ?_ ?_
 ·
  refine AW.draw mixed (fun H'=>_∈H') (List.mem_of_getElem? (i:=1) rfl) (by kernel_rfl) ?_
  refine Qn 0 rfl Br ?_
  refine Qn 1 rfl (Ak rfl) ?_
  refine Qn 2 rfl Cb ?_
  refine Qn 3 rfl (OpP.Aas (fun k=>Aj (k:=k) (c:=.row _ _ _) tok rfl rfl rfl rfl) (fun _ h=>h)) ?_
  refine Qn 4 rfl Br ?_
  refine Qn 6 rfl (Dx tok rfl rfl rfl rfl) ?_
  refine Qn 7 rfl (H7 tok rfl rfl rfl rfl rfl rfl rfl rfl rfl) ?_
  refine Hs.eff _ _ 5 _ _ rfl (by kernel_rfl) rfl rfl (Al (by kernel_rfl) rfl rfl ((hT (Cg Co st) bp hO1).at (k:=0) (H2:=_::_::_::_) rfl rfl)) (by rintro _ _ ⟨rfl,rfl⟩;simp) ?_
  rintro _ _ ⟨rfl,rfl⟩
  refine Hs.sync (fun _=>True) _ _ 8 _ _ rfl (by kernel_rfl) rfl rfl (M6 (k:=2) tok rfl rfl rfl rfl rfl rfl rfl rfl (D7 rfl) rfl (hsc) (by simp;omega) (by simp [maxLen];omega)) (by kernel_rfl) (fun _ _ _=>trivial) ?_
  rintro _ _ ⟨ba14,ca14,rfl,rfl⟩
  refine Qn 9 rfl (D9 (o':=es.length*6) tok rfl rfl rfl rfl rfl (by omega) (by omega) (by simp)) ?_
  refine Qn 11 rfl (Ak rfl) ?_
  refine Qn 12 rfl Cb ?_
  refine Hs.two _ _ 10 13 _ _ _ _ rfl rfl (by kernel_rfl) rfl rfl rfl rfl (Ft (k:=2) (v:=.agg _) (H2:=_::_::_::_) tok rfl rfl rfl rfl (by simp) (by simp) rfl rfl rfl rfl) (Be (k:=1) (v:=.val _) (cs':=[Iq _,.str _,.str _,Iq _,_,Iq _]) (H2:=_::_::_::_) tok rfl rfl rfl rfl (rfl) rfl rfl rfl rfl) (by rintro _ _ ⟨rfl,rfl⟩;trivial) (by rintro _ _ ⟨rfl,rfl⟩;trivial) ?_ ?_
  ·
   rintro _ _ ⟨rfl,rfl⟩
   refine Hs.eff _ _ 13 _ _ rfl (by kernel_rfl) rfl rfl (Be (k:=1) (v:=.val _) (cs':=[Iq _,.str _,.str _,Iq _,_,Iq _]) (H2:=_::_::_::_) tok rfl rfl rfl rfl (rfl) rfl rfl rfl rfl) (fun _ _ _=>trivial) ?_
   rintro _ _ ⟨rfl,rfl⟩
   refine Hs.done _ _ (by kernel_rfl) ?_
   refine Af ?_
   refine ⟨.slice (some ⟨ba14,0,none⟩) (es.length+1) ca14,?_,GS.trans (GS.appCell (H2:=_::_::_::_) 2 1 4 rfl (by simp) rfl rfl rfl rfl) (GS.weaken ⟨rfl,rfl,trivial⟩ (.refl _))⟩
   trivial
  ·
   rintro _ _ ⟨rfl,rfl⟩
   refine Hs.eff _ _ 10 _ _ rfl (by kernel_rfl) rfl rfl (Ft (k:=2) (v:=.agg _) (H2:=_::_::_::_) tok rfl rfl rfl rfl (by simp) (by simp) rfl rfl rfl rfl) (fun _ _ _=>trivial) ?_
   rintro _ _ ⟨rfl,rfl⟩
   refine Hs.done _ _ (by kernel_rfl) ?_
   refine Af ?_
   refine ⟨.slice (some ⟨ba14,0,none⟩) (es.length+1) ca14,?_,GS.trans (GS.appCell (H2:=_::_::_::_) 2 1 4 rfl (by simp) rfl rfl rfl rfl) (GS.weaken ⟨rfl,rfl,trivial⟩ (.refl _))⟩
   trivial
 ·
  rintro q _
  refine AW.block ?_
  refine AW.Aat (fun (p:Nat×PS×List Syn×List (List AV)×Value)=>(⟨[(0,.val (.pointer (some ⟨bp,0,none⟩))),(1,.val (.pointer (some ⟨bo,0,none⟩)))],.box bp 223 (cP p.2.1) :: .box bo 25 (eA z p.2.2.2.2 p.2.2.2.1) :: .row p.2.2.2.2 p.2.2.2.1.length 25 6::R,32⟩:St)) (fun (p:Nat×PS×List Syn×List (List AV)×Value)=>p.2.2.2.1=p.2.2.1.map Cl∧okD D p.2.1∧Bb p.2.1≤p.1∧p.2.2.1.length≤p.2.1.pos+1002∧Ht T (Bb (Ol T st).2) (Ol T st).2 (z.kids ++ [(Ol T st).1])=Ht T p.1 p.2.1 p.2.2.1) (fun (p:Nat×PS×List Syn×List (List AV)×Value)=>p.1) ((Bb (Ol T st).2,(Ol T st).2,z.kids ++ [(Ol T st).1],es ++ [cSyn (Ol T st).1],q)) ?_ (GS.weaken ⟨rfl,rfl,trivial⟩ (.refl _)) ?_
  · exact ⟨Ii he,hO3,Nat.le_refl _,by simp only [List.length_append,List.length_singleton];omega,rfl⟩
  ·
   rintro p hR
   have hes:p.2.2.2.1=p.2.2.1.map Cl:=hR.1
   have hO2:okD D p.2.1:=hR.2.1
   have hS:=hO2.1
   have hfu:Bb p.2.1≤p.1:=hR.2.2.1
   have hn:0<p.1:=by unfold Bb at hfu;omega
   have hol:p.2.2.1.length≤p.2.1.pos+1002:=hR.2.2.2.1
   have hsc2:∀c∈p.2.2.2.1,Ba c=true:=by rw [hes];exact Qh _
   have hel2:p.2.2.2.1.length=p.2.2.1.length:=by rw [hes,List.length_map]
   refine AW.seq (Ad (Qp Br ?_))
   refine Qe (Al (by kernel_rfl) rfl rfl ((C8 _ _ _ (by simpa using hS) (by first | assumption | decide)).at (k:=0) (H2:=_::_::_::_) rfl rfl)) ?_
   rintro _ _ ⟨rfl,rfl⟩
   refine Aa (Au (fun hc1=>?_) fun hc1=>?_)
   ·
    try simp only [Bool.not_eq_true',Bool.not_eq_false'] at hc1
    have hlt:=Rq hc1
    have hml:=hS.1
    have hFa:=hFT (adv p.2.1) (by have:=hO2.2.1;show (0:Int)≤p.2.1.depth;omega) hO2.2.2
    have hps:p.2.1.pos+1≤(T (adv p.2.1)).2.pos:=hFa.2.1
    have hts:(T (adv p.2.1)).2.toks=p.2.1.toks:=hFa.1
    refine AW.ghost (GS.Aau (H2:=_::_::_::_) 0 rfl (congrArg cP (D4 hc1)) rfl) ?_
    refine Bl (AW.block ?_)
    refine AW.draw mixed (fun H'=>_∈H') (List.mem_of_getElem? (i:=1) rfl) (by kernel_rfl) ?_
    refine Qn 0 rfl Br ?_
    refine Qn 1 rfl (Ak rfl) ?_
    refine Qn 2 rfl Cb ?_
    refine Qn 3 rfl (OpP.Aas (fun k=>Aj (k:=k) (c:=.row _ _ _) tok rfl rfl rfl rfl) (fun _ h=>h)) ?_
    refine Qn 4 rfl Br ?_
    refine Qn 6 rfl (Dx tok rfl rfl rfl rfl) ?_
    refine Qn 7 rfl (H7 tok rfl rfl rfl rfl rfl rfl rfl rfl rfl) ?_
    refine Hs.eff _ _ 5 _ _ rfl (by kernel_rfl) rfl rfl (Al (by kernel_rfl) rfl rfl ((hT _ bp (by simpa using hO2)).at (k:=0) (H2:=_::_::_::_) rfl rfl)) (by rintro _ _ ⟨rfl,rfl⟩;simp) ?_
    rintro _ _ ⟨rfl,rfl⟩
    refine Hs.sync (fun _=>True) _ _ 8 _ _ rfl (by kernel_rfl) rfl rfl (M6 (k:=2) tok rfl rfl rfl rfl rfl rfl rfl rfl (D7 rfl) rfl (hsc2) (by simp;omega) (by simp [maxLen];omega)) (by kernel_rfl) (fun _ _ _=>trivial) ?_
    rintro _ _ ⟨ba28,ca28,rfl,rfl⟩
    refine Qn 9 rfl (D9 (o':=p.2.2.2.1.length*6) tok rfl rfl rfl rfl rfl (by omega) (by omega) (by simp)) ?_
    refine Qn 11 rfl (Ak rfl) ?_
    refine Qn 12 rfl Cb ?_
    refine Hs.two _ _ 10 13 _ _ _ _ rfl rfl (by kernel_rfl) rfl rfl rfl rfl (Ft (k:=2) (v:=.agg _) (H2:=_::_::_::_) tok rfl rfl rfl rfl (by simp) (by simp) rfl rfl rfl rfl) (Be (k:=1) (v:=.val _) (cs':=[Iq _,.str _,.str _,Iq _,_,Iq _]) (H2:=_::_::_::_) tok rfl rfl rfl rfl (rfl) rfl rfl rfl rfl) (by rintro _ _ ⟨rfl,rfl⟩;trivial) (by rintro _ _ ⟨rfl,rfl⟩;trivial) ?_ ?_
    ·
     rintro _ _ ⟨rfl,rfl⟩
     refine Hs.eff _ _ 13 _ _ rfl (by kernel_rfl) rfl rfl (Be (k:=1) (v:=.val _) (cs':=[Iq _,.str _,.str _,Iq _,_,Iq _]) (H2:=_::_::_::_) tok rfl rfl rfl rfl (rfl) rfl rfl rfl rfl) (fun _ _ _=>trivial) ?_
     rintro _ _ ⟨rfl,rfl⟩
     refine Hs.done _ _ (by kernel_rfl) ?_
     refine Bc (Af ?_)
     refine ⟨(p.1-1,(T (adv p.2.1)).2,p.2.2.1 ++ [(T (adv p.2.1)).1],p.2.2.2.1 ++ [cSyn (T (adv p.2.1)).1],.slice (some ⟨ba28,0,none⟩) (p.2.2.2.1.length+1) ca28),?_,?_,GS.trans (GS.appCell (H2:=_::_::_::_) 2 1 4 rfl (by simp) rfl rfl rfl rfl) (GS.weaken ⟨rfl,rfl,trivial⟩ (.refl _))⟩
     · exact ⟨Ii hes,hFT.okD hD (by simpa using hO2),by unfold Bb at hfu ⊢;rw [hts];simp only;omega,by simp only [List.length_append,List.length_singleton];omega,hR.2.2.2.2.trans (by rw [Jv hn,if_pos hc1])⟩
     · simp only;omega
    ·
     rintro _ _ ⟨rfl,rfl⟩
     refine Hs.eff _ _ 10 _ _ rfl (by kernel_rfl) rfl rfl (Ft (k:=2) (v:=.agg _) (H2:=_::_::_::_) tok rfl rfl rfl rfl (by simp) (by simp) rfl rfl rfl rfl) (fun _ _ _=>trivial) ?_
     rintro _ _ ⟨rfl,rfl⟩
     refine Hs.done _ _ (by kernel_rfl) ?_
     refine Bc (Af ?_)
     refine ⟨(p.1-1,(T (adv p.2.1)).2,p.2.2.1 ++ [(T (adv p.2.1)).1],p.2.2.2.1 ++ [cSyn (T (adv p.2.1)).1],.slice (some ⟨ba28,0,none⟩) (p.2.2.2.1.length+1) ca28),?_,?_,GS.trans (GS.appCell (H2:=_::_::_::_) 2 1 4 rfl (by simp) rfl rfl rfl rfl) (GS.weaken ⟨rfl,rfl,trivial⟩ (.refl _))⟩
     · exact ⟨Ii hes,hFT.okD hD (by simpa using hO2),by unfold Bb at hfu ⊢;rw [hts];simp only;omega,by simp only [List.length_append,List.length_singleton];omega,hR.2.2.2.2.trans (by rw [Jv hn,if_pos hc1])⟩
     · simp only;omega
   ·
    try simp only [Bool.not_eq_true',Bool.not_eq_false'] at hc1
    refine AW.ghost (GS.Aau (H2:=_::_::_::_) 0 rfl (congrArg cP (Ey hc1)) rfl) ?_
    refine AW.exit ?_
    refine A7 (A7 (Bp ?_))
    refine ⟨_,GS.refl _,.inl rfl,[],.nil,_,.refl _,?_⟩
    have h9:aP T z st=({ z with kids:=p.2.2.1 },p.2.1):=by
     have h8:Ht T (Bb (Ol T st).2) (Ol T st).2 (z.kids ++ [(Ol T st).1])=(p.2.2.1,p.2.1):=hR.2.2.2.2.trans (by rw [Jv hn,iN hc1])
     unfold aP
     simp only
     rw [h8]
    exact ⟨rfl,p.2.2.2.2,p.2.2.2.1,by rw [h9];exact hes,by rw [h9]⟩

end Go.Proofs.YtckhoadldibflaaGreatDoor
