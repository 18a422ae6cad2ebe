/-
  Several texts in one: V7, V8, V9, V10. No condition.
-/
import Derived.Test.YtckhoadldibflaaGreatDoorK01
import Derived.Test.YtckhoadldibflaaGreatDoorK08
import Derived.KernelRfl
set_option linter.unusedVariables false
set_option linter.unusedSimpArgs false
set_option maxHeartbeats 3200000
set_option maxRecDepth 20000
namespace Go.Proofs.YtckhoadldibflaaGreatDoor
open Go Go.Aw
theorem jX {D:Int}(hD:0<=D){st:PS}(h:okD D st):okD 0 st:=⟨h.1,by have:=h.2.1;omega,h.2.2⟩
theorem Ov {D:Int}(hD:0<=D){st:PS}(h:okD D st):oF st:=⟨by have:=h.2.1;omega,h.2.2⟩
theorem Nq {D:Int}{a b:PS}(h:okD D a)(g:Kf a b):okD D b:=(dA g.1 g.2.2).2 h
abbrev cRw (z:Syn)(v:Value)(es:List (List AV)):List AV:=[.int .i64 z.kind,.str z.text,.str z.name,.int .i64 z.num,.row v 6 es,.int .i64 z.pos]
theorem p_event (st:PS)(bp:Nat)(E:PS->Syn×PS)(hFE:Dh E)(hE:∀(st:PS) (bp:Nat),okD 0 st->Bk Tryz.prog 164 bp 223 (cP st) (cP (E st).2) [.val (.pointer (some ⟨bp,0,none⟩))] (.agg (cSyn (E st).1)))(hO:okD 0 st):Bk Tryz.prog 228 bp 223 (cP st) (cP ((I5 E st).2)) [.val (.pointer (some ⟨bp,0,none⟩))] (.agg (cSyn (I5 E st).1)):=by
 intro H;have hS:=hO.1;refine Jg 18 Tryz.func228 rfl ?_;refine Aa ?_;refine D5 I6 fun b2=>?_
 refine B7 (Qp Bx ?_);refine AOL.Aag (Cu (k:=1) (by kernel_rfl) rfl rfl (Ky _ _)) rfl rfl ?_;refine Qp Bx ?_;refine Rt (Dq rfl ((Pu _ _ (by simpa using hS)).at (k:=1) (H2:=_::_::_) rfl rfl)) ?_;refine Qp Bx ?_;refine Rt (Dq rfl ((Pu _ _ (by simpa using hS)).at (k:=1) (H2:=_::_::_) rfl rfl)) ?_;refine Qp (Fj Ai) ?_;refine D5 I6 fun b3=>?_
 refine By 0 Ai (_::_::_::_) (Ax (B5 (Qp Bx ?_)));refine Rt (Dq rfl ((E2 _ _ _ (by simpa using hS) (by decide)).at (k:=2) (H2:=_::_::_::_) rfl rfl)) ?_;refine Bh (fun hc1=>?_) fun hc1=>?_
 .
  try simp only [A4,Bd] at hc1
  refine AW.ghost (GS.Aaf (H2:=_::_::_::_) 2 rfl (congrArg cP (Fv hc1)) rfl) ?_;refine AW.region (Qp Bx ?_);refine Rt (Dq rfl ((hE _ bp (by simpa using hO)).at (k:=2) (H2:=_::_::_::_) rfl rfl)) ?_;refine Qp (Jh [Ai] rfl) (Qp Cw ?_);refine By 0 Ai (_::_::_::_) (B7 (Sb 0 Ai rfl ?_));refine By 1 Ai (_::_::_::_) (Rb ?_);refine ⟨.inr rfl,[.agg Ai],Zb 1,_,S2,?_⟩;refine ⟨?_,congrArg (fun c=>HO.box bp 223 c::H) ?_⟩
  .
   try simp only [Ah,I5,cSyn,Ao,A5,Bf,hc1,↓reduceIte,Ak,Bu,Bm]
   try rfl
  try simp only [cP,I5,hc1,↓reduceIte,Ak,Bu,Bm]
  try rfl
 try simp only [A4,Bd] at hc1
 refine AW.ghost (GS.Aaf (H2:=_::_::_::_) 2 rfl (congrArg cP (Ii hc1)) rfl) ?_;refine B2 (Aa (Sb 0 Ai rfl ?_));refine By 1 Ai (_::_::_::_) (Rb ?_);refine ⟨.inr rfl,[.agg Ai],Zb 1,_,S2,?_⟩;refine ⟨?_,congrArg (fun c=>HO.box bp 223 c::H) ?_⟩
 .
  try simp only [Ah,I5,cSyn,Ao,A5,Bf,hc1,↓reduceIte,Ak,Bu,Bm]
  try rfl
 try simp only [cP,I5,hc1,↓reduceIte,Ak,Bu,Bm]
 try rfl
theorem p_form2 (st:PS)(bp:Nat)(z:Syn)(bo:Nat)(v:Value)(es:List (List AV))(he:es=z.kids.map C6)(hz:z.kids.length<=1000)(R:List HO)(E:PS->Syn×PS)(hFE:Dh E)(hE:∀(st:PS) (bp:Nat),okD 0 st->Bk Tryz.prog 164 bp 223 (cP st) (cP (E st).2) [.val (.pointer (some ⟨bp,0,none⟩))] (.agg (cSyn (E st).1)))(hO:okD 0 st):Cf Tryz.prog 283 (.box bp 223 (cP st) :: .box bo 25 (cRw z v es) :: .row v es.length 25 6::R) [.val (.pointer (some ⟨bp,0,none⟩)),.val (.pointer (some ⟨bo,0,none⟩))] (fun r H'=>r = .tuple []/\∃v' es',es'=(Gs E Gd 10 z st).1.kids.map C6/\H' = .box bp 223 (cP (Gs E Gd 10 z st).2) :: .box bo 25 (cRw (Gs E Gd 10 z st).1 v' es') :: .row v' es'.length 25 6::R):=by
 have hS:=hO.1;have hsc:∀c∈es,A0 c=true:=by rw [he];exact Wd _
 have hel:es.length<=1000:=by rw [he,Bt];exact hz
 refine Jg 18 Tryz.func283 rfl ?_;refine AW.ghostPost (Aa (Qp Bx ?_));refine Rt (Dq rfl ((D0 _ _ _ (by simpa using hS) (by decide)).at (k:=0) (H2:=_::_::_::_) rfl rfl)) ?_;refine Ax (Rm 1 rfl (Qn 0 rfl Bx (Qn 1 rfl (Ad rfl) (Qn 2 rfl Cw (Qn 3 rfl (Lw (.row _ _ _) rfl) (Qn 4 rfl Bx (Qn 6 rfl (G6 tok rfl rfl rfl rfl) (Qn 7 rfl (M9 tok rfl rfl rfl rfl rfl rfl rfl rfl rfl) ?_))))))));refine Xa 5 rfl (Dq rfl ((p_event (Ce D1 st) bp E hFE hE (by simpa using hO)).at (k:=0) (H2:=_::_::_::_) rfl rfl)) (by rintro _ _ ⟨rfl,rfl⟩;simp) ?_;rintro _ _ ⟨rfl,rfl⟩;refine Hq.sync (fun _=>True) _ _ 8 _ _ rfl (by kernel_rfl) rfl rfl (Wz (k:=2) tok rfl rfl rfl rfl rfl rfl rfl rfl (Et rfl) rfl (hsc) (by simp;omega) (by simp [maxLen];omega)) (by kernel_rfl) (fun _ _ _=>trivial) ?_;rintro _ _ ⟨ba14,ca14,rfl,rfl⟩;refine Qn 9 rfl (Fm (o':=es.length*6) tok rfl rfl rfl rfl rfl (by omega) (by omega) (by simp)) ?_;refine Qn 11 rfl (Ad rfl) (Qn 12 rfl Cw ?_);refine Hq.two _ _ 10 13 _ _ _ _ rfl rfl (by kernel_rfl) rfl rfl rfl rfl (Jy (k:=2) (v:=.agg _) (H2:=_::_::_::_) tok rfl rfl rfl rfl (by simp) (by simp) rfl rfl rfl rfl) (Kt 1 (.val _) Ai (_::_::_::_) rfl) (by rintro _ _ ⟨rfl,rfl⟩;trivial) (by rintro _ _ ⟨rfl,rfl⟩;trivial) ?_ ?_
 .
  rintro _ _ ⟨rfl,rfl⟩;refine Oj 13 rfl (Kt 1 (.val _) Ai (_::_::_::_) rfl) ?_;refine Ig ?_;refine ⟨_,GS.appCell (H2:=_::_::_::_) 2 1 4 rfl (by simp) rfl rfl rfl rfl,.inl rfl,[],.nil,_,.refl _,?_⟩;exact ⟨rfl,_,_,K3 he,rfl⟩
 rintro _ _ ⟨rfl,rfl⟩;refine Oj 10 rfl (Jy (k:=2) (v:=.agg _) (H2:=_::_::_::_) tok rfl rfl rfl rfl (by simp) (by simp) rfl rfl rfl rfl) ?_;refine Ig ?_;refine ⟨_,GS.appCell (H2:=_::_::_::_) 2 1 4 rfl (by simp) rfl rfl rfl rfl,.inl rfl,[],.nil,_,.refl _,?_⟩;exact ⟨rfl,_,_,K3 he,rfl⟩
theorem p_form1 (st:PS)(bp:Nat)(z:Syn)(bo:Nat)(v:Value)(es:List (List AV))(he:es=z.kids.map C6)(hz:z.kids.length<=1000)(R:List HO):Cf Tryz.prog 282 (.box bp 223 (cP st) :: .box bo 25 (cRw z v es) :: .row v es.length 25 6::R) [.val (.pointer (some ⟨bp,0,none⟩)),.val (.pointer (some ⟨bo,0,none⟩))] (fun r H'=>r = .tuple []/\∃v' es',es'=(Gs Gd Gd 9 z st).1.kids.map C6/\H' = .box bp 223 (cP (Gs Gd Gd 9 z st).2) :: .box bo 25 (cRw (Gs Gd Gd 9 z st).1 v' es') :: .row v' es'.length 25 6::R):=by
 refine Jg 4 Tryz.func282 rfl ?_;refine AW.skip ?_;refine ⟨.inl rfl,[],.nil,_,.refl _,?_⟩;exact ⟨rfl,_,_,he,rfl⟩
theorem p_form3 (st:PS)(bp:Nat)(z:Syn)(bo:Nat)(v:Value)(es:List (List AV))(he:es=z.kids.map C6)(hz:z.kids.length<=1000)(R:List HO)(hS:Uw st):Cf Tryz.prog 284 (.box bp 223 (cP st) :: .box bo 25 (cRw z v es) :: .row v es.length 25 6::R) [.val (.pointer (some ⟨bp,0,none⟩)),.val (.pointer (some ⟨bo,0,none⟩))] (fun r H'=>r = .tuple []/\∃v' es',es'=(Gs Gd Gd 11 z st).1.kids.map C6/\H' = .box bp 223 (cP (Gs Gd Gd 11 z st).2) :: .box bo 25 (cRw (Gs Gd Gd 11 z st).1 v' es') :: .row v' es'.length 25 6::R):=by
 refine Jg 11 Tryz.func284 rfl ?_;refine Aa (Qp Bx ?_);refine Rt (Dq rfl ((D0 _ _ _ (by simpa using hS) (by decide)).at (k:=0) (H2:=_::_::_::_) rfl rfl)) ?_;refine Ax (AW.region (Qp Bx (Qp Bx ?_)));refine Rt (Dq rfl ((kA _ _ (by simpa using hS)).at (k:=0) (H2:=_::_::_::_) rfl rfl)) ?_;refine Qp (Ad rfl) (Qp Cw ?_);refine By 1 Ai (_::_::_::_) (AOL.nil ?_);refine ⟨.inl rfl,[],.nil,_,.refl _,?_⟩;exact ⟨rfl,_,_,he,rfl⟩
theorem p_form4 (st:PS)(bp:Nat)(z:Syn)(bo:Nat)(v:Value)(es:List (List AV))(he:es=z.kids.map C6)(hz:z.kids.length<=1000)(R:List HO)(E:PS->Syn×PS)(hFE:Dh E)(hE:∀(st:PS) (bp:Nat),okD 0 st->Bk Tryz.prog 164 bp 223 (cP st) (cP (E st).2) [.val (.pointer (some ⟨bp,0,none⟩))] (.agg (cSyn (E st).1)))(hO:okD 0 st):Cf Tryz.prog 286 (.box bp 223 (cP st) :: .box bo 25 (cRw z v es) :: .row v es.length 25 6::R) [.val (.pointer (some ⟨bp,0,none⟩)),.val (.pointer (some ⟨bo,0,none⟩))] (fun r H'=>r = .tuple []/\∃v' es',es'=(Gs E Gd 12 z st).1.kids.map C6/\H' = .box bp 223 (cP (Gs E Gd 12 z st).2) :: .box bo 25 (cRw (Gs E Gd 12 z st).1 v' es') :: .row v' es'.length 25 6::R):=by
 have hS:=hO.1;have hsc:∀c∈es,A0 c=true:=by rw [he];exact Wd _
 have hel:es.length<=1000:=by rw [he,Bt];exact hz
 refine Jg 18 Tryz.func286 rfl ?_;refine AW.ghostPost (Aa (Qp Bx ?_));refine Rt (Dq rfl ((D0 _ _ _ (by simpa using hS) (by decide)).at (k:=0) (H2:=_::_::_::_) rfl rfl)) ?_;refine Ax (Rm 1 rfl (Qn 0 rfl Bx (Qn 1 rfl (Ad rfl) (Qn 2 rfl Cw (Qn 3 rfl (Lw (.row _ _ _) rfl) (Qn 4 rfl Bx (Qn 6 rfl (G6 tok rfl rfl rfl rfl) (Qn 7 rfl (M9 tok rfl rfl rfl rfl rfl rfl rfl rfl rfl) ?_))))))));refine Xa 5 rfl (Dq rfl ((hE (Ce D1 st) bp (by simpa using hO)).at (k:=0) (H2:=_::_::_::_) rfl rfl)) (by rintro _ _ ⟨rfl,rfl⟩;simp) ?_;rintro _ _ ⟨rfl,rfl⟩;refine Hq.sync (fun _=>True) _ _ 8 _ _ rfl (by kernel_rfl) rfl rfl (Wz (k:=2) tok rfl rfl rfl rfl rfl rfl rfl rfl (Et rfl) rfl (hsc) (by simp;omega) (by simp [maxLen];omega)) (by kernel_rfl) (fun _ _ _=>trivial) ?_;rintro _ _ ⟨ba14,ca14,rfl,rfl⟩;refine Qn 9 rfl (Fm (o':=es.length*6) tok rfl rfl rfl rfl rfl (by omega) (by omega) (by simp)) ?_;refine Qn 11 rfl (Ad rfl) (Qn 12 rfl Cw ?_);refine Hq.two _ _ 10 13 _ _ _ _ rfl rfl (by kernel_rfl) rfl rfl rfl rfl (Jy (k:=2) (v:=.agg _) (H2:=_::_::_::_) tok rfl rfl rfl rfl (by simp) (by simp) rfl rfl rfl rfl) (Kt 1 (.val _) Ai (_::_::_::_) rfl) (by rintro _ _ ⟨rfl,rfl⟩;trivial) (by rintro _ _ ⟨rfl,rfl⟩;trivial) ?_ ?_
 .
  rintro _ _ ⟨rfl,rfl⟩;refine Oj 13 rfl (Kt 1 (.val _) Ai (_::_::_::_) rfl) ?_;refine Ig ?_;refine ⟨_,GS.appCell (H2:=_::_::_::_) 2 1 4 rfl (by simp) rfl rfl rfl rfl,.inl rfl,[],.nil,_,.refl _,?_⟩;exact ⟨rfl,_,_,K3 he,rfl⟩
 rintro _ _ ⟨rfl,rfl⟩;refine Oj 10 rfl (Jy (k:=2) (v:=.agg _) (H2:=_::_::_::_) tok rfl rfl rfl rfl (by simp) (by simp) rfl rfl rfl rfl) ?_;refine Ig ?_;refine ⟨_,GS.appCell (H2:=_::_::_::_) 2 1 4 rfl (by simp) rfl rfl rfl rfl,.inl rfl,[],.nil,_,.refl _,?_⟩;exact ⟨rfl,_,_,K3 he,rfl⟩
abbrev bA (T:PS->Syn×PS)(st:PS):Syn×PS:=T (Ce D1 st)
theorem p_several (st:PS)(bp:Nat)(z:Syn)(bo:Nat)(v:Value)(es:List (List AV))(he:es=z.kids.map C6)(hz:z.kids.length<=1000)(R:List HO)(D:Int)(hD:0<=D)(T:PS->Syn×PS)(hFT:Dh T)(hT:∀(st:PS) (bp:Nat),okD D st->Bk Tryz.prog 162 bp 223 (cP st) (cP (T st).2) [.val (.pointer (some ⟨bp,0,none⟩))] (.agg (cSyn (T st).1)))(hO:okD D st):Cf Tryz.prog 281 (.box bp 223 (cP st) :: .box bo 25 (cRw z v es) :: .row v es.length 25 6::R) [.val (.pointer (some ⟨bp,0,none⟩)),.val (.pointer (some ⟨bo,0,none⟩))] (fun r H'=>r = .tuple []/\∃v' es',es'=(fV T z st).1.kids.map C6/\H' = .box bp 223 (cP (fV T z st).2) :: .box bo 25 (cRw (fV T z st).1 v' es') :: .row v' es'.length 25 6::R):=by
 have hS:=hO.1;have hsc:∀c∈es,A0 c=true:=by rw [he];exact Wd _
 have hel:es.length<=1000:=by rw [he,Bt];exact hz
 have hO1:okD D (Ce D1 st):=by simpa using hO
 have hO3:okD D (bA T st).2:=hFT.okD hD hO1;refine Jg 32 Tryz.func281 rfl ?_;refine AW.ghostPost (Aa (Qp Bx ?_));refine Rt (Dq rfl ((D0 _ _ _ (by simpa using hS) (by decide)).at (k:=0) (H2:=_::_::_::_) rfl rfl)) ?_;refine Ax ?_;refine AW.Aai (fun (q:Value)=>(⟨[(0,.val (.pointer (some ⟨bp,0,none⟩))),(1,.val (.pointer (some ⟨bo,0,none⟩)))],.box bp 223 (cP (bA T st).2) :: .box bo 25 (cRw z q (es ++ [cSyn (bA T st).1])) :: .row q (es ++ [cSyn (bA T st).1]).length 25 6::R,32⟩:St)) (fun q=>True) ?_ ?_
 .
  refine Rm 1 rfl (Qn 0 rfl Bx (Qn 1 rfl (Ad rfl) (Qn 2 rfl Cw (Qn 3 rfl (Lw (.row _ _ _) rfl) (Qn 4 rfl Bx (Qn 6 rfl (G6 tok rfl rfl rfl rfl) (Qn 7 rfl (M9 tok rfl rfl rfl rfl rfl rfl rfl rfl rfl) ?_)))))));refine Xa 5 rfl (Dq rfl ((hT (Ce D1 st) bp hO1).at (k:=0) (H2:=_::_::_::_) rfl rfl)) (by rintro _ _ ⟨rfl,rfl⟩;simp) ?_;rintro _ _ ⟨rfl,rfl⟩;refine Hq.sync (fun _=>True) _ _ 8 _ _ rfl (by kernel_rfl) rfl rfl (Wz (k:=2) tok rfl rfl rfl rfl rfl rfl rfl rfl (Et rfl) rfl (hsc) (by simp;omega) (by simp [maxLen];omega)) (by kernel_rfl) (fun _ _ _=>trivial) ?_;rintro _ _ ⟨ba14,ca14,rfl,rfl⟩;refine Qn 9 rfl (Fm (o':=es.length*6) tok rfl rfl rfl rfl rfl (by omega) (by omega) (by simp)) ?_;refine Qn 11 rfl (Ad rfl) (Qn 12 rfl Cw ?_);refine Hq.two _ _ 10 13 _ _ _ _ rfl rfl (by kernel_rfl) rfl rfl rfl rfl (Jy (k:=2) (v:=.agg _) (H2:=_::_::_::_) tok rfl rfl rfl rfl (by simp) (by simp) rfl rfl rfl rfl) (Kt 1 (.val _) Ai (_::_::_::_) rfl) (by rintro _ _ ⟨rfl,rfl⟩;trivial) (by rintro _ _ ⟨rfl,rfl⟩;trivial) ?_ ?_
  .
   rintro _ _ ⟨rfl,rfl⟩;refine Oj 13 rfl (Kt 1 (.val _) Ai (_::_::_::_) rfl) ?_;refine Ig ?_;refine Av ?_;refine ⟨.slice (some ⟨ba14,0,none⟩) (es.length+1) ca14,?_,GS.trans (GS.appCell (H2:=_::_::_::_) 2 1 4 rfl (by simp) rfl rfl rfl rfl) C2⟩
   trivial
  rintro _ _ ⟨rfl,rfl⟩;refine Oj 10 rfl (Jy (k:=2) (v:=.agg _) (H2:=_::_::_::_) tok rfl rfl rfl rfl (by simp) (by simp) rfl rfl rfl rfl) ?_;refine Ig ?_;refine Av ?_;refine ⟨.slice (some ⟨ba14,0,none⟩) (es.length+1) ca14,?_,GS.trans (GS.appCell (H2:=_::_::_::_) 2 1 4 rfl (by simp) rfl rfl rfl rfl) C2⟩
  trivial
 rintro q _;refine AW.block ?_;refine AW.Aad (fun (p:Nat×PS×List Syn×List (List AV)×Value)=>(⟨[(0,.val (.pointer (some ⟨bp,0,none⟩))),(1,.val (.pointer (some ⟨bo,0,none⟩)))],.box bp 223 (cP p.2.1) :: .box bo 25 (cRw z p.2.2.2.2 p.2.2.2.1) :: .row p.2.2.2.2 p.2.2.2.1.length 25 6::R,32⟩:St)) (fun p=>p.2.2.2.1=p.2.2.1.map C6/\okD D p.2.1/\A3 p.2.1<=p.1/\p.2.2.1.length<=p.2.1.pos+1002/\Ht T (A3 (bA T st).2) (bA T st).2 (z.kids ++ [(bA T st).1])=Ht T p.1 p.2.1 p.2.2.1) (fun p=>p.1) ((A3 (bA T st).2,(bA T st).2,z.kids ++ [(bA T st).1],es ++ [cSyn (bA T st).1],q)) ?_ C2 ?_
 . exact ⟨K3 he,hO3,Br _,by simp only [Au,Hl];omega,rfl⟩
 rintro p hR;have hes:p.2.2.2.1=p.2.2.1.map C6:=hR.1;have hO2:okD D p.2.1:=hR.2.1;have hS:=hO2.1;have hfu:A3 p.2.1<=p.1:=hR.2.2.1;have hn:0<p.1:=by unfold A3 at hfu;omega
 have hol:p.2.2.1.length<=p.2.1.pos+1002:=hR.2.2.2.1;have hsc2:∀c∈p.2.2.2.1,A0 c=true:=by rw [hes];exact Wd _
 have hel2:p.2.2.2.1.length=p.2.2.1.length:=by rw [hes,Bt]
 refine B5 (Qp Bx ?_);refine Rt (Dq rfl ((E2 _ _ _ (by simpa using hS) (by decide)).at (k:=0) (H2:=_::_::_::_) rfl rfl)) ?_;refine Bh (fun hc1=>?_) fun hc1=>?_
 .
  try simp only [A4,Bd] at hc1
  have hlt:=Yf hc1;have hml:=hS.1;have hFa:=hFT (adv p.2.1) (by have:=hO2.2.1;show (0:Int)<=p.2.1.depth;omega) hO2.2.2;have hps:p.2.1.pos+1<=(T (adv p.2.1)).2.pos:=hFa.2.1;have hts:(T (adv p.2.1)).2.toks=p.2.1.toks:=hFa.1;refine AW.ghost (GS.Aaf (H2:=_::_::_::_) 0 rfl (congrArg cP (Fv hc1)) rfl) ?_;refine B2 (AW.block (Rm 1 rfl (Qn 0 rfl Bx (Qn 1 rfl (Ad rfl) (Qn 2 rfl Cw (Qn 3 rfl (Lw (.row _ _ _) rfl) (Qn 4 rfl Bx (Qn 6 rfl (G6 tok rfl rfl rfl rfl) (Qn 7 rfl (M9 tok rfl rfl rfl rfl rfl rfl rfl rfl rfl) ?_)))))))));refine Xa 5 rfl (Dq rfl ((hT _ bp (by simpa using hO2)).at (k:=0) (H2:=_::_::_::_) rfl rfl)) (by rintro _ _ ⟨rfl,rfl⟩;simp) ?_;rintro _ _ ⟨rfl,rfl⟩;refine Hq.sync (fun _=>True) _ _ 8 _ _ rfl (by kernel_rfl) rfl rfl (Wz (k:=2) tok rfl rfl rfl rfl rfl rfl rfl rfl (Et rfl) rfl (hsc2) (by simp;omega) (by simp [maxLen];omega)) (by kernel_rfl) (fun _ _ _=>trivial) ?_;rintro _ _ ⟨ba28,ca28,rfl,rfl⟩;refine Qn 9 rfl (Fm (o':=p.2.2.2.1.length*6) tok rfl rfl rfl rfl rfl (by omega) (by omega) (by simp)) ?_;refine Qn 11 rfl (Ad rfl) (Qn 12 rfl Cw ?_);refine Hq.two _ _ 10 13 _ _ _ _ rfl rfl (by kernel_rfl) rfl rfl rfl rfl (Jy (k:=2) (v:=.agg _) (H2:=_::_::_::_) tok rfl rfl rfl rfl (by simp) (by simp) rfl rfl rfl rfl) (Kt 1 (.val _) Ai (_::_::_::_) rfl) (by rintro _ _ ⟨rfl,rfl⟩;trivial) (by rintro _ _ ⟨rfl,rfl⟩;trivial) ?_ ?_
  .
   rintro _ _ ⟨rfl,rfl⟩;refine Oj 13 rfl (Kt 1 (.val _) Ai (_::_::_::_) rfl) ?_;refine Ig ?_;refine J1 (Av ?_);refine ⟨(p.1-1,(T (adv p.2.1)).2,p.2.2.1 ++ [(T (adv p.2.1)).1],p.2.2.2.1 ++ [cSyn (T (adv p.2.1)).1],.slice (some ⟨ba28,0,none⟩) (p.2.2.2.1.length+1) ca28),?_,?_,GS.trans (GS.appCell (H2:=_::_::_::_) 2 1 4 rfl (by simp) rfl rfl rfl rfl) C2⟩
   . exact ⟨K3 hes,hFT.okD hD (by simpa using hO2),by unfold A3 at hfu ⊢;rw [hts];simp only;omega,by simp only [Au,Hl];omega,hR.2.2.2.2.trans (by rw [Pn hn,if_pos hc1])⟩
   simp only;omega
  rintro _ _ ⟨rfl,rfl⟩;refine Oj 10 rfl (Jy (k:=2) (v:=.agg _) (H2:=_::_::_::_) tok rfl rfl rfl rfl (by simp) (by simp) rfl rfl rfl rfl) ?_;refine Ig ?_;refine J1 (Av ?_);refine ⟨(p.1-1,(T (adv p.2.1)).2,p.2.2.1 ++ [(T (adv p.2.1)).1],p.2.2.2.1 ++ [cSyn (T (adv p.2.1)).1],.slice (some ⟨ba28,0,none⟩) (p.2.2.2.1.length+1) ca28),?_,?_,GS.trans (GS.appCell (H2:=_::_::_::_) 2 1 4 rfl (by simp) rfl rfl rfl rfl) C2⟩
  . exact ⟨K3 hes,hFT.okD hD (by simpa using hO2),by unfold A3 at hfu ⊢;rw [hts];simp only;omega,by simp only [Au,Hl];omega,hR.2.2.2.2.trans (by rw [Pn hn,if_pos hc1])⟩
  simp only;omega
 try simp only [A4,Bd] at hc1
 refine AW.ghost (GS.Aaf (H2:=_::_::_::_) 0 rfl (congrArg cP (Ii hc1)) rfl) ?_;refine AW.exit ?_;refine B1 (B1 (U9 ?_));refine ⟨_,GS.refl _,.inl rfl,[],.nil,_,.refl _,?_⟩
 have h9:fV T z st=({ z with kids:=p.2.2.1 },p.2.1):=by
  have h8:Ht T (A3 (bA T st).2) (bA T st).2 (z.kids ++ [(bA T st).1])=(p.2.2.1,p.2.1):=hR.2.2.2.2.trans (by rw [Pn hn,iN hc1]);unfold fV;simp only;rw [h8]
 exact ⟨rfl,p.2.2.2.2,p.2.2.2.1,by rw [h9];exact hes,by rw [h9]⟩
def formC:List (List AV):=[[.str Yq,.int .i64 6,.fn (.func 281) [] []],[.str Yp,.int .i64 7,.fn (.func 281) [] []],[.str Yn,.int .i64 8,.fn (.func 281) [] []],[.str Sn,.int .i64 9,.fn (.func 282) [] []],[.str Ni,.int .i64 10,.fn (.func 283) [] []],[.str K5,.int .i64 11,.fn (.func 284) [] []],[.str K4,.int .i64 12,.fn (.func 286) [] []]]
theorem pp_forms  : An Tryz.prog 225 [] (.sl 3 formC):=by
 refine Fb 9 Tryz.func225 rfl fun H=>?_
 refine Aa (Qp (B8 (z:=3) rfl) (B7 (Qp (Fj tE) (Qp (Fj tE) (Qp (Fj tE) (Qp (Fj tE) (Qp (Fj tE) (Qp (Fj tE) (Qp (Fj tE) (Qp (Jh [tE,tE,tE,tE,tE,tE,tE] rfl) (Qp lK (Rb (Qr (.sl _ _) ?_)))))))))))));rfl
def Yu (fn:Nat)(E T:PS->Syn×PS)(D:Int)(k:Int):Prop:=∀(st:PS) (bp:Nat) (z:Syn) (bo:Nat) (v:Value) (es:List (List AV)) (he:es=z.kids.map C6) (hz:z.kids.length<=1000) (R:List HO),okD D st->Cf Tryz.prog fn (.box bp 223 (cP st) :: .box bo 25 (cRw z v es) :: .row v es.length 25 6::R) [.val (.pointer (some ⟨bp,0,none⟩)),.val (.pointer (some ⟨bo,0,none⟩))] (fun r H'=>r = .tuple []/\∃v' es',es'=(Gs E T k z st).1.kids.map C6/\H' = .box bp 223 (cP (Gs E T k z st).2) :: .box bo 25 (cRw (Gs E T k z st).1 v' es') :: .row v' es'.length 25 6::R)
theorem Ue (D:Int)(hD:0<=D)(T:PS->Syn×PS)(hFT:Dh T)(hT:∀(st:PS) (bp:Nat),okD D st->Bk Tryz.prog 162 bp 223 (cP st) (cP (T st).2) [.val (.pointer (some ⟨bp,0,none⟩))] (.agg (cSyn (T st).1)))(E:PS->Syn×PS)(k:Int)(h:k<=8):Yu 281 E T D k:=fun st bp z bo v es he hz R hO=>by
 have e:Gs E T k z st=fV T z st:=by unfold Gs;rw [if_pos (Iu h)]
 rw [e];exact p_several st bp z bo v es he hz R D hD T hFT hT hO
theorem rest_plus (D:Int)(E T:PS->Syn×PS):Yu 282 E T D 9:=fun st bp z bo v es he hz R hO=>p_form1 st bp z bo v es he hz R
theorem zC (E:PS->Syn×PS)(hFE:Dh E)(hE:∀(st:PS) (bp:Nat),okD 0 st->Bk Tryz.prog 164 bp 223 (cP st) (cP (E st).2) [.val (.pointer (some ⟨bp,0,none⟩))] (.agg (cSyn (E st).1)))(D:Int)(hD:0<=D)(T:PS->Syn×PS):Yu 283 E T D 10:=fun st bp z bo v es he hz R hO=>p_form2 st bp z bo v es he hz R E hFE hE (jX hD hO)
theorem vE (D:Int)(E T:PS->Syn×PS):Yu 284 E T D 11:=fun st bp z bo v es he hz R hO=>p_form3 st bp z bo v es he hz R hO.1
theorem zD (E:PS->Syn×PS)(hFE:Dh E)(hE:∀(st:PS) (bp:Nat),okD 0 st->Bk Tryz.prog 164 bp 223 (cP st) (cP (E st).2) [.val (.pointer (some ⟨bp,0,none⟩))] (.agg (cSyn (E st).1)))(D:Int)(hD:0<=D)(T:PS->Syn×PS):Yu 286 E T D 12:=fun st bp z bo v es he hz R hO=>p_form4 st bp z bo v es he hz R E hFE hE (jX hD hO)
theorem form_get (E:PS->Syn×PS)(hFE:Dh E)(hE:∀(st:PS) (bp:Nat),okD 0 st->Bk Tryz.prog 164 bp 223 (cP st) (cP (E st).2) [.val (.pointer (some ⟨bp,0,none⟩))] (.agg (cSyn (E st).1)))(D:Int)(hD:0<=D)(T:PS->Syn×PS)(hFT:Dh T)(hT:∀(st:PS) (bp:Nat),okD D st->Bk Tryz.prog 162 bp 223 (cP st) (cP (T st).2) [.val (.pointer (some ⟨bp,0,none⟩))] (.agg (cSyn (T st).1)))(k:Nat)(hk:k<7):∃(x:Ag×Int) (fn:Nat),formL[k]? = some x/\formC[k]? = some [.str x.1,.int .i64 x.2,.fn (.func fn) [] []]/\Xq Tryz.prog fn=true/\x.1.length<=1048576/\Yu fn E T D x.2:=by
 match k,hk with
 | 0,_=>exact ⟨_,_,rfl,rfl,by kernel_rfl,by decide,Ue D hD T hFT hT E 6 (by decide)⟩
 | 1,_=>exact ⟨_,_,rfl,rfl,by kernel_rfl,by decide,Ue D hD T hFT hT E 7 (by decide)⟩
 | 2,_=>exact ⟨_,_,rfl,rfl,by kernel_rfl,by decide,Ue D hD T hFT hT E 8 (by decide)⟩
 | 3,_=>exact ⟨_,_,rfl,rfl,by kernel_rfl,by decide,rest_plus D E T⟩
 | 4,_=>exact ⟨_,_,rfl,rfl,by kernel_rfl,by decide,zC E hFE hE D hD T⟩
 | 5,_=>exact ⟨_,_,rfl,rfl,by kernel_rfl,by decide,vE D E T⟩
 | 6,_=>exact ⟨_,_,rfl,rfl,by kernel_rfl,by decide,zD E hFE hE D hD T⟩
def patRd (E T:PS->Syn×PS)(k:Int)(z:Syn)(s:PS):Syn×PS:=((Gs E T k { z with kids:=[(T (Ce Ee s)).1] } (T (Ce Ee s)).2).1,Ce Jo (Gs E T k { z with kids:=[(T (Ce Ee s)).1] } (T (Ce Ee s)).2).2)
theorem uS (st:PS)(bp:Nat)(z:Syn)(bo:Nat)(R:List HO)(E:PS->Syn×PS)(hFE:Dh E)(hE:∀(st:PS) (bp:Nat),okD 0 st->Bk Tryz.prog 164 bp 223 (cP st) (cP (E st).2) [.val (.pointer (some ⟨bp,0,none⟩))] (.agg (cSyn (E st).1)))(D:Int)(hD:0<=D)(T:PS->Syn×PS)(hFT:Dh T)(hT:∀(st:PS) (bp:Nat),okD (D+1) st->Bk Tryz.prog 162 bp 223 (cP st) (cP (T st).2) [.val (.pointer (some ⟨bp,0,none⟩))] (.agg (cSyn (T st).1)))(w:Ag)(k:Int)(fn:Nat)(hfn:Xq Tryz.prog fn=true)(hr:Yu fn E T (D+1) k)(hO:okD (D+1) st):Cf Tryz.prog 227 (.box bp 223 (cP st) :: .box bo 25 (cSyn z)::R) [.ptr [.val (.pointer (some ⟨bp,0,none⟩))],.val (.pointer (some ⟨bo,0,none⟩)),.ptr [.str w,.int .i64 k,.fn (.func fn) [] []]] (fun r H'=>r = .tuple []/\H' = .box bp 223 (cP (patRd E T k z st).2) :: .box bo 25 (cSyn (patRd E T k z st).1)::R):=by
 have hS:=hO.1;have hO1:okD (D+1) (Ce Ee st):=by simpa using hO
 have hO2:=hFT.okD (by omega) hO1;have hO4:okD (D+1) (Gs E T k { z with kids:=[(T (Ce Ee st)).1] } (T (Ce Ee st)).2).2:=Nq hO2 (nA hFE hFT k { z with kids:=[(T (Ce Ee st)).1] } (Ov (by omega) hO2));refine Jg 15 Tryz.func227 rfl ?_;refine AW.ghostPost (Aa (Qp Lh ?_));refine Rt (Dq rfl ((D0 _ _ _ (by simpa using hS) (by decide)).at (k:=0) (H2:=_::_::_) rfl rfl)) ?_;refine B7 (Qp Lh (wX ((hT (Ce Ee st) bp hO1).at (k:=0) (H2:=_::_::_) rfl rfl) (Qe (Hv (es:=[Ai]) tok rfl rfl rfl rfl rfl rfl rfl rfl rfl) ?_)));rintro _ _ ⟨v7,rfl,rfl⟩;refine Qp Cw ?_;refine By 2 Ai (_::_::_::_) (B7 (Qp (Qf [_]) (Qp (F0 (c:=.fn _ _ _) tok rfl rfl rfl) (Qp Lh ?_))));refine Qe (Lt (hfn) rfl rfl rfl (Cf.front2 (R:=_::_) 2 1 rfl rfl rfl (hr (T (Ce Ee st)).2 bp { z with kids:=[(T (Ce Ee st)).1] } bo _ _ (by rw [Ao,A5,Bf]) (by simp) _ hO2))) ?_;rintro _ _ ⟨rfl,v2,e2,rfl,rfl⟩;have hS:=hO4.1;refine Ax (AW.region (Qp Lh ?_));refine Rt (Dq rfl ((D0 _ _ _ (by simpa using hS) (by decide)).at (k:=0) (H2:=_::_::_::_) rfl rfl)) ?_;refine AOL.nil ?_;refine ⟨_,GS.cell (H2:=_::_::_::_) 1 4 rfl rfl rfl rfl Eu,.inl rfl,[],.nil,_,.cons_cons _ (.cons_cons _ (.cons _ (.refl _))),?_⟩;exact ⟨rfl,rfl⟩
theorem nN (st:PS)(bp:Nat)(E:PS->Syn×PS)(hFE:Dh E)(hE:∀(st:PS) (bp:Nat),okD 0 st->Bk Tryz.prog 164 bp 223 (cP st) (cP (E st).2) [.val (.pointer (some ⟨bp,0,none⟩))] (.agg (cSyn (E st).1)))(D:Int)(hD:0<=D)(T:PS->Syn×PS)(hFT:Dh T)(hT:∀(st:PS) (bp:Nat),okD (D+1) st->Bk Tryz.prog 162 bp 223 (cP st) (cP (T st).2) [.val (.pointer (some ⟨bp,0,none⟩))] (.agg (cSyn (T st).1)))(hO:okD D st):Bk Tryz.prog 162 bp 223 (cP st) (cP ((U2 E T st).2)) [.val (.pointer (some ⟨bp,0,none⟩))] (.agg (cSyn (U2 E T st).1)):=by
 intro H;have hS:=hO.1;refine Jg 29 Tryz.func162 rfl ?_;refine Aa (Qp (X9 (v:=.val _) (cs:=[_]) rfl rfl rfl) ?_);refine D5 I6 fun b2=>?_
 refine Ax (B5 (Qp (Qc rfl (pp_forms )) (Qp (E6 7 rfl rfl (rfl)) (Qp Ap (Ax (AW.block ?_))))));refine AW.Aad (fun (k:Nat)=>(⟨[(1,.ptr [.val (.pointer (some ⟨bp,0,none⟩))]),(2,.val (.pointer (some ⟨b2,0,none⟩))),(6,.sl 3 formC),(7,.int .i64 7),(8,.int .i64 (k:Int))],.box b2 25 (cSyn Gz) :: .box bp 223 (cP st)::H,29⟩:St)) (fun k=>k<=7/\∀j y,j<k->formL[j]? = some y->Ea y.1 st=false) (fun k=>7-k) (0) ?_ C2 ?_
 . exact ⟨A9 _,fun j y hj=>absurd hj (Nat.not_lt_zero _)⟩
 rintro k hR;refine Aa (Qp Cn (Re (Hb (fun hc1=>?_) fun hc1=>?_)))
 .
  try simp only [A4,Bd] at hc1
  have hk:k<7:=by have:=Ey hc1;omega
  refine (form_get E hFE hE (D+1) (by omega) T hFT hT k hk).elim fun x hx0=>hx0.elim fun fn hx3=>?_
  have hx:=hx3.1;have hx2:=hx3.2.1;have hfn:=hx3.2.2.1;have hwx:=hx3.2.2.2.1;have hrk:=hx3.2.2.2.2;refine B2 (AW.seq (AW.block (Aa ?_)));refine Qp (Eh ([.str x.1,.int .i64 x.2,.fn (.func fn) [] []]) rfl rfl (by omega) (hx2)) ?_;refine Qp (Cm tE) (D5 [.str [],.int .i64 0,.val .nilFunc] fun b4=>?_);refine By 0 tE (_::_::_::_) ?_;refine Kc 4 0 rfl ?_;refine Ax (B5 (Qp Lh (Qp (Qf tE) (Qp Gr ?_))));refine AOL.Aag (Cu (k:=1) (by kernel_rfl) rfl rfl (yR _ _ _ (by simpa using hS) (by assumption))) rfl rfl ?_;refine Qp Ix (Bh (fun hc2=>?_) fun hc2=>?_)
  .
   try simp only [A4,Bd] at hc2
   refine AW.exit (Ri (AW.region (Qp Gw (Qp Ap (Ax ?_)))));refine ⟨k+1,?_,?_,C2⟩
   . exact ⟨hk,fun j y hj hy=>by rcases bK.1 hj with h | rfl;exact hR.2 j y h hy;rw [hx] at hy;cases hy;exact hc2⟩
   omega
  try simp only [A4,Bd] at hc2
  have hfd:formL.find? (fun f=>Ea f.1 st)=some x:=aC hR.2 hx hc2;refine B2 (AW.seq (Rm 1 rfl (Qn 0 rfl (Qf [Iq _,_]) (Qn 1 rfl B6 (Qn 2 rfl Lh ?_)))));refine Qn 3 rfl (Dp.mem (fun k=>Cu (k:=k) (by kernel_rfl) rfl rfl (Ky _ _)) (fun _ h=>h)) ?_;refine Qn 4 rfl (Fj Ai) ?_;refine Xa 5 rfl (Ke (l:=I6) (by kernel_rfl)) (by rintro _ _ ⟨b5,rfl,rfl⟩;simp) ?_;rintro _ _ ⟨b5,rfl,rfl⟩;refine fY 6 rfl (Kt 0 (.agg _) Ai (_::_::_::_) rfl) ?_;rintro _ _ ⟨rfl,rfl⟩;refine Av (Aa (Qp Lh (Qp (B9 (l:=[]) (l':=[.ptr _,.val _,.ptr _]) rfl rfl) ?_)));refine Rt (Dq rfl (Cf.front2 (R:=_::_) 0 1 rfl rfl rfl (cW (patRd E T x.2) ⟨x.2,[],[],0,[],Fs st⟩ st bp b5 _ 227 (by kernel_rfl) [] [.ptr [.val (.pointer (some ⟨bp,0,none⟩))],.val (.pointer (some ⟨b5,0,none⟩)),.ptr [.str x.1,.int .i64 x.2,.fn (.func fn) [] []]] (Yf hc2) hS (fun hb=>uS _ bp ⟨x.2,[],[],0,[],Fs st⟩ b5 _ E hFE hE D hD T hFT hT x.1 x.2 fn hfn hrk (jW hD hO hb))))) ?_;refine B7 (Sb 1 Ai rfl ?_);refine By 2 Ai (_::_::_::_) (Ra (A7 (Dz (A7 ?_))));refine ⟨.inr rfl,[.agg Ai],.cons (.box _ _ _ 2 _ _ _ _ rfl rfl rfl rfl rfl rfl) <| .nil,_,.cons_cons _ (.cons _ (.cons _ (.refl _))),?_⟩;have h9:U2 E T st=Np (patRd E T x.2) ⟨x.2,[],[],0,[],Fs st⟩ st:=by unfold U2;rw [hfd];rfl
  exact ⟨by rw [h9];rfl,congrArg (fun s=>HO.box bp 223 (cP s)::H) (by rw [h9])⟩
 try simp only [A4,Bd] at hc1
 have hkn:¬k<7:=by have:=G3 hc1;omega
 have hfd:formL.find? (fun f=>Ea f.1 st)=none:=iT (k:=k) hkn hR.2;refine AW.exit ?_;refine B1 (Ri (Aa (Qp Lh ?_)));refine wX ((p_event st bp E hFE hE (jX hD hO)).at (k:=1) (H2:=_::_::_) rfl rfl) ?_;refine By 0 Ai (_::_::_) (Rb ?_);refine ⟨.inr rfl,[.agg Ai],Zb 0,_,S1,?_⟩;have h9:U2 E T st=I5 E st:=by unfold U2;rw [hfd]
 exact ⟨by rw [h9];rfl,congrArg (fun s=>HO.box bp 223 (cP s)::H) (by rw [h9])⟩
theorem pat_all (E:PS->Syn×PS)(hFE:Dh E)(hE:∀(st:PS) (bp:Nat),okD 0 st->Bk Tryz.prog 164 bp 223 (cP st) (cP (E st).2) [.val (.pointer (some ⟨bp,0,none⟩))] (.agg (cSyn (E st).1))):∀(n:Nat),n<=64->∀(st:PS) (bp:Nat),okD (64-(n:Int)) st->Bk Tryz.prog 162 bp 223 (cP st) (cP (kD E n st).2) [.val (.pointer (some ⟨bp,0,none⟩))] (.agg (cSyn (kD E n st).1))
  | 0,_=>fun st bp hO=>nN st bp E hFE hE 64 (by decide) Gd Jj (fun _ _ h=>(Vr h).elim) hO
  | n+1,hn=>fun st bp hO=>by
    have ih:=pat_all E hFE hE n (by omega);exact nN st bp E hFE hE (64-((n+1:Nat):Int)) (by omega) (kD E n) (cF hFE n) (fun s b h=>ih s b ⟨h.1,by have:=h.2.1;omega,h.2.2⟩) hO
theorem Xn:Dh EE:=(L5 64).2
theorem gE:Dh TT:=cF Xn 64
theorem p_EE (st:PS)(bp:Nat)(h:okD 0 st):Bk Tryz.prog 164 bp 223 (cP st) (cP (EE st).2) [.val (.pointer (some ⟨bp,0,none⟩))] (.agg (cSyn (EE st).1)):=(neg_all 64 (Br _)).2 st bp h
theorem p_TT (st:PS)(bp:Nat)(h:okD 0 st):Bk Tryz.prog 162 bp 223 (cP st) (cP (TT st).2) [.val (.pointer (some ⟨bp,0,none⟩))] (.agg (cSyn (TT st).1)):=pat_all EE Xn p_EE 64 (Br _) st bp h
theorem Za (s:Ag):∀(n i:Nat) (b:Ag),b.length<=i->i<=s.length->(Hr s n i b).tok.text.length<=s.length
  | 0,i,b,h1,h2=>by simp [Hr,Nw,Wj]
  | n+1,i,b,h1,h2=>by
    unfold Hr;split
    . rename_i hi
      simp only [Ck] at hi;split
      . split
        . simp [Nw,Wj]
        simp only [Y4];omega
      . split
        . split
          . simp [Nw,Wj]
          . rename_i he
            have hp:=xS (s.drop i);rw [Ej] at hp;have hz:(Kw (s.drop i)).2≠0:=by simpa using he
            exact Za s n _ _ (by rw [Au,Hl];omega) (by omega)
        . split
          . simp [Nw,Wj]
          exact Za s n _ _ (by rw [Au,Hl];omega) (by omega)
    simp [Nw,Wj]
theorem fF (s:Ag):∀l:List Ag,(∀x∈l,x.length<=2)->(Ia s l).tok.text.length<=2
  | [],_=>by simp [Ia,Nw,Wj]
  | x::r,h=>by
    unfold Ia;split
    . exact h x (I7 ..)
    exact fF s r fun y hy=>h y (F9 _ hy)
theorem next_text (t:Ag)(h0:0<t.length):(Ca t).tok.text.length<=t.length+2:=by
 have hn:(Kx t).tok.text.length<=t.length:=by
  unfold Kx;split
  . simp [xW,Wj]
  split
  . simp [Nw,Wj]
  simp only [Y4,G2];omega
 have hm:(F4 t).tok.text.length<=t.length:=by
  unfold F4;split
  . simp [xW,Wj]
  split
  . simp [Nw,Wj]
  split
  . simp [Nw,Wj]
  simp only [Y4,G2];omega
 have hl:(Lq t).tok.text.length<=t.length:=by
  unfold Lq;split
  . simp [xW,Wj]
  exact Za t _ 1 [] (A9 _) h0
 have hs:=fF t nT (by decide);unfold Ca;split
 . omega
 split
 . omega
 split
 . omega
 exact Ga hs (by omega)
theorem scan_okT (s:Ag)(hl:s.length<=100000):okT (Dx s).1:=by
  have key:∀(n i:Nat) (out:List Tok),i<=s.length->out.length<=i->(∀t∈out,t.text.length<=s.length+2)->(J8 s n i out).1.length<=s.length/\∀t∈(J8 s n i out).1,t.text.length<=s.length+2:=by
    intro n
    induction n with
    | zero=>intro i out h1 h2 h3;exact ⟨A9 _,fun t h=>by cases h⟩
    | succ n ih=>
      intro i out h1 h2 h3;unfold J8;split
      . rename_i hi
        simp only [Ck] at hi;have hs:=qM (s.drop i);have hn:=gK (s.drop i) (by rw [Ej];omega);have ht:=next_text (s.drop i) (by rw [Ej];omega);rw [Ej] at hs hn ht;have hs2:=hs.2 (by omega);split
        . exact ih _ _ (by omega) (by omega) h3
        . split
          . exact ⟨A9 _,fun t h=>by cases h⟩
          . rename_i h4
            have hp:=hn.2.2.2.2 (by simpa using h4);refine ih _ _ (by omega) (by rw [Au,Hl];omega) fun t h=>?_
            rcases Is.1 h with h | h
            . exact h3 t h
            rw [Ft] at h;subst h;simp only;omega
      exact ⟨Ga h2 h1,h3⟩
  unfold Dx;split
  . exact ⟨A9 _,fun t h=>by cases h⟩
  . have:=key (s.length+1) 0 [] (A9 _) (Br _) (fun t h=>by cases h)
    exact ⟨by omega,fun t h=>by have:=this.2 t h;omega⟩
theorem begin_okD (s:Ag)(hl:s.length<=100000):okD 0 (J0 (Dx s).1 s.length):=⟨scan_okT s hl,Ic _,(by decide:(0:Int)<=64)⟩
theorem p_kind (st:PS)(bp:Nat)  (hO:okD 0 st):Bk Tryz.prog 157 bp 223 (cP st) (cP ((Jc st).2)) [.val (.pointer (some ⟨bp,0,none⟩))] (.agg (cSyn (Jc st).1)):=by
 intro H;have hS:=hO.1;have hO2:okD 0 (Ce Gt (Ed 0 (Ce Dj st))):=by simpa using hO
 refine Jg 32 Tryz.func157 rfl ?_;refine Aa ?_;refine D5 I6 fun b2=>?_
 refine B7 (Qp Bx ?_);refine AOL.Aag (Cu (k:=1) (by kernel_rfl) rfl rfl (Ky _ _)) rfl rfl ?_;refine Qp (Fj Ai) ?_;refine D5 I6 fun b3=>?_
 refine By 0 Ai (_::_::_::_) ?_;refine B7 (Qp Bx ?_);refine Rt (Dq rfl ((D0 _ _ _ (by simpa using hS) (by first | assumption | decide)).at (k:=2) (H2:=_::_::_::_) rfl rfl)) ?_;refine B7 (Qp Bx ?_);refine Rt (Dq rfl ((Pu _ _ (by simpa using hS)).at (k:=2) (H2:=_::_::_::_) rfl rfl)) ?_;refine Qp Cw ?_;refine By 0 Ai (_::_::_::_) ?_;refine B7 (Qp Bx ?_);refine Rt (Dq rfl ((D0 _ _ _ (by simpa using hS) (by first | assumption | decide)).at (k:=2) (H2:=_::_::_::_) rfl rfl)) ?_;refine Ax (B5 (Qp Bx ?_));refine Qp (Ad rfl) ?_;refine Qp Cw ?_;refine Sw 2 (Iq _) rfl ?_;refine Qp Bl (Qp Cc (Qg [] Qw Bx ?_));refine AOL.gk (y:=.bool _) _ [(20,_)] rfl (gT.all ⟨Ent.self _ _,trivial⟩) (fun hG=>Cu (k:=2) (by kernel_rfl) rfl rfl (yR _ _ _ (by simpa using hS) (by first | assumption | decide))) rfl rfl ?_;refine Qg [(21,_)] Qw Ix (Qp Ju (Bh (fun hc1=>?_) fun hc1=>?_))
 .
  try simp only [A4,Bd] at hc1
  have hS:=(Nq hO2 (O3 T2 (Ov (Ic _) hO2))).1;refine AW.region (Qp Bx (Qp Bx ?_));refine Qp (B9 (l:=[.val _]) (l':=[]) rfl rfl) ?_;refine Rt (Dq rfl ((p_list (Ce Gt (Ed 0 (Ce Dj st))) bp 0 (by decide) 223 (by kernel_rfl) [.val (.pointer (some ⟨bp,0,none⟩))] [] J3 T2 (fun s ho=>p_field s bp ho.1) hO2).at (k:=2) (H2:=_::_::_::_) rfl rfl)) ?_;refine Qp Cw ?_;refine By 0 Ai (_::_::_::_) ?_;refine B7 (Qp Bx ?_);refine Rt (Dq rfl ((D0 _ _ _ (by simpa using hS) (by first | assumption | decide)).at (k:=2) (H2:=_::_::_::_) rfl rfl)) ?_;refine B7 ?_;refine Sb 0 Ai rfl ?_;refine By 1 Ai (_::_::_::_) ?_;refine Rb ?_;refine ⟨.inr rfl,[.agg Ai],Zb 1,_,S2,?_⟩;refine ⟨?_,congrArg (fun c=>HO.box bp 223 c::H) ?_⟩
  .
   try simp only [Ah,Jc,cSyn,Ao,A5,Bf,hc1,↓reduceIte,Ak,Bu,Bm]
   try rfl
  try simp only [cP,Jc,hc1,↓reduceIte,Ak,Bu,Bm]
  try rfl
 try simp only [A4,Bd] at hc1
 refine B2 (Aa (Qp Bx ?_));refine Rt (Dq rfl ((D0 _ _ _ (by simpa using hS) (by first | assumption | decide)).at (k:=2) (H2:=_::_::_::_) rfl rfl)) ?_;refine B7 ?_;refine Sb 0 Ai rfl ?_;refine By 1 Ai (_::_::_::_) ?_;refine Rb ?_;refine ⟨.inr rfl,[.agg Ai],Zb 1,_,S2,?_⟩;refine ⟨?_,congrArg (fun c=>HO.box bp 223 c::H) ?_⟩
 .
  try simp only [Ah,Jc,cSyn,Ao,A5,Bf,hc1,↓reduceIte,Ak,Bu,Bm]
  try rfl
 try simp only [cP,Jc,hc1,↓reduceIte,Ak,Bu,Bm]
 try rfl
theorem sc_pair (x y:Syn):∀c∈[cSyn x,cSyn y],A0 c=true:=by
 intro c hc;simp only [Db,Qu,or_false] at hc;rcases hc with rfl | rfl <;> rfl
abbrev q1 (st:PS):PS:=Ce C0 st
abbrev q2 (st:PS):Syn×PS:=Y9 (Ed 0 (q1 st)) (Fs st)
abbrev q3 (T:PS->Syn×PS)(st:PS):Syn×PS:=T (Ce E4 (q2 st).2)
abbrev q4 (T:PS->Syn×PS)(st:PS):PS:=Ce Dw (q3 T st).2
theorem list_len {F:PS->Syn×PS}(hF:Dh F){st:PS}(h:okD 0 st):(Po F st).1.length<=1048600:=by
  have key:∀(n:Nat) (st:PS) (out:List Syn),okD 0 st->out.length<=st.pos+1->out.length<=1048580->(Ht F n st out).1.length<=1048600:=by
    intro n
    induction n with
    | zero=>intro st out _ _ h;exact Ga h (by decide)
    | succ n ih=>
      intro st out hO h1 h2;unfold Ht;split
      . rename_i hi
        have hlt:=Yf hi;have hg:=hF.goes (a:=adv st) (Ov (Ic _) hO);have hp:st.pos+1<=(F (adv st)).2.pos:=hg.2.1;have hml:=hO.1.1;exact ih _ _ (Nq hO ((Kf.adv st).trans hg)) (by rw [Au,Hl];omega) (by rw [Au,Hl];omega)
      exact Ga h2 (by decide)
  exact key _ _ _ (Nq h (hF.goes (Ov (Ic _) h))) (by simp) (by simp)
theorem p_query (st:PS)(bp:Nat)(E:PS->Syn×PS)(hFE:Dh E)(hE:∀(st:PS) (bp:Nat),okD 0 st->Bk Tryz.prog 164 bp 223 (cP st) (cP (E st).2) [.val (.pointer (some ⟨bp,0,none⟩))] (.agg (cSyn (E st).1)))(T:PS->Syn×PS)(hFT:Dh T)(hT:∀(st:PS) (bp:Nat),okD 0 st->Bk Tryz.prog 162 bp 223 (cP st) (cP (T st).2) [.val (.pointer (some ⟨bp,0,none⟩))] (.agg (cSyn (T st).1)))(hO:okD 0 st):Bk Tryz.prog 91 bp 223 (cP st) (cP ((Fe E T st).2)) [.val (.pointer (some ⟨bp,0,none⟩))] (.agg (cSyn (Fe E T st).1)):=by
 intro H;have hS:=hO.1;have hO2:okD 0 (q2 st).2:=Nq (a:=Ed 0 (q1 st)) (by simpa using hO) (jC _ _);have hO3:okD 0 (q3 T st).2:=hFT.okD (Ic _) (by simpa using hO2);have hO4:okD 0 (q4 T st):=by simpa using hO3
 have hO5:=Nq hO4 (O3 hFE (Ov (Ic _) hO4));have hll:=list_len hFE hO4;refine Jg 44 Tryz.func91 rfl ?_;refine Aa ?_;refine D5 I6 fun b2=>?_
 refine B7 (Qp Bx ?_);refine AOL.Aag (Cu (k:=1) (by kernel_rfl) rfl rfl (Ky _ _)) rfl rfl ?_;refine Qp (Fj Ai) ?_;refine D5 I6 fun b3=>?_
 refine By 0 Ai (_::_::_::_) (B7 (Qp Bx ?_));refine Rt (Dq rfl ((D0 _ _ _ (by simpa using hS) (by first | assumption | decide)).at (k:=2) (H2:=_::_::_::_) rfl rfl)) ?_;refine B7 (Qp Bx ?_);refine Rt (Dq rfl ((Pu _ _ (by simpa using hS)).at (k:=2) (H2:=_::_::_::_) rfl rfl)) ?_;refine Qp Cw ?_;refine By 0 Ai (_::_::_::_) (B7 (Qp Cw (Sw 0 (Iq _) rfl (Qp (Fj Ai) ?_))));refine D5 I6 fun b4=>?_
 refine By 0 Ai (_::_::_::_::_) (Ax ?_);refine AW.Aai (fun (k:Syn×PS)=>(⟨[(0,.val (.pointer (some ⟨bp,0,none⟩))),(2,.val (.pointer (some ⟨b2,0,none⟩))),(3,.val (.pointer (some ⟨b3,0,none⟩))),(4,.val (.pointer (some ⟨b4,0,none⟩)))],.box b4 25 (cSyn k.1) :: .box b3 25 [.int .i64 3,.str (Ib 0 (q1 st)),.str [],.int .i64 0,.sl 6 [],.int .i64 (Fs st)] :: .box b2 25 (cSyn Gz) :: .box bp 223 (cP k.2)::H,44⟩:St)) (fun k=>k=q2 st) ?_ ?_
 .
  refine Aa (Qp Bx ?_);refine Rt (Dq rfl ((E2 _ _ _ (by simpa using hS) (by first | assumption | decide)).at (k:=3) (H2:=_::_::_::_::_) rfl rfl)) ?_;refine Bh (fun hc1=>?_) fun hc1=>?_
  .
   try simp only [A4,Bd] at hc1
   refine AW.ghost (GS.Aaf (H2:=_::_::_::_::_) 3 rfl (congrArg cP (Fv hc1)) rfl) ?_;refine Aa (Qp Bx ?_);refine AOL.Aag (Cu (k:=3) (by kernel_rfl) rfl rfl (Ky _ _)) rfl rfl ?_;refine Qp Cw ?_;refine By 0 Ai (_::_::_::_::_) (Ax (AW.region (Qp Bx ?_)));refine Rt (Dq rfl ((Pu _ _ (by simpa using hS)).at (k:=3) (H2:=_::_::_::_::_) rfl rfl)) ?_;refine Qp Cw ?_;refine By 0 Ai (_::_::_::_::_) (Ax ?_);refine ⟨(⟨4,Ib 0 (adv (Ed 0 (q1 st))),[],0,[],Fs (adv (Ed 0 (q1 st)))⟩,Ed 0 (adv (Ed 0 (q1 st)))),?_,C2⟩;exact (by unfold q2 Y9;rw [if_pos (show Ea Oa (Ed 0 (q1 st))=true from hc1)])
  try simp only [A4,Bd] at hc1
  refine AW.ghost (GS.Aaf (H2:=_::_::_::_::_) 3 rfl (congrArg cP (Ii hc1)) rfl) ?_;refine B2 ?_;refine ⟨(⟨4,[],[],0,[],Fs st⟩,Ed 0 (q1 st)),?_,C2⟩;exact (by unfold q2 Y9;rw [if_neg (rA.mp (show Ea Oa (Ed 0 (q1 st))=false from hc1))])
 rintro k rfl;have hS:=hO2.1;refine Aa (Qp Bx ?_);refine Rt (Dq rfl ((D0 _ _ _ (by simpa using hS) (by first | assumption | decide)).at (k:=3) (H2:=_::_::_::_::_) rfl rfl)) ?_;refine Re (Rm 0 rfl (Qn 0 rfl (Dp.mem (fun k=>If (k:=k) (l:=Ai) tok rfl rfl rfl rfl rfl) (fun _ h=>h)) ?_));refine Qn 1 rfl Bx ?_;refine Xa 2 rfl (Dq rfl ((hT (Ce E4 (q2 st).2) bp (by simpa using hO2)).at (k:=3) (H2:=_::_::_::_::_) rfl rfl)) (by rintro _ _ ⟨rfl,rfl⟩;simp) ?_;rintro _ _ ⟨rfl,rfl⟩;have hS:=hO3.1;refine Xa 3 rfl (Hv (es:=[Ai,Ai]) tok rfl rfl rfl rfl rfl rfl rfl rfl rfl) (by rintro _ _ ⟨v29,rfl,rfl⟩;simp) ?_;rintro _ _ ⟨v29,rfl,rfl⟩;refine Qn 4 rfl Cw ?_;refine fY 5 rfl (Kt 2 (.row _ _ _) Ai (_::_::_::_::_::_) rfl) ?_;rintro _ _ ⟨rfl,rfl⟩;refine Av (Aa (Qp Bx ?_));refine Rt (Dq rfl ((D0 _ _ _ (by simpa using hS) (by first | assumption | decide)).at (k:=4) (H2:=_::_::_::_::_::_) rfl rfl)) ?_;refine Re (Rm 2 rfl (Qn 0 rfl Cw (Qn 1 rfl (Lw (.row _ _ _) rfl) (Qn 2 rfl Bx (Qn 3 rfl Bx (Qn 4 rfl (B9 (l:=[.val _]) (l':=[]) rfl rfl) ?_))))));refine Xa 5 rfl (Dq rfl ((p_list (q4 T st) bp 0 (by decide) 164 (by kernel_rfl) [.val (.pointer (some ⟨bp,0,none⟩))] [] E hFE (fun s ho=>hE s bp ho) hO4).at (k:=4) (H2:=_::_::_::_::_::_) rfl rfl)) (by rintro _ _ ⟨rfl,rfl⟩;simp) ?_;rintro _ _ ⟨rfl,rfl⟩;have hS:=hO5.1;refine Xa 6 rfl (W0 0 rfl (Wd _) (sc_pair _ _) (by simp;omega) (by simp [maxLen];omega)) (by rintro _ _ ⟨v39,rfl,rfl⟩;simp) ?_;rintro _ _ ⟨v39,rfl,rfl⟩;refine Qn 7 rfl Cw ?_;refine fY 8 rfl (Kt 2 (.row _ _ _) Ai (_::_::_::_::_::_) rfl) ?_;rintro _ _ ⟨rfl,rfl⟩;refine Av (Aa (Qp Bx ?_));refine Rt (Dq rfl ((D0 _ _ _ (by simpa using hS) (by first | assumption | decide)).at (k:=4) (H2:=_::_::_::_::_::_) rfl rfl)) ?_;refine B7 ?_;refine AOL.ghost (GS.cell (H2:=_::_::_::_::_::_) 2 4 rfl rfl rfl rfl Eu) ?_;refine Sb 2 Ai rfl ?_;refine By 3 Ai (_::_::_::_::_::_) (Rb ?_);refine ⟨.inr rfl,[.agg Ai],Zb 3,_,S4,?_⟩;exact ⟨congrArg (fun l=>AV.agg [.int .i64 3,.str (Ib 0 (q1 st)),.str [],.int .i64 0,.sl 6 l,.int .i64 (Fs st)]) (by unfold Fe;simp only [Dt,Ao,A5,Bf]),rfl⟩
theorem kind_adv {st:PS}(h:Ea Dj st=true)(r:oF st):st.pos+1<=(Jc st).2.pos:=by
  have hb:(st.bad==0)=true:=by
    unfold Ea at h;cases hq:(st.bad==0) with
    | true=>rfl
    | false=>
      have:endP st=true:=by unfold endP;simp only [bne,hq];rfl
      rw [this] at h;cases h
  have e:Ce Dj st=adv st:=by unfold Ce;rw [h,hb];exact Fv h
  have g0:Kf (adv st) (Ce Gt (Ed 0 (adv st))):=(Kf.tok _ _).trans (.exp _ _);have r0:oF (adv st):=r
  have:Kf (adv st) (Jc st).2:=by
    unfold Jc;simp only [e];split
    . exact (g0.trans (O3 T2 (g0.rng r0))).trans (.exp _ _)
    exact g0.trans (.exp _ _)
  exact this.2.1
theorem query_adv {E T:PS->Syn×PS}(hE:Dh E)(hT:Dh T){st:PS}(h:Ea C0 st=true)(r:oF st):st.pos+1<=(Fe E T st).2.pos:=by
  have hb:(st.bad==0)=true:=by
    unfold Ea at h;cases hq:(st.bad==0) with
    | true=>rfl
    | false=>
      have:endP st=true:=by unfold endP;simp only [bne,hq];rfl
      rw [this] at h;cases h
  have e:Ce C0 st=adv st:=by unfold Ce;rw [h,hb];exact Fv h
  have r0:oF (adv st):=r;have h1:Kf (adv st) (Ce E4 (Y9 (Ed 0 (adv st)) (Fs st)).2):=((Kf.tok _ _).trans (jC _ _)).trans (.exp _ _);have h2:=(Kf.read hT r0 h1).trans (.exp Dw _)
  have:Kf (adv st) (Fe E T st).2:=by
    unfold Fe;simp only [e];exact (h2.trans (O3 hE (h2.rng r0))).trans (.exp _ _)
  exact this.2.1
theorem Uc {w:Ag}{F:PS->Syn×PS}{n:Nat}{st:PS}{out:List Syn}(h:0<n):Hh w F n st out=if Ea w st then Hh w F (n-1) (F st).2 (out ++ [(F st).1]) else (out,st):=by
 obtain ⟨m,rfl⟩:∃m,n=m+1:=⟨n-1,by omega⟩;rfl
abbrev pg1 (st:PS):List Syn×PS:=Hh Dj Jc (A3 st) st []
theorem p_program (st:PS)(bp:Nat)(E:PS->Syn×PS)(hFE:Dh E)(hE:∀(st:PS) (bp:Nat),okD 0 st->Bk Tryz.prog 164 bp 223 (cP st) (cP (E st).2) [.val (.pointer (some ⟨bp,0,none⟩))] (.agg (cSyn (E st).1)))(T:PS->Syn×PS)(hFT:Dh T)(hT:∀(st:PS) (bp:Nat),okD 0 st->Bk Tryz.prog 162 bp 223 (cP st) (cP (T st).2) [.val (.pointer (some ⟨bp,0,none⟩))] (.agg (cSyn (T st).1)))(hO:okD 0 st):Bk Tryz.prog 90 bp 223 (cP st) (cP ((Kz E T st).2)) [.val (.pointer (some ⟨bp,0,none⟩))] (.agg (cSyn (Kz E T st).1)):=by
 intro H;have hS:=hO.1;refine Jg 24 Tryz.func90 rfl ?_;refine Aa ?_;refine D5 I6 fun b2=>?_
 refine B7 ?_;refine Qp (Jz (l0:=[.int .i64 0,.str [],.str [],.int .i64 0,.val (.slice none 0 0),.int .i64 0]) (l:=Ai) tok rfl rfl (by kernel_rfl) rfl) ?_;refine D5 I6 fun b3=>?_
 refine By 0 Ai (_::_::_::_) ?_;refine AOL.ghost (GS.cellRow 0 4 25 6 rfl rfl rfl rfl) ?_;refine Re (AW.block ?_);refine AW.Aad (fun (p:Nat×PS×List Syn×List (List AV)×Value)=>(⟨[(0,.val (.pointer (some ⟨bp,0,none⟩))),(2,.val (.pointer (some ⟨b2,0,none⟩))),(3,.val (.pointer (some ⟨b3,0,none⟩)))],.row p.2.2.2.2 p.2.2.2.1.length 25 6 :: .box b3 25 [.int .i64 0,.str [],.str [],.int .i64 0,.row p.2.2.2.2 6 p.2.2.2.1,.int .i64 0] :: .box b2 25 (cSyn Gz) :: .box bp 223 (cP p.2.1)::H,24⟩:St)) (fun p=>p.2.2.2.1=p.2.2.1.map C6/\okD 0 p.2.1/\A3 p.2.1<=p.1/\p.2.2.1.length<=p.2.1.pos/\pg1 st=Hh Dj Jc p.1 p.2.1 p.2.2.1) (fun p=>p.1) ((A3 st,st,[],[],.slice none 0 0)) ?_ C2 ?_
 . exact ⟨rfl,hO,Br _,A9 _,rfl⟩
 rintro p hR;have hes:p.2.2.2.1=p.2.2.1.map C6:=hR.1;have hO2:okD 0 p.2.1:=hR.2.1;have hS:=hO2.1;have hfu:A3 p.2.1<=p.1:=hR.2.2.1;have hn:0<p.1:=by unfold A3 at hfu;omega
 have hol:p.2.2.1.length<=p.2.1.pos:=hR.2.2.2.1;have hsc:∀c∈p.2.2.2.1,A0 c=true:=by rw [hes];exact Wd _
 have hel:p.2.2.2.1.length=p.2.2.1.length:=by rw [hes,Bt]
 refine B5 (Qp Bx ?_);refine AOL.Aag (Cu (k:=3) (by kernel_rfl) rfl rfl (yR _ _ _ (by simpa using hS) (by first | assumption | decide))) rfl rfl ?_;refine Bh (fun hc1=>?_) fun hc1=>?_
 .
  try simp only [A4,Bd] at hc1
  have hlt:=Yf hc1;have hml:=hS.1;have hg:=fine_kind.goes (a:=p.2.1) (Ov (Ic _) hO2);have hpp:=kind_adv hc1 (Ov (Ic _) hO2);refine B2 (AW.block ?_);refine Rm 1 rfl ?_;refine Qn 0 rfl Cw ?_;refine Qn 1 rfl (Lw (.row _ _ _) rfl) ?_;refine Qn 2 rfl Bx ?_;refine Xa 3 rfl (Dq rfl ((p_kind _ bp hO2).at (k:=3) (H2:=_::_::_::_::_) rfl rfl)) (by rintro _ _ ⟨rfl,rfl⟩;simp) ?_;rintro _ _ ⟨rfl,rfl⟩;refine Qn 4 rfl (Jh [Ai] rfl) ?_;refine Xa 5 rfl (W0 0 rfl (Et rfl) (hsc) (by simp;omega) (by simp [maxLen];omega)) (by rintro _ _ ⟨v12,rfl,rfl⟩;simp) ?_;rintro _ _ ⟨v12,rfl,rfl⟩;refine Qn 6 rfl Cw ?_;refine fY 7 rfl (Kt 1 (.row _ _ _) Ai (_::_::_::_::_) rfl) ?_;rintro _ _ ⟨rfl,rfl⟩;refine J1 (Av ?_);refine ⟨(p.1-1,(Jc p.2.1).2,p.2.2.1 ++ [(Jc p.2.1).1],p.2.2.2.1 ++ [cSyn (Jc p.2.1).1],v12),?_,?_,C2⟩
  . exact ⟨K3 hes,Nq hO2 hg,by unfold A3 at hfu ⊢;rw [hg.1];simp only;omega,by simp only [Au,Hl];omega,hR.2.2.2.2.trans (by rw [Uc hn,if_pos hc1])⟩
  simp only;omega
 try simp only [A4,Bd] at hc1
 have h1:pg1 st=(p.2.2.1,p.2.1):=hR.2.2.2.2.trans (by rw [Uc hn,iN hc1]);refine AW.exit ?_;refine B1 (Ri (AW.seq (AW.block ?_)));refine AW.Aad (fun (q:Nat×PS×List Syn×List (List AV)×Value)=>(⟨[(0,.val (.pointer (some ⟨bp,0,none⟩))),(2,.val (.pointer (some ⟨b2,0,none⟩))),(3,.val (.pointer (some ⟨b3,0,none⟩)))],.row q.2.2.2.2 q.2.2.2.1.length 25 6 :: .box b3 25 [.int .i64 0,.str [],.str [],.int .i64 0,.row q.2.2.2.2 6 q.2.2.2.1,.int .i64 0] :: .box b2 25 (cSyn Gz) :: .box bp 223 (cP q.2.1)::H,24⟩:St)) (fun q=>q.2.2.2.1=q.2.2.1.map C6/\okD 0 q.2.1/\A3 q.2.1<=q.1/\q.2.2.1.length<=q.2.1.pos/\Hh C0 (Fe E T) (A3 p.2.1) p.2.1 p.2.2.1=Hh C0 (Fe E T) q.1 q.2.1 q.2.2.1) (fun q=>q.1) ((A3 p.2.1,p.2.1,p.2.2.1,p.2.2.2.1,p.2.2.2.2)) ?_ C2 ?_
 . exact ⟨hes,hO2,Br _,hol,rfl⟩
 rintro q hQ;have hes:q.2.2.2.1=q.2.2.1.map C6:=hQ.1;have hO2:okD 0 q.2.1:=hQ.2.1;have hS:=hO2.1;have hfu:A3 q.2.1<=q.1:=hQ.2.2.1;have hn:0<q.1:=by unfold A3 at hfu;omega
 have hol:q.2.2.1.length<=q.2.1.pos:=hQ.2.2.2.1;have hsc:∀c∈q.2.2.2.1,A0 c=true:=by rw [hes];exact Wd _
 have hel:q.2.2.2.1.length=q.2.2.1.length:=by rw [hes,Bt]
 refine B5 (Qp Bx ?_);refine AOL.Aag (Cu (k:=3) (by kernel_rfl) rfl rfl (yR _ _ _ (by simpa using hS) (by first | assumption | decide))) rfl rfl ?_;refine Bh (fun hc2=>?_) fun hc2=>?_
 .
  try simp only [A4,Bd] at hc2
  have hlt:=Yf hc2;have hml:=hS.1;have hg:=(Y3 hFE hFT).goes (a:=q.2.1) (Ov (Ic _) hO2);have hpp:=query_adv hFE hFT hc2 (Ov (Ic _) hO2);refine B2 (AW.block ?_);refine Rm 1 rfl ?_;refine Qn 0 rfl Cw ?_;refine Qn 1 rfl (Lw (.row _ _ _) rfl) ?_;refine Qn 2 rfl Bx ?_;refine Xa 3 rfl (Dq rfl ((p_query _ bp E hFE hE T hFT hT hO2).at (k:=3) (H2:=_::_::_::_::_) rfl rfl)) (by rintro _ _ ⟨rfl,rfl⟩;simp) ?_;rintro _ _ ⟨rfl,rfl⟩;refine Qn 4 rfl (Jh [Ai] rfl) ?_;refine Xa 5 rfl (W0 0 rfl (Et rfl) (hsc) (by simp;omega) (by simp [maxLen];omega)) (by rintro _ _ ⟨v21,rfl,rfl⟩;simp) ?_;rintro _ _ ⟨v21,rfl,rfl⟩;refine Qn 6 rfl Cw ?_;refine fY 7 rfl (Kt 1 (.row _ _ _) Ai (_::_::_::_::_) rfl) ?_;rintro _ _ ⟨rfl,rfl⟩;refine J1 (Av ?_);refine ⟨(q.1-1,(Fe E T q.2.1).2,q.2.2.1 ++ [(Fe E T q.2.1).1],q.2.2.2.1 ++ [cSyn (Fe E T q.2.1).1],v21),?_,?_,C2⟩
  . exact ⟨K3 hes,Nq hO2 hg,by unfold A3 at hfu ⊢;rw [hg.1];simp only;omega,by simp only [Au,Hl];omega,hQ.2.2.2.2.trans (by rw [Uc hn,if_pos hc2])⟩
  simp only;omega
 try simp only [A4,Bd] at hc2
 refine AW.exit ?_;refine B1 (Ri (Aa ?_));refine AOL.ghost (GS.cell (H2:=_::_::_::_::_) 1 4 rfl rfl rfl rfl Eu) ?_;refine Sb 1 Ai rfl ?_;refine By 2 Ai (_::_::_::_::_) ?_;refine Rb ?_;refine ⟨.inr rfl,[.agg Ai],Zb 2,_,S3,?_⟩
 have h9:Kz E T st=(⟨0,[],[],0,q.2.2.1,0⟩,q.2.1):=by
  have h8:Hh C0 (Fe E T) (A3 (pg1 st).2) (pg1 st).2 (pg1 st).1=(q.2.2.1,q.2.1):=by
   rw [h1];exact hQ.2.2.2.2.trans (by rw [Uc hn,iN hc2])
  unfold Kz;simp only;rw [h8]
 exact ⟨by rw [h9];exact congrArg (fun l=>AV.agg [.int .i64 0,.str [],.str [],.int .i64 0,.sl 6 l,.int .i64 0]) hes,congrArg (fun s=>HO.box bp 223 (cP s)::H) (by rw [h9])⟩
theorem fine_prog {E T:PS->Syn×PS}(hE:Dh E)(hT:Dh T):Dh (Kz E T):=.of fun st r=>by
  have key:∀{F:PS->Syn×PS} (hF:Dh F) (w:Ag) (n:Nat) (st:PS) (out:List Syn),oF st->Kf st (Hh w F n st out).2:=by
    intro F hF w n
    induction n with
    | zero=>intro st out r;exact .refl _
    | succ n ih=>
      intro st out r;unfold Hh;split
      . have h:=hF.goes r
        exact h.trans (ih _ _ (h.rng r))
      exact .refl _
  have h1:=key fine_kind Dj (A3 st) st [] r;exact h1.trans (key (Y3 hE hT) C0 _ _ _ (h1.rng r))
abbrev pst (F:PS->Syn×PS)(s:Ag):PS:=(F (J0 (Dx s).1 s.length)).2
theorem uU (s:Ag)(hl:s.length<=100000)(f:Nat)(hf:Xq Tryz.prog f=true)(F:PS->Syn×PS)(hF:Dh F)(hc:∀(st:PS) (bp:Nat),okD 0 st->Bk Tryz.prog f bp 223 (cP st) (cP (F st).2) [.val (.pointer (some ⟨bp,0,none⟩))] (.agg (cSyn (F st).1))):An Tryz.prog 89 [.str s,.fn (.func f) [] []] (.tuple [.agg (cSyn (Df F s).1),.int .i64 (Df F s).2.1,.int .i64 (Df F s).2.2]):=by
 have hb0:=begin_okD s hl;refine Fb 58 Tryz.func89 rfl fun H=>?_
 refine Aa ?_;refine D5 I6 fun b4=>?_
 refine Qp Aq (Qp Aq (B7 (Qp H7 ?_)));refine Qp (Qc rfl (c13 s (by omega))) ?_;refine Qp Oz (Qp Qxs (Qp Lv (Qp Lv (Qp lK (Qp Aq (Qp Aq (Ax (B5 (Qp Ap (Qp Cb (Bh (fun hc1=>?_) fun hc1=>?_)))))))))))
 .
  try simp only [A4,Bd] at hc1
  refine Aa (Qp (Fj Ai) (Qp Ap (Qp Ap ?_)));refine By 0 Ai (_::_) (Qp Aq (Qp Aq (Rc ?_)));refine Yx [.agg Ai,Iq _,Iq _] (Zd 0) S1 ?_;have h9:Df F s=(Gz,(Dx s).2.1,(Dx s).2.2):=by unfold Df;rw [if_pos hc1]
  rw [h9];rfl
 try simp only [A4,Bd] at hc1
 refine B2 (Aa (Qp K7 (Qp H7 (Qp (Du tok rfl rfl rfl rfl) (Qp (Fj giy) (Qe (E_box (v:=.agg _) (cs:=giy) rfl rfl (rfl)) ?_))))));rintro _ _ ⟨b27,rfl,rfl⟩;refine Qp Sa (B7 (Qp (A1 (v:=.fn _ _ _) rfl) (Qp Bx (Rt (Lt (hf) rfl rfl rfl ((hc (J0 (Dx s).1 s.length) b27 hb0).at (k:=0) (H2:=_::_::_) rfl rfl)) ?_))));refine D5 I6 fun b11=>?_
 refine By 0 Ai (_::_::_::_) ?_;refine Kc 11 0 rfl ?_;refine Re (AW.seq (Rm 0 rfl (Qn 0 rfl Bx (Qn 1 rfl (Ad rfl) (Qn 2 rfl Cw (Qn 3 rfl (Lw (Iq _) rfl) (Qn 4 rfl Bx (Qn 5 rfl (Ad rfl) (Qn 6 rfl Cw (Qn 7 rfl (Lw (.sl _ _) rfl) ?_))))))))));refine Qn 8 rfl (E6 ((pst F s).toks.length) rfl rfl (by simp)) ?_;refine Qn 9 rfl Cn ?_;refine Ig ?_;refine Av (Hb (fun hc2=>?_) fun hc2=>?_)
 .
  try simp only [A4,Bd] at hc2
  refine AW.region (Qp Bx (wX ((jZ _ _ _).at (k:=0) (H2:=_::_::_) rfl rfl) (Ax (B5 (Qp Bx (Qp (Ad rfl) (Qp Cw (Sw 0 (Iq _) rfl (Qp Cb (Bh (fun hc3=>?_) fun hc3=>?_))))))))))
  .
   try simp only [A4,Bd] at hc3
   refine AW.seq (Rm 0 rfl (Qn 0 rfl (Fj Ai) (Qn 1 rfl Bx (Qn 2 rfl (Ad rfl) (Qn 3 rfl Cw (Qn 4 rfl (Lw (Iq _) rfl) (Qn 5 rfl Bx (Qn 6 rfl (Ad rfl) (Qn 7 rfl Cw (Qn 8 rfl (Lw (Iq _) rfl) ?_))))))))));refine Xa 9 rfl (Kt 1 (.agg _) Ai (_::_::_) rfl) (by rintro _ _ ⟨rfl,rfl⟩;simp) ?_;rintro _ _ ⟨rfl,rfl⟩;refine Qn 10 rfl Aq (Qn 11 rfl Aq ?_);refine Ig ?_;refine Av (lW ?_);refine Yx [.agg Ai,Iq _,Iq _] (Zd 1) S2 ?_;have h9:Df F s=Sz (F (J0 (Dx s).1 s.length)):=by unfold Df;rw [if_neg (by rw [hc1];decide)]
   rw [h9];simp only [Sz,Ah,hc1,hc2,hc3,↓reduceIte,Ak]
   try rfl
  try simp only [A4,Bd] at hc3
  refine B2 (Aa (Qp (Cm Ai) ?_));refine By 1 Ai (_::_::_) (Qp Aq (Qp Aq (Rb ?_)));refine Yx [.agg Ai,Iq _,Iq _] (Zd 1) S2 ?_;have h9:Df F s=Sz (F (J0 (Dx s).1 s.length)):=by unfold Df;rw [if_neg (by rw [hc1];decide)]
  rw [h9];simp only [Sz,Ah,hc1,hc2,hc3,↓reduceIte,Ak]
  try rfl
 try simp only [A4,Bd] at hc2
 refine B2 (B5 (Qp Bx (Qp (Ad rfl) (Qp Cw (Sw 0 (Iq _) rfl (Qp Cb (Bh (fun hc4=>?_) fun hc4=>?_)))))))
 .
  try simp only [A4,Bd] at hc4
  refine AW.seq (Rm 0 rfl (Qn 0 rfl (Fj Ai) (Qn 1 rfl Bx (Qn 2 rfl (Ad rfl) (Qn 3 rfl Cw (Qn 4 rfl (Lw (Iq _) rfl) (Qn 5 rfl Bx (Qn 6 rfl (Ad rfl) (Qn 7 rfl Cw (Qn 8 rfl (Lw (Iq _) rfl) ?_))))))))));refine Xa 9 rfl (Kt 1 (.agg _) Ai (_::_::_) rfl) (by rintro _ _ ⟨rfl,rfl⟩;simp) ?_;rintro _ _ ⟨rfl,rfl⟩;refine Qn 10 rfl Aq (Qn 11 rfl Aq ?_);refine Ig ?_;refine Av (lW ?_);refine Yx [.agg Ai,Iq _,Iq _] (Zd 1) S2 ?_;have h9:Df F s=Sz (F (J0 (Dx s).1 s.length)):=by unfold Df;rw [if_neg (by rw [hc1];decide)]
  rw [h9];simp only [Sz,Ah,hc1,hc2,hc4,↓reduceIte,Ak]
  try rfl
 try simp only [A4,Bd] at hc4
 refine B2 (Aa (Qp (Cm Ai) ?_));refine By 1 Ai (_::_::_) (Qp Aq (Qp Aq (Rb ?_)));refine Yx [.agg Ai,Iq _,Iq _] (Zd 1) S2 ?_;have h9:Df F s=Sz (F (J0 (Dx s).1 s.length)):=by unfold Df;rw [if_neg (by rw [hc1];decide)]
 rw [h9];simp only [Sz,Ah,hc1,hc2,hc4,↓reduceIte,Ak]
 try rfl
theorem pp_Parse (s:Ag)(hl:s.length<=100000):An Tryz.prog 37 [.str s] (.tuple [.agg (cSyn (Df (Kz EE TT) s).1),.int .i64 (Df (Kz EE TT) s).2.1,.int .i64 (Df (Kz EE TT) s).2.2]):=by
 refine Fb 10 Tryz.func37 rfl fun H=>?_
 refine Aa ?_;refine D5 I6 fun b2=>?_
 refine Qp Aq (Qp Aq (B7 (Qp H7 ?_)));refine Qp (Qc rfl (uU s hl 90 (by kernel_rfl) (Kz EE TT) (fine_prog Xn gE) (fun st bp h=>p_program st bp EE Xn p_EE TT gE p_TT h))) ?_;refine Qp (Ch (v:=.agg Ai) rfl rfl) ?_;refine Qp Lv (Qp Lv ?_);refine By 0 Ai (_::_) ?_;refine Qp Aq (Qp Aq (Rb ?_));refine Yx [.agg Ai,Iq _,Iq _] (Zd 0) S1 ?_;rfl
theorem pp_Query (s:Ag)(hl:s.length<=100000):An Tryz.prog 40 [.str s] (.tuple [.agg (cSyn (Df (Fe EE TT) s).1),.int .i64 (Df (Fe EE TT) s).2.1,.int .i64 (Df (Fe EE TT) s).2.2]):=by
 refine Fb 10 Tryz.func40 rfl fun H=>?_
 refine Aa ?_;refine D5 I6 fun b2=>?_
 refine Qp Aq (Qp Aq (B7 (Qp H7 ?_)));refine Qp (Qc rfl (uU s hl 91 (by kernel_rfl) (Fe EE TT) (Y3 Xn gE) (fun st bp h=>p_query st bp EE Xn p_EE TT gE p_TT h))) ?_;refine Qp (Ch (v:=.agg Ai) rfl rfl) (Qp Lv (Qp Lv ?_));refine By 0 Ai (_::_) (Qp Aq (Qp Aq (Rb ?_)));refine Yx [.agg Ai,Iq _,Iq _] (Zd 0) S1 ?_;rfl
end Go.Proofs.YtckhoadldibflaaGreatDoor
