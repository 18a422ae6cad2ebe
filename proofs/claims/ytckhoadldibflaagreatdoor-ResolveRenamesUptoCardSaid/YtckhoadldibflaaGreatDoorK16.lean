/-
  Several texts in one: V9, V10, R21w, R14w, R15w, R16w, P1, P2, P3, P5, W13r, W13s, W13t, W13u, R17w, R18w, R19w, R22w, EW2, EW3. No condition.
-/
import Derived.Test.YtckhoadldibflaaGreatDoorK01
import Derived.Test.YtckhoadldibflaaGreatDoorK15
import Derived.KernelRfl
import Derived.Test.YtckhoadldibflaaGreatDoorK14
import Derived.Test.YtckhoadldibflaaGreatDoorK13
import Derived.Test.YtckhoadldibflaaGreatDoorK10
import Derived.Test.YtckhoadldibflaaGreatDoorK08
import Derived.Test.YtckhoadldibflaaGreatDoorK09
import Derived.Test.YtckhoadldibflaaGreatDoorK04
import Derived.Test.YtckhoadldibflaaGreatDoorK12
import Derived.Test.YtckhoadldibflaaGreatDoorK02
set_option linter.unusedVariables false
set_option linter.unusedSimpArgs false
namespace Go.Proofs.YtckhoadldibflaaGreatDoor
open Go Go.Aw
set_option maxHeartbeats 3200000
set_option maxRecDepth 20000

theorem Rz (s:Am):∀(n i:Nat) (b:Am),b.length≤i→i≤s.length→(If s n i b).tok.text.length≤s.length
  | 0,i,b,h1,h2=>by simp [If,Oo,Ll]
  | n+1,i,b,h1,h2=>by
    unfold If;split
    · rename_i hi
      simp only [H5] at hi;split
      · split
        · simp [Oo,Ll]
        simp only [kK];omega
      · split
        · split
          · simp [Oo,Ll]
          · rename_i he
            have hp:=mE (s.drop i);rw [Ji] at hp;have hz:(Kf (s.drop i)).2≠0:=by simpa using he
            exact Rz s n _ _ (by rw [D9,Zl];omega) (by omega)
        · split
          · simp [Oo,Ll]
          exact Rz s n _ _ (by rw [D9,Zl];omega) (by omega)
    simp [Oo,Ll]
theorem Vs (s:Am):∀l:List Am,(∀x∈l,x.length≤2)→(F3 s l).tok.text.length≤2
  | [],_=>by simp [F3,Oo,Ll]
  | x::r,h=>by
    unfold F3;split
    · exact h x (Sx ..)
    exact Vs s r fun y hy=>h y (Oy _ hy)
theorem qQ (t:Am)(h0:0<t.length):(Cr t).tok.text.length≤t.length+2:=by
 have hn:(L2 t).tok.text.length≤t.length:=by
  unfold L2;split
  · simp [foZ,Ll]
  split
  · simp [Oo,Ll]
  simp only [kK,Me];omega
 have hm:(Gy t).tok.text.length≤t.length:=by
  unfold Gy;split
  · simp [foZ,Ll]
  split
  · simp [Oo,Ll]
  split
  · simp [Oo,Ll]
  simp only [kK,Me];omega
 have hl:(Kw t).tok.text.length≤t.length:=by
  unfold Kw;split
  · simp [foZ,Ll]
  exact Rz t _ 1 [] (E2 _) h0
 have hs:=Vs t gV (by decide);unfold Cr;split
 · omega
 split
 · omega
 split
 · omega
 exact Kx hs (by omega)
theorem uO (s:Am)(hl:s.length≤100000):okT (G0 s).1:=by
  have key:∀(n i:Nat) (out:List Tok),i≤s.length→out.length≤i→(∀t∈out,t.text.length≤s.length+2)→(Iy s n i out).1.length≤s.length∧∀t∈(Iy s n i out).1,t.text.length≤s.length+2:=by
    intro n
    induction n with
    | zero=>intro i out h1 h2 h3;exact ⟨E2 _,fun t h=>by cases h⟩
    | succ n ih=>
      intro i out h1 h2 h3;unfold Iy;split
      · rename_i hi
        simp only [H5] at hi;have hs:=yL (s.drop i);have hn:=pF (s.drop i) (by rw [Ji];omega);have ht:=qQ (s.drop i) (by rw [Ji];omega);rw [Ji] at hs hn ht;have hs2:=hs.2 (by omega);split
        · exact ih _ _ (by omega) (by omega) h3
        · split
          · exact ⟨E2 _,fun t h=>by cases h⟩
          · rename_i h4
            have hp:=hn.2.2.2.2 (by simpa using h4);refine ih _ _ (by omega) (by rw [D9,Zl];omega) fun t h=>?_
            rcases S0.1 h with h | h
            · exact h3 t h
            rw [My] at h;subst h;simp only;omega
      exact ⟨Kx h2 h1,h3⟩
  unfold G0;split
  · exact ⟨E2 _,fun t h=>by cases h⟩
  · have:=key (s.length+1) 0 [] (E2 _) (C4 _) (fun t h=>by cases h)
    exact ⟨by omega,fun t h=>by have:=this.2 t h;omega⟩
theorem pX (s:Am)(hl:s.length≤100000):okD 0 (Mi (G0 s).1 s.length):=⟨uO s hl,R0 _,(by decide:(0:Int)≤64)⟩

theorem sc_pair (x y:Syn):∀c∈[cSyn x,cSyn y],Bb c=true:=by
 intro c hc;simp only [G2,gF,or_false] at hc;rcases hc with rfl | rfl <;> rfl
abbrev q1 (st:PS):PS:=Ce Fk st
abbrev q2 (st:PS):Syn×PS:=kT (Dw 0 (q1 st)) (Cy st)
abbrev q3 (T:PS→Syn×PS)(st:PS):Syn×PS:=T (Ce Gb (q2 st).2)
abbrev q4 (T:PS→Syn×PS)(st:PS):PS:=Ce Gi (q3 T st).2
theorem xG {F:PS→Syn×PS}(hF:Cq F){st:PS}(h:okD 0 st):(T5 F st).1.length≤1048600:=by
  have key:∀(n:Nat) (st:PS) (out:List Syn),okD 0 st→out.length≤st.pos+1→out.length≤1048580→(Jc F n st out).1.length≤1048600:=by
    intro n
    induction n with
    | zero=>intro st out _ _ h;exact Kx h (by decide)
    | succ n ih=>
      intro st out hO h1 h2;unfold Jc;split
      · rename_i hi
        have hlt:=Wb hi;have hg:=hF.goes (a:=adv st) (Xc (R0 _) hO);have hp:st.pos+1≤(F (adv st)).2.pos:=hg.2.1;have hml:=hO.1.1;exact ih _ _ (Qh hO ((I5.adv st).trans hg)) (by rw [D9,Zl];omega) (by rw [D9,Zl];omega)
      exact Kx h2 (by decide)
  exact key _ _ _ (Qh h (hF.goes (Xc (R0 _) h))) (by simp) (by simp)

theorem p_query (st:PS)(bp:Nat)(E:PS→Syn×PS)(hFE:Cq E)(hE:∀(st:PS) (bp:Nat),okD 0 st→Bc Tryz.prog 164 bp 223 (cP st) (cP (E st).2) [.val (.pointer (some ⟨bp,0,none⟩))] (.agg (cSyn (E st).1)))(T:PS→Syn×PS)(hFT:Cq T)(hT:∀(st:PS) (bp:Nat),okD 0 st→Bc Tryz.prog 162 bp 223 (cP st) (cP (T st).2) [.val (.pointer (some ⟨bp,0,none⟩))] (.agg (cSyn (T st).1)))(hO:okD 0 st):Bc Tryz.prog 91 bp 223 (cP st) (cP ((G5 E T st).2)) [.val (.pointer (some ⟨bp,0,none⟩))] (.agg (cSyn (G5 E T st).1)):=by
 intro H;have hS:=hO.1;have hO2:okD 0 (q2 st).2:=Qh (a:=Dw 0 (q1 st)) (by simpa using hO) (eZ _ _);have hO3:okD 0 (q3 T st).2:=hFT.okD (R0 _) (by simpa using hO2);have hO4:okD 0 (q4 T st):=by simpa using hO3
 have hO5:=Qh hO4 (bE hFE (Xc (R0 _) hO4));have hll:=xG hFE hO4;refine Bp.body (n:=44) tok Tryz.func91 rfl rfl rfl ?_;refine Ae (Ed Kz fun b2=>Bs (Qp Bm ?_));refine AOL.Aae (Cj (k:=1) (by kernel_rfl) rfl rfl (J4 _ _)) rfl rfl ?_;refine Qp (E4 Au) (Ed Kz fun b3=>?_);refine Bt 0 Au (_::_::_::_) (Bs (Qp Bm ?_));refine Rt (Cu rfl ((Dc _ _ _ (by simpa using hS) (by decide)).at (k:=2) (H2:=_::_::_::_) rfl rfl)) ?_;refine Bs (Qp Bm ?_);refine Rt (Cu rfl ((N5 _ _ (by simpa using hS)).at (k:=2) (H2:=_::_::_::_) rfl rfl)) ?_;refine Qp B7 ?_;refine Bt 0 Au (_::_::_::_) (Bs (Qp B7 (AOL.Aae (Ad (k:=0) (c:=Iq _) tok rfl rfl rfl rfl) rfl rfl (Qp (E4 Au) (Ed Kz fun b4=>?_)))));refine Bt 0 Au (_::_::_::_::_) (Ag ?_);refine AW.Aak (fun (k:Syn×PS)=>(⟨[(0,.val (.pointer (some ⟨bp,0,none⟩))),(2,.val (.pointer (some ⟨b2,0,none⟩))),(3,.val (.pointer (some ⟨b3,0,none⟩))),(4,.val (.pointer (some ⟨b4,0,none⟩)))],.box b4 25 (cSyn k.1) :: .box b3 25 [.int .i64 3,.str (Hh 0 (q1 st)),.str [],.int .i64 0,.sl 6 [],.int .i64 (Cy st)] :: .box b2 25 (cSyn Mz) :: .box bp 223 (cP k.2)::H,44⟩:St)) (fun k=>k=q2 st) ?_ ?_
 ·
  refine Ae (Qp Bm ?_);refine Rt (Cu rfl ((Df _ _ _ (by simpa using hS) (by decide)).at (k:=3) (H2:=_::_::_::_::_) rfl rfl)) ?_;refine Ag (Aq (fun hc1=>?_) fun hc1=>?_)
  ·
   try simp only [Dp,Eo] at hc1
   refine AW.ghost (GS.Aai (H2:=_::_::_::_::_) 3 rfl (congrArg cP (E5 hc1)) rfl) ?_;refine Ae (Qp Bm ?_);refine AOL.Aae (Cj (k:=3) (by kernel_rfl) rfl rfl (J4 _ _)) rfl rfl ?_;refine Qp B7 ?_;refine Bt 0 Au (_::_::_::_::_) (Ag (AW.region (Qp Bm ?_)));refine Rt (Cu rfl ((N5 _ _ (by simpa using hS)).at (k:=3) (H2:=_::_::_::_::_) rfl rfl)) ?_;refine Qp B7 ?_;refine Bt 0 Au (_::_::_::_::_) (Ag ?_);refine ⟨(⟨4,Hh 0 (adv (Dw 0 (q1 st))),[],0,[],Cy (adv (Dw 0 (q1 st)))⟩,Dw 0 (adv (Dw 0 (q1 st)))),?_,Cs⟩;exact (by unfold q2 kT;rw [if_pos (show Hn Z0 (Dw 0 (q1 st))=true from hc1)])
  try simp only [Dp,Eo] at hc1
  refine AW.ghost (GS.Aai (H2:=_::_::_::_::_) 3 rfl (congrArg cP (Fy hc1)) rfl) ?_;refine Bg ?_;refine ⟨(⟨4,[],[],0,[],Cy st⟩,Dw 0 (q1 st)),?_,Cs⟩;exact (by unfold q2 kT;rw [if_neg (zz53.mp (show Hn Z0 (Dw 0 (q1 st))=false from hc1))])
 rintro k rfl;have hS:=hO2.1;refine Ae (Qp Bm ?_);refine Rt (Cu rfl ((Dc _ _ _ (by simpa using hS) (by decide)).at (k:=3) (H2:=_::_::_::_::_) rfl rfl)) ?_;refine Re ?_;refine AW.draw mixed (fun H'=>_∈H') (B4 (i:=0) rfl) (by kernel_rfl) ?_;refine Qn 0 rfl (OpP.Aah (fun k=>Ax (k:=k) (l:=Au) tok rfl rfl rfl rfl rfl) (fun _ h=>h)) ?_;refine Qn 1 rfl Bm ?_;refine Gz.eff _ _ 2 _ _ rfl (by kernel_rfl) rfl rfl (Cu rfl ((hT (Ce Gb (q2 st).2) bp (by simpa using hO2)).at (k:=3) (H2:=_::_::_::_::_) rfl rfl)) (by rintro _ _ ⟨rfl,rfl⟩;simp) ?_;rintro _ _ ⟨rfl,rfl⟩;have hS:=hO3.1;refine Gz.eff _ _ 3 _ _ rfl (by kernel_rfl) rfl rfl (F4 (es:=[Au,Au]) tok rfl rfl rfl rfl rfl rfl rfl rfl rfl) (by rintro _ _ ⟨v29,rfl,rfl⟩;simp) ?_;rintro _ _ ⟨v29,rfl,rfl⟩;refine Qn 4 rfl B7 ?_;refine Gz.last _ _ 5 _ _ rfl (by kernel_rfl) rfl rfl (Bf (k:=2) (v:=.row _ _ _) (cs':=Au) (H2:=_::_::_::_::_::_) tok rfl rfl rfl rfl (rfl) rfl rfl rfl rfl) (by kernel_rfl) ?_;rintro _ _ ⟨rfl,rfl⟩;refine Bh (Ae (Qp Bm ?_));refine Rt (Cu rfl ((Dc _ _ _ (by simpa using hS) (by decide)).at (k:=4) (H2:=_::_::_::_::_::_) rfl rfl)) ?_;refine Re ?_;refine AW.draw mixed (fun H'=>_∈H') (B4 (i:=2) rfl) (by kernel_rfl) ?_;refine Qn 0 rfl B7 (Qn 1 rfl (OpP.Aah (fun k=>Ad (k:=k) (c:=.row _ _ _) tok rfl rfl rfl rfl) (fun _ h=>h)) ?_);refine Qn 2 rfl Bm (Qn 3 rfl Bm (Qn 4 rfl (Bn (l:=[.val _]) (l':=[]) rfl rfl) ?_));refine Gz.eff _ _ 5 _ _ rfl (by kernel_rfl) rfl rfl (Cu rfl ((p_list (q4 T st) bp 0 (by decide) 164 (by kernel_rfl) [.val (.pointer (some ⟨bp,0,none⟩))] [] E hFE (fun s ho=>hE s bp ho) hO4).at (k:=4) (H2:=_::_::_::_::_::_) rfl rfl)) (by rintro _ _ ⟨rfl,rfl⟩;simp) ?_;rintro _ _ ⟨rfl,rfl⟩;have hS:=hO5.1;refine Gz.eff _ _ 6 _ _ rfl (by kernel_rfl) rfl rfl (Dh (k:=0) tok rfl rfl rfl rfl rfl rfl rfl rfl (Sv _) (sc_pair _ _) (by simp;omega) (by simp [maxLen];omega)) (by rintro _ _ ⟨v39,rfl,rfl⟩;simp) ?_;rintro _ _ ⟨v39,rfl,rfl⟩;refine Qn 7 rfl B7 ?_;refine Gz.last _ _ 8 _ _ rfl (by kernel_rfl) rfl rfl (Bf (k:=2) (v:=.row _ _ _) (cs':=Au) (H2:=_::_::_::_::_::_) tok rfl rfl rfl rfl (rfl) rfl rfl rfl rfl) (by kernel_rfl) ?_;rintro _ _ ⟨rfl,rfl⟩;refine Bh (Ae (Qp Bm ?_));refine Rt (Cu rfl ((Dc _ _ _ (by simpa using hS) (by decide)).at (k:=4) (H2:=_::_::_::_::_::_) rfl rfl)) ?_;refine Bs ?_;refine AOL.ghost (GS.cell (H2:=_::_::_::_::_::_) 2 4 rfl rfl rfl rfl Lh) ?_;refine AOL.Aae (Ax (k:=2) (l:=Au) tok rfl rfl rfl rfl rfl) rfl rfl ?_;refine Bt 3 Au (_::_::_::_::_::_) (Rb ?_);refine ⟨.inr rfl,[.agg Au],.cons (.box _ _ _ 3 _ _ _ _ rfl rfl rfl rfl rfl rfl) <| .nil,_,.cons _ (.cons _ (.cons _ (.cons _ (.refl _)))),?_⟩;exact ⟨congrArg (fun l=>AV.agg [.int .i64 3,.str (Hh 0 (q1 st)),.str [],.int .i64 0,.sl 6 l,.int .i64 (Cy st)]) (by unfold G5;simp only [aF,Dn,C8,Ba]),rfl⟩
set_option maxHeartbeats 1600000
set_option maxRecDepth 20000

abbrev pg1 (st:PS):List Syn×PS:=dH Md kindP (A8 st) st []
abbrev pst (F:PS→Syn×PS)(s:Am):PS:=(F (Mi (G0 s).1 s.length)).2
theorem vC (s:Am)(hl:s.length≤100000)(f:Nat)(hf:Sj Tryz.prog f=true)(F:PS→Syn×PS)(hF:Cq F)(hc:∀(st:PS) (bp:Nat),okD 0 st→Bc Tryz.prog f bp 223 (cP st) (cP (F st).2) [.val (.pointer (some ⟨bp,0,none⟩))] (.agg (cSyn (F st).1))):Ap Tryz.prog 89 [.str s,.fn (.func f) [] []] (.tuple [.agg (cSyn (Do F s).1),.int .i64 (Do F s).2.1,.int .i64 (Do F s).2.2]):=by
 have hb0:=pX s hl;refine Ap.body (n:=58) tok Tryz.func89 rfl rfl rfl fun H=>?_
 refine Ae (Ed Kz fun b4=>Qp Al (Qp Al (Bs (Qp Gj ?_))));refine Qp (Qc rfl (c13 s (by omega))) ?_;refine Qp N4 (Qp Qxs (Qp Iu (Qp Iu (Qp eN (Qp Al (Qp Al (Ag (Bk (Qp Ao (Qp Br (Ag (Aq (fun hc1=>?_) fun hc1=>?_))))))))))))
 ·
  try simp only [Dp,Eo] at hc1
  refine Ae (Qp (E4 Au) (Qp Ao (Qp Ao ?_)));refine Bt 0 Au (_::_) (Qp Al (Qp Al (Rc ?_)));refine ⟨.inr rfl,[.agg Au,Iq _,Iq _],.cons (.box _ _ _ 0 _ _ _ _ rfl rfl rfl rfl rfl rfl) <| .cons (.tmp _ _ rfl) <| .cons (.tmp _ _ rfl) <| .nil,.cons _ (.refl _),?_⟩;have h9:Do F s=(Mz,(G0 s).2.1,(G0 s).2.2):=by unfold Do;rw [if_pos hc1]
  rw [h9];rfl
 try simp only [Dp,Eo] at hc1
 refine Bg (Ae (Qp G4 (Qp Gj (Qp (B8 tok rfl rfl rfl rfl) (Qp (E4 ghz) (Qe (xX (v:=.agg _) (cs:=ghz) rfl rfl (rfl)) ?_))))));rintro _ _ ⟨b27,rfl,rfl⟩;refine Qp Ua (Bs (Qp (A1 (v:=.fn _ _ _) rfl) (Qp Bm (Rt (Ix (hf) rfl rfl rfl ((hc (Mi (G0 s).1 s.length) b27 hb0).at (k:=0) (H2:=_::_::_) rfl rfl)) (Ed Kz fun b11=>?_)))));refine Bt 0 Au (_::_::_::_) ?_;refine AOL.ghost (GS.freeze (t:=11) 0 rfl rfl) ?_;refine Re (AW.seq ?_);refine AW.draw mixed (fun H'=>_∈H') (B4 (i:=0) rfl) (by kernel_rfl) ?_;refine Qn 0 rfl Bm (Qn 1 rfl (Af rfl) (Qn 2 rfl B7 (Qn 3 rfl (OpP.Aah (fun k=>Ad (k:=k) (c:=Iq _) tok rfl rfl rfl rfl) (fun _ h=>h)) ?_)));refine Qn 4 rfl Bm (Qn 5 rfl (Af rfl) (Qn 6 rfl B7 (Qn 7 rfl (OpP.Aah (fun k=>Ad (k:=k) (c:=.sl _ _) tok rfl rfl rfl rfl) (fun _ h=>h)) ?_)));refine Qn 8 rfl (Ah (n:=(pst F s).toks.length) tok rfl rfl rfl (by simp)) ?_;refine Qn 9 rfl Bx ?_;refine Hs ?_;refine Bh (Aq (fun hc2=>?_) fun hc2=>?_)
 ·
  try simp only [Dp,Eo] at hc2
  refine AW.region (Qp Bm (lV ((cB _ _ _).at (k:=0) (H2:=_::_::_) rfl rfl) (Ag (Bk (Qp Bm (Qp (Af rfl) (Qp B7 (AOL.Aae (Ad (k:=0) (c:=Iq _) tok rfl rfl rfl rfl) rfl rfl (Qp Br (Ag (Aq (fun hc3=>?_) fun hc3=>?_)))))))))))
  ·
   try simp only [Dp,Eo] at hc3
   refine AW.seq ?_;refine AW.draw mixed (fun H'=>_∈H') (B4 (i:=0) rfl) (by kernel_rfl) ?_;refine Qn 0 rfl (E4 Au) (Qn 1 rfl Bm (Qn 2 rfl (Af rfl) (Qn 3 rfl B7 (Qn 4 rfl (OpP.Aah (fun k=>Ad (k:=k) (c:=Iq _) tok rfl rfl rfl rfl) (fun _ h=>h)) ?_))));refine Qn 5 rfl Bm (Qn 6 rfl (Af rfl) (Qn 7 rfl B7 (Qn 8 rfl (OpP.Aah (fun k=>Ad (k:=k) (c:=Iq _) tok rfl rfl rfl rfl) (fun _ h=>h)) ?_)));refine Gz.eff _ _ 9 _ _ rfl (by kernel_rfl) rfl rfl (Bf (k:=1) (v:=.agg _) (cs':=Au) (H2:=_::_::_) tok rfl rfl rfl rfl (rfl) rfl rfl rfl rfl) (by rintro _ _ ⟨rfl,rfl⟩;simp) ?_;rintro _ _ ⟨rfl,rfl⟩;refine Qn 10 rfl Al (Qn 11 rfl Al ?_);refine Hs ?_;refine Bh (rX ?_);refine ⟨.inr rfl,[.agg Au,Iq _,Iq _],.cons (.box _ _ _ 1 _ _ _ _ rfl rfl rfl rfl rfl rfl) <| .cons (.tmp _ _ rfl) <| .cons (.tmp _ _ rfl) <| .nil,.cons _ (.cons _ (.refl _)),?_⟩;have h9:Do F s=Pv (F (Mi (G0 s).1 s.length)):=by unfold Do;rw [if_neg (by rw [hc1];decide)]
   rw [h9];simp only [Pv,Ai,hc1,hc2,hc3,↓reduceIte,Bz]
   try rfl
  try simp only [Dp,Eo] at hc3
  refine Bg (Ae (Qp (B0 Au) ?_));refine Bt 1 Au (_::_::_) (Qp Al (Qp Al (Rb ?_)));refine ⟨.inr rfl,[.agg Au,Iq _,Iq _],.cons (.box _ _ _ 1 _ _ _ _ rfl rfl rfl rfl rfl rfl) <| .cons (.tmp _ _ rfl) <| .cons (.tmp _ _ rfl) <| .nil,.cons _ (.cons _ (.refl _)),?_⟩;have h9:Do F s=Pv (F (Mi (G0 s).1 s.length)):=by unfold Do;rw [if_neg (by rw [hc1];decide)]
  rw [h9];simp only [Pv,Ai,hc1,hc2,hc3,↓reduceIte,Bz]
  try rfl
 try simp only [Dp,Eo] at hc2
 refine Bg (Bk (Qp Bm (Qp (Af rfl) (Qp B7 (AOL.Aae (Ad (k:=0) (c:=Iq _) tok rfl rfl rfl rfl) rfl rfl (Qp Br (Ag (Aq (fun hc4=>?_) fun hc4=>?_))))))))
 ·
  try simp only [Dp,Eo] at hc4
  refine AW.seq ?_;refine AW.draw mixed (fun H'=>_∈H') (B4 (i:=0) rfl) (by kernel_rfl) ?_;refine Qn 0 rfl (E4 Au) (Qn 1 rfl Bm (Qn 2 rfl (Af rfl) (Qn 3 rfl B7 (Qn 4 rfl (OpP.Aah (fun k=>Ad (k:=k) (c:=Iq _) tok rfl rfl rfl rfl) (fun _ h=>h)) ?_))));refine Qn 5 rfl Bm (Qn 6 rfl (Af rfl) (Qn 7 rfl B7 (Qn 8 rfl (OpP.Aah (fun k=>Ad (k:=k) (c:=Iq _) tok rfl rfl rfl rfl) (fun _ h=>h)) ?_)));refine Gz.eff _ _ 9 _ _ rfl (by kernel_rfl) rfl rfl (Bf (k:=1) (v:=.agg _) (cs':=Au) (H2:=_::_::_) tok rfl rfl rfl rfl (rfl) rfl rfl rfl rfl) (by rintro _ _ ⟨rfl,rfl⟩;simp) ?_;rintro _ _ ⟨rfl,rfl⟩;refine Qn 10 rfl Al (Qn 11 rfl Al ?_);refine Hs ?_;refine Bh (rX ?_);refine ⟨.inr rfl,[.agg Au,Iq _,Iq _],.cons (.box _ _ _ 1 _ _ _ _ rfl rfl rfl rfl rfl rfl) <| .cons (.tmp _ _ rfl) <| .cons (.tmp _ _ rfl) <| .nil,.cons _ (.cons _ (.refl _)),?_⟩;have h9:Do F s=Pv (F (Mi (G0 s).1 s.length)):=by unfold Do;rw [if_neg (by rw [hc1];decide)]
  rw [h9];simp only [Pv,Ai,hc1,hc2,hc4,↓reduceIte,Bz]
  try rfl
 try simp only [Dp,Eo] at hc4
 refine Bg (Ae (Qp (B0 Au) ?_));refine Bt 1 Au (_::_::_) (Qp Al (Qp Al (Rb ?_)));refine ⟨.inr rfl,[.agg Au,Iq _,Iq _],.cons (.box _ _ _ 1 _ _ _ _ rfl rfl rfl rfl rfl rfl) <| .cons (.tmp _ _ rfl) <| .cons (.tmp _ _ rfl) <| .nil,.cons _ (.cons _ (.refl _)),?_⟩;have h9:Do F s=Pv (F (Mi (G0 s).1 s.length)):=by unfold Do;rw [if_neg (by rw [hc1];decide)]
 rw [h9];simp only [Pv,Ai,hc1,hc2,hc4,↓reduceIte,Bz]
 try rfl
theorem xO (s:Am)(hl:s.length≤100000):Ap Tryz.prog 40 [.str s] (.tuple [.agg (cSyn (Do (G5 EE TT) s).1),.int .i64 (Do (G5 EE TT) s).2.1,.int .i64 (Do (G5 EE TT) s).2.2]):=by
 refine Ap.body (n:=10) tok Tryz.func40 rfl rfl rfl fun H=>?_
 refine Ae (Ed Kz fun b2=>Qp Al (Qp Al (Bs (Qp Gj ?_))));refine Qp (Qc rfl (vC s hl 91 (by kernel_rfl) (G5 EE TT) (lC W0 nA) (fun st bp h=>p_query st bp EE W0 p_EE TT nA p_TT h))) ?_;refine Qp (B5 (v:=.agg Au) rfl rfl) (Qp Iu (Qp Iu ?_));refine Bt 0 Au (_::_) (Qp Al (Qp Al (Rb ?_)));refine ⟨.inr rfl,[.agg Au,Iq _,Iq _],.cons (.box _ _ _ 0 _ _ _ _ rfl rfl rfl rfl rfl rfl) <| .cons (.tmp _ _ rfl) <| .cons (.tmp _ _ rfl) <| .nil,.cons _ (.refl _),?_⟩;rfl

set_option maxHeartbeats 12800000
set_option maxRecDepth 20000

set_option maxRecDepth 100000
theorem ydig1 {n:Int}(h:0≤n)(k:n<10):Lib.itoa n = [UInt8.ofNat (48+n.toNat)]:=by
 rw [show Lib.itoa n=Lib.decDigits n.toNat from if_neg (by omega),Lib.decDigits,dif_pos (by omega)]
theorem Xb:Lib.itoa 1 = [49]:=ydig1 (by decide) (by decide)
def exT:List e8Sc:=[⟨[65],[⟨[120],0⟩]⟩]
def ye (v:Int):Ex:=⟨1,[],v,0,0,⟨0,0,[]⟩⟩
def y1:Syn:=⟨3,[113],[],0,[⟨4,[],[],0,[],0⟩,⟨6,[],[],0,[⟨5,[65],[97],0,[],18⟩,⟨5,[65],[98],0,[⟨17,[],[],7,[⟨14,[97],[120],0,[],36⟩,⟨14,[98],[120],0,[],30⟩],30⟩],23⟩],14⟩,⟨14,[97],[120],0,[],48⟩],0⟩
def z1:Qy:=⟨[113],[⟨[97],0⟩,⟨[98],0⟩],[],⟨1,[⟨0,[],0,0,0,0,Pn⟩,⟨0,[],0,1,0,0,⟨7,[ye 0,ye 1],0,0,0,v0⟩⟩],0,0,0,0,Un⟩,[ye 0]⟩
def y2:Syn:=⟨3,[113],[],0,[⟨4,[],[],0,[],0⟩,⟨10,[],[],0,[⟨5,[65],[97],0,[],20⟩,⟨5,[65],[110],0,[],25⟩],14⟩,⟨13,[],G8,1,[],37⟩],0⟩
def z2:Qy:=⟨[113],[⟨[110],0⟩,⟨[97],0⟩],[],⟨5,[⟨0,[],0,1,0,0,Pn⟩],0,0,0,0,Pn⟩,[⟨0,[],0,0,0,⟨0,1,[]⟩⟩]⟩
def y3:Syn:=⟨3,[113],[],0,[⟨4,[],[],0,[],0⟩,⟨6,[],[],0,[⟨5,[65],[97],0,[],18⟩,⟨5,[65],[97],0,[],23⟩],14⟩,⟨13,[],G8,1,[],35⟩],0⟩
def y4:Syn:=⟨3,[113],[],0,[⟨4,[121],[],0,[],11⟩,⟨5,[65],[97],0,[],19⟩,⟨13,[],G8,1,[],30⟩],0⟩
theorem y1_read:Do (G5 EE TT) [113,117,101,114,121,32,113,32,109,97,116,99,104,32,115,101,113,40,65,32,97,44,32,65,32,98,32,105,102,32,98,46,120,32,62,32,97,46,120,41,32,114,101,116,117,114,110,32,97,46,120,59]=(y1,0,0):=by kernel_rfl
theorem y2_read:Do (G5 EE TT) [113,117,101,114,121,32,113,32,109,97,116,99,104,32,108,97,99,107,115,40,65,32,97,44,32,65,32,110,41,32,114,101,116,117,114,110,32,49,59]=(y2,0,0):=by kernel_rfl
theorem y3_read:Do (G5 EE TT) [113,117,101,114,121,32,113,32,109,97,116,99,104,32,115,101,113,40,65,32,97,44,32,65,32,97,41,32,114,101,116,117,114,110,32,49,59]=(y3,0,0):=by kernel_rfl
theorem y4_read:Do (G5 EE TT) [113,117,101,114,121,32,113,32,98,121,32,121,32,109,97,116,99,104,32,65,32,97,32,114,101,116,117,114,110,32,49,59]=(y4,0,0):=by kernel_rfl
theorem pD:E7 y1∧E7 y2∧E7 y3∧E7 y4:=⟨Em (by kernel_rfl),Em (by kernel_rfl),Em (by kernel_rfl),Em (by kernel_rfl)⟩
theorem y_wr {t:Syn}{p:Pl}{w:Am}(h1:A4 t p=0)(h2:decide (64<(Fz t:Int))=false)(h3:Ak t=w)(h4:decide (65536<(w.length:Int))=false):((By t p).2 != 0)=false:=by
 subst h3
 have:By t p=(Ak t,0):=by
  unfold By;rw [h1];exact (Bl (by decide)).trans ((Bl h2).trans (Bl h4))
 rw [this];rfl
theorem y1_w:((By y1 (.only 3)).2 != 0)=false:=y_wr (by kernel_rfl) (by kernel_rfl) (show Ak y1 = [113,117,101,114,121,32,113,10,109,97,116,99,104,32,115,101,113,40,65,32,97,44,32,65,32,98,32,105,102,32,97,46,120,32,60,32,98,46,120,41,10,114,101,116,117,114,110,32,97,46,120,59,10] by simp [y1,Ak,Nr,Fj,Ss,F8,G1,A3,Ld,L5,Vm,Cz,Xb]) (by kernel_rfl)
theorem y2_w:((By y2 (.only 3)).2 != 0)=false:=y_wr (by kernel_rfl) (by kernel_rfl) (show Ak y2 = [113,117,101,114,121,32,113,10,109,97,116,99,104,32,108,97,99,107,115,40,65,32,97,44,32,65,32,110,41,10,114,101,116,117,114,110,32,49,59,10] by simp [y2,Ak,Nr,Fj,Ss,F8,G1,A3,Ld,L5,Vm,Cz,Xb]) (by kernel_rfl)
theorem y3_w:((By y3 (.only 3)).2 != 0)=false:=y_wr (by kernel_rfl) (by kernel_rfl) (show Ak y3 = [113,117,101,114,121,32,113,10,109,97,116,99,104,32,115,101,113,40,65,32,97,44,32,65,32,97,41,10,114,101,116,117,114,110,32,49,59,10] by simp [y3,Ak,Nr,Fj,Ss,F8,G1,A3,Ld,L5,Vm,Cz,Xb]) (by kernel_rfl)
theorem y4_w:((By y4 (.only 3)).2 != 0)=false:=y_wr (by kernel_rfl) (by kernel_rfl) (show Ak y4 = [113,117,101,114,121,32,113,32,98,121,32,121,10,109,97,116,99,104,32,65,32,97,10,114,101,116,117,114,110,32,49,59,10] by simp [y4,Ak,Nr,Fj,Ss,F8,G1,A3,Ld,L5,Vm,Cz,Xb]) (by kernel_rfl)
theorem dJ:(Fw exT != 0)=false:=by kernel_rfl
theorem y1_q:Dr exT y1=(z1,0,0):=(eF _ _ dJ y1_w).trans (by kernel_rfl)
theorem y2_q:Dr exT y2=(z2,0,0):=(eF _ _ dJ y2_w).trans (by kernel_rfl)
theorem y3_q:Dr exT y3=(Qk,23,7):=(eF _ _ dJ y3_w).trans (by kernel_rfl)
theorem y4_q:Dr exT y4=(Qk,11,16):=(eF _ _ dJ y4_w).trans (by kernel_rfl)
theorem exT_sc:∀s∈exT,Zj s:=fun s h=>by
 rw [My.1 h];exact ⟨by decide,by decide,fun f hf=>by rw [My.1 hf];decide⟩
theorem c_qq (t:Syn)(ht:E7 t){r:Qy×Int×Int}(h:Dr exT t=r):Ap Tryz.prog 14 [.sl 2 (exT.map Mt),.agg (cSyn t)] (.tuple [.agg (cQy r.1),.int .i64 r.2.1,.int .i64 r.2.2]):=by
 subst h;exact O5 exT (by decide) exT_sc t ht
theorem c_pq (s:Am)(hs:s.length≤100000){t:Syn}(h:Do (G5 EE TT) s=(t,0,0)):Ap Tryz.prog 40 [.str s] (.tuple [.agg (cSyn t),.int .i64 0,.int .i64 0]):=by
 have h2:=xO s hs;rw [h] at h2;exact h2
theorem wE  : Ap Tryz.prog 41 [] (.sl 2 (exT.map Mt)):=by
 refine Ap.body (n:=5) tok Tryz.func41 rfl rfl rfl fun H=>?_
 refine Ae (Qp (Ck (z:=2) rfl) (Bs (Qp (E4 Jz) (Qp (Aj (es:=[Jz]) tok rfl rfl rfl rfl rfl rfl rfl rfl rfl) (Qp (E4 Ub) (Qp (Aj (es:=[Ub]) tok rfl rfl rfl rfl rfl rfl rfl rfl rfl) (Qp eN (Rb (Qr (.sl _ _) ?_)))))))));rfl
theorem oU (s:Am)(k e:Int)(t:Syn)(hs:s.length≤100000)(hp:Do (G5 EE TT) s=(t,0,0))(ht:E7 t)(hq:Dr exT t=(Qk,k,e)):Ap Tryz.prog 43 [.str s,.int .i64 k,.int .i64 e] (.bool true):=by
 refine Ap.body (n:=38) tok Tryz.func43 rfl rfl rfl fun H=>?_
 refine Ae (Qp A0 (Bs (Qp Gj (Qp (Qc rfl (c_pq s hs hp)) (Qp N4 (Qp (B5 (v:=.agg Au) rfl rfl) (Qp Iu (Qp Iu (Ed Kz fun b7=>?_)))))))));refine Bt 0 Au (_::_) (Qp Al (Qp Al ?_));refine AOL.ghost (GS.freeze (t:=7) 0 rfl rfl) ?_;refine Re ?_;refine Ol ?_;refine Qn 0 rfl (Qc rfl (wE)) (Qn 1 rfl (B0 Au) (Qn 2 rfl (Qc rfl (c_qq t ht hq)) (Qn 3 rfl N4 (Qn 4 rfl (B5 (v:=.agg It) rfl rfl) (Qn 5 rfl Iu (Qn 6 rfl Iu ?_))))));refine uT 7 rfl (Kq (l:=rY) (by kernel_rfl)) ?_;rintro _ _ ⟨b10,rfl,rfl⟩;refine O0 8 rfl (Bf (k:=0) (v:=.agg _) (cs':=It) (H2:=_::_) tok rfl rfl rfl rfl (rfl) rfl rfl rfl rfl) ?_;refine Qn 9 rfl Al (Qn 10 rfl Al ?_);refine Hs ?_;refine Bh ?_;refine AW.ghost (GS.freeze (t:=10) 0 rfl rfl) ?_;refine Ae (Qp Ao (Qp Av (Qp A9 (Qg [] Qw Ao (Qg [] Qw Ao (AOL.g (y:=.bool _) _ [(29,_),(30,_)] rfl (qZ.all ⟨Ent.Aad _ _,Ent.Aad _ _,trivial⟩) (fun hG=>bO rfl rfl) rfl ?_))))));refine Qp E0 (Qp A9 (Qg [] Qw Ao (Qg [] Qw Ao (AOL.g (y:=.bool _) _ [(34,_),(35,_)] rfl (qZ.all ⟨Ent.Aad _ _,Ent.Aad _ _,trivial⟩) (fun hG=>bO rfl rfl) rfl ?_))));refine Qp E0 (Qp A0 (Rb (Qr (.bool _) ?_)));show AV.bool (((0:Int)==0&&(e==e))&&(k==k))=AV.bool true;have h9:(e==e)=true:=by simp
 have h8:(k==k)=true:=by simp
 rw [h9,h8];rfl
theorem Lz  : Ap Tryz.prog 13 [] (.bool true):=by
 refine Ap.body (n:=133) tok Tryz.func13 rfl rfl rfl fun H=>?_
 refine Ae (Qp A0 (Bs ?_));refine Qp (Qc rfl (c_pq [113,117,101,114,121,32,113,32,109,97,116,99,104,32,115,101,113,40,65,32,97,44,32,65,32,98,32,105,102,32,98,46,120,32,62,32,97,46,120,41,32,114,101,116,117,114,110,32,97,46,120,59] (by decide) y1_read)) ?_;refine Qp N4 (Qp (B5 (v:=.agg Au) rfl rfl) (Qp Iu (Qp Iu (Ed Kz fun b1=>?_))));refine Bt 0 Au (_::_) (Qp Al (Qp Al (Re ?_)));refine AW.draw mixed (fun H'=>_∈H') (B4 (i:=0) rfl) (by kernel_rfl) ?_;refine Qn 0 rfl (Qc rfl (wE)) (Qn 1 rfl (OpP.Aah (fun k=>Ax (k:=k) (l:=Au) tok rfl rfl rfl rfl rfl) (fun _ h=>h)) ?_);refine Qn 2 rfl (Qc rfl (c_qq y1 pD.1 y1_q)) (Qn 3 rfl N4 (Qn 4 rfl (B5 (v:=.agg It) rfl rfl) (Qn 5 rfl Iu (Qn 6 rfl Iu ?_))));refine Gz.eff _ _ 7 _ _ rfl (by kernel_rfl) rfl rfl (Kq (l:=rY) (by kernel_rfl)) (by rintro _ _ ⟨b4,rfl,rfl⟩;simp) ?_;rintro _ _ ⟨b4,rfl,rfl⟩;refine Gz.eff _ _ 8 _ _ rfl (by kernel_rfl) rfl rfl (Bf (k:=0) (v:=.agg _) (cs':=It) (H2:=_::_::_) tok rfl rfl rfl rfl (rfl) rfl rfl rfl rfl) (by rintro _ _ ⟨rfl,rfl⟩;simp) ?_;rintro _ _ ⟨rfl,rfl⟩;refine Qn 9 rfl Al (Qn 10 rfl Al ?_);refine Hs ?_;refine Bh (Bk (Qp Ao (Qp Br (Qp A9 (Qg [] Qw Ao (Qg [(23,_)] Qw Br (Qp B9 (Qp A9 (Qg [] Qw B7 (AOL.gk (y:=.sl _ _) _ [(27,_)] rfl (qZ.all ⟨Ent.Aad _ _,trivial⟩) (fun hG=>Ad (k:=0) (c:=.sl _ _) tok rfl rfl rfl rfl) rfl rfl ?_))))))))));refine AOL.g (y:=Iq _) _ [(28,_)] rfl (qZ.all ⟨Ent.Aad _ _,trivial⟩) (fun hG=>Ah (n:=2) tok rfl rfl rfl (rfl)) rfl ?_;refine Qg [(29,_)] Qw Br (Qp B9 (Qp A9 (Qg [] Qw B7 (AOL.gk (y:=.sl _ _) _ [(33,_)] rfl (qZ.all ⟨Ent.Aad _ _,trivial⟩) (fun hG=>Ad (k:=0) (c:=.sl _ _) tok rfl rfl rfl rfl) rfl rfl ?_))));refine AOL.g (y:=.ptr _) _ [(34,_)] rfl (qZ.all ⟨Ent.Aad _ _,trivial⟩) (fun hG=>Aa (c:=Jz) tok rfl rfl rfl rfl rfl rfl (by decide) (rfl)) rfl ?_;refine Qg [(35,_)] Qw (B0 Jz) (Qg [] Qw (E4 Jz) (AOL.g (y:=.bool _) _ [(36,_),(37,_)] rfl (qZ.all ⟨Ent.Aad _ _,Ent.Aad _ _,trivial⟩) (fun hG=>Fm tok rfl rfl rfl rfl rfl) rfl ?_));refine Qp B9 (Qp A9 (Qg [] Qw B7 (Qg [(41,_)] Qw B7 (AOL.gk (y:=.sl _ _) _ [(42,_)] rfl (qZ.all ⟨Ent.Aad _ _,trivial⟩) (fun hG=>Ad (k:=0) (c:=.sl _ _) tok rfl rfl rfl rfl) rfl rfl ?_))));refine AOL.g (y:=Iq _) _ [(43,_)] rfl (qZ.all ⟨Ent.Aad _ _,trivial⟩) (fun hG=>Ah (n:=2) tok rfl rfl rfl (rfl)) rfl ?_;refine Qg [(44,_)] Qw Br (Qp B9 (Qp A9 (Qg [] Qw B7 (AOL.gk (y:=.sl _ _) _ [(48,_)] rfl (qZ.all ⟨Ent.Aad _ _,trivial⟩) (fun hG=>Ad (k:=0) (c:=.sl _ _) tok rfl rfl rfl rfl) rfl rfl ?_))));refine AOL.g (y:=Iq _) _ [(49,_)] rfl (qZ.all ⟨Ent.Aad _ _,trivial⟩) (fun hG=>Ah (n:=1) tok rfl rfl rfl (rfl)) rfl ?_;refine Qg [(50,_)] Qw Br (Qp B9 (Ag (Aq (fun hc1=>?_) fun hc1=>Bg (Ae (Qp (E4 Ie) (Qp (E4 Ie) (Qp (Aj (es:=[Ie,Ie]) tok rfl rfl rfl rfl rfl rfl rfl rfl rfl) (Qp (E4 Ie) (Ed gix fun b7=>?_)))))))))
 · cases hc1
 refine Bt 0 Ie (_::_::_::_) ?_;refine AOL.ghost (GS.freeze (t:=7) 0 rfl rfl) ?_;refine Re (AW.seq ?_);refine AW.draw mixed (fun H'=>_∈H') (B4 (i:=0) rfl) (by kernel_rfl) ?_;refine Qn 0 rfl B7 (Qn 1 rfl B7 (Qn 2 rfl (OpP.Aah (fun k=>Ad (k:=k) (c:=.sl _ _) tok rfl rfl rfl rfl) (fun _ h=>h)) ?_));refine Qn 3 rfl (Aa (c:=C5) tok rfl rfl rfl rfl rfl rfl (by decide) (rfl)) ?_;refine Qn 4 rfl S4 (Qn 5 rfl Nh (Qn 6 rfl Nh ?_));refine Qn 7 rfl (Qc rfl (bD ⟨7,[ye 0,ye 1],0,0,0,v0⟩ ⟨7,[ye 0,ye 1],0,0,0,v0⟩ (by decide))) ?_;refine Qn 8 rfl Et (Qn 9 rfl A9 (Qo 10 rfl [] Qw B7 ?_));refine Gz.pure _ _ 11 _ _ rfl (by kernel_rfl) (by kernel_rfl) rfl (.opt _ (.sl _ _) [(67,_)] rfl (qZ.all ⟨Ent.Aad _ _,trivial⟩) (fun hG=>OpP.Aah (fun k=>Ad (k:=k) (c:=.sl _ _) tok rfl rfl rfl rfl) (fun _ h=>h)) rfl) ?_;refine Gz.pure _ _ 12 _ _ rfl (by kernel_rfl) (by kernel_rfl) rfl (.opt _ (.ptr _) [(68,_)] rfl (qZ.all ⟨Ent.Aad _ _,trivial⟩) (fun hG=>Aa (c:=Ie) tok rfl rfl rfl rfl rfl rfl (by decide) (rfl)) rfl) ?_;refine Qo 13 rfl [(69,_)] Qw Nh (Qo 14 rfl [] Qw (E4 Ie) ?_);refine Gz.pure _ _ 15 _ _ rfl (by kernel_rfl) (by kernel_rfl) rfl (.opt _ (.bool _) [(70,_),(71,_)] rfl (qZ.all ⟨Ent.Aad _ _,Ent.Aad _ _,trivial⟩) (fun hG=>Qc rfl (bD (ye 0) (ye 0) (by decide))) rfl) ?_;refine Qo 16 rfl [(72,_)] Qw Et (Qn 17 rfl B9 ?_);refine Hs ?_;refine Bh (Aq (fun hc2=>?_) fun hc2=>Bg (Ae ?_))
 · rw [Ni,Ni] at hc2;cases hc2
 refine Qp (Qc rfl (c_pq [113,117,101,114,121,32,113,32,109,97,116,99,104,32,108,97,99,107,115,40,65,32,97,44,32,65,32,110,41,32,114,101,116,117,114,110,32,49,59] (by decide) y2_read)) ?_;refine Qp N4 (Qp (B5 (v:=.agg Au) rfl rfl) (Qp Iu (Qp Iu ?_)));refine Bt 1 Au (_::_::_) (Qp Al (Re ?_));refine AW.draw mixed (fun H'=>_∈H') (B4 (i:=1) rfl) (by kernel_rfl) ?_;refine Qn 0 rfl (Qc rfl (wE)) (Qn 1 rfl (OpP.Aah (fun k=>Ax (k:=k) (l:=Au) tok rfl rfl rfl rfl rfl) (fun _ h=>h)) ?_);refine Qn 2 rfl (Qc rfl (c_qq y2 pD.2.1 y2_q)) (Qn 3 rfl N4 (Qn 4 rfl (B5 (v:=.agg It) rfl rfl) (Qn 5 rfl Iu (Qn 6 rfl Iu ?_))));refine Gz.eff _ _ 7 _ _ rfl (by kernel_rfl) rfl rfl (Bf (k:=0) (v:=.agg _) (cs':=It) (H2:=_::_::_) tok rfl rfl rfl rfl (rfl) rfl rfl rfl rfl) (by rintro _ _ ⟨rfl,rfl⟩;simp) ?_;rintro _ _ ⟨rfl,rfl⟩;refine Qn 8 rfl Al ?_;refine Hs ?_;refine Bh (Bk (Qp Ao (Qp Br (Qp A9 (Qg [] Qw Ao (Qg [(90,_)] Qw Br (Qp B9 (Qp A9 (Qg [] Qw B7 (Qg [(94,_)] Qw B7 (AOL.gk (y:=Iq _) _ [(95,_)] rfl (qZ.all ⟨Ent.Aad _ _,trivial⟩) (fun hG=>Ad (k:=0) (c:=Iq _) tok rfl rfl rfl rfl) rfl rfl ?_)))))))))));refine Qg [(96,_)] Qw Br (Qp B9 (Qp A9 (Qg [] Qw B7 (Qg [(100,_)] Qw B7 (AOL.gk (y:=.sl _ _) _ [(101,_)] rfl (qZ.all ⟨Ent.Aad _ _,trivial⟩) (fun hG=>Ad (k:=0) (c:=.sl _ _) tok rfl rfl rfl rfl) rfl rfl ?_)))));refine AOL.g (y:=Iq _) _ [(102,_)] rfl (qZ.all ⟨Ent.Aad _ _,trivial⟩) (fun hG=>Ah (n:=1) tok rfl rfl rfl (rfl)) rfl ?_;refine Qg [(103,_)] Qw Br (Qp B9 (Qp A9 (Qg [] Qw B7 (Qg [(107,_)] Qw B7 (AOL.gk (y:=.sl _ _) _ [(108,_)] rfl (qZ.all ⟨Ent.Aad _ _,trivial⟩) (fun hG=>Ad (k:=0) (c:=.sl _ _) tok rfl rfl rfl rfl) rfl rfl ?_)))));refine AOL.g (y:=.ptr _) _ [(109,_)] rfl (qZ.all ⟨Ent.Aad _ _,trivial⟩) (fun hG=>Aa (c:=C5) tok rfl rfl rfl rfl rfl rfl (by decide) (rfl)) rfl ?_;refine Qg [(110,_)] Qw (Qf wQ) (Qg [(111,_)] Qw Bi (Qg [(112,_)] Qw Br (Qp B9 (Qp A9 (Qg [] Qw B7 (AOL.gk (y:=.sl _ _) _ [(116,_)] rfl (qZ.all ⟨Ent.Aad _ _,trivial⟩) (fun hG=>Ad (k:=0) (c:=.sl _ _) tok rfl rfl rfl rfl) rfl rfl ?_))))));refine AOL.g (y:=Iq _) _ [(117,_)] rfl (qZ.all ⟨Ent.Aad _ _,trivial⟩) (fun hG=>Ah (n:=2) tok rfl rfl rfl (rfl)) rfl ?_;refine Qg [(118,_)] Qw Br (Qp B9 (Qp A9 (Qg [] Qw B7 (AOL.gk (y:=.sl _ _) _ [(122,_)] rfl (qZ.all ⟨Ent.Aad _ _,trivial⟩) (fun hG=>Ad (k:=0) (c:=.sl _ _) tok rfl rfl rfl rfl) rfl rfl ?_))));refine AOL.g (y:=.ptr _) _ [(123,_)] rfl (qZ.all ⟨Ent.Aad _ _,trivial⟩) (fun hG=>Aa (c:=Jz) tok rfl rfl rfl rfl rfl rfl (by decide) (rfl)) rfl ?_;refine Qg [(124,_)] Qw (Qf Jz) (Qg [(125,_)] Qw Hc (AOL.g (y:=.bool _) _ [(126,_)] rfl (qZ.all ⟨Ent.Aad _ _,trivial⟩) (fun hG=>Dk rfl rfl) rfl ?_));refine Qp B9 (Ag (Aq (fun hc3=>?_) fun hc3=>Bg (Ae ?_)))
 · cases hc3
 refine Qp (Qc rfl (oU [113,117,101,114,121,32,113,32,109,97,116,99,104,32,115,101,113,40,65,32,97,44,32,65,32,97,41,32,114,101,116,117,114,110,32,49,59] 23 7 y3 (by decide) y3_read pD.2.2.1 y3_q)) ?_;refine Qp A9 ?_;refine Qg [] Qw (Qc rfl (oU [113,117,101,114,121,32,113,32,98,121,32,121,32,109,97,116,99,104,32,65,32,97,32,114,101,116,117,114,110,32,49,59] 11 16 y4 (by decide) y4_read pD.2.2.2 y4_q)) ?_;refine Qp E0 (Qp A0 (Rb ?_));refine ⟨.inr rfl,[.bool _],.cons (.tmp _ _ rfl) <| .nil,.cons _ (.cons _ (.refl _)),?_⟩;rfl




theorem u8_all {p:UInt8→Bool}(h:(List.range 256).all (fun n=>p (UInt8.ofNat n))=true)(c:UInt8):p c=true:=by
 rw [Z2] at h;have:=h c.toNat (T4.2 c.toNat_lt)
 rwa [UInt8.ofNat_toNat] at this
def LRel (i:Nat)(f:Fo)(r:Am×Int×Int):Prop:=
 if f.err=0 then f.tok.kind=2∧0<f.bytes∧r=(f.tok.text,(i:Int)+f.bytes,0) else r.2=((i:Int)+f.pos,f.err)
theorem litGoR_succ {s:Am}{k n i:Nat}{b:Am}:Uy s k (n+1) i b =
 if decide ((s.length:Int)≤(i:Int)) then (([],(s.length:Int),4):Am×Int×Int)
 else if (((bt s i).toNat:Int)==34) then if decide (64<(b.length:Int)) then ([],(k:Int),13) else (b,(i:Int)+1,0)
 else if mN (bt s i) then Uy s k n (i+1) (b ++ [bt s i])
 else if (((bt s i).toNat:Int) != 92)||((qY s i).2==0) then ([],(i:Int),4)
 else Uy s k n (qY s i).2.toNat (b ++ [(qY s i).1]):=rfl
theorem litGo_succ {s:Am}{n i:Nat}{b:Am}:If s (n+1) i b =
 if decide ((i:Int)<(s.length:Int)) then
  if (((bt s i).toNat:Int)==34) then
   if decide (64<(b.length:Int)) then Oo 0 13 else kK 2 b ((i:Int)+1)
  else if (((bt s i).toNat:Int)==92) then
   if ((Kf (s.drop i)).2==0) then Oo i 4 else If s n (i+(Kf (s.drop i)).2.toNat) (b ++ [(Kf (s.drop i)).1])
  else if (decide (((bt s i).toNat:Int)<32)||decide (126<((bt s i).toNat:Int))) then Oo i 4
  else If s n (i+1) (b ++ [bt s i])
 else Oo s.length 4:=rfl

def okSign:Am→Bool
 | [_]=>true
 | [_,b]=>b==61
 | _=>false
def signHit (c:UInt8)(two:Bool):Am→Bool
 | [a]=>a==c
 | [a,_]=>a==c&&two
 | _=>false
def signV (c:UInt8)(two:Bool):Option Am:=gV.find? (signHit c two)
def signN (c:UInt8)(two:Bool):Int:=if sign2 c&&two then 2 else if sign1 c then 1 else 0
def TRel (i:Nat)(f:Fo)(r:Tok×Int×Int):Prop:=
 (f.err=0∧0<f.bytes∧r=(⟨f.tok.kind,f.tok.text,i⟩,(i:Int)+f.bytes,0))∨(f.err≠0∧r.2=((i:Int)+f.pos,f.err))

theorem scanGo_succ {s:Am}{n i:Nat}{out:List Tok}:Iy s (n+1) i out =
 if decide ((i:Int)<(s.length:Int)) then
  if decide (0<N3 (s.drop i)) then Iy s n (i+(N3 (s.drop i)).toNat) out
  else if ((Cr (s.drop i)).err != 0) then (([],(i:Int)+(Cr (s.drop i)).pos,(Cr (s.drop i)).err):List Tok×Int×Int)
  else Iy s n (i+(Cr (s.drop i)).bytes.toNat) (out ++ [⟨(Cr (s.drop i)).tok.kind,(Cr (s.drop i)).tok.text,i⟩])
 else (out,0,0):=rfl
theorem scanGoR_succ {s:Am}{n i:Nat}{c:Bool}{out:List Tok}:Q9 s (n+1) i c out =
 if decide ((i:Int)<(s.length:Int)) then
  if ((c||vO (bt s i))||(((bt s i).toNat:Int)==35)) then Q9 s n (i+1) ((c||(((bt s i).toNat:Int)==35))&&(((bt s i).toNat:Int) != 10)) out
  else if ((Mn s i).2.2 != 0) then (([],(Mn s i).2.1,(Mn s i).2.2):List Tok×Int×Int)
  else Q9 s n (Mn s i).2.1.toNat false (out ++ [(Mn s i).1])
 else (out,0,0):=rfl

theorem Ts (s sub:Am):Lib.contains s sub=true↔∃j,j≤s.length∧Lib.occAt s sub j=true:=by
 unfold Lib.contains;rw [H5];rcases Lib.index_spec s sub with ⟨h1,h2⟩ | ⟨i,h1,h2,h3,_⟩
 ·
  rw [h1]
  constructor
  · intro h;omega
  rintro ⟨j,hj,ho⟩;rw [h2 j hj] at ho;cases ho
 rw [h1];exact ⟨fun _=>⟨i,h2,h3⟩,fun _=>by omega⟩
theorem Ta (s:Am)(c:UInt8):Lib.contains s [c]=true↔c∈s:=by
 rw [Ts]
 constructor
 ·
  rintro ⟨j,_,ho⟩;unfold Lib.occAt at ho;rw [List.isPrefixOf_iff_prefix] at ho;obtain ⟨t,ht⟩:=ho;exact List.mem_of_mem_drop (i:=j) (by rw [←ht];simp)
 intro h;obtain ⟨u,v,rfl⟩:=List.append_of_mem h;refine ⟨u.length,by simp,?_⟩;unfold Lib.occAt;rw [List.drop_left,List.isPrefixOf_iff_prefix];exact ⟨v,rfl⟩
def kwL:List Am:=[[97,108,108],[97,108,116],[97,110,100],[98,111,111,108],[98,121],[99,111,117,110,116],[102,97,108,115,101],[102,105,114,115,116],[105,102],[105,110,116],[108,97,99,107,115],[108,97,115,116],[109,97,116,99,104],[109,97,120],[109,105,110],[110,111,116],[111,114],[112,108,117,115],[113,117,101,114,121],[114,101,116,117,114,110],[115,101,113],[115,116,114,105,110,103],[115,117,109],[116,105,109,101],[116,114,117,101],[116,121,112,101],[119,104,101,114,101],[119,105,116,104,105,110]]
theorem yN (s:Am):kJ s=kwL.any (fun w=>s==w):=by
 unfold kJ kwL;simp only [aD,List.any_nil,Oz,Bool.or_assoc]
theorem vY (s:Am):kJ s=true↔s∈kwL:=by
 rw [yN,List.any_eq_true]
 constructor
 ·
  rintro ⟨w,hw,he⟩;rw [beq_iff_eq] at he;exact he▸hw
 intro h;exact ⟨s,h,beq_self_eq_true _⟩
theorem gH:∀(s l:Am),32∉s→(s ++ [32]).isPrefixOf l=true→s=l.takeWhile (fun c=>c != 32)∧32∈l
  | [],l,_,h=>by
    cases l with
    | nil=>cases h
    | cons b t=>
      have:(32:UInt8)=b:=by simpa [List.isPrefixOf] using h
      subst this;exact ⟨rfl,by simp⟩
  | c::r,l,hn,h=>by
    cases l with
    | nil=>cases h
    | cons b t=>
      simp only [Kh,List.isPrefixOf,Gs,beq_iff_eq] at h;obtain ⟨rfl,h⟩:=h;have hc:(32:UInt8)≠c:=fun e=>hn (by simp [e])
      obtain ⟨i1,i2⟩:=gH r t (fun e=>hn (Oy _ e)) h;have e:(c != 32)=true:=by simpa [bne] using fun e=>hc e.symm
      refine ⟨?_,Oy _ i2⟩;rw [List.takeWhile_cons_of_pos (p:=fun c=>c != 32) e,←i1]
def kwAt (l:Am):Bool:=match l with
 | []=>true
 | c::r=>if c==32&&r.contains 32 then kwL.contains (r.takeWhile (fun c=>c != 32))||((r.takeWhile (fun c=>c != 32)) == []) else true
theorem kw_all:(List.range 200).all (fun j=>kwAt (Xw.drop j))=true:=by kernel_rfl
theorem kw_len:Xw.length≤199:=Ir (by kernel_rfl)
theorem zI:kwL.all (fun w=>Lib.contains Xw ([32]++w ++ [32]) && !(w == []) && !(w.contains 32))=true:=by kernel_rfl
theorem vS (s:Am):lM s=kJ s:=by
  rw [Bool.eq_iff_iff,vY];unfold lM;simp only [Gs,Dp]
  constructor
  · rintro ⟨⟨h1,h2⟩,h3⟩
    have hn:32∉s:=fun h=>by rw [(Ta s 32).2 h] at h2;cases h2
    obtain ⟨j,hj,ho⟩:=(Ts _ _).1 h3;have hk:=Z2.1 kw_all j (T4.2 (by have:=kw_len;omega));unfold Lib.occAt at ho;generalize Xw.drop j=l at ho hk;cases l with
    | nil=>cases ho
    | cons b t=>
      simp only [Kh,Je,List.isPrefixOf,Gs,beq_iff_eq] at ho;obtain ⟨rfl,ho⟩:=ho;obtain ⟨i1,i2⟩:=gH s t hn ho;unfold kwAt at hk;have e:t.contains 32=true:=by simpa using i2
      simp only [e,←i1] at hk;have e0:((32:UInt8)==32&&true)=true:=rfl;rw [e0,if_pos rfl,h1,Oz] at hk;simpa using hk
  · intro h
    have:=Z2.1 zI s h;simp only [Gs,Dp] at this;obtain ⟨⟨k1,k2⟩,k3⟩:=this;refine ⟨⟨k2,?_⟩,k1⟩;rw [zz53];intro h;rw [Ta] at h;have:s.contains 32=true:=by simpa using h
    rw [this] at k3;cases k3

theorem oG (p:UInt8→Bool):∀s:Am,decide (0≤H1 p s)=s.any p
  | []=>rfl
  | c :: r => by
    have ih:=oG p r;rw [aD,←ih,H1];cases p c with
    | true=>rfl
    | false=>
      by_cases h:H1 p r = -1
      · rw [if_neg (by decide),if_pos h,h];rfl
      · rw [if_neg (by decide),if_neg h,Lb]
        refine decide_eq_decide.2 ?_
        have:∀s:Am,-1≤H1 p s:=by
          intro s
          induction s with
          | nil=>exact R0 _
          | cons c r ih=>
            unfold H1;split
            · decide
            · split
              · decide
              omega
        have:=this r;omega
theorem iU (p:UInt8→Bool):∀s:Am,decide (Di p s=s.length)=s.all p
  | []=>rfl
  | c::r=>by
    have ih:=iU p r;rw [List.all_cons,←ih,Di];cases p c with
    | true=>rw [if_pos rfl,Lk,Ep];exact decide_eq_decide.2 (by omega)
    | false=>rw [if_neg (by decide),Rp,Ep];exact decide_eq_false (by omega)
theorem eM (c:UInt8):(Gw c&&Da c)=false:=by
 have:=u8_all (p:=fun c=>(Gw c&&Da c)==false) (by kernel_rfl) c;exact eq_of_beq this
theorem name_eq (s:Am):Ze s=nO s:=by
  unfold Ze nO;rw [vS,oG];cases s with
  | nil=>rfl
  | cons c r=>
    have hb:bt (c::r) 0=c:=rfl
    have hs:((Di Kn (c::r):Int) != ((c::r).length:Int))=(c::r).any eQ:=by
      have h:=iU Kn (c::r)
      have h2:(c::r).any eQ = !((c::r).all Kn):=by
        have:eQ=fun c=>!(Kn c):=by funext c;unfold eQ Kn;rw [Bool.not_or]
        rw [this,←List.not_all_eq_any_not]
      rw [h2,←h,Bool.eq_iff_iff,bne_iff_ne,Dp,Wu];omega
    rw [hs,hb,aD];have ho:eQ c=(!Gw c && !Da c):=rfl;rw [ho];have hld:=eM c;generalize kJ (c::r)=K;generalize decide (24<((c::r).length:Int))=A;have e0:(c::r == [])=false:=rfl;rw [e0];generalize r.any eQ=O;generalize Gw c=L at *;generalize Da c=D at *
    revert hld
    cases K <;> cases A <;> cases O <;> cases L <;> cases D <;> decide

def backB (c:UInt8)(w:Am):Bool:=
 if ((bt w 0).toNat:Int)==92 then (Kf w).2==(w.length:Int)&&(Kf w).1==c else w == [c] && !(((c.toNat:Int)==34)) && !(decide ((c.toNat:Int)<32)||decide (126<(c.toNat:Int)))

def nmR (s:Am):Bool:=nO s==0
def standsR (k r:Int):Bool:=
 if (r==5) then isPat k else if (r==7) then isExp k else if (r==6) then (k==5) else if (r==8) then (k==13) else if (r==0) then (k==0) else if (r==1) then (k==1) else if (r==2) then (k==2) else if (r==3) then (k==3) else (k==4)
def shapeR (t:Syn):Bool:=
 if (t.kind==0)||(t.kind==1) then true
 else if (t.kind==3) then decide (3≤(t.kids.length:Int))
 else if (t.kind==5) then decide ((t.kids.length:Int)≤1)
 else if ((t.kind==6)||(t.kind==7))||(t.kind==8) then decide (2≤(t.kids.length:Int))
 else if ((t.kind==9)||(t.kind==11))||(t.kind==18) then ((t.kids.length:Int)==1)
 else if ((t.kind==10)||(t.kind==12))||(t.kind==17) then ((t.kids.length:Int)==2)
 else if (t.kind==16) then (((t.kids.length:Int)==1)&&(t.num != 1))||(((t.kids.length:Int)==0)&&(t.num==1))
 else ((t.kids.length:Int)==0)
def namesR (t:Syn):Bool:=
 if (((t.kind==1)||(t.kind==2))||(t.kind==3))||(t.kind==15) then qX t.text
 else if (t.kind==4) then (t.text == [])||qX t.text
 else if (t.kind==5)||(t.kind==16) then qX t.text&&qX t.name
 else if (t.kind==14) then qX t.text&&((t.name==Eh)||qX t.name)
 else true
def constR' (t:Syn):Int:=
 if (t.name==G8) then if (decide (t.num < -1099511627776)||decide (1099511627776<t.num)) then 2 else if !(t.text == []) then 3 else 0
 else if (t.name==F0) then if ((t.num != 0)&&(t.num != 1)) then 2 else if !(t.text == []) then 3 else 0
 else if (t.name==Gl) then if decide (64<(t.text.length:Int)) then 13 else if (t.num != 0) then 3 else 0
 else 1
def textU (k:Int):Bool:=(((((((k==1)||(k==2))||(k==3))||(k==4))||(k==5))||(k==14))||(k==15))||(k==16)
def nameU (k:Int):Bool:=((k==5)||(k==14))||(k==16)
def fD (t:Syn)(u:Int):Int:=if ((u != 0)||(!(textU t.kind) && !(t.text == [])))||(!(nameU t.kind) && !(t.name == [])) then 3 else 0
def numberR (t:Syn):Int:=
 if (t.kind==13) then Ho t
 else if (t.kind==2) then if (decide (t.num<0)||decide (2<t.num)) then 1 else fD t 0
 else if (t.kind==16) then if (decide (t.num<1)||decide (5<t.num)) then 1 else fD t 0
 else if (t.kind==17) then if (decide (t.num<5)||decide (11<t.num)) then 1 else fD t 0
 else if (t.kind==11) then if (decide (t.num<0)||decide (1099511627776<t.num)) then 2 else fD t 0
 else fD t t.num
def kidR (t:Syn)(i:Nat):Int:=
 if (t.kind==0) then if ((A3 t i).kind==1)&&(((i:Int)==0)||((A3 t (i-1)).kind==1)) then 1 else 3
 else if (t.kind==1) then 2
 else if (t.kind==3) then if decide ((i:Int)<2) then 4+(i:Int) else 7
 else if (t.kind==10) then if ((i:Int)==1) then 6 else 5
 else if (t.kind==12) then if ((i:Int)==1) then 7 else 5
 else if (t.kind==16) then 8
 else if ((t.kind==5)||(t.kind==17))||(t.kind==18) then 7
 else 5
def closedR (p k:Int):Bool:=((k==17)&&((p==17)||(p==18)))||((k==18)&&(p==17))

def WOK (t:Syn):Prop:=Ap Tryz.prog 179 [.agg (cSyn t)] (.str (Ak t))∧(Ak t).length≤100000






set_option maxHeartbeats 1600000
set_option maxRecDepth 20000

def fewT (T:List e8Sc):Bool:=if T.any (fun s=>decide ((20:Int)<(s.fields.length:Int))||decide ((100:Int)<(s.name.length:Int))) then false else decide ((T.length:Int)≤20)
theorem few_no {T:List e8Sc}{k:Nat}{a:e8Sc}(ha:T[k]? = some a)(h:(decide ((20:Int)<(a.fields.length:Int))||decide ((100:Int)<(a.name.length:Int)))=true):fewT T=false:=by
 unfold fewT;rw [if_pos (List.any_eq_true.2 ⟨a,B4 ha,h⟩)]
theorem sK (T:List e8Sc)(hl:T.length≤1048576)(hs:∀s∈T,Zj s):Ap Tryz.prog 12 [.sl 2 (T.map Mt)] (.bool (fewT T)):=by
 refine Ap.body (n:=29) tok Tryz.func12 rfl rfl rfl fun H=>?_
 refine Ae (Qp A0 (Ag (Bk (Qp Al (Ag (AW.block ?_))))));refine AW.Aag (fun (k:Nat)=>(⟨[(0,.sl 2 (T.map Mt)),(3,.int .i64 (k:Int))],H,29⟩:St)) (fun k=>k≤T.length∧(T.take k).any (fun s=>decide ((20:Int)<(s.fields.length:Int))||decide ((100:Int)<(s.name.length:Int)))=false) (fun k=>T.length-k) (0) ?_ Cs ?_
 · exact ⟨E2 _,by simp⟩
 rintro k hR;refine Bk (Qp Ao (Qp G4 ?_));refine Qp (Ah (n:=T.length) tok rfl rfl rfl (by simp)) ?_;refine Qp Bx (Ag (Aq (fun hc1=>?_) fun hc1=>?_))
 ·
  obtain ⟨a,ha⟩:=Cc hc1;have hlt:=Bu ha;have hm:=B4 ha;have hok:=hs a hm;have ho1:=hok.1;have ho2:=hok.2.1;refine Bg (AW.seq (AW.block (Ae (Qp G4 (Qp Ao ?_)))));refine Qp (Aa (c:=Ub) tok rfl rfl rfl rfl rfl rfl (by omega) (Dv ha)) ?_;refine Qp (Qf [_]) (Qp Cw ?_);refine Qp (Ah (n:=a.fields.length) tok rfl rfl rfl (by simp)) ?_;refine Qp Ej (Qp A9 (Qg [] Qw G4 (Qg [] Qw Ao ?_)));refine AOL.g (y:=.ptr _) _ [(18,_),(19,_)] rfl (qZ.all ⟨Ent.Aad _ _,Ent.Aad _ _,trivial⟩) (fun hG=>Aa (c:=Ub) tok rfl rfl rfl rfl rfl rfl (by omega) (Dv ha)) rfl ?_;refine Qg [(20,_)] Qw (Qf Ub) (Qg [(21,_)] Qw Hc (AOL.g (y:=Iq _) _ [(22,_)] rfl (qZ.all ⟨Ent.Aad _ _,trivial⟩) (fun hG=>B8 (n:=a.name.length) tok rfl rfl rfl (rfl)) rfl ?_));refine Qg [(23,_)] Qw Ej (Qp B9 (Ag (Aq (fun hc2=>Ae (Qp A0 (Ra (Be (Db (Be (Qr (.bool _) ?_))))))) fun hc2=>Rf (AW.region (Qp Ao (Qp E9 (Qp Al (Ag ?_))))))))
  · exact Eq.trans rfl (congrArg (fun q:Bool=>AV.bool q) (few_no ha hc2)).symm
  refine ⟨k+1,?_,?_,Cs⟩
  · exact ⟨hlt,Jg hR.2 ha hc2⟩
  omega
 have hte:=Dm hc1;have hall:=hR.2;rw [hte] at hall;refine AW.exit ?_;refine Bq (Ri (Ae (Qp G4 ?_)));refine Qp (Ah (n:=T.length) tok rfl rfl rfl (by simp)) ?_;refine Qp Z5 (Qp A0 (Rb (Qr (.bool _) ?_)));exact Eq.trans rfl (congrArg (fun q:Bool=>AV.bool q) ((Bl hall:fewT T=decide ((T.length:Int)≤20)))).symm


end Go.Proofs.YtckhoadldibflaaGreatDoor
