/-
  Several texts in one: V9, V10, L1, P18, P19, Q1, R25, R28, R29, R30, R31. No condition.
-/
import Derived.Test.YtibcelnfkhdjaaaGreatDoorK02
import Derived.Test.YtibcelnfkhdjaaaGreatDoorK05
import Derived.KernelRfl
import Derived.Test.YtibcelnfkhdjaaaGreatDoorK01
import Derived.Test.YtibcelnfkhdjaaaGreatDoorK04
set_option linter.unusedVariables false
set_option linter.unusedSimpArgs false
set_option maxHeartbeats 3200000
set_option maxRecDepth 100000
namespace Go.Proofs.YtibcelnfkhdjaaaGreatDoor
open Go Go.Aw
theorem aM (s:Ac):∀(n i:Nat) (b:Ac),b.length<=i->i<=s.length->(Fz s n i b).tok.text.length<=s.length
  | 0,i,b,h1,h2=>by simp [Fz,Lp,Pw]
  | n+1,i,b,h1,h2=>by
    unfold Fz;split
    . rename_i hi
      simp only [Cb] at hi;split
      . split
        . simp [Lp,Pw]
        simp only [Xf];omega
      . split
        . split
          . simp [Lp,Pw]
          . rename_i he
            have hp:=esc_le (s.drop i);rw [Eh] at hp;have hz:(Kg (s.drop i)).2≠0:=by simpa using he
            exact aM s n _ _ (by rw [Al,E6];omega) (by omega)
        . split
          . simp [Lp,Pw]
          exact aM s n _ _ (by rw [Al,E6];omega) (by omega)
    simp [Lp,Pw]
theorem iA (s:Ac):∀l:List Ac,(∀x∈l,x.length<=2)->(It s l).tok.text.length<=2
  | [],_=>by simp [It,Lp,Pw]
  | x::r,h=>by
    unfold It;split
    . exact h x (Jg ..)
    exact iA s r fun y hy=>h y (Gs _ hy)
theorem next_text (t:Ac)(h0:0<t.length):(By t).tok.text.length<=t.length+2:=by
 have hn:(Lq t).tok.text.length<=t.length:=by
  unfold Lq;split
  . simp [foZ,Pw]
  split
  . simp [Lp,Pw]
  simp only [Xf,Gv];omega
 have hm:(Gy t).tok.text.length<=t.length:=by
  unfold Gy;split
  . simp [foZ,Pw]
  split
  . simp [Lp,Pw]
  split
  . simp [Lp,Pw]
  simp only [Xf,Gv];omega
 have hl:(Mq t).tok.text.length<=t.length:=by
  unfold Mq;split
  . simp [foZ,Pw]
  exact aM t _ 1 [] (Bk _) h0
 have hs:=iA t qX (by decide);unfold By;split
 . omega
 split
 . omega
 split
 . omega
 exact F4 hs (by omega)
theorem scan_okT (s:Ac)(hl:s.length<=100000):okT (Cy s).1:=by
  have key:∀(n i:Nat) (out:List Tok),i<=s.length->out.length<=i->(∀t∈out,t.text.length<=s.length+2)->(Ks s n i out).1.length<=s.length/\∀t∈(Ks s n i out).1,t.text.length<=s.length+2:=by
    intro n
    induction n with
    | zero=>intro i out h1 h2 h3;exact ⟨Bk _,fun t h=>by cases h⟩
    | succ n ih=>
      intro i out h1 h2 h3;unfold Ks;split
      . rename_i hi
        simp only [Cb] at hi;have hs:=uB (s.drop i);have hn:=Y5 (s.drop i) (by rw [Eh];omega);have ht:=next_text (s.drop i) (by rw [Eh];omega);rw [Eh] at hs hn ht;have hs2:=hs.2 (by omega);split
        . exact ih _ _ (by omega) (by omega) h3
        . split
          . exact ⟨Bk _,fun t h=>by cases h⟩
          . rename_i h4
            have hp:=hn.2.2.2.2 (by simpa using h4);refine ih _ _ (by omega) (by rw [Al,E6];omega) fun t h=>?_
            rcases G2.1 h with h | h
            . exact h3 t h
            rw [D5] at h;subst h;simp only;omega
      exact ⟨F4 h2 h1,h3⟩
  unfold Cy;split
  . exact ⟨Bk _,fun t h=>by cases h⟩
  . have:=key (s.length+1) 0 [] (Bk _) (Be _) (fun t h=>by cases h)
    exact ⟨by omega,fun t h=>by have:=this.2 t h;omega⟩
theorem begin_okD (s:Ac)(hl:s.length<=100000):okD 0 (Ht (Cy s).1 s.length):=⟨scan_okT s hl,D6 _,(by decide:(0:Int)<=64)⟩
theorem p_kind (st:PS)(bp:Nat)  (hO:okD 0 st):Bp Tryz.prog 41 bp 116 (cP st) (cP ((Hh st).2)) [.val (.pointer (some ⟨bp,0,none⟩))] (.agg (cSyn (Hh st).1)):=by
 intro H;have hS:=hO.1;have hO2:okD 0 (Bb Em (Cm 0 (Bb B6 st))):=by simpa using hO
 refine Jz 32 Tryz.func41 rfl ?_;refine Ab ?_;refine E8 Kb fun b2=>?_
 refine Cf (Qp B3 ?_);refine AOL.Aaq (C0 (k:=1) (by kernel_rfl) rfl rfl (Lr _ _)) rfl rfl ?_;refine Qp (Gz Aj) ?_;refine E8 Kb fun b3=>?_
 refine B4 0 Aj (_::_::_::_) (Cf (Qp B3 ?_));refine Rt (D2 rfl ((Ee _ _ _ (by simpa using hS) (by decide)).at (k:=2) (H2:=_::_::_::_) rfl rfl)) ?_;refine Cf (Qp B3 ?_);refine Rt (D2 rfl ((Rv _ _ (by simpa using hS)).at (k:=2) (H2:=_::_::_::_) rfl rfl)) ?_;refine Qp Dg ?_;refine B4 0 Aj (_::_::_::_) (Cf (Qp B3 ?_));refine Rt (D2 rfl ((Ee _ _ _ (by simpa using hS) (by decide)).at (k:=2) (H2:=_::_::_::_) rfl rfl)) ?_;refine A7 (Cj (Qp B3 (Qp (Aa rfl) (Qp Dg (Ua 2 (Iq _) rfl (Qp Bv (Qp Cw (Qg [] Qw B3 ?_))))))));refine AOL.gk (y:=.bool _) _ [(20,_)] rfl (jS.all ⟨Ent.Aas _ _,trivial⟩) (fun hG=>C0 (k:=2) (by kernel_rfl) rfl rfl (p_is _ _ _ (by simpa using hS) (by decide))) rfl rfl ?_;refine Qg [(21,_)] Qw Ke (Qp Mu (Br (fun hc1=>?_) fun hc1=>?_))
 .
  try simp only [A2,Bf] at hc1
  have hS:=(Om hO2 (Qh Vf (Ps (D6 _) hO2))).1;refine AW.region (Qp B3 (Qp B3 (Qp (Ca (l:=[.val _]) (l':=[]) rfl rfl) ?_)));refine Rt (D2 rfl ((p_list (Bb Em (Cm 0 (Bb B6 st))) bp 0 (by decide) 87 (by kernel_rfl) [.val (.pointer (some ⟨bp,0,none⟩))] [] Id Vf (fun s ho=>p_field s bp ho.1) hO2).at (k:=2) (H2:=_::_::_::_) rfl rfl)) ?_;refine Qp Dg ?_;refine B4 0 Aj (_::_::_::_) (Cf (Qp B3 ?_));refine Rt (D2 rfl ((Ee _ _ _ (by simpa using hS) (by decide)).at (k:=2) (H2:=_::_::_::_) rfl rfl)) ?_;refine Cf (Tn 0 Aj rfl ?_);refine B4 1 Aj (_::_::_::_) (Rb ?_);refine ⟨.inr rfl,[.agg Aj],Zb 1,_,S2,?_⟩;refine ⟨?_,congrArg (fun c=>HO.box bp 116 c::H) ?_⟩
  .
   try simp only [Af,Hh,cSyn,Ao,A0,Bi,hc1,↓reduceIte,Ah,A6,Bs]
   try rfl
  try simp only [cP,Hh,hc1,↓reduceIte,Ah,A6,Bs]
  try rfl
 try simp only [A2,Bf] at hc1
 refine B8 (Ab (Qp B3 ?_));refine Rt (D2 rfl ((Ee _ _ _ (by simpa using hS) (by decide)).at (k:=2) (H2:=_::_::_::_) rfl rfl)) ?_;refine Cf (Tn 0 Aj rfl ?_);refine B4 1 Aj (_::_::_::_) (Rb ?_);refine ⟨.inr rfl,[.agg Aj],Zb 1,_,S2,?_⟩;refine ⟨?_,congrArg (fun c=>HO.box bp 116 c::H) ?_⟩
 .
  try simp only [Af,Hh,cSyn,Ao,A0,Bi,hc1,↓reduceIte,Ah,A6,Bs]
  try rfl
 try simp only [cP,Hh,hc1,↓reduceIte,Ah,A6,Bs]
 try rfl
theorem sc_pair (x y:Syn):∀c∈[cSyn x,cSyn y],Av c=true:=by
 intro c hc;simp only [Cu,Na,or_false] at hc;rcases hc with rfl | rfl <;> rfl
abbrev q1 (st:PS):PS:=Bb B5 st
abbrev q2 (st:PS):Syn×PS:=Nf (Cm 0 (q1 st)) (D4 st)
abbrev q3 (T:PS->Syn×PS)(st:PS):Syn×PS:=T (Bb Dx (q2 st).2)
abbrev q4 (T:PS->Syn×PS)(st:PS):PS:=Bb Dc (q3 T st).2
theorem list_len {F:PS->Syn×PS}(hF:Du F){st:PS}(h:okD 0 st):(Kq F st).1.length<=1048600:=by
  have key:∀(n:Nat) (st:PS) (out:List Syn),okD 0 st->out.length<=st.pos+1->out.length<=1048580->(Gb F n st out).1.length<=1048600:=by
    intro n
    induction n with
    | zero=>intro st out _ _ h;exact F4 h (by decide)
    | succ n ih=>
      intro st out hO h1 h2;unfold Gb;split
      . rename_i hi
        have hlt:=Z2 hi;have hg:=hF.goes (a:=adv st) (Ps (D6 _) hO);have hp:st.pos+1<=(F (adv st)).2.pos:=hg.2.1;have hml:=hO.1.1;exact ih _ _ (Om hO ((K1.adv st).trans hg)) (by rw [Al,E6];omega) (by rw [Al,E6];omega)
      exact F4 h2 (by decide)
  exact key _ _ _ (Om h (hF.goes (Ps (D6 _) h))) (by simp) (by simp)
theorem p_query (st:PS)(bp:Nat)(E:PS->Syn×PS)(hFE:Du E)(hE:∀(st:PS) (bp:Nat),okD 0 st->Bp Tryz.prog 90 bp 116 (cP st) (cP (E st).2) [.val (.pointer (some ⟨bp,0,none⟩))] (.agg (cSyn (E st).1)))(T:PS->Syn×PS)(hFT:Du T)(hT:∀(st:PS) (bp:Nat),okD 0 st->Bp Tryz.prog 89 bp 116 (cP st) (cP (T st).2) [.val (.pointer (some ⟨bp,0,none⟩))] (.agg (cSyn (T st).1)))(hO:okD 0 st):Bp Tryz.prog 42 bp 116 (cP st) (cP ((If E T st).2)) [.val (.pointer (some ⟨bp,0,none⟩))] (.agg (cSyn (If E T st).1)):=by
 intro H;have hS:=hO.1;have hO2:okD 0 (q2 st).2:=Om (a:=Cm 0 (q1 st)) (by simpa using hO) (lJ _ _);have hO3:okD 0 (q3 T st).2:=hFT.okD (D6 _) (by simpa using hO2);have hO4:okD 0 (q4 T st):=by simpa using hO3
 have hO5:=Om hO4 (Qh hFE (Ps (D6 _) hO4));have hll:=list_len hFE hO4;refine Jz 44 Tryz.func42 rfl ?_;refine Ab ?_;refine E8 Kb fun b2=>?_
 refine Cf (Qp B3 ?_);refine AOL.Aaq (C0 (k:=1) (by kernel_rfl) rfl rfl (Lr _ _)) rfl rfl ?_;refine Qp (Gz Aj) ?_;refine E8 Kb fun b3=>?_
 refine B4 0 Aj (_::_::_::_) (Cf (Qp B3 ?_));refine Rt (D2 rfl ((Ee _ _ _ (by simpa using hS) (by decide)).at (k:=2) (H2:=_::_::_::_) rfl rfl)) ?_;refine Cf (Qp B3 ?_);refine Rt (D2 rfl ((Rv _ _ (by simpa using hS)).at (k:=2) (H2:=_::_::_::_) rfl rfl)) ?_;refine Qp Dg ?_;refine B4 0 Aj (_::_::_::_) (Cf (Qp Dg (Ua 0 (Iq _) rfl (Qp (Gz Aj) ?_))));refine E8 Kb fun b4=>?_
 refine B4 0 Aj (_::_::_::_::_) (A7 ?_);refine AW.Aat (fun (k:Syn×PS)=>(⟨[(0,.val (.pointer (some ⟨bp,0,none⟩))),(2,.val (.pointer (some ⟨b2,0,none⟩))),(3,.val (.pointer (some ⟨b3,0,none⟩))),(4,.val (.pointer (some ⟨b4,0,none⟩)))],.box b4 25 (cSyn k.1) :: .box b3 25 [.int .i64 3,.str (Hw 0 (q1 st)),.str [],.int .i64 0,.sl 6 [],.int .i64 (D4 st)] :: .box b2 25 (cSyn Iz) :: .box bp 116 (cP k.2)::H,44⟩:St)) (fun k=>k=q2 st) ?_ ?_
 .
  refine Ab (Qp B3 ?_);refine Rt (D2 rfl ((Fl _ _ _ (by simpa using hS) (by decide)).at (k:=3) (H2:=_::_::_::_::_) rfl rfl)) ?_;refine Br (fun hc1=>?_) fun hc1=>?_
  .
   try simp only [A2,Bf] at hc1
   refine AW.ghost (GS.Aap (H2:=_::_::_::_::_) 3 rfl (congrArg cP (Gd hc1)) rfl) ?_;refine Ab (Qp B3 ?_);refine AOL.Aaq (C0 (k:=3) (by kernel_rfl) rfl rfl (Lr _ _)) rfl rfl ?_;refine Qp Dg ?_;refine B4 0 Aj (_::_::_::_::_) (A7 (AW.region (Qp B3 ?_)));refine Rt (D2 rfl ((Rv _ _ (by simpa using hS)).at (k:=3) (H2:=_::_::_::_::_) rfl rfl)) ?_;refine Qp Dg ?_;refine B4 0 Aj (_::_::_::_::_) (A7 ?_);refine ⟨(⟨4,Hw 0 (adv (Cm 0 (q1 st))),[],0,[],D4 (adv (Cm 0 (q1 st)))⟩,Cm 0 (adv (Cm 0 (q1 st)))),?_,Dp⟩;exact (by unfold q2 Nf;rw [if_pos (show Ea O2 (Cm 0 (q1 st))=true from hc1)])
  try simp only [A2,Bf] at hc1
  refine AW.ghost (GS.Aap (H2:=_::_::_::_::_) 3 rfl (congrArg cP (I4 hc1)) rfl) ?_;refine B8 ?_;refine ⟨(⟨4,[],[],0,[],D4 st⟩,Cm 0 (q1 st)),?_,Dp⟩;exact (by unfold q2 Nf;rw [if_neg (zqal52.mp (show Ea O2 (Cm 0 (q1 st))=false from hc1))])
 rintro k rfl;have hS:=hO2.1;refine Ab (Qp B3 ?_);refine Rt (D2 rfl ((Ee _ _ _ (by simpa using hS) (by decide)).at (k:=3) (H2:=_::_::_::_::_) rfl rfl)) ?_;refine Re (T6 0 rfl (Qn 0 rfl (D1.mem (fun k=>Mt (k:=k) (l:=Aj) tok rfl rfl rfl rfl rfl) (fun _ h=>h)) ?_));refine Qn 1 rfl B3 ?_;refine aB 2 rfl (D2 rfl ((hT (Bb Dx (q2 st).2) bp (by simpa using hO2)).at (k:=3) (H2:=_::_::_::_::_) rfl rfl)) (by rintro _ _ ⟨rfl,rfl⟩;simp) ?_;rintro _ _ ⟨rfl,rfl⟩;have hS:=hO3.1;refine aB 3 rfl (Jl (es:=[Aj,Aj]) tok rfl rfl rfl rfl rfl rfl rfl rfl rfl) (by rintro _ _ ⟨v29,rfl,rfl⟩;simp) ?_;rintro _ _ ⟨v29,rfl,rfl⟩;refine Qn 4 rfl Dg ?_;refine iR 5 rfl (Mf 2 (.row _ _ _) Aj (_::_::_::_::_::_) rfl) ?_;rintro _ _ ⟨rfl,rfl⟩;refine Ap (Ab (Qp B3 ?_));refine Rt (D2 rfl ((Ee _ _ _ (by simpa using hS) (by decide)).at (k:=4) (H2:=_::_::_::_::_::_) rfl rfl)) ?_;refine Re (T6 2 rfl (Qn 0 rfl Dg (Qn 1 rfl (Nc (.row _ _ _) rfl) (Qn 2 rfl B3 (Qn 3 rfl B3 (Qn 4 rfl (Ca (l:=[.val _]) (l':=[]) rfl rfl) ?_))))));refine aB 5 rfl (D2 rfl ((p_list (q4 T st) bp 0 (by decide) 90 (by kernel_rfl) [.val (.pointer (some ⟨bp,0,none⟩))] [] E hFE (fun s ho=>hE s bp ho) hO4).at (k:=4) (H2:=_::_::_::_::_::_) rfl rfl)) (by rintro _ _ ⟨rfl,rfl⟩;simp) ?_;rintro _ _ ⟨rfl,rfl⟩;have hS:=hO5.1;refine aB 6 rfl (Zq 0 rfl (Xx _) (sc_pair _ _) (by simp;omega) (by simp [maxLen];omega)) (by rintro _ _ ⟨v39,rfl,rfl⟩;simp) ?_;rintro _ _ ⟨v39,rfl,rfl⟩;refine Qn 7 rfl Dg ?_;refine iR 8 rfl (Mf 2 (.row _ _ _) Aj (_::_::_::_::_::_) rfl) ?_;rintro _ _ ⟨rfl,rfl⟩;refine Ap (Ab (Qp B3 ?_));refine Rt (D2 rfl ((Ee _ _ _ (by simpa using hS) (by decide)).at (k:=4) (H2:=_::_::_::_::_::_) rfl rfl)) ?_;refine Cf ?_;refine AOL.ghost (GS.cell (H2:=_::_::_::_::_::_) 2 4 rfl rfl rfl rfl Fg) ?_;refine Tn 2 Aj rfl ?_;refine B4 3 Aj (_::_::_::_::_::_) (Rb ?_);refine ⟨.inr rfl,[.agg Aj],Zb 3,_,S4,?_⟩;exact ⟨congrArg (fun l=>AV.agg [.int .i64 3,.str (Hw 0 (q1 st)),.str [],.int .i64 0,.sl 6 l,.int .i64 (D4 st)]) (by unfold If;simp only [Di,Ao,A0,Bi]),rfl⟩
theorem kind_adv {st:PS}(h:Ea B6 st=true)(r:iQ st):st.pos+1<=(Hh st).2.pos:=by
  have hb:(st.bad==0)=true:=by
    unfold Ea at h;cases hq:(st.bad==0) with
    | true=>rfl
    | false=>
      have:endP st=true:=by unfold endP;simp only [bne,hq];rfl
      rw [this] at h;cases h
  have e:Bb B6 st=adv st:=by unfold Bb;rw [h,hb];exact Gd h
  have g0:K1 (adv st) (Bb Em (Cm 0 (adv st))):=(K1.tok _ _).trans (.exp _ _);have r0:iQ (adv st):=r
  have:K1 (adv st) (Hh st).2:=by
    unfold Hh;simp only [e];split
    . exact (g0.trans (Qh Vf (g0.rng r0))).trans (.exp _ _)
    exact g0.trans (.exp _ _)
  exact this.2.1
theorem query_adv {E T:PS->Syn×PS}(hE:Du E)(hT:Du T){st:PS}(h:Ea B5 st=true)(r:iQ st):st.pos+1<=(If E T st).2.pos:=by
  have hb:(st.bad==0)=true:=by
    unfold Ea at h;cases hq:(st.bad==0) with
    | true=>rfl
    | false=>
      have:endP st=true:=by unfold endP;simp only [bne,hq];rfl
      rw [this] at h;cases h
  have e:Bb B5 st=adv st:=by unfold Bb;rw [h,hb];exact Gd h
  have r0:iQ (adv st):=r;have h1:K1 (adv st) (Bb Dx (Nf (Cm 0 (adv st)) (D4 st)).2):=((K1.tok _ _).trans (lJ _ _)).trans (.exp _ _);have h2:=(K1.read hT r0 h1).trans (.exp Dc _)
  have:K1 (adv st) (If E T st).2:=by
    unfold If;simp only [e];exact (h2.trans (Qh hE (h2.rng r0))).trans (.exp _ _)
  exact this.2.1
theorem Vs {w:Ac}{F:PS->Syn×PS}{n:Nat}{st:PS}{out:List Syn}(h:0<n):E2 w F n st out=if Ea w st then E2 w F (n-1) (F st).2 (out ++ [(F st).1]) else (out,st):=by
 obtain ⟨m,rfl⟩:∃m,n=m+1:=⟨n-1,by omega⟩;rfl
abbrev pg1 (st:PS):List Syn×PS:=E2 B6 Hh (B1 st) st []
theorem p_program (st:PS)(bp:Nat)(E:PS->Syn×PS)(hFE:Du E)(hE:∀(st:PS) (bp:Nat),okD 0 st->Bp Tryz.prog 90 bp 116 (cP st) (cP (E st).2) [.val (.pointer (some ⟨bp,0,none⟩))] (.agg (cSyn (E st).1)))(T:PS->Syn×PS)(hFT:Du T)(hT:∀(st:PS) (bp:Nat),okD 0 st->Bp Tryz.prog 89 bp 116 (cP st) (cP (T st).2) [.val (.pointer (some ⟨bp,0,none⟩))] (.agg (cSyn (T st).1)))(hO:okD 0 st):Bp Tryz.prog 17 bp 116 (cP st) (cP ((Fm E T st).2)) [.val (.pointer (some ⟨bp,0,none⟩))] (.agg (cSyn (Fm E T st).1)):=by
 intro H;have hS:=hO.1;refine Jz 24 Tryz.func17 rfl ?_;refine Ab ?_;refine E8 Kb fun b2=>?_
 refine Cf ?_;refine Qp (Kj (l0:=[.int .i64 0,.str [],.str [],.int .i64 0,.val (.slice none 0 0),.int .i64 0]) (l:=Aj) tok rfl rfl (by kernel_rfl) rfl) ?_;refine E8 Kb fun b3=>?_
 refine B4 0 Aj (_::_::_::_) ?_;refine AOL.ghost (GS.cellRow 0 4 25 6 rfl rfl rfl rfl) ?_;refine Re (AW.block ?_);refine AW.Aan (fun (p:Nat×PS×List Syn×List (List AV)×Value)=>(⟨[(0,.val (.pointer (some ⟨bp,0,none⟩))),(2,.val (.pointer (some ⟨b2,0,none⟩))),(3,.val (.pointer (some ⟨b3,0,none⟩)))],.row p.2.2.2.2 p.2.2.2.1.length 25 6 :: .box b3 25 [.int .i64 0,.str [],.str [],.int .i64 0,.row p.2.2.2.2 6 p.2.2.2.1,.int .i64 0] :: .box b2 25 (cSyn Iz) :: .box bp 116 (cP p.2.1)::H,24⟩:St)) (fun p=>p.2.2.2.1=p.2.2.1.map Df/\okD 0 p.2.1/\B1 p.2.1<=p.1/\p.2.2.1.length<=p.2.1.pos/\pg1 st=E2 B6 Hh p.1 p.2.1 p.2.2.1) (fun p=>p.1) ((B1 st,st,[],[],.slice none 0 0)) ?_ Dp ?_
 . exact ⟨rfl,hO,Be _,Bk _,rfl⟩
 rintro p hR;have hes:p.2.2.2.1=p.2.2.1.map Df:=hR.1;have hO2:okD 0 p.2.1:=hR.2.1;have hS:=hO2.1;have hfu:B1 p.2.1<=p.1:=hR.2.2.1;have hn:0<p.1:=by unfold B1 at hfu;omega
 have hol:p.2.2.1.length<=p.2.1.pos:=hR.2.2.2.1;have hsc:∀c∈p.2.2.2.1,Av c=true:=by rw [hes];exact Xx _
 have hel:p.2.2.2.1.length=p.2.2.1.length:=by rw [hes,Bg]
 refine Cj (Qp B3 ?_);refine AOL.Aaq (C0 (k:=3) (by kernel_rfl) rfl rfl (p_is _ _ _ (by simpa using hS) (by decide))) rfl rfl ?_;refine Br (fun hc1=>?_) fun hc1=>?_
 .
  try simp only [A2,Bf] at hc1
  have hlt:=Z2 hc1;have hml:=hS.1;have hg:=fine_kind.goes (a:=p.2.1) (Ps (D6 _) hO2);have hpp:=kind_adv hc1 (Ps (D6 _) hO2);refine B8 (AW.block (T6 1 rfl (Qn 0 rfl Dg (Qn 1 rfl (Nc (.row _ _ _) rfl) (Qn 2 rfl B3 ?_)))));refine aB 3 rfl (D2 rfl ((p_kind _ bp hO2).at (k:=3) (H2:=_::_::_::_::_) rfl rfl)) (by rintro _ _ ⟨rfl,rfl⟩;simp) ?_;rintro _ _ ⟨rfl,rfl⟩;refine Qn 4 rfl (Kf [Aj] rfl) ?_;refine aB 5 rfl (Zq 0 rfl (Ff rfl) (hsc) (by simp;omega) (by simp [maxLen];omega)) (by rintro _ _ ⟨v12,rfl,rfl⟩;simp) ?_;rintro _ _ ⟨v12,rfl,rfl⟩;refine Qn 6 rfl Dg ?_;refine iR 7 rfl (Mf 1 (.row _ _ _) Aj (_::_::_::_::_) rfl) ?_;rintro _ _ ⟨rfl,rfl⟩;refine Km (Ap ?_);refine ⟨(p.1-1,(Hh p.2.1).2,p.2.2.1 ++ [(Hh p.2.1).1],p.2.2.2.1 ++ [cSyn (Hh p.2.1).1],v12),?_,?_,Dp⟩
  . exact ⟨Lu hes,Om hO2 hg,by unfold B1 at hfu ⊢;rw [hg.1];simp only;omega,by simp only [Al,E6];omega,hR.2.2.2.2.trans (by rw [Vs hn,if_pos hc1])⟩
  simp only;omega
 try simp only [A2,Bf] at hc1
 have h1:pg1 st=(p.2.2.1,p.2.1):=hR.2.2.2.2.trans (by rw [Vs hn,iN hc1]);refine AW.exit ?_;refine B9 (Ri (AW.seq (AW.block ?_)));refine AW.Aan (fun (q:Nat×PS×List Syn×List (List AV)×Value)=>(⟨[(0,.val (.pointer (some ⟨bp,0,none⟩))),(2,.val (.pointer (some ⟨b2,0,none⟩))),(3,.val (.pointer (some ⟨b3,0,none⟩)))],.row q.2.2.2.2 q.2.2.2.1.length 25 6 :: .box b3 25 [.int .i64 0,.str [],.str [],.int .i64 0,.row q.2.2.2.2 6 q.2.2.2.1,.int .i64 0] :: .box b2 25 (cSyn Iz) :: .box bp 116 (cP q.2.1)::H,24⟩:St)) (fun q=>q.2.2.2.1=q.2.2.1.map Df/\okD 0 q.2.1/\B1 q.2.1<=q.1/\q.2.2.1.length<=q.2.1.pos/\E2 B5 (If E T) (B1 p.2.1) p.2.1 p.2.2.1=E2 B5 (If E T) q.1 q.2.1 q.2.2.1) (fun q=>q.1) ((B1 p.2.1,p.2.1,p.2.2.1,p.2.2.2.1,p.2.2.2.2)) ?_ Dp ?_
 . exact ⟨hes,hO2,Be _,hol,rfl⟩
 rintro q hQ;have hes:q.2.2.2.1=q.2.2.1.map Df:=hQ.1;have hO2:okD 0 q.2.1:=hQ.2.1;have hS:=hO2.1;have hfu:B1 q.2.1<=q.1:=hQ.2.2.1;have hn:0<q.1:=by unfold B1 at hfu;omega
 have hol:q.2.2.1.length<=q.2.1.pos:=hQ.2.2.2.1;have hsc:∀c∈q.2.2.2.1,Av c=true:=by rw [hes];exact Xx _
 have hel:q.2.2.2.1.length=q.2.2.1.length:=by rw [hes,Bg]
 refine Cj (Qp B3 ?_);refine AOL.Aaq (C0 (k:=3) (by kernel_rfl) rfl rfl (p_is _ _ _ (by simpa using hS) (by decide))) rfl rfl ?_;refine Br (fun hc2=>?_) fun hc2=>?_
 .
  try simp only [A2,Bf] at hc2
  have hlt:=Z2 hc2;have hml:=hS.1;have hg:=(kX hFE hFT).goes (a:=q.2.1) (Ps (D6 _) hO2);have hpp:=query_adv hFE hFT hc2 (Ps (D6 _) hO2);refine B8 (AW.block (T6 1 rfl (Qn 0 rfl Dg (Qn 1 rfl (Nc (.row _ _ _) rfl) (Qn 2 rfl B3 ?_)))));refine aB 3 rfl (D2 rfl ((p_query _ bp E hFE hE T hFT hT hO2).at (k:=3) (H2:=_::_::_::_::_) rfl rfl)) (by rintro _ _ ⟨rfl,rfl⟩;simp) ?_;rintro _ _ ⟨rfl,rfl⟩;refine Qn 4 rfl (Kf [Aj] rfl) ?_;refine aB 5 rfl (Zq 0 rfl (Ff rfl) (hsc) (by simp;omega) (by simp [maxLen];omega)) (by rintro _ _ ⟨v21,rfl,rfl⟩;simp) ?_;rintro _ _ ⟨v21,rfl,rfl⟩;refine Qn 6 rfl Dg ?_;refine iR 7 rfl (Mf 1 (.row _ _ _) Aj (_::_::_::_::_) rfl) ?_;rintro _ _ ⟨rfl,rfl⟩;refine Km (Ap ?_);refine ⟨(q.1-1,(If E T q.2.1).2,q.2.2.1 ++ [(If E T q.2.1).1],q.2.2.2.1 ++ [cSyn (If E T q.2.1).1],v21),?_,?_,Dp⟩
  . exact ⟨Lu hes,Om hO2 hg,by unfold B1 at hfu ⊢;rw [hg.1];simp only;omega,by simp only [Al,E6];omega,hQ.2.2.2.2.trans (by rw [Vs hn,if_pos hc2])⟩
  simp only;omega
 try simp only [A2,Bf] at hc2
 refine AW.exit ?_;refine B9 (Ri (Ab ?_));refine AOL.ghost (GS.cell (H2:=_::_::_::_::_) 1 4 rfl rfl rfl rfl Fg) ?_;refine Tn 1 Aj rfl ?_;refine B4 2 Aj (_::_::_::_::_) (Rb ?_);refine ⟨.inr rfl,[.agg Aj],Zb 2,_,S3,?_⟩
 have h9:Fm E T st=(⟨0,[],[],0,q.2.2.1,0⟩,q.2.1):=by
  have h8:E2 B5 (If E T) (B1 (pg1 st).2) (pg1 st).2 (pg1 st).1=(q.2.2.1,q.2.1):=by
   rw [h1];exact hQ.2.2.2.2.trans (by rw [Vs hn,iN hc2])
  unfold Fm;simp only;rw [h8]
 exact ⟨by rw [h9];exact congrArg (fun l=>AV.agg [.int .i64 0,.str [],.str [],.int .i64 0,.sl 6 l,.int .i64 0]) hes,congrArg (fun s=>HO.box bp 116 (cP s)::H) (by rw [h9])⟩
theorem fine_prog {E T:PS->Syn×PS}(hE:Du E)(hT:Du T):Du (Fm E T):=.of fun st r=>by
  have key:∀{F:PS->Syn×PS} (hF:Du F) (w:Ac) (n:Nat) (st:PS) (out:List Syn),iQ st->K1 st (E2 w F n st out).2:=by
    intro F hF w n
    induction n with
    | zero=>intro st out r;exact .refl _
    | succ n ih=>
      intro st out r;unfold E2;split
      . have h:=hF.goes r
        exact h.trans (ih _ _ (h.rng r))
      exact .refl _
  have h1:=key fine_kind B6 (B1 st) st [] r;exact h1.trans (key (kX hE hT) B5 _ _ _ (h1.rng r))
abbrev pst (F:PS->Syn×PS)(s:Ac):PS:=(F (Ht (Cy s).1 s.length)).2
theorem pp_parse (s:Ac)(hl:s.length<=100000)(f:Nat)(hf:Y0 Tryz.prog f=true)(F:PS->Syn×PS)(hF:Du F)(hc:∀(st:PS) (bp:Nat),okD 0 st->Bp Tryz.prog f bp 116 (cP st) (cP (F st).2) [.val (.pointer (some ⟨bp,0,none⟩))] (.agg (cSyn (F st).1))):Au Tryz.prog 16 [.str s,.fn (.func f) [] []] (.tuple [.agg (cSyn (Dh F s).1),.int .i64 (Dh F s).2.1,.int .i64 (Dh F s).2.2]):=by
 have hb0:=begin_okD s hl;refine G3 58 Tryz.func16 rfl fun H=>?_
 refine Ab ?_;refine E8 Kb fun b4=>?_
 refine Qp A3 (Qp A3 (Cf (Qp Iw ?_)));refine Qp (Qc rfl (c13 s (by omega))) ?_;refine Qp Wz (Qp Qxs (Qp Wt (Qp Wt (Qp rL (Qp A3 (Qp A3 (A7 (Cj (Qp Ax (Qp Cq (Br (fun hc1=>?_) fun hc1=>?_)))))))))))
 .
  try simp only [A2,Bf] at hc1
  refine Ab (Qp (Gz Aj) (Qp Ax (Qp Ax ?_)));refine B4 0 Aj (_::_) (Qp A3 (Qp A3 (Rc ?_)));refine Yx [.agg Aj,Iq _,Iq _] (Zd 0) S1 ?_;have h9:Dh F s=(Iz,(Cy s).2.1,(Cy s).2.2):=by unfold Dh;rw [if_pos hc1]
  rw [h9];rfl
 try simp only [A2,Bf] at hc1
 refine B8 (Ab (Qp Ng (Qp Iw (Qp (D7 tok rfl rfl rfl rfl) (Qp (Gz ghz) (Qe (E_box (v:=.agg _) (cs:=ghz) rfl rfl (rfl)) ?_))))));rintro _ _ ⟨b27,rfl,rfl⟩;refine Qp Tm (Cf (Qp (Ai (v:=.fn _ _ _) rfl) (Qp B3 (Rt (Ms (hf) rfl rfl rfl ((hc (Ht (Cy s).1 s.length) b27 hb0).at (k:=0) (H2:=_::_::_) rfl rfl)) ?_))));refine E8 Kb fun b11=>?_
 refine B4 0 Aj (_::_::_::_) ?_;refine Me 11 0 rfl ?_;refine Re (AW.seq (T6 0 rfl (Qn 0 rfl B3 (Qn 1 rfl (Aa rfl) (Qn 2 rfl Dg (Qn 3 rfl (Nc (Iq _) rfl) (Qn 4 rfl B3 (Qn 5 rfl (Aa rfl) (Qn 6 rfl Dg (Qn 7 rfl (Nc (.sl _ _) rfl) ?_))))))))));refine Qn 8 rfl (G6 ((pst F s).toks.length) rfl rfl (by simp)) ?_;refine Qn 9 rfl C5 ?_;refine Jr ?_;refine Ap (Hs (fun hc2=>?_) fun hc2=>?_)
 .
  try simp only [A2,Bf] at hc2
  refine AW.region (Qp B3 (Rcl ((mJ _ _ _).at (k:=0) (H2:=_::_::_) rfl rfl) (A7 (Cj (Qp B3 (Qp (Aa rfl) (Qp Dg (Ua 0 (Iq _) rfl (Qp Cq (Br (fun hc3=>?_) fun hc3=>?_))))))))))
  .
   try simp only [A2,Bf] at hc3
   refine AW.seq (T6 0 rfl (Qn 0 rfl (Gz Aj) (Qn 1 rfl B3 (Qn 2 rfl (Aa rfl) (Qn 3 rfl Dg (Qn 4 rfl (Nc (Iq _) rfl) (Qn 5 rfl B3 (Qn 6 rfl (Aa rfl) (Qn 7 rfl Dg (Qn 8 rfl (Nc (Iq _) rfl) ?_))))))))));refine aB 9 rfl (Mf 1 (.agg _) Aj (_::_::_) rfl) (by rintro _ _ ⟨rfl,rfl⟩;simp) ?_;rintro _ _ ⟨rfl,rfl⟩;refine Qn 10 rfl A3 (Qn 11 rfl A3 ?_);refine Jr ?_;refine Ap (oN ?_);refine Yx [.agg Aj,Iq _,Iq _] (Zd 1) S2 ?_;have h9:Dh F s=Ud (F (Ht (Cy s).1 s.length)):=by unfold Dh;rw [if_neg (by rw [hc1];decide)]
   rw [h9];simp only [Ud,Af,hc1,hc2,hc3,↓reduceIte,Ah]
   try rfl
  try simp only [A2,Bf] at hc3
  refine B8 (Ab (Qp (C8 Aj) ?_));refine B4 1 Aj (_::_::_) (Qp A3 (Qp A3 (Rb ?_)));refine Yx [.agg Aj,Iq _,Iq _] (Zd 1) S2 ?_;have h9:Dh F s=Ud (F (Ht (Cy s).1 s.length)):=by unfold Dh;rw [if_neg (by rw [hc1];decide)]
  rw [h9];simp only [Ud,Af,hc1,hc2,hc3,↓reduceIte,Ah]
  try rfl
 try simp only [A2,Bf] at hc2
 refine B8 (Cj (Qp B3 (Qp (Aa rfl) (Qp Dg (Ua 0 (Iq _) rfl (Qp Cq (Br (fun hc4=>?_) fun hc4=>?_)))))))
 .
  try simp only [A2,Bf] at hc4
  refine AW.seq (T6 0 rfl (Qn 0 rfl (Gz Aj) (Qn 1 rfl B3 (Qn 2 rfl (Aa rfl) (Qn 3 rfl Dg (Qn 4 rfl (Nc (Iq _) rfl) (Qn 5 rfl B3 (Qn 6 rfl (Aa rfl) (Qn 7 rfl Dg (Qn 8 rfl (Nc (Iq _) rfl) ?_))))))))));refine aB 9 rfl (Mf 1 (.agg _) Aj (_::_::_) rfl) (by rintro _ _ ⟨rfl,rfl⟩;simp) ?_;rintro _ _ ⟨rfl,rfl⟩;refine Qn 10 rfl A3 (Qn 11 rfl A3 ?_);refine Jr ?_;refine Ap (oN ?_);refine Yx [.agg Aj,Iq _,Iq _] (Zd 1) S2 ?_;have h9:Dh F s=Ud (F (Ht (Cy s).1 s.length)):=by unfold Dh;rw [if_neg (by rw [hc1];decide)]
  rw [h9];simp only [Ud,Af,hc1,hc2,hc4,↓reduceIte,Ah]
  try rfl
 try simp only [A2,Bf] at hc4
 refine B8 (Ab (Qp (C8 Aj) ?_));refine B4 1 Aj (_::_::_) (Qp A3 (Qp A3 (Rb ?_)));refine Yx [.agg Aj,Iq _,Iq _] (Zd 1) S2 ?_;have h9:Dh F s=Ud (F (Ht (Cy s).1 s.length)):=by unfold Dh;rw [if_neg (by rw [hc1];decide)]
 rw [h9];simp only [Ud,Af,hc1,hc2,hc4,↓reduceIte,Ah]
 try rfl
theorem mQ (s:Ac)(hl:s.length<=100000):Au Tryz.prog 6 [.str s] (.tuple [.agg (cSyn (Dh (Fm EE TT) s).1),.int .i64 (Dh (Fm EE TT) s).2.1,.int .i64 (Dh (Fm EE TT) s).2.2]):=by
 refine G3 10 Tryz.func6 rfl fun H=>?_
 refine Ab ?_;refine E8 Kb fun b2=>?_
 refine Qp A3 (Qp A3 (Cf (Qp Iw ?_)));refine Qp (Qc rfl (pp_parse s hl 17 (by kernel_rfl) (Fm EE TT) (fine_prog jA fine_TT) (fun st bp h=>p_program st bp EE jA p_EE TT fine_TT p_TT h))) ?_;refine Qp (Bm (v:=.agg Aj) rfl rfl) (Qp Wt (Qp Wt ?_));refine B4 0 Aj (_::_) (Qp A3 (Qp A3 (Rb ?_)));refine Yx [.agg Aj,Iq _,Iq _] (Zd 0) S1 ?_;rfl
mutual
def Tf:Syn->Syn->Bool
 | ⟨k,t,n,m,ks,p⟩,b=>if (((((k != b.kind) || !(t==b.text)) || !(n==b.name))||(m != b.num))||((ks.length:Int) != (b.kids.length:Int))) then false else Nw ks b.kids
def Nw:List Syn->List Syn->Bool
 | [],_=>true
 | _::_,[]=>true
 | a::r,b::s=>if !(Tf a b) then false else Nw r s
end
theorem dF (a b:Syn):Tf a b=if (((((a.kind != b.kind) || !(a.text==b.text)) || !(a.name==b.name))||(a.num != b.num))||((a.kids.length:Int) != (b.kids.length:Int))) then false else Nw a.kids b.kids:=by cases a;simp only [Tf]
theorem qU {l m:List Syn}{k:Nat}{x y:Syn}(hx:l[k]? = some x)(hy:m[k]? = some y):Nw (l.drop k) (m.drop k)=if !(Tf x y) then false else Nw (l.drop (k+1)) (m.drop (k+1)):=by
 obtain ⟨h1,rfl⟩:=List.getElem?_eq_some_iff.1 hx;obtain ⟨h2,rfl⟩:=List.getElem?_eq_some_iff.1 hy;rw [Sr h1,Sr h2,Nw]
theorem sameNs_end {l m:List Syn}{k:Nat}(h:l.length<=k):Nw (l.drop k) (m.drop k)=true:=by
 rw [Ss h,Nw]
theorem r_Same (a b:Syn):Au Tryz.prog 11 [.agg (cSyn a),.agg (cSyn b)] (.bool (Tf a b)):=by
 revert b
 induction a using Syn.ind
 rename_i a ih;intro b;refine G3 60 Tryz.func11 rfl fun H=>?_
 refine Ab (Qp (Ji Aj) (Qp (Ji Aj) (Qp Bl (A7 (Cj (Qp (Qf Aj) (Qp B7 (Qp (Qf Aj) ?_))))))));refine Qp B7 (Qp Cq (Qp Cw (Qg [] Qw (Qf Zr) (Qg [(12,_)] Qw Hn (Qg [] Qw (Qf Zr) (Qg [(14,_)] Qw Hn (Qg [(13,_),(15,_)] Yw (Gl rfl rfl) (Qp G4 (Qp Cw (Qg [] Qw (Qf sR) (Qg [(19,_)] Qw Hn (Qg [] Qw (Qf sR) (Qg [(21,_)] Qw Hn ?_)))))))))))));refine Qg [(20,_),(22,_)] Yw (Gl rfl rfl) (Qp G4 (Qp Cw (Qg [] Qw (Qf bK) (Qg [(26,_)] Qw B7 (Qg [] Qw (Qf bK) (Qg [(28,_)] Qw B7 (Qg [(27,_),(29,_)] Yw Cq (Qp G4 (Qp Cw (Qg [] Qw (Qf Po) (Qg [(33,_)] Qw Eg ?_)))))))))));refine Yh [(34,_)] Qw (fun hG=>G6 a.kids.length rfl rfl (by simp)) ?_;refine Qg [] Qw (Qf Po) (Qg [(36,_)] Qw Eg ?_);refine Yh [(37,_)] Qw (fun hG=>G6 b.kids.length rfl rfl (by simp)) ?_;refine Qg [(35,_),(38,_)] Yw Cq (Qp G4 (Br (fun hc1=>?_) fun hc1=>?_))
 .
  try simp only [A2,Bf] at hc1
  refine Ab (Qp Bl (Rc (Qr (.bool _) ?_)));have h9:Tf a b=false:=by rw [dF,if_pos hc1]
  rw [h9];rfl
 try simp only [A2,Bf] at hc1
 have hlen:a.kids.length=b.kids.length:=by simp only [Ey,bne_eq_false_iff_eq] at hc1;have:=hc1.2;omega
 refine B8 (Cj (Qp A3 (A7 (AW.block ?_))));refine AW.Aan (fun (k:Nat)=>(⟨[(2,.ptr (cSyn a)),(3,.ptr (cSyn b)),(5,.int .i64 (k:Int))],H,60⟩:St)) (fun k=>k<=a.kids.length/\Nw a.kids b.kids=Nw (a.kids.drop k) (b.kids.drop k)) (fun k=>a.kids.length-k) (0) ?_ Dp ?_
 . exact ⟨Bk _,rfl⟩
 rintro k hR;refine Cj (Qp Ax (Qp (Qf Po) (Qp Eg (AOL.know 43 rfl fun hml=>?_))));refine Qp (G6 a.kids.length rfl rfl (by simp)) ?_;refine Qp C5 (Br (fun hc2=>?_) fun hc2=>?_)
 .
  try simp only [A2,Bf] at hc2
  have hk:k<a.kids.length:=by have:=Ec hc2;omega
  rw [Bg] at hml;unfold maxLen at hml;refine (get_ex hk).elim fun x hx=>?_
  refine (get_ex (l:=b.kids) (k:=k) (by omega)).elim fun y hy=>?_
  refine B8 (AW.seq (AW.block (AW.seq ?_)));refine Oe ?_;refine Qn 0 rfl (Qf Po) (Qn 1 rfl Eg (Qn 2 rfl Ax ?_));refine Qn 3 rfl (F5 Aj rfl rfl (by omega) (I3 hx)) ?_;refine Qn 4 rfl (C8 Aj) (Qn 5 rfl (Qf Po) (Qn 6 rfl Eg (Qn 7 rfl Ax ?_)));refine Qn 8 rfl (F5 Aj rfl rfl (by omega) (I3 hy)) ?_;refine Qn 9 rfl (C8 Aj) (Qn 10 rfl (Qc rfl (ih x (Ak hx) y)) (Qn 11 rfl Ke ?_));refine Jr ?_;refine Ap (Hs (fun hc3=>?_) fun hc3=>?_)
  .
   try simp only [A2,Bf] at hc3
   refine Ab (Qp Bl (Ra (Bc (Ep (Bc (Qr (.bool _) ?_))))));have h9:Tf a b=false:=by rw [dF,iN hc1,hR.2,qU hx hy,hc3];rfl
   rw [h9];rfl
  try simp only [A2,Bf] at hc3
  refine Rf (AW.region (Qp Ax (Qp Ii (Qp A3 (A7 ?_)))));refine ⟨k+1,?_,?_,Dp⟩
  . exact ⟨hk,hR.2.trans (by rw [qU hx hy,hc3];rfl)⟩
  omega
 try simp only [A2,Bf] at hc2
 have hk:a.kids.length<=k:=by have:=He hc2;omega
 refine AW.exit ?_;refine B9 (Ri (Ab (Qp Bl (Rb ?_))));refine Qr (.bool _) ?_;have h9:Tf a b=true:=by rw [dF,iN hc1,hR.2,sameNs_end hk]
 rw [h9];rfl
theorem qV:∀l m:List Syn,(∀a∈l,∀b,Dy a=Dy b->Tf a b=true)->l.map Dy=m.map Dy->Nw l m=true
  | [],_,_,_=>by rw [Nw]
  | a::r,[],_,h=>by cases h
  | a::r,b::s,ih,h=>by
    rw [Ao,Ao,List.cons.injEq] at h;rw [Nw,ih a (Jg ..) b h.1,qV r s (fun x hx=>ih x (Gs _ hx)) h.2];rfl
theorem zG (a:Syn):∀b,Dy a=Dy b->Tf a b=true:=by
 refine Syn.ind (P:=fun a=>∀b,Dy a=Dy b->Tf a b=true) (fun a ih b h=>?_) a;rw [Fc,Fc b,Syn.mk.injEq] at h;obtain ⟨h1,h2,h3,h4,h5,_⟩:=h;have hl:a.kids.length=b.kids.length:=by have:=congrArg List.length h5;simpa using this
 rw [dF,if_neg (by rw [h1,h2,h3,h4,hl];simp)];exact qV _ _ ih h5
def Pe (u:Ac)(L:List Tok)(rest:Ac):Prop:=∃l,Sc (u++rest) 0 l u.length/\l.map erT=L
theorem Pe.app {u v rest:Ac}{L M:List Tok}(h:Pe u L (v++rest))(k:Pe v M rest):Pe (u++v) (L++M) rest:=by
 obtain ⟨l,h1,h2⟩:=h;obtain ⟨m,k1,k2⟩:=k;refine ⟨l++m.map (shT u.length),?_,?_⟩
 .
  rw [C4,Al];exact h1.trans (by simpa using k1.shift u)
 rw [Di,Hd,h2];have:erT ∘ shT u.length=erT:=by funext t;rfl
 rw [this,k2]
theorem Pe.text {u rest:Ac}(h:(Cy u).2.2=0)(hn:35∉u)(hw:Ph rest):Pe u ((Cy u).1.map erT) rest:=⟨_,(tZ h).2.left hw hn,rfl⟩
theorem Pe.space (rest:Ac):Pe [32] [] rest:=⟨[],zO (c:=32) (r:=rest) rfl (by decide) (.nil _),rfl⟩
theorem Pe.nil (rest:Ac):Pe [] [] rest:=⟨[],.nil _,rfl⟩
abbrev Kz:Tok:=⟨3,Ds,0⟩
abbrev Kd:Tok:=⟨3,Gp,0⟩
abbrev O0:Tok:=⟨3,Cl,0⟩
theorem tI (r:Ac):By (40::r)=Xf 3 [40] 1:=by
 have h0:0<(40::r:Ac).length:=by simp
 rw [Mm (u:=40::r) (by rfl) (by rfl) (by rfl) h0,Is];cases Lib.hasPrefix r [61] <;> rfl
theorem Pe.lpar (rest:Ac):Pe [40] [Kz] rest:=by
 have h:=Sc.tok (s:=[40]++rest) (i:=0) (l:=[]) (j:=1) (by simp) rfl (by show (By (40::rest)).err=0;rw [tI];rfl) (by show Sc _ (0+(By (40::rest)).bytes.toNat) [] 1;rw [tI];exact .nil _);have e:By (([40]++rest:Ac).drop 0)=Xf 3 [40] 1:=tI rest;rw [e] at h;exact ⟨_,h,rfl⟩
theorem Pe.scan {u:Ac}{L:List Tok}(h:Pe u L [])(hl:u.length<=65536):(Cy u).2.2=0/\(Cy u).1.map erT=L:=by
 obtain ⟨l,h1,h2⟩:=h;rw [A1] at h1;rw [sc_scan hl h1];exact ⟨rfl,h2⟩
def Cg (pre post:List Tok)(d:Int):PS:=⟨pre++post,pre.length,0,d,0,0⟩
variable {pre post:List Tok} {d:Int} {t:Tok}
theorem dY:jM (Cg pre (t::post) d)=t:=by
 unfold jM Cg;simp only [Dm];rw [List.getElem?_append_right (Be _),Nat.sub_self];rfl
theorem cur_end:endP (Cg pre (t::post) d)=false:=by
 unfold endP Cg;simp only [Al,A8,Ey,Jh];exact ⟨rfl,by omega⟩
theorem cur_nil:endP (Cg pre [] d)=true:=by
 unfold endP Cg;simp only [A1,Hm,Cb];exact .inr (D6 _)
theorem is_cur {w:Ac}:Ea w (Cg pre (t::post) d)=((t.text==w)&&((t.kind==3)||((t.kind==0)&&Ro w))):=by
 unfold Ea;rw [cur_end,dY];rfl
theorem is_nil {w:Ac}:Ea w (Cg pre [] d)=false:=by unfold Ea;rw [cur_nil];rfl
theorem Pq {k:Int}:Nt k (Cg pre (t::post) d)=((t.kind==k)&&((k != 0) || !(Ro t.text))):=by
 unfold Nt;rw [cur_end,dY];rfl
theorem Ij:adv (Cg pre (t::post) d)=Cg (pre ++ [t]) post d:=by
 unfold adv Cg;simp only [PS.mk.injEq,and_true];exact ⟨by simp,by simp⟩
theorem Yr {w:Ac}(h:((t.text==w)&&((t.kind==3)||((t.kind==0)&&Ro w)))=true):Bb w (Cg pre (t::post) d)=Cg (pre ++ [t]) post d:=by
 rw [exp_yes rfl (by rw [is_cur];exact h),Ij]
theorem dL {k:Int}(h:((t.kind==k)&&((k != 0) || !(Ro t.text)))=true):Cm k (Cg pre (t::post) d)=Cg (pre ++ [t]) post d/\Hw k (Cg pre (t::post) d)=t.text:=by
 unfold Cm Hw;rw [Pq,h,Ij,dY];exact ⟨rfl,rfl⟩
theorem vO (h0:0<=d)(h1:d<64):deep (Cg pre post d)=Cg pre post (d+1):=by
 unfold deep Cg;simp only [PS.mk.injEq,true_and,and_true];exact Tk (by omega) (by omega)
theorem Xy (h0:0<=d)(h1:d<64):shallow (Cg pre post (d+1))=Cg pre post d:=by
 unfold shallow Cg;simp only [PS.mk.injEq,true_and,and_true];rw [show d+1-1=d by omega];exact Tk (by omega) (by omega)
def Gx (l:List Tok):Prop:=l.map erT=l
theorem Gx.app {l m:List Tok}(h:Gx l)(k:Gx m):Gx (l++m):=by unfold Gx at *;rw [Di,h,k]
theorem cur_ok (h:Gx pre)(k:Gx post):Ok d (Cg pre post d):=⟨by
 unfold er Cg;simp only [Di,PS.mk.injEq,and_true];rw [h,k],rfl,by unfold Cg;simp,rfl⟩
theorem Ik (h:Gx pre)(k:Gx post):D4 (Cg pre post d)=0:=(cur_ok h k).off
abbrev tks (s:Ac):List Tok:=(Cy s).1.map erT
theorem begin_er (s:Ac)(n:Int):er (Ht (Cy s).1 n)=Cg [] (tks s) 0:=rfl
theorem aC {F:PS->Syn×PS}{sg:List (Ac×Int)}{s:PS}(h:sg.find? (fun x=>Ea x.1 (F s).2)=none):I5 F sg s=F s:=by
 unfold I5 B1 Ge;rw [h]
def NoOp (s:PS):Prop:=(Ea Aaf s=false/\Ea nR s=false/\Ea w_add s=false/\Ea Pc s=false)/\Ea w_lt s=false/\Ea w_le s=false/\Ea w_gt s=false/\Ea w_ge s=false/\Ea rC s=false/\Ea Aae s=false
section
variable {E N:PS->Syn×PS} {s:PS}
theorem unit_paren (h0:0<=d)(h1:d<64){inner:List Tok}:D0 E (Cg pre (Kz::inner) d)=((E (Cg (pre ++ [Kz]) inner (d+1))).1,shallow (Bb Gp (E (Cg (pre ++ [Kz]) inner (d+1))).2)):=by
 have e1:Ea Ds (Cg pre (Kz::inner) d)=true:=by rw [is_cur];rfl
 have e2:Gj (Cg pre (Kz::inner) d)=Cg pre (Kz::inner) d:=by
  unfold Gj;rw [if_neg (by simp only [Cb];exact (by omega:¬64<=d))]
 unfold D0;rw [if_pos e1,Qj,e2,if_neg (show ¬((Cg pre (Kz::inner) d).bad != 0)=true from (by decide:¬((0:Int) != 0)=true)),vO h0 h1,Ij]
theorem iP (h0:0<=d)(h1:d<64){inner pre':List Tok}{a:Syn}(h:E (Cg (pre ++ [Kz]) inner (d+1))=(a,Cg pre' (Kd::post) (d+1))):D0 E (Cg pre (Kz::inner) d)=(a,Cg (pre' ++ [Kd]) post d):=by
 rw [unit_paren h0 h1,h];show (a,shallow (Bb Gp (Cg pre' (Kd::post) (d+1))))=_;rw [Yr (by decide),Xy h0 h1]
end
theorem whole {F:PS->Syn×PS}(hF:Er F){s:Ac}{L:List Tok}(h:(Cy s).2.2=0/\(Cy s).1.map erT=L) :
  (∀t M,F (Cg [] L 0)=(t,Cg M [] 0)->(Dh F s).2.2=0/\Dy (Dh F s).1=t)/\((F (Cg [] L 0)).2.bad=12->(Dh F s).2.2=12):=by
 have e:=hF (Ht (Cy s).1 s.length);rw [begin_er,show tks s=L from h.2] at e;have ep:Dh F s=Ud (F (Ht (Cy s).1 s.length)):=by unfold Dh;rw [h.1];rfl
 rw [ep];generalize F (Ht (Cy s).1 s.length)=r at e;refine ⟨fun t M ht=>?_,fun h12=>?_⟩
 .
  rw [ht] at e;have e1:t=Dy r.1:=congrArg Prod.fst e;have e2:Cg M [] 0=er r.2:=congrArg Prod.snd e;have hb:r.2.bad=0:=(congrArg PS.bad e2).symm;have hp:r.2.pos=M.length:=(congrArg PS.pos e2).symm
  have hl:r.2.toks.length=M.length:=by
   have:=congrArg (fun s:PS=>s.toks.length) e2;simp only [len_er,Cg,A1] at this;exact this.symm
  unfold Ud;simp only;rw [show (if decide ((r.2.pos:Int)<(r.2.toks.length:Int)) then Gw 4 r.2 else r.2)=r.2 from if_neg (by rw [hp,hl];simp),if_neg (by rw [hb];decide)];exact ⟨rfl,e1.symm⟩
 have hb:r.2.bad=12:=by rw [e] at h12;exact h12
 have hne:r.2.bad≠0:=by rw [hb];decide
 unfold Ud;simp only;rw [show (if decide ((r.2.pos:Int)<(r.2.toks.length:Int)) then Gw 4 r.2 else r.2)=r.2 by split;exact pN hne;rfl,if_pos (by rw [hb];decide)];exact hb
theorem Vx {c:UInt8}{r:Ac}(h:E4 c=false)(h2:c≠61):Ph (c::r):=Ph.cons h h2
abbrev tw (w:Ac):Tok:=⟨0,w,0⟩
abbrev tsm:Tok:=⟨3,X2,0⟩
section
variable {E T:PS->Syn×PS} {pre post post':List Tok} {d:Int} {t:Tok}
theorem xR {read:Syn->PS->Syn×PS}{z:Syn}(h0:0<=d)(h1:d<64):M4 read z (Cg pre (t::post) d)=((read z (Cg (pre ++ [t]) post (d+1))).1,shallow (read z (Cg (pre ++ [t]) post (d+1))).2):=by
 have e2:Gj (Cg pre (t::post) d)=Cg pre (t::post) d:=by
  unfold Gj;rw [if_neg (by simp only [Cb];exact (by omega:¬64<=d))]
 rw [Qj,e2,if_neg (show ¬((Cg pre (t::post) d).bad != 0)=true from (by decide:¬((0:Int) != 0)=true)),vO h0 h1,Ij]
theorem pat_form {f:Ac×Int}(h0:0<=d)(h1:d<64)(he:Gx pre)(hq:Gx (t::post))(hf:formL.find? (fun f=>Ea f.1 (Cg pre (t::post) d))=some f) :
  Sv E T (Cg pre (t::post) d)=((mN E T f.2 ⟨f.2,[],[],0,[],0⟩ (Cg (pre ++ [t]) post (d+1))).1,shallow (mN E T f.2 ⟨f.2,[],[],0,[],0⟩ (Cg (pre ++ [t]) post (d+1))).2):=by
 unfold Sv;rw [hf];simp only;rw [Ik he hq];exact xR (read:=mN E T f.2) h0 h1
theorem patK_plus {z a:Syn}{M:List Tok}(h:T (Cg (pre ++ [Kz]) post d)=(a,Cg M (Kd::post') d)):mN E T 9 z (Cg pre (Kz::post) d)=({ z with kids:=[a] },Cg (M ++ [Kd]) post' d):=by
 unfold mN;rw [Yr (by decide),h];show (({ z with kids:=[a] }:Syn),Bb Gp (Cg M (Kd::post') d))=_;rw [Yr (by decide)]
theorem patK_where {z a:Syn}{M inner:List Tok}(h:T (Cg (pre ++ [Kz]) post d)=(a,Cg M (O0::inner) d)) :
  mN E T 12 z (Cg pre (Kz::post) d)=({ z with kids:=[a] ++ [(E (Cg (M ++ [O0]) inner d)).1] },Bb Gp (E (Cg (M ++ [O0]) inner d)).2):=by
 unfold mN;rw [Yr (by decide),h];show (({ z with kids:=[a] ++ [(E (Bb Cl (Cg M (O0::inner) d))).1] }:Syn),Bb Gp (E (Bb Cl (Cg M (O0::inner) d))).2)=_;rw [Yr (by decide)]
end
theorem progGo_no {w:Ac}{F:PS->Syn×PS}{n:Nat}{st:PS}{out:List Syn}(h:Ea w st=false):E2 w F n st out=(out,st):=by
 cases n with
 | zero=>rfl
 | succ n=>unfold E2;rw [h];rfl
theorem aD (n:Nat):(Lib.decDigits n).all A5=true/\0<(Lib.decDigits n).length:=by
  induction n using Nat.strongRecOn with
  | _ n ih=>
    have key:∀k,k<10->A5 (UInt8.ofNat (48+k))=true:=by
      intro k hk;have:=(show (List.range 10).all (fun k=>A5 (UInt8.ofNat (48+k)))=true by kernel_rfl);rw [F3] at this;exact this k (Lk.2 hk)
    by_cases h:n<10
    . rw [Lib.decDigits,dif_pos h]
      exact ⟨by rw [Kx,key n h];rfl,by simp⟩
    . rw [Lib.decDigits,dif_neg h]
      obtain ⟨h1,h2⟩:=ih (n / 10) (by omega);exact ⟨by rw [List.all_append,h1,Kx,key _ (Nat.mod_lt _ (by decide))];rfl,by simp⟩
theorem qM:∀(a b:Ac) (n:Int),(Jv a n).2=0->Jv (a++b) n=Jv b (Jv a n).1
  | [],b,n,_=>rfl
  | c::r,b,n,h=>by
    rw [Cp,Jv,Jv];rw [Jv] at h;split at h
    . cases h
    . rename_i h1
      rw [if_neg h1,if_neg h1];exact qM r b _ h
theorem vT {k:Nat}(hk:k<10):dvS (UInt8.ofNat (48+k))=(k:Int):=by
 have:=(show (List.range 10).all (fun k=>dvS (UInt8.ofNat (48+k))==(k:Int))=true by kernel_rfl);rw [F3] at this;simpa using this k (Lk.2 hk)
theorem numGo_dec (n:Nat)(h:n<=1099511627776):Jv (Lib.decDigits n) 0=((n:Int),0):=by
  induction n using Nat.strongRecOn with
  | _ n ih=>
    by_cases h1:n<10
    . rw [Lib.decDigits,dif_pos h1,Jv,vT h1,if_neg (by simp only [Cb];omega),Jv]
      simp
    . rw [Lib.decDigits,dif_neg h1]
      have h2:=ih (n / 10) (by omega) (by omega);rw [qM _ _ _ (by rw [h2]),h2,Jv,vT (Nat.mod_lt _ (by decide)),if_neg (by simp only [Cb];omega),Jv];have:10*((n / 10:Nat):Int)+((n % 10:Nat):Int)=(n:Int):=by omega
      rw [this]
theorem vE {s:Ac}(h:s.all A5=true):Bd A5 s=s.length:=by
 have:=nI A5 s;rw [h] at this;exact Ec this
theorem cW {n:Nat}(h:n<=1099511627776):Tu (Lib.decDigits n)=((n:Int),0):=by
 obtain ⟨h1,h2⟩:=aD n
 have e:(Lib.decDigits n == [])=false:=by
  cases hd:Lib.decDigits n with
  | nil=>rw [hd] at h2;cases h2
  | cons c r=>rfl
 unfold Tu;rw [e,vE h1,Ky,if_neg (by simp),numGo_dec n h]
theorem Pe.one {u rest:Ac}{k:Int}{x:Ac}(h0:0<u.length)(hs:Jw (u++rest)=0)(hn:By (u++rest)=Xf k x u.length):Pe u [⟨k,x,0⟩] rest:=by
 have h:=Sc.tok (s:=u++rest) (i:=0) (l:=[]) (j:=u.length) (by rw [Al];omega) hs (by show (By (u++rest)).err=0;rw [hn];rfl)
  (by show Sc _ (0+(By (u++rest)).bytes.toNat) [] u.length;rw [hn];show Sc _ (0+((u.length:Int)).toNat) [] _;rw [Ma,Eb];exact .nil _)
 have e:By ((u++rest).drop 0)=Xf k x u.length:=hn;rw [e] at h;exact ⟨_,h,rfl⟩
def nsep (c:UInt8):Bool:=decide (c≠35) && !decide (0<=Lib.indexByte [32,9,13,10] c)
theorem uC {c:UInt8}{r:Ac}(h:nsep c=true):Jw (c::r)=0:=by
 unfold nsep at h;simp only [Ce,Cb,A2] at h;rw [dG h.1,h.2];rfl
theorem xG (c:UInt8):(!C6 c||nsep c)=true:=N4 (p:=fun c=>!C6 c||nsep c) (by kernel_rfl) c
theorem aE (c:UInt8):(!A5 c||(nsep c && !C6 c))=true:=N4 (p:=fun c=>!A5 c||(nsep c && !C6 c)) (by kernel_rfl) c
theorem Ph.word {w:Ac}(h:Ph w):∀c r,w=c::r->E4 c=false:=fun c r e=>(h c r e).1
theorem Ph.digit {w:Ac}(h:Ph w):∀c r,w=c::r->A5 c=false:=fun c r e=>(jO (h c r e).1).2
theorem cQ {s:Ac}(h:Ru s=true):0<s.length/\s.length<=24/\C6 (bt s 0)=true/\Bd E4 s=s.length/\Ro s=false:=by
 unfold Ru at h;rw [name_eq] at h;unfold nameR at h;split at h
 . cases h
 rename_i h1;simp only [Hm,not_or,Bool.not_eq_true,Cb,A2,bne_iff_ne,ne_eq,Decidable.not_not] at h1;obtain ⟨⟨⟨⟨h1,h2⟩,h3⟩,h4⟩,h5⟩:=h1;refine ⟨?_,by omega,by simpa using h3,by omega,by rw [key_eq];exact h5⟩;cases s with
 | nil=>cases h1
 | cons c r=>simp
theorem Pe.name {s rest:Ac}(h:Ru s=true)(hr:Ph rest):Pe s [⟨0,s,0⟩] rest:=by
 obtain ⟨h0,h1,h2,h3,h4⟩:=cQ h;obtain ⟨c,r,rfl⟩:∃c r,s=c::r:=by cases s with | nil=>cases h0 | cons c r=>exact ⟨c,r,rfl⟩
 refine Pe.one h0 ?_ ?_
 .
  have:=xG c;rw [show C6 c=true from h2] at this;exact uC this
 have e:Bd E4 ((c::r)++rest)=(c::r).length:=by rw [Uu hr.word,h3]
 rw [Qk (u:=(c::r)++rest) h2 (by simp),e,if_neg (by simp only [Cb];omega),List.take_left'];rfl
theorem Pe.const {w rest:Ac}{t:Tok}(h:(Cy w).1.map erT = [t])(h2:(Cy w).2.2=0)(hn:35∉w)(hr:Ph rest):Pe w [t] rest:=by
 rw [<-h];exact .text h2 hn hr
def signOk (c:UInt8):Bool:=nsep c && !C6 c && !A5 c && !((c.toNat:Int)==34)&&(Lf c true==some [c])&&(Lf c false==some [c])
theorem Pe.sign {c:UInt8}(h:signOk c=true)(rest:Ac):Pe [c] [⟨3,[c],0⟩] rest:=by
 unfold signOk at h;simp only [Ce,A2,beq_iff_eq] at h;obtain ⟨⟨⟨⟨⟨h1,h2⟩,h3⟩,h4⟩,h5⟩,h6⟩:=h;refine Pe.one (by simp) (uC h1) ?_;show By (c::rest)=_;rw [Mm (u:=c::rest) h2 h3 (show (((c.toNat:Int)==34))=false from h4) (by simp),Is];cases Lib.hasPrefix rest [61]
 . rw [h6]
 rw [h5]
theorem Pe.lf (rest:Ac):Pe [10] [] rest:=⟨[],zO (c:=10) (r:=rest) rfl (by decide) (.nil _),rfl⟩
theorem Pe.dec {n:Nat}(h:n<=1099511627776){rest:Ac}(hr:Ph rest):Pe (Lib.decDigits n) [⟨1,Lib.decDigits n,0⟩] rest:=by
 obtain ⟨h1,h0⟩:=aD n;have h2:=cW h;generalize Lib.decDigits n=s at h0 h1 h2;have h3:=vE h1;obtain ⟨c,r,rfl⟩:∃c r,s=c::r:=by cases s with | nil=>cases h0 | cons c r=>exact ⟨c,r,rfl⟩
 have hd:A5 c=true:=by rw [Kx,Ce] at h1;exact h1.1
 have hs:=aE c;rw [hd] at hs;simp only [A6,Ky,Ce,A2] at hs;refine Pe.one h0 (uC hs.1) ?_;have e:Bd A5 ((c::r)++rest)=(c::r).length:=by rw [Uu hr.digit,h3]
 rw [Uo (u:=(c::r)++rest) hs.2 hd (by simp),e,List.take_left',h2,if_neg (by simp)]
 .
  rw [if_neg];rw [vI];simp only [Ce,not_and,Bool.not_eq_true,Cb];intro hl;cases rest with
  | nil=>simp at hl
  | cons a q=>exact (jO (hr a q rfl).1).1
 rfl
theorem Pe.quote {s:Ac}(h:s.length<=64)(rest:Ac):Pe ([34]++Bw s ++ [34]) [⟨2,s,0⟩] rest:=by
 have e:([34]++Bw s ++ [34]:Ac)++rest=34::(Bw s++34::rest):=by simp
 refine Pe.one (by simp) ?_ ?_
 . rw [e];exact uC (by kernel_rfl)
 rw [e,mB s rest h];have:((([34]++Bw s ++ [34]:Ac).length:Nat):Int)=((Bw s).length:Int)+2:=by simp;omega
 rw [this]
abbrev tg (w:Ac):Tok:=⟨3,w,0⟩
def fI (n:Int):List Tok:=if n<0 then [tg Pc,⟨1,Lib.decDigits n.natAbs,0⟩] else [⟨1,Lib.decDigits n.toNat,0⟩]
def tG (t:Syn):List Tok:=
 if (t.name==Ig) then fI t.num
 else if (t.name==Gg) then if (t.num==1) then [tw L4] else [tw Jx]
 else [⟨2,t.text,0⟩]
def Hb (p k:Syn)(l:List Tok):List Tok:=if Ed p.kind k.kind then [Kz]++l ++ [Kd] else l
def Il:List (List Tok)->List Tok
 | []=>[]
 | [x]=>x
 | x::y::r=>x ++ [O0]++Il (y::r)
def E9 (n:Int):Tok:=if (n==10)||(n==11) then tw (Tc n) else tg (Tc n)
def E3 (t:Syn)(ws:List (List Tok)):List Tok:=
 if (t.kind==0) then ws.flatten
 else if (t.kind==1) then [tw B6] ++ [] ++ [tw t.text] ++ [tg Em]++Il ws ++ [tg En]
 else if (t.kind==2) then [tw t.text] ++ [tg G9] ++ [tw (Kp t.num)]
 else if (t.kind==3) then [tw B5] ++ [] ++ [tw t.text]++(if (Aq t 0).text == [] then [] else [tw O2] ++ [tw (Aq t 0).text]) ++ [] ++ [tw Dx] ++ []++ws.getD 1 [] ++ [] ++ [tw Dc] ++ []++Il (ws.drop 2) ++ [tg X2]
 else if (t.kind==5) then [tw t.text] ++ [] ++ [tw t.name]++(if ws == [] then [] else [tw Lv]++ws.getD 0 [])
 else if (t.kind==13) then tG t
 else if (t.kind==14) then [tw t.text] ++ [tg Hx] ++ [tw t.name]
 else if (t.kind==15) then [tw Hj] ++ [Kz] ++ [tw t.text] ++ [Kd]
 else if (t.kind==16) then [tw (Og t.num)] ++ [Kz] ++ [tw t.text] ++ [tg Hx] ++ [tw t.name]++(if ws == [] then [] else [O0]++ws.getD 0 []) ++ [Kd]
 else if (t.kind==17) then Hb t (Aq t 0) (ws.getD 0 []) ++ [] ++ [E9 t.num] ++ []++Hb t (Aq t 1) (ws.getD 1 [])
 else if (t.kind==18) then [tw Gq] ++ []++Hb t (Aq t 0) (ws.getD 0 [])
 else [tw (Hf t.kind)] ++ [Kz]++Il ws++(if (t.kind==11) then [O0]++fI t.num else []) ++ [Kd]
mutual
def Ae:Syn->List Tok
 | ⟨k,x,n,m,kids,p⟩=>E3 ⟨k,x,n,m,kids,p⟩ (zW kids)
def zW:List Syn->List (List Tok)
 | []=>[]
 | x::r=>Ae x::zW r
end
theorem qY:∀l:List Syn,zW l=l.map Ae
 | []=>by rw [zW,A0]
 | x::r=>by rw [zW,qY r,Ao]
theorem C3 (t:Syn):Ae t=E3 t (t.kids.map Ae):=by cases t;rw [Ae,qY]
section
variable (f:Ac->Ac) (c:Int->Int)
def zX (k:Int)(x:Ac):Ac:=if ((k==14)||(k==15))||(k==16) then f x else x
def zN (k:Int)(n:Ac):Ac:=if (k==5) then f n else n
mutual
def zT:Syn->Syn
 | ⟨k,x,n,m,kids,p⟩=>⟨k,zX f k x,zN f k n,m,zL kids,c p⟩
def zL:List Syn->List Syn
 | []=>[]
 | x::r=>zT x::zL r
end
theorem zL_map:∀l:List Syn,zL f c l=l.map (zT f c)
 | []=>by rw [zL,A0]
 | x::r=>by rw [zL,zL_map r,Ao]
theorem oA (t:Syn):zT f c t=⟨t.kind,zX f t.kind t.text,zN f t.kind t.name,t.num,t.kids.map (zT f c),c t.pos⟩:=by cases t;rw [zT,zL_map]
def zV (v:Va):Va:=⟨f v.name,v.type⟩
end
section
variable {f:Ac->Ac} {c:Int->Int}
theorem bF (t:Syn):(zT f c t).kind=t.kind:=by rw [oA]
theorem z_num (t:Syn):(zT f c t).num=t.num:=by rw [oA]
theorem z_pos (t:Syn):(zT f c t).pos=c t.pos:=by rw [oA]
theorem X5 (t:Syn):(zT f c t).kids=t.kids.map (zT f c):=by rw [oA]
theorem Sk (t:Syn):(zT f c t).text=zX f t.kind t.text:=by rw [oA]
theorem gF (t:Syn):(zT f c t).name=zN f t.kind t.name:=by rw [oA]
theorem X4 (t:Syn){j:Nat}(h:j<t.kids.length):Aq (zT f c t) j=zT f c (Aq t j):=by
 unfold Aq;rw [X5,Dm,Dm,List.getElem?_map,List.getElem?_eq_getElem h];rfl
theorem zX_o {k:Int}{x:Ac}(h:¬(k=14\/k=15\/k=16)):zX f k x=x:=by
 unfold zX;rw [if_neg (by simp;omega)]
theorem zX_z {k:Int}{x:Ac}(h:k=14\/k=15\/k=16):zX f k x=f x:=by
 unfold zX;rw [if_pos (by rcases h with rfl | rfl | rfl <;> rfl)]
theorem zN_o {k:Int}{x:Ac}(h:k≠5):zN f k x=x:=by
 unfold zN;rw [if_neg (by simpa using h)]
theorem zN_z {x:Ac}:zN f 5 x=f x:=rfl
theorem Aaj (V:List Va):H5 (V.map (zV f))=(H5 V).map f:=by
 show (V.map (zV f)).map (·.name)=(V.map (·.name)).map f;rw [Hd,Hd];rfl
theorem zV_sc (T:List e8Sc)(V:List Va)(v:Int):Qt T (V.map (zV f)) v=Qt T V v:=by
 unfold Qt;rw [List.getElem?_map];cases V[v.toNat]? with
 | none=>rfl
 | some a=>rfl
section
variable (hf:∀a b,f a=f b->a=b)
include hf
theorem z1_beq (a b:Ac):(f a==f b)=(a==b):=by
  cases h:a==b with
  | true=>rw [eq_of_beq h];simp
  | false=>
    rw [Hz] at h ⊢;exact fun e=>h (hf _ _ e)
theorem X3 (l:List Ac)(n:Ac):(l.map f).contains (f n)=l.contains n:=by
 induction l with
 | nil=>rfl
 | cons a r ih=>rw [Ao,gI,gI,ih,z1_beq hf]
theorem z1_idx (l:List Ac)(n:Ac):(l.map f).idxOf (f n)=l.idxOf n:=by
 induction l with
 | nil=>rfl
 | cons a r ih=>rw [Ao,List.idxOf_cons,List.idxOf_cons,ih,z1_beq hf]
theorem uN (l:List Ac)(n:Ac):Js (l.map f) (f n)=Js l n:=by
 unfold Js;rw [X3 hf,z1_idx hf]
end
theorem z_ev:∀t:Syn,Ag t .pats=0->Lb (zT f c t)=(Lb t).map (zT f c):=by
  intro t
  induction t using Syn.ind with
  | h t ih=>
    intro hc;have hm:∀a∈Cn t,Lb (zT f c a)=(Lb a).map (zT f c):=fun a ha=>ih a (Kr ha) (M8 hc ha)
    have hp:Cn (zT f c t)=(Cn t).map (zT f c):=by
      unfold Cn;rw [bF,X5];split
      . rfl
      . split
        . rw [List.map_take]
        rfl
    have hf:∀l:List Syn,(∀a∈l,Lb (zT f c a)=(Lb a).map (zT f c))->(l.map (zT f c)).flatMap Lb=(l.flatMap Lb).map (zT f c):=by
      intro l
      induction l with
      | nil=>intro _;rfl
      | cons x r ih2=>
        intro hl;rw [Ao,J9,J9,Di,hl x (by simp),ih2 fun a ha=>hl a (by simp [ha])]
    rw [wA,wA t,hp,hf _ hm,Di,bF]
    congr 1
    split
    . rfl
    . split
      . rename_i h10
        rw [X4 t (by have:=M7 hc (.inl (by simpa using h10));omega)];rfl
      rfl
theorem ev_five:∀t:Syn,Ag t .pats=0->∀e∈Lb t,e.kind=5:=by
  intro t
  induction t using Syn.ind with
  | h t ih=>
    intro hc e he;rw [wA] at he;rcases G2.1 he with he | he
    . split at he
      . rename_i h5;rw [D5.1 he];simpa using h5
      . split at he
        . rename_i h10
          rw [D5.1 he];exact Dz (Bz (Bx (pat_ev hc (by simpa using h10))).1).1
        cases he
    . obtain ⟨a,ha,h⟩:=List.mem_flatMap.1 he
      exact ih a (Kr ha) (M8 hc ha) e h
section
variable {T:List e8Sc} {V:List Va} (hf:∀a b,f a=f b->a=b)
theorem z_decV {t:Syn}(h:t.kind=5):K9 T (zT f c t)=zV f (K9 T t):=by
 unfold K9;rw [Sk,zX_o (by omega),gF,h,zN_z];rfl
theorem z_val {t:Syn}(h:t.kind=13):Wr (zT f c t)=Wr t:=by
 unfold Wr;rw [Sk,zX_o (by omega),gF,zN_o (by omega),z_num]
theorem kU {t:Syn}(h:Ag t .exps=0):t.kind=13\/t.kind=14\/t.kind=15\/t.kind=16\/t.kind=17\/t.kind=18:=by
 have:=L6 (Bz (Bx h).1).1;omega
theorem leaf_args {t:Syn}{xs ys:List Ex}(h:¬(t.kind=17\/t.kind=18))(hc:Ag t .exps=0):Ml T V t xs=Ml T V t ys:=by
 unfold Ml;rcases kU hc with hk | hk | hk | hk | hk | hk
 .
  have h1:(t.kind==13)=true:=by rw [hk];rfl
  rw [if_pos h1,if_pos h1]
 .
  have h1:(t.kind==13)=false:=by rw [hk];rfl
  have h2:(t.kind==14)=true:=by rw [hk];rfl
  rw [Bu h1,Bu h1,if_pos h2,if_pos h2]
 .
  have h1:(t.kind==13)=false:=by rw [hk];rfl
  have h2:(t.kind==14)=false:=by rw [hk];rfl
  have h3:(t.kind==15)=true:=by rw [hk];rfl
  rw [Bu h1,Bu h1,Bu h2,Bu h2,if_pos h3,if_pos h3]
 .
  have h1:(t.kind==13)=false:=by rw [hk];rfl
  have h2:(t.kind==14)=false:=by rw [hk];rfl
  have h3:(t.kind==15)=false:=by rw [hk];rfl
  have h4:(t.kind==16)=true:=by rw [hk];rfl
  rw [Bu h1,Bu h1,Bu h2,Bu h2,Bu h3,Bu h3,if_pos h4,if_pos h4]
 . exact absurd (.inl hk) h
 exact absurd (.inr hk) h
theorem z_pk (t:Syn):Cn (zT f c t)=(Cn t).map (zT f c):=by
 unfold Cn;rw [bF,X5];split
 . rfl
 split
 . rw [List.map_take]
 rfl
theorem z_keyG (n:Ac):∀(l:List Va) (out:List Int),Tr T n (l.map (zV f)) out=Tr T n l out
 | [],out=>rfl
 | v::r,out=>by rw [Ao,Tr,Tr];simp only [zV];rw [z_keyG n r];rfl
include hf
theorem z_decE {t:Syn}(h:t.kind=5):Lo T (V.map (zV f)) (zT f c t)=Lo T V t:=by
 unfold Lo;rw [Bg,Sk,zX_o (by omega),gF,h,zN_z,Aaj,X3 hf]
theorem z_decS:∀(l:List Syn) (V:List Va),(∀e∈l,e.kind=5)->(K8 T (V.map (zV f)) (l.map (zT f c))).1=(K8 T V l).1.map (zV f)/\(K8 T (V.map (zV f)) (l.map (zT f c))).2.err=(K8 T V l).2.err
  | [],V,_=>⟨rfl,rfl⟩
  | t::r,V,h=>by
    have ht:=h t (by simp);rw [Ao,J1,J1,z_decE hf ht,z_decV ht];cases hq:Lo T V t != 0 with
    | true=>rw [if_pos rfl,if_pos rfl];exact ⟨rfl,rfl⟩
    | false=>
      rw [Bu rfl,Bu rfl];have:=z_decS r (V ++ [K9 T t]) fun e he=>h e (by simp [he])
      rw [Di,X6] at this;exact this
theorem z_look (t:Syn):(Jk T (V.map (zV f)) (zT f c t)).err=(Jk T V t).err:=by
 unfold Jk;rw [bF];by_cases hk:t.kind=14\/t.kind=15\/t.kind=16
 .
  rw [Sk,zX_z hk,gF,zN_o (by omega),Aaj,X3 hf,uN hf,zV_sc,z_pos];split
  . rfl
  split
  . rfl
  split
  . rfl
  split <;> rfl
 have h0:(((t.kind != 14)&&(t.kind != 15))&&(t.kind != 16))=true:=by simp;omega
 rw [if_pos h0,if_pos h0]
omit hf in
theorem z_each {g h:Syn->Fa}:∀l:List Syn,(∀a∈l,(g (zT f c a)).err=(h a).err)->(Ia g (l.map (zT f c))).err=(Ia h l).err
  | [],_=>rfl
  | x::r,hx=>by
    rw [Ao,Ia,Ia,hx x (by simp)];split
    . exact hx x (by simp)
    exact z_each r fun a ha=>hx a (by simp [ha])
theorem z_walk:∀t:Syn,(Fr T (V.map (zV f)) (zT f c t)).err=(Fr T V t).err:=by
  intro t
  induction t using Syn.ind with
  | h t ih=>
    rw [Uy,Uy,z_look hf,X5];split
    . exact z_look hf t
    exact z_each t.kids ih
theorem z_leaf {t:Syn}{xs:List Ex}(h:Ag t .exps=0):Ml T (V.map (zV f)) (zT f c t) xs=Ml T V t xs:=by
  unfold Ml;rw [bF,X5,Bg,z_num];rcases kU h with hk | hk | hk | hk | hk | hk
  . have h1:(t.kind==13)=true:=by rw [hk];rfl
    rw [if_pos h1,if_pos h1,z_val hk]
  . have h1:(t.kind==13)=false:=by rw [hk];rfl
    have h2:(t.kind==14)=true:=by rw [hk];rfl
    rw [Bu h1,Bu h1,if_pos h2,if_pos h2,Sk,zX_z (.inl hk),gF,zN_o (by omega),Aaj,uN hf,zV_sc]
  . have h1:(t.kind==13)=false:=by rw [hk];rfl
    have h2:(t.kind==14)=false:=by rw [hk];rfl
    have h3:(t.kind==15)=true:=by rw [hk];rfl
    rw [Bu h1,Bu h1,Bu h2,Bu h2,if_pos h3,if_pos h3,Sk,zX_z (.inr (.inl hk)),Aaj,uN hf]
  . have h1:(t.kind==13)=false:=by rw [hk];rfl
    have h2:(t.kind==14)=false:=by rw [hk];rfl
    have h3:(t.kind==15)=false:=by rw [hk];rfl
    have h4:(t.kind==16)=true:=by rw [hk];rfl
    rw [Bu h1,Bu h1,Bu h2,Bu h2,Bu h3,Bu h3,if_pos h4,if_pos h4,Sk,zX_z (.inr (.inr hk)),gF,zN_o (by omega),Aaj,uN hf,zV_sc];cases h5:decide ((0:Int)<(t.kids.length:Int)) with
    | false=>rfl
    | true=>
      have h6:0<t.kids.length:=by have:=Ec h5;omega
      have h7:=(Dl h (Hc h6)).2;have h8:Cr t 0 = .only 13:=by unfold Cr;rw [hk];rfl
      rw [h8] at h7;rw [X4 t h6,z_val (Dz h7)]
  . have h1:(t.kind==13)=false:=by rw [hk];rfl
    have h2:(t.kind==14)=false:=by rw [hk];rfl
    have h3:(t.kind==15)=false:=by rw [hk];rfl
    have h4:(t.kind==16)=false:=by rw [hk];rfl
    rw [Bu h1,Bu h1,Bu h2,Bu h2,Bu h3,Bu h3,Bu h4,Bu h4]
  . have h1:(t.kind==13)=false:=by rw [hk];rfl
    have h2:(t.kind==14)=false:=by rw [hk];rfl
    have h3:(t.kind==15)=false:=by rw [hk];rfl
    have h4:(t.kind==16)=false:=by rw [hk];rfl
    rw [Bu h1,Bu h1,Bu h2,Bu h2,Bu h3,Bu h3,Bu h4,Bu h4]
theorem uO:∀t:Syn,Ag t .exps=0->Dv T (V.map (zV f)) (zT f c t)=Dv T V t:=by
  intro t
  induction t using Syn.ind with
  | h t ih=>
    intro hc;rw [Hg,Hg T V,z_leaf hf hc,X5];by_cases hk:t.kind=17\/t.kind=18
    . congr 1
      rw [Hd];refine Kw fun a ha=>?_
      obtain ⟨j,hj⟩:=Fh.1 ha;exact ih a ha (iY hc hk hj)
    exact leaf_args hk hc
theorem z_cond {t:Syn}{p:Pl}(hc:Ag t p=0)(h5:t.kind=5):Iv T (V.map (zV f)) (zT f c t)=Iv T V t:=by
  unfold Iv;rw [X5,Bg];cases h:decide ((0:Int)<(t.kids.length:Int)) with
  | false=>rfl
  | true=>
    have h6:0<t.kids.length:=by have:=Ec h;omega
    rw [if_pos rfl,if_pos rfl,X4 t h6];exact uO hf _ (evt_kid hc h5 (Hc h6))
theorem z_ptn {t:Syn}{s:Nx}{xs:List Pt}(hc:Ag t .pats=0):Pu T (V.map (zV f)) (zT f c t) s xs=Pu T V t s xs:=by
 unfold Pu;rw [bF,z_num];by_cases h5:t.kind=5
 .
  have h1:(t.kind==5)=true:=by simpa using h5
  rw [if_pos h1,if_pos h1,Sk,zX_o (by omega),z_cond hf hc h5]
 have h1:(t.kind==5)=false:=by simpa using h5
 rw [Bu h1,Bu h1];by_cases h10:t.kind=10
 .
  have h2:(t.kind==10)=true:=by simpa using h10
  have he:=pat_ev hc h10;have hk:=Dz (Bz (Bx he).1).1;have h9:=M7 hc (.inl h10);rw [if_pos h2,if_pos h2,X4 t (by omega),Sk,zX_o (by omega),z_cond hf he hk]
 have h2:(t.kind==10)=false:=by simpa using h10
 rw [Bu h2,Bu h2];by_cases h11:t.kind=11
 .
  have h3:(t.kind==11)=true:=by simpa using h11
  rw [if_pos h3,if_pos h3]
 have h3:(t.kind==11)=false:=by simpa using h11
 rw [Bu h3,Bu h3];by_cases h12:t.kind=12
 .
  have h4:(t.kind==12)=true:=by simpa using h12
  have h9:=M7 hc (.inr h12);rw [if_pos h4,if_pos h4,X4 t (by omega),uO hf _ (pat_cond hc h12)]
 have h4:(t.kind==12)=false:=by simpa using h12
 rw [Bu h4,Bu h4]
theorem z_ptt:∀t:Syn,Ag t .pats=0->∀s:Nx,Iy T (V.map (zV f)) (zT f c t) s=Iy T V t s:=by
  intro t
  induction t using Syn.ind with
  | h t ih=>
    intro hc s
    have key:∀l:List Syn,(∀a∈l,a∈Cn t)->∀s:Nx,E0 T (V.map (zV f)) (l.map (zT f c)) s=E0 T V l s:=by
      intro l
      induction l with
      | nil=>intro _ s;rw [A0,E0,E0]
      | cons x r ih2=>
        intro hl s;have hx:=hl x (by simp);rw [Ao,E0,E0,ih x (Kr hx) (M8 hc hx) s,ih2 (fun a ha=>hl a (by simp [ha]))]
    rw [jL,jL T V,z_pk,show Uq (zT f c t) s=Uq t s by unfold Uq;rw [bF],key (Cn t) (fun a ha=>ha),z_ptn hf hc]
end
end
section
variable {T:List e8Sc} {t:Syn}
theorem QryOK.key4 (h:QryOK t):(Aq t 0).kind=4:=by
 have hk:=(Dl h.c (Hc (k:=0) (by have:=h.len;omega))).2;unfold Cr at hk;rw [h.kind] at hk;exact Dz hk
theorem QryOK.rets (h:QryOK t):∀a∈t.kids.drop 2,Ag a .exps=0:=fun a ha=>by
 obtain ⟨j,hj⟩:=Fh.1 ha;rw [List.getElem?_drop] at hj;have hk:=(Dl h.c hj).1;unfold Cr at hk;rw [h.kind] at hk;rw [if_neg (by decide),if_neg (by decide),if_pos (by decide),if_neg (by simp;omega),if_neg (by simp;omega)] at hk;exact hk
variable {f:Ac->Ac} {c:Int->Int} (hf:∀a b,f a=f b->a=b)
theorem z_ky (ht:QryOK t)(V:List Va):qG T (zT f c t) (V.map (zV f))=qG T t V:=by
 have h0:(Aq (zT f c t) 0).text=(Aq t 0).text:=by rw [X4 t (by have:=ht.len;omega),Sk,ht.key4,zX_o (by omega)]
 unfold qG Pf;rw [h0,z_keyG]
include hf
theorem z_dec (ht:QryOK t):(K8 T [] (Lb (Aq (zT f c t) 1))).1=(H8 T t).map (zV f)/\(K8 T [] (Lb (Aq (zT f c t) 1))).2.err=(vfR T t).err:=by
 rw [X4 t (by have:=ht.len;omega),z_ev _ ht.pat];exact z_decS hf (Lb (Aq t 1)) [] (ev_five _ ht.pat)
theorem z_vr (ht:QryOK t):H8 T (zT f c t)=(H8 T t).map (zV f):=(z_dec hf ht).1
theorem z_vf (ht:QryOK t):(vfR T (zT f c t)).err=(vfR T t).err:=(z_dec hf ht).2
theorem z_rt {V:List Va}{x:Syn}(hc:Ag x .exps=0):(rtF T (V.map (zV f)) (zT f c x)).err=(rtF T V x).err:=by
 unfold rtF;rw [uO hf _ hc];split <;> rfl
def rnQ (f:Ac->Ac)(q:Qy):Qy:=⟨q.name,q.vars.map (zV f),q.key,q.pattern,q.returns⟩
omit hf in
theorem Aal {b b':Bool}{g g':Fa}{x x':Qy×Fa}(hb:b'=b)(hg:g'.err=g.err)(hx:b=false->x'.2.err=x.2.err/\x'.1=rnQ f x.1):(if b' then (qR,g') else x').2.err=(if b then (qR,g) else x).2.err/\(if b' then (qR,g') else x').1=rnQ f (if b then (qR,g) else x).1:=by
 subst hb;cases b' with
 | true=>exact ⟨hg,rfl⟩
 | false=>exact hx rfl
theorem z_query (ht:QryOK t):(Co T (zT f c t)).2.err=(Co T t).2.err/\(Co T (zT f c t)).1=rnQ f (Co T t).1:=by
 have e1:=z_vr (T:=T) (c:=c) hf ht;have hl:=ht.len;have hpt:uR T (zT f c t) ((H8 T t).map (zV f))=uR T t (H8 T t):=by unfold uR;rw [X4 t (by omega),z_ptt hf _ ht.pat]
 have hdr:(zT f c t).kids.drop 2=(t.kids.drop 2).map (zT f c):=by rw [X5,List.map_drop]
 have hea:(Ia (rtF T ((H8 T t).map (zV f))) ((zT f c t).kids.drop 2)).err=(Ia (rtF T (H8 T t)) (t.kids.drop 2)).err:=by
  rw [hdr];exact z_each _ fun a ha=>z_rt hf (ht.rets a ha)
 unfold Co;refine Aal (by rw [z_vf hf ht]) (z_vf hf ht) fun _=>?_
 rw [e1];unfold QR1;refine Aal (by rw [z_ky ht]) rfl fun _=>?_
 unfold QR2;refine Aal (by rw [z_walk hf]) (z_walk hf t) fun _=>?_
 unfold QR3;refine Aal (by rw [hpt]) (by rw [hpt]) fun _=>?_
 unfold QR4;refine Aal (by rw [hea]) hea fun _=>⟨rfl,?_⟩
 unfold mY rnQ;simp only;rw [hpt,z_ky ht,hdr,Hd,Sk,ht.kind,zX_o (by omega)];rw [show List.map (Dv T ((H8 T t).map (zV f)) ∘ zT f c) (t.kids.drop 2)=(t.kids.drop 2).map (Dv T (H8 T t)) from Kw fun a ha=>uO hf a (ht.rets a ha)]
end
section
variable {T:List e8Sc} {t:Syn}
end
section
variable {T:List e8Sc} {V:List Va} {t:Syn}
end
theorem Vb {f:Syn->Fa}:∀{l:List Syn},(∀a∈l,(f a).err=0)->Ia f l=Np
 | [],_=>rfl
 | x::r,h=>by rw [Ia,if_neg (by rw [h x (by simp)];decide)];exact Vb fun a ha=>h a (by simp [ha])
theorem idx_nodup {l:List Ac}(hn:l.Nodup):∀{i:Nat} {x:Ac},l[i]? = some x->l.contains x=true/\l.idxOf x=i:=by
  induction l with
  | nil=>intro i x h;simp at h
  | cons a r ih=>
    intro i x h;rw [Mb] at hn;cases i with
    | zero=>simp at h;subst h;simp
    | succ i=>
      rw [List.getElem?_cons_succ] at h;have hx:=Ak h;have hne:a≠x:=fun e=>hn.1 (e▸hx)
      obtain ⟨h1,h2⟩:=ih hn.2 h;refine ⟨by rw [gI,h1,T4],?_⟩;rw [List.idxOf_cons,h2];have:(a==x)=false:=by rw [Hz];exact hne
      rw [this];rfl
theorem fA {l:List Ac}(hn:l.Nodup){i:Nat}{x:Ac}(h:l[i]? = some x):Js l x=(i:Int)/\Tx l x=(i:Int)/\l.contains x=true:=by
 obtain ⟨h1,h2⟩:=idx_nodup hn h;unfold Js Tx;rw [if_pos h1,if_pos h1,h2];exact ⟨rfl,rfl,h1⟩
theorem qL {e:Ex}(h:Jd e=0):Mj e=0/\((e.op=0\/e.op=4)->H6 e.val=0)/\(e.op=4->1<=e.kind/\e.kind<=5/\(e.kind=1->e.val=v0)):=by
 unfold Jd at h;split at h
 . cases h
 split at h
 . cases h
 split at h
 . cases h
 split at h
 . cases h
 rename_i h1 h2 h3 h4;by_cases hq:(e.op==4||e.op==0)=true
 .
  rw [if_pos hq] at h;by_cases hc:(U8 e != 0)=true
  . rw [if_pos hc] at h;rw [h] at hc;cases hc
  rw [if_neg hc] at h;have hc0:U8 e=0:=by simpa using hc
  unfold U8 at hc0;split at hc0
  . rename_i h5;rw [hc0] at h5;cases h5
  rename_i h5;have hv:H6 e.val=0:=by simpa using h5
  refine ⟨h,fun _=>hv,fun ho=>?_⟩;have e4:(e.op==4)=true:=by rw [ho];rfl
  rw [e4,Gu] at h4;simp only [Hm,Cb,not_or] at h4;refine ⟨by omega,by omega,fun hk=>?_⟩;split at hc0
  . cases hc0
  rename_i h6;rw [e4,Gu,hk] at h6;simp only [Hm,not_or,Ce,not_and] at h6;have:=h6.2 rfl;exact (wU _).1 (by simpa using this)
 rw [if_neg hq] at h;simp only [Hm,not_or] at hq;exact ⟨h,fun ho=>by rcases ho with ho | ho <;> rw [ho] at hq <;> simp at hq,fun ho=>by rw [ho] at hq;simp at hq⟩
theorem form_use {e:Ex}(h:Mj e=0):(¬(e.op=1\/e.op=4\/e.op=2\/e.op=3)->e.var=0)/\(¬(e.op=1\/e.op=4)->e.field=0)/\(e.op≠4->e.kind=0)/\(e.op≠4->e.op≠0->e.val=v0):=by
 unfold Mj at h;split at h
 . cases h
 rename_i h1;simp only [Hm,not_or,Ce,not_and,A2,bne_iff_ne,ne_eq,Decidable.not_not] at h1;obtain ⟨⟨⟨h2,h3⟩,h4⟩,h5⟩:=h1;refine ⟨fun hn=>h2 ?_,fun hn=>h3 ?_,fun hn=>h4 (by simpa using hn),fun hn hm=>?_⟩
 . unfold Lg;rw [if_neg (by omega),if_neg (by omega)]
 .
  unfold Lg;rw [if_neg (by omega)];split <;> rfl
 have:=h5 (by simp [hn,hm]);exact (wU _).1 (by simpa using this)
theorem gR {e e':Ex}(h1:e.op=e'.op)(h2:e.args=e'.args)(h3:e.var=e'.var)(h4:e.field=e'.field)(h5:e.kind=e'.kind)(h6:e.val=e'.val):e=e':=by
 cases e;cases e';simp_all
theorem Y7 {e:Ex}(h:Jd e=0)(ho:e.op<=4):e.args = []:=by
 obtain ⟨h1,h2,h3⟩:=Vo h;have:U3 e.op=0:=by unfold U3;rw [if_neg (by omega),if_pos (by omega)]
 rw [this] at h3;exact bG (by omega)
theorem Aab {v:Vl}(h:H6 v=0):Wr (iJ v)=v:=by
 unfold H6 at h;unfold Wr iJ knm;simp only;by_cases h0:v.kind=0
 .
  rw [h0] at h ⊢;rw [if_pos (by rfl)] at h;split at h
  . cases h
  rename_i h1;have:v.text = []:=by simpa using h1
  rw [if_neg (by decide),if_neg (by decide)];cases v;simp only at h0 this;subst h0;subst this;rfl
 by_cases h1:v.kind=1
 .
  rw [h1] at h ⊢;rw [if_pos (by rfl)] at h;split at h
  . cases h
  rename_i h2;have:v.text = []:=by simpa using h2
  rw [if_pos (by decide)];cases v;simp only at h1 this;subst h1;subst this;rfl
 by_cases h2:v.kind=2
 .
  rw [h2] at h ⊢;rw [if_neg (by decide),if_pos (by rfl)] at h;split at h
  . cases h
  rename_i h3;have:v.num=0:=by simpa using h3
  rw [if_neg (by decide),if_pos (by decide)];cases v;simp only at h2 this;subst h2;subst this;rfl
 rw [if_neg (by simp;omega),if_neg (by simp;omega)] at h;cases h
structure VrOK (T:List e8Sc) (V:List Va):Prop where
 rv:RvOK T V
 vn:(H5 V).Nodup
 fn:∀s∈T,(s.fields.map (·.name)).Nodup
theorem nm_time:Ru Ej=false:=by kernel_rfl
section
variable {T:List e8Sc} {V:List Va}
theorem va_at {v:Int}(h0:0<=v)(h1:v<(V.length:Int)):∃va,V[v.toNat]? = some va/\va∈V/\gB V v=va.name:=by
 obtain ⟨va,h⟩:=sQ h0 h1;exact ⟨va,h,Ak h,by unfold gB;rw [h];rfl⟩
theorem Ou (hv:VrOK T V){v:Int}(h0:0<=v)(h1:v<(V.length:Int)):Js (H5 V) (gB V v)=v/\(H5 V).contains (gB V v)=true:=by
 obtain ⟨va,h,_,hn⟩:=va_at h0 h1;have hx:(H5 V)[v.toNat]? = some (gB V v):=by rw [List.getElem?_map,h,hn];rfl
 obtain ⟨h2,_,h3⟩:=fA hv.vn hx;exact ⟨by rw [h2];omega,h3⟩
theorem cG (hv:VrOK T V){v f:Int}(h0:0<=v)(h1:v<(V.length:Int))(h2:0<=f)(h3:f<((Qt T V v).fields.length:Int)):Ei (Qt T V v) (pY T V v f)=f:=by
 obtain ⟨va,h,hm,_⟩:=va_at h0 h1;obtain ⟨sc,hsc⟩:=fX hv.rv hm;have hs:Qt T V v=sc:=tY h hsc;unfold pY;rw [hs] at h3 ⊢;obtain ⟨fi,hf⟩:=sQ h2 h3;have hx:(sc.fields.map (·.name))[f.toNat]? = some fi.name:=by rw [List.getElem?_map,hf];rfl
 have:=(fA (hv.fn sc (Ak hsc)) hx).2.1;unfold Ei;rw [hf];show Tx (sc.fields.map (·.name)) fi.name=f;rw [this];omega
theorem Y3 {e:Ex}(h:iL T V e=true)(hn:Jd e=0):((e.op=1\/e.op=2\/e.op=3\/e.op=4)->e.var<(V.length:Int))/\((e.op=1\/e.op=4)->e.field<((Qt T V e.var).fields.length:Int)):=by
 unfold iL at h;by_cases hc:1<=e.op/\e.op<=4
 .
  rw [if_pos (by simp;exact hc)] at h;split at h
  . cases h
  rename_i h1;simp only [Cb] at h1;refine ⟨fun _=>by omega,fun ho=>?_⟩;have e1:((e.op==1)||(e.op==4))=true:=by rcases ho with ho | ho <;> rw [ho] <;> rfl
  rw [e1,Gu] at h;simp at h;exact h
 exact ⟨fun ho=>by omega,fun ho=>by omega⟩
theorem sJ (hv:VrOK T V):∀e:Ex,Ip e=0->Tt T V e=true->aP T V e=true->Dv T V (Pa T V e)=e:=by
  intro e
  induction e using Ex.ind with
  | h e ih=>
    intro hn hk hm;obtain ⟨hn0,hna⟩:=Ir hn;obtain ⟨f1,f2,f3⟩:=qL hn0;obtain ⟨u1,u2,u3,u4⟩:=form_use f1;obtain ⟨o1,o2,o3⟩:=Vo hn0;have hp:=Xn hn;rw [N9,Ce] at hk;rw [Tb,Ce] at hm;obtain ⟨k1,k2⟩:=Y3 hk.1 hn0;have hka:=F3.1 hk.2;have hma:=F3.1 hm.2;have hc:e.op=0\/e.op=1\/e.op=2\/e.op=3\/e.op=4\/e.op=12\/(5<=e.op/\e.op<=11):=by omega
    rw [Lj,Hg];unfold shN;rcases hc with hc | hc | hc | hc | hc | hc | hc
    . rw [if_pos (by rw [hc];rfl),cN (by rfl),Aab (f2 (.inl hc))]
      exact gR hc.symm (Y7 hn0 (by omega)).symm (u1 (by omega)).symm (u2 (by omega)).symm (u3 (by omega)).symm rfl
    . rw [if_neg (by rw [hc];decide),if_pos (by rw [hc];rfl)]
      have hv1:=k1 (.inl hc)
      have hfn:Ru (pY T V e.var e.field)=true:=by
        have:=hm.1;unfold Zs at this;rw [if_pos (by rw [hc];rfl)] at this;exact this
      have hne:(pY T V e.var e.field==Ej)=false:=by
        cases hq:pY T V e.var e.field==Ej with
        | false=>rfl
        | true=>rw [eq_of_beq hq,nm_time] at hfn;cases hfn
      rw [jE (by rfl) (by rfl) hne rfl];simp only;rw [(Ou hv hp.1 hv1).1,cG hv hp.1 hv1 hp.2 (k2 (.inl hc))];exact gR hc.symm (Y7 hn0 (by omega)).symm rfl rfl (u3 (by omega)).symm (u4 (by omega) (by omega)).symm
    . rw [if_neg (by rw [hc];decide),if_neg (by rw [hc];decide),if_pos (by rw [hc];rfl),jD (by rfl) (by rfl) (by rfl)]
      simp only;rw [(Ou hv hp.1 (k1 (.inr (.inl hc)))).1];exact gR hc.symm (Y7 hn0 (by omega)).symm rfl (u2 (by omega)).symm (u3 (by omega)).symm (u4 (by omega) (by omega)).symm
    . rw [if_neg (by rw [hc];decide),if_neg (by rw [hc];decide),if_neg (by rw [hc];decide),if_pos (by rw [hc];rfl),jF (by rfl) (by rfl) (by rfl)]
      simp only;rw [(Ou hv hp.1 (k1 (.inr (.inr (.inl hc))))).1];exact gR hc.symm (Y7 hn0 (by omega)).symm rfl (u2 (by omega)).symm (u3 (by omega)).symm (u4 (by omega) (by omega)).symm
    . rw [if_neg (by rw [hc];decide),if_neg (by rw [hc];decide),if_neg (by rw [hc];decide),if_neg (by rw [hc];decide),if_pos (by rw [hc];rfl)]
      have hv1:=k1 (.inr (.inr (.inr hc)));have hb:=(Ou hv hp.1 hv1).1;have hfb:=cG hv hp.1 hv1 hp.2 (k2 (.inr hc));by_cases hk1:e.kind=1
      . rw [if_neg (by rw [hk1];decide),jH (by rfl) (by rfl) (by rfl) (by rfl) rfl (by rfl)]
        simp only;rw [hb,hfb];exact gR hc.symm (Y7 hn0 (by omega)).symm rfl rfl rfl ((f3 hc).2.2 hk1).symm
      . rw [if_pos (by simpa using hk1),jG (by rfl) (by rfl) (by rfl) (by rfl) rfl (by rfl)]
        simp only;rw [hb,hfb];exact gR hc.symm (Y7 hn0 (by omega)).symm rfl rfl rfl (Aab (f2 (.inr hc)))
    . rw [if_neg (by rw [hc];decide),if_neg (by rw [hc];decide),if_neg (by rw [hc];decide),if_neg (by rw [hc];decide),if_neg (by rw [hc];decide),if_pos (by rw [hc];rfl),jI (by rfl) (by rfl) (by rfl) (by rfl) (by rfl)]
      simp only [Hd];refine gR hc.symm ?_ (u1 (by omega)).symm (u2 (by omega)).symm (u3 (by omega)).symm (u4 (by omega) (by omega)).symm
      conv=>rhs;rw [<-List.map_id e.args]
      exact Kw fun a ha=>ih a ha (hna a ha) (hka a ha) (hma a ha)
    . rw [if_neg (by simp;omega),if_neg (by simp;omega),if_neg (by simp;omega),if_neg (by simp;omega),if_neg (by simp;omega),if_neg (by simp;omega),jJ (by rfl) (by rfl) (by rfl) (by rfl) (by rfl)]
      simp only [Hd];refine gR rfl ?_ (u1 (by omega)).symm (u2 (by omega)).symm (u3 (by omega)).symm (u4 (by omega) (by omega)).symm
      conv=>rhs;rw [<-List.map_id e.args]
      exact Kw fun a ha=>ih a ha (hna a ha) (hka a ha) (hma a ha)
theorem Vk {t:Syn}(h:¬(t.kind=14\/t.kind=15\/t.kind=16)):Jk T V t=Np:=look_1 (by simp;omega)
theorem vK (v:Vl):Fr T V (iJ v)=Np:=by
 rw [O3 (by rw [Vk (by show ¬((13:Int)=14\/(13:Int)=15\/(13:Int)=16);decide)];rfl)];rfl
theorem sK (hv:VrOK T V):∀e:Ex,Ip e=0->Tt T V e=true->(Fr T V (Pa T V e)).err=0:=by
  intro e
  induction e using Ex.ind with
  | h e ih=>
    intro hn hk;obtain ⟨hn0,hna⟩:=Ir hn;obtain ⟨o1,o2,o3⟩:=Vo hn0;have hp:=Xn hn;rw [N9,Ce] at hk;obtain ⟨k1,k2⟩:=Y3 hk.1 hn0;have hka:=F3.1 hk.2
    have hkids:∀l:List Syn,l=e.args.map (Pa T V)->Ia (Fr T V) l=Np:=fun l hl=>Vb fun a ha=>by
      rw [hl] at ha;obtain ⟨x,hx,rfl⟩:=Cd.1 ha;exact ih x hx (hna x hx) (hka x hx)
    have hc:e.op=0\/e.op=1\/e.op=2\/e.op=3\/e.op=4\/e.op=12\/(5<=e.op/\e.op<=11):=by omega
    rw [Lj];unfold shN;rcases hc with hc | hc | hc | hc | hc | hc | hc
    . rw [if_pos (by rw [hc];rfl),vK];rfl
    . rw [if_neg (by rw [hc];decide),if_pos (by rw [hc];rfl)]
      have hv1:=k1 (.inl hc);obtain ⟨b1,b2⟩:=Ou hv hp.1 hv1;have hfb:=cG hv hp.1 hv1 hp.2 (k2 (.inl hc))
      have hl:Jk T V ⟨14,gB V e.var,pY T V e.var e.field,0,[],0⟩=Np:=by
        cases h4:((14:Int)==15)||(((14:Int)==14)&&(pY T V e.var e.field==Ej)) with
        | true=>exact tH (by rfl) (by simp only;rw [b2];rfl) h4
        | false=>exact look_5 (by rfl) (by simp only;rw [b2];rfl) h4 (by simp only;rw [b1,hfb];exact Gc (by omega))
      rw [O3 (by rw [hl];rfl)];rfl
    . rw [if_neg (by rw [hc];decide),if_neg (by rw [hc];decide),if_pos (by rw [hc];rfl)]
      have b2:=(Ou hv hp.1 (k1 (.inr (.inl hc)))).2;rw [O3 (by rw [tH (by rfl) (by simp only;rw [b2];rfl) (by rfl)];rfl)];rfl
    . rw [if_neg (by rw [hc];decide),if_neg (by rw [hc];decide),if_neg (by rw [hc];decide),if_pos (by rw [hc];rfl)]
      have b2:=(Ou hv hp.1 (k1 (.inr (.inr (.inl hc))))).2;rw [O3 (by rw [tH (by rfl) (by simp only;rw [b2];rfl) (by rfl)];rfl)];rfl
    . rw [if_neg (by rw [hc];decide),if_neg (by rw [hc];decide),if_neg (by rw [hc];decide),if_neg (by rw [hc];decide),if_pos (by rw [hc];rfl)]
      have hv1:=k1 (.inr (.inr (.inr hc)));obtain ⟨b1,b2⟩:=Ou hv hp.1 hv1;have hfb:=cG hv hp.1 hv1 hp.2 (k2 (.inr hc));generalize hks:(if (e.kind != 1)=true then [iJ e.val] else [])=ks;have hl:Jk T V ⟨16,gB V e.var,pY T V e.var e.field,e.kind,ks,0⟩=Np:=look_5 (by rfl) (by simp only;rw [b2];rfl) (by rfl) (by simp only;rw [b1,hfb];exact Gc (by omega));rw [O3 (by rw [hl];rfl),Vb];rfl;intro a ha;rw [<-hks] at ha;simp only at ha;split at ha
      . rw [D5.1 ha,vK];rfl
      cases ha
    . rw [if_neg (by rw [hc];decide),if_neg (by rw [hc];decide),if_neg (by rw [hc];decide),if_neg (by rw [hc];decide),if_neg (by rw [hc];decide),if_pos (by rw [hc];rfl)]
      rw [O3 (by rw [Vk (by simp)];rfl),hkids _ rfl];rfl
    . rw [if_neg (by simp;omega),if_neg (by simp;omega),if_neg (by simp;omega),if_neg (by simp;omega),if_neg (by simp;omega),if_neg (by simp;omega)]
      rw [O3 (by rw [Vk (by simp)];rfl),hkids _ rfl];rfl
end
structure NdOK (q:Pt):Prop where
 op:0<=q.op/\q.op<8
 ck:iV q=0
theorem P9 {p:Pt}(h:(I6 p != 0)=false):∀q∈H1 p,NdOK q:=fun q hq=>by
 have h1:=chk_0 h;have h2:=whl_0 h1;have h3:=cD (rst_0 h2).2.2 q hq;have h4:Dk uS (H1 p)=0:=by rw [<-whl_2 h2];simpa using h1
 have h5:=cD h4 q hq;have h6:=ck_op h3;refine ⟨⟨h6.1,?_⟩,h3⟩;unfold uS at h5;split at h5
 . cases h5
 rename_i h7;simp only [Cb] at h7;omega
theorem NdOK.cases {q:Pt}(h:NdOK q):q.op=0\/q.op=1\/q.op=2\/q.op=3\/q.op=4\/q.op=5\/q.op=6\/q.op=7:=by have:=h.op;omega
theorem NdOK.flags {q:Pt}(h:NdOK q):Sx q=(Ll q.op).typed/\Wl q=(Ll q.op).cond:=by
 unfold Sx Wl;rcases h.cases with h | h | h | h | h | h | h | h <;> rw [h] <;> exact ⟨rfl,rfl⟩
theorem NdOK.parts {q:Pt}(h:NdOK q):((Ll q.op).least<=(q.args.length:Int)/\(q.args.length:Int)<=(Ll q.op).most)/\ckB q (Ll q.op)=false/\((Ll q.op).cond=true->Gn q.cond=0)/\ckU q (Ll q.op)=false:=by
 have hc:=h.ck;have ho:(decide (q.op<0)||decide (11<=q.op))=false:=by have:=h.op;simp;omega
 have h1:(decide ((q.args.length:Int)<(Ll q.op).least)||decide ((Ll q.op).most<(q.args.length:Int)))=false:=by
  cases hq:(decide ((q.args.length:Int)<(Ll q.op).least)||decide ((Ll q.op).most<(q.args.length:Int))) with
  | false=>rfl
  | true=>rw [ck_2 ho hq] at hc;cases hc
 have h2:ckB q (Ll q.op)=false:=by
  cases hq:ckB q (Ll q.op) with
  | false=>rfl
  | true=>rw [ck_3 ho h1 hq] at hc;cases hc
 have h3:(Ll q.op).cond=true->Gn q.cond=0:=fun hs=>by
  cases hq:Gn q.cond != 0 with
  | false=>simpa using hq
  | true=>rw [ck_4 ho h1 h2 hs hq] at hc;rw [hc] at hq;cases hq
 have h4:((Ll q.op).cond&&(Gn q.cond != 0))=false:=by
  cases hs:(Ll q.op).cond with
  | false=>rfl
  | true=>rw [h3 hs];rfl
 rw [ck_n ho h1 h2 h4] at hc;refine ⟨?_,h2,h3,?_⟩
 . simp at h1;exact h1
 cases hq:ckU q (Ll q.op) with
 | false=>rfl
 | true=>rw [hq,if_pos rfl] at hc;cases hc
theorem NdOK.use {q:Pt}(h:NdOK q):((Ll q.op).cond=false->q.cond=wD)/\((Ll q.op).typed=false->q.type=0/\q.var=0)/\((Ll q.op).scope=false->q.scope=0)/\((Ll q.op).span=false->q.span=0):=by
 have hu:=h.parts.2.2.2;unfold ckU unu at hu;simp only [Ey,Bf,Bool.and_eq_false_iff,Hm,beq_iff_eq] at hu;obtain ⟨⟨⟨⟨h1,h2⟩,h3⟩,h4⟩,h5⟩:=hu;refine ⟨fun hs=>?_,fun hs=>⟨?_,?_⟩,fun hs=>?_,fun hs=>?_⟩
 .
  rw [hs] at h1;rcases h1 with h1 | h1
  . cases h1
  exact (Qq _ _).1 h1
 .
  rw [hs] at h2;rcases h2 with h2 | h2
  . cases h2
  exact h2
 .
  rw [hs] at h3;rcases h3 with h3 | h3
  . cases h3
  exact h3
 .
  rw [hs] at h4;rcases h4 with h4 | h4
  . cases h4
  exact h4
 rw [hs] at h5;rcases h5 with h5 | h5
 . cases h5
 exact h5
theorem NdOK.rng {q:Pt}(h:NdOK q)(ht:(Ll q.op).typed=true):(0<=q.type/\q.type<=15)/\0<=q.var/\q.var<=15:=by
 have hb:=h.parts.2.1;unfold ckB wth at hb;rw [ht] at hb;simp at hb;omega
def uF (s:Nx)(q:Pt):Nx:=⟨if (Ll q.op).typed then s.next+1 else s.next,if (Ll q.op).scope then s.scopes+1 else s.scopes⟩
def iE:List Pt->Nx->Prop
 | [],_=>True
 | q::r,s=>(((Ll q.op).typed=true->q.var=s.next)/\((Ll q.op).scope=true->q.scope=s.scopes))/\iE r (uF s q)
theorem num_app:∀(l m:List Pt) (s:Nx),iE (l++m) s↔iE l s/\iE m (l.foldl uF s)
 | [],m,s=>by simp [iE]
 | q::r,m,s=>by rw [Cp,iE,iE,num_app r m,List.foldl_cons,and_assoc,and_assoc,and_assoc]
theorem num_cnt:∀(l:List Pt) (c:Cnt),(l.foldl Lt c).ok=true->iE l ⟨c.vars,c.scopes⟩
  | [],c,_=>trivial
  | q::r,c,h=>by
    rw [List.foldl_cons] at h;have ih:=num_cnt r (Lt c q) h
    have hok:(Lt c q).ok=true:=by
      cases hq:(Lt c q).ok with
      | true=>rfl
      | false=>rw [vJ r _ hq] at h;cases h
    unfold Lt at hok;simp only [Ce,Hm,A2,beq_iff_eq] at hok;refine ⟨⟨fun ht=>?_,fun hs=>?_⟩,ih⟩
    . rcases hok.1.2 with h1 | h1
      . rw [ht] at h1;cases h1
      exact h1
    . rcases hok.2 with h1 | h1
      . rw [hs] at h1;cases h1
      exact h1
theorem mF:∀(l:List Pt) (s:Nx),iE l s->∀(i:Nat) (q:Pt),(l.filter fun q=>(Ll q.op).typed)[i]? = some q->q.var=s.next+i
  | [],s,_,i,q,h=>by simp at h
  | x::r,s,hn,i,q,h=>by
    obtain ⟨⟨h1,h2⟩,h3⟩:=hn;rw [We] at h;cases ht:(Ll x.op).typed with
    | false=>
      rw [ht,if_neg (by decide)] at h;have:=mF r _ h3 i q h;unfold uF at this;rw [ht] at this;simpa using this
    | true=>
      rw [ht,if_pos rfl] at h;cases i with
      | zero=>simp at h;subst h;rw [h1 ht];simp
      | succ i=>
        rw [List.getElem?_cons_succ] at h;have:=mF r _ h3 i q h;unfold uF at this;rw [ht] at this;simp only [if_true] at this;rw [this];omega
theorem chk_num {p:Pt}(h:(I6 p != 0)=false):iE (H1 p) ⟨0,0⟩:=by
 refine num_cnt (H1 p) ⟨0,0,true⟩ ?_;show (Rd p).ok=true;have h1:=chk_0 h;cases hq:(Rd p).ok with
 | true=>rfl
 | false=>rw [chk_2 h1 (by rw [hq];rfl)] at h;cases h
theorem typ_filter {l:List Pt}(h:∀q∈l,NdOK q):l.filter Sx=l.filter fun q=>(Ll q.op).typed:=List.filter_congr fun q hq=>(h q hq).flags.1
theorem fY {p:Pt}(h:(I6 p != 0)=false){i:Nat}{x:Int×Int}(hx:(L3 p)[i]? = some x):x.1=(i:Int):=by
 unfold L3 at hx;rw [List.getElem?_map,typ_filter (P9 h)] at hx;obtain ⟨q,hq,rfl⟩:=Sn.1 hx;have:=mF _ _ (chk_num h) i q hq;simpa using this
theorem ty_nodup {p:Pt}(h:(I6 p != 0)=false):((L3 p).map (·.1)).Nodup:=by
 refine List.pairwise_iff_getElem.2 fun i j hi hj hij=>?_
 rw [Bg] at hi hj;rw [List.getElem_map,List.getElem_map];have h1:=fY h (List.getElem?_eq_getElem hi);have h2:=fY h (List.getElem?_eq_getElem hj);rw [h1,h2];omega
theorem ty_len {p:Pt}(h:(I6 p != 0)=false):(L3 p).length<=16:=by
 rcases So 16 (L3 p).length with hl | hl
 .
  have h1:=fY h (List.getElem?_eq_getElem (l:=L3 p) (i:=16) hl);obtain ⟨q,hq,he⟩:=Cd.1 (show (L3 p)[16]∈((H1 p).filter Sx).map fun q=>(q.var,q.type) from X7 hl);have hm:=Kv.1 hq;have hn:=P9 h q hm.1;have:=(hn.rng (by rw [<-hn.flags.1];exact hm.2)).2;rw [<-he] at h1;simp only at h1;omega
 exact hl
section
variable {T:List e8Sc} {V:List Va}
structure CdOK (T:List e8Sc) (V:List Va) (e:Ex):Prop where
 n:Ip e=0
 k:Tt T V e=true
 m:aP T V e=true
theorem oX (hv:VrOK T V){p:Pt}(hc:CdOK T V p.cond):Iv T V (Wm T V p)=p.cond:=by
 unfold Iv Wm;simp only;by_cases hs:Fx p.cond Jp=true
 . rw [hs];exact ((Qq _ _).1 hs).symm
 have hs':Fx p.cond Jp=false:=by simpa using hs
 rw [hs'];show Dv T V (Pa T V p.cond)=p.cond;exact sJ hv _ hc.n hc.k hc.m
theorem jN (hT:(H4 T).Nodup){p:Pt}(h0:0<=p.type)(h1:p.type<(T.length:Int)):Js (H4 T) (Wm T V p).text=p.type/\(H4 T).contains (Wm T V p).text=true:=by
 obtain ⟨s,hs⟩:=sQ h0 h1
 have hx:(H4 T)[p.type.toNat]? = some (Wm T V p).text:=by
  unfold Wm;simp only;rw [List.getElem?_map,hs];rfl
 obtain ⟨h2,_,h3⟩:=fA hT hx;exact ⟨by rw [h2];omega,h3⟩
theorem pt_eq {p q:Pt}(h1:p.op=q.op)(h2:p.args=q.args)(h3:p.type=q.type)(h4:p.var=q.var)(h5:p.scope=q.scope)(h6:p.span=q.span)(h7:p.cond=q.cond):p=q:=by
 cases p;cases q;simp_all
structure PtOK (T:List e8Sc) (V:List Va) (q:Pt):Prop where
 n:NdOK q
 c:Wl q=true->CdOK T V q.cond
 t:Sx q=true->q.type<(T.length:Int)
theorem Zu {p:Pt}(h:p.op≠0)(ks:List Syn):nE T V p ks=⟨p.op+5,[],[],if (p.op==6) then p.span else 0,ks++(if (p.op==5) then [Wm T V p] else if (p.op==7) then [Pa T V p.cond] else []),0⟩:=by
 unfold nE;rw [if_neg (by simpa using h)]
theorem jK {p:Pt}(hn:NdOK p)(h:p.op=4\/p.op=5\/p.op=6\/p.op=7):p.args.length=1:=by
 have:=hn.parts.1;rcases h with h | h | h | h <;> (rw [h] at this;simp [Ll,shpL] at this;omega)
theorem pk_back {p:Pt}(hn:NdOK p):Cn (Oa T V p)=p.args.map (Oa T V):=by
 rw [Oz];rcases hn.cases with h | h | h | h | h | h | h | h
 .
  have h0:p.args = []:=by have:=hn.parts.1;rw [h] at this;simp [Ll,shpL] at this;exact this
  unfold nE;rw [if_pos (by rw [h];rfl),h0];rfl
 . rw [Zu (by omega),h];simp [Cn]
 . rw [Zu (by omega),h];simp [Cn]
 . rw [Zu (by omega),h];simp [Cn]
 . rw [Zu (by omega),h];simp [Cn]
 .
  have:=jK hn (.inr (.inl h));rw [Zu (by omega),h];simp [Cn,this]
 . rw [Zu (by omega),h];simp [Cn]
 have:=jK hn (.inr (.inr (.inr h)));rw [Zu (by omega),h];simp [Cn,this]
theorem fC {p:Pt}(hn:NdOK p):(p.op=5->Aq (Oa T V p) 1=Wm T V p)/\(p.op=7->Aq (Oa T V p) 1=Pa T V p.cond):=by
 refine ⟨fun h=>?_,fun h=>?_⟩
 .
  have:=jK hn (.inr (.inl h));rw [Oz,Zu (by omega),h];unfold Aq;rw [Dm,List.getElem?_append_right (by rw [Bg,this];exact Be _),Bg,this];rfl
 have:=jK hn (.inr (.inr (.inr h)));rw [Oz,Zu (by omega),h];unfold Aq;rw [Dm,List.getElem?_append_right (by rw [Bg,this];exact Be _),Bg,this];rfl
theorem Y2 (p:Pt):(Oa T V p).kind=p.op+5:=by
 rw [Oz];by_cases h:p.op=0
 .
  unfold nE;rw [if_pos (by rw [h];rfl),h];rfl
 rw [Zu h]
theorem nx_back {p:Pt}(hn:NdOK p)(s:Nx):Uq (Oa T V p) s=uF s p:=by
 unfold Uq uF;rw [Y2];rcases hn.cases with h | h | h | h | h | h | h | h <;> rw [h] <;> rfl
theorem ptn_back (hv:VrOK T V)(hT:(H4 T).Nodup){p:Pt}(hp:PtOK T V p){s:Nx}(hs:((Ll p.op).typed=true->p.var=s.next)/\((Ll p.op).scope=true->p.scope=s.scopes)):Pu T V (Oa T V p) s []=⟨p.op,[],p.type,p.var,p.scope,p.span,p.cond⟩:=by
 have hn:=hp.n;obtain ⟨u1,u2,u3,u4⟩:=hn.use;have hk:=Y2 (T:=T) (V:=V) p;have ht:=hn.flags;rcases hn.cases with h | h | h | h | h | h | h | h
 .
  have e:Oa T V p=Wm T V p:=by rw [Oz];unfold nE;rw [if_pos (by rw [h];rfl)]
  have hty:(Ll p.op).typed=true:=by rw [h];rfl
  have hr:=hn.rng hty;rw [yO (by rw [hk,h];rfl),e,(jN hT hr.1.1 (hp.t (by rw [ht.1];exact hty))).1,oX hv (hp.c (by rw [ht.2,h];rfl))];rw [h,hs.1 hty,u3 (by rw [h];rfl),u4 (by rw [h];rfl)]
 all_goals try (rw [yP (by rw [hk,h];rfl) (by rw [hk,h];rfl) (by rw [hk,h];rfl) (by rw [hk,h];rfl),hk];rw [(u2 (by rw [h];rfl)).1,(u2 (by rw [h];rfl)).2,u3 (by rw [h];rfl),u4 (by rw [h];rfl),u1 (by rw [h];rfl),h];rfl)
 .
  have hty:(Ll p.op).typed=true:=by rw [h];rfl
  have hr:=hn.rng hty;rw [mR (by rw [hk,h];rfl) (by rw [hk,h];rfl),(fC hn).1 h,(jN hT hr.1.1 (hp.t (by rw [ht.1];exact hty))).1,oX hv (hp.c (by rw [ht.2,h];rfl))];rw [h,hs.1 hty,hs.2 (by rw [h];rfl),u4 (by rw [h];rfl)]
 .
  rw [mS (by rw [hk,h];rfl) (by rw [hk,h];rfl) (by rw [hk,h];rfl)];have e:(Oa T V p).num=p.span:=by rw [Oz,Zu (by omega),h];rfl
  rw [e,(u2 (by rw [h];rfl)).1,(u2 (by rw [h];rfl)).2,hs.2 (by rw [h];rfl),u1 (by rw [h];rfl),h]
 have hc:=hp.c (by rw [ht.2,h];rfl);rw [mT (by rw [hk,h];rfl) (by rw [hk,h];rfl) (by rw [hk,h];rfl) (by rw [hk,h];rfl),(fC hn).2 h,sJ hv _ hc.n hc.k hc.m];rw [(u2 (by rw [h];rfl)).1,(u2 (by rw [h];rfl)).2,u3 (by rw [h];rfl),u4 (by rw [h];rfl),h]
theorem pt_back (hv:VrOK T V)(hT:(H4 T).Nodup):∀p:Pt,(∀q∈H1 p,PtOK T V q)->∀s:Nx,iE (H1 p) s->Iy T V (Oa T V p) s=(p,(H1 p).foldl uF s):=by
  intro p
  induction p using Pt.ind with
  | h p ih=>
    intro hp s hs;have hp0:=hp p (Vn p)
    have key:∀l:List Pt,(∀a∈l,a∈p.args)->∀s:Nx,iE (l.flatMap H1) s->E0 T V (l.map (Oa T V)) s=(l,(l.flatMap H1).foldl uF s):=by
      intro l
      induction l with
      | nil=>intro _ s _;rw [A0,E0];rfl
      | cons x r ih2=>
        intro hl s hs;rw [J9] at hs ⊢;obtain ⟨h1,h2⟩:=(num_app _ _ _).1 hs;have hx:=ih x (hl x (by simp)) (fun q hq=>hp q (mA (hl x (by simp)) hq)) s h1;rw [Ao,E0,hx,ih2 (fun a ha=>hl a (by simp [ha])) _ h2,List.foldl_append]
    rw [Ox] at hs ⊢;have hk:=key p.args (fun a ha=>ha) (uF s p) hs.2;rw [On,pk_back hp0.n,nx_back hp0.n,hk,ptn_back hv hT hp0 hs.1,List.foldl_cons];exact Prod.ext (pt_eq rfl rfl rfl rfl rfl rfl rfl) rfl
theorem ev_back:∀p:Pt,(∀q∈H1 p,NdOK q)->Lb (Oa T V p)=((H1 p).filter Sx).map (Wm T V):=by
  intro p
  induction p using Pt.ind with
  | h p ih=>
    intro hp;have hp0:=hp p (Vn p)
    have hf:(Cn (Oa T V p)).flatMap Lb=((p.args.flatMap H1).filter Sx).map (Wm T V):=by
      rw [pk_back hp0]
      have key:∀l:List Pt,(∀a∈l,a∈p.args)->(l.map (Oa T V)).flatMap Lb=((l.flatMap H1).filter Sx).map (Wm T V):=by
        intro l
        induction l with
        | nil=>intro _;rfl
        | cons x r ih2=>
          intro hl;rw [Ao,J9,J9,List.filter_append,Di,ih x (hl x (by simp)) (fun q hq=>hp q (mA (hl x (by simp)) hq)),ih2 fun a ha=>hl a (by simp [ha])]
      exact key p.args fun a ha=>ha
    rw [wA,hf,Ox,We,Y2];have ht:=hp0.flags.1;rcases hp0.cases with h | h | h | h | h | h | h | h
    . have e:Oa T V p=Wm T V p:=by rw [Oz];unfold nE;rw [if_pos (by rw [h];rfl)]
      rw [if_pos (by rw [h];rfl),if_pos (by rw [ht,h];rfl),e];rfl
    all_goals try (rw [if_neg (by rw [h];decide),if_neg (by rw [h];decide),if_neg (by rw [ht,h];decide)];rfl)
    rw [if_neg (by rw [h];decide),if_pos (by rw [h];rfl),if_pos (by rw [ht,h];rfl),(fC hp0).1 h];rfl
theorem pat_walk (hv:VrOK T V):∀p:Pt,(∀q∈H1 p,PtOK T V q)->(Fr T V (Oa T V p)).err=0:=by
  intro p
  induction p using Pt.ind with
  | h p ih=>
    intro hp;have hp0:=hp p (Vn p)
    have hev:Wl p=true->Fr T V (Wm T V p)=Np:=fun hc=>by
      have hcd:=hp0.c hc;rw [O3 (by rw [Vk (by show ¬((5:Int)=14\/(5:Int)=15\/(5:Int)=16);decide)];rfl)];refine Vb fun a ha=>?_
      unfold Wm at ha;simp only at ha;split at ha
      . rw [D5.1 ha];exact sK hv _ hcd.n hcd.k
      cases ha
    have hk:=Y2 (T:=T) (V:=V) p;have hcb:=hp0.n.flags.2;by_cases h0:p.op=0
    . have e:Oa T V p=Wm T V p:=by rw [Oz];unfold nE;rw [if_pos (by rw [h0];rfl)]
      rw [e,hev (by rw [hcb,h0];rfl)];rfl
    . rw [O3 (by rw [Vk (by rw [hk];have:=hp0.n.op;omega)];rfl),Vb]
      . rfl
      intro a ha;rw [Oz,Zu h0] at ha;simp only at ha;rcases G2.1 ha with ha | ha
      . obtain ⟨x,hx,rfl⟩:=Cd.1 ha
        exact ih x hx fun q hq=>hp q (mA hx hq)
      . split at ha
        . rename_i h5
          rw [D5.1 ha,hev (by rw [hcb,show p.op=5 by simpa using h5];rfl)];rfl
        . split at ha
          . rename_i h7
            have hcd:=hp0.c (by rw [hcb,show p.op=7 by simpa using h7];rfl);rw [D5.1 ha];exact sK hv _ hcd.n hcd.k
          cases ha
end
theorem vrG_ok {T:List e8Sc}{L:List Int}:∀(l:List Va) (seen:List Ac) (i:Nat),uL T L seen i l=0->seen.Nodup->
    (seen++l.map (·.name)).Nodup/\∀(k:Nat) (v:Va),l[k]? = some v->Ru v.name=true/\0<=v.type/\v.type<(T.length:Int)/\(L[i+k]?).getD 0=v.type
  | [],seen,i,_,hn=>⟨by simpa using hn,fun k v h=>by simp at h⟩
  | v::r,seen,i,h,hn=>by
    rw [uL] at h;split at h
    . rename_i h1;rw [h] at h1;cases h1
    . rename_i h1
      have h0:vrE T L seen i v=0:=by simpa using h1
      unfold vrE at h0;split at h0
      . cases h0
      split at h0
      . cases h0
      split at h0
      . cases h0
      split at h0
      . cases h0
      rename_i g1 g2 g3 g4;have c1:Ru v.name=true:=by simpa using g1
      have c2:v.name∉seen:=by simpa using g2
      simp only [Hm,Cb,not_or] at g3;have c4:(L[i]?).getD 0=v.type:=by simpa using g4
      have ih:=vrG_ok r (seen ++ [v.name]) (i+1) h (Ih.2 ⟨hn,by simp,fun a ha b hb=>by rw [D5.1 hb];exact fun e=>c2 (e▸ha)⟩);refine ⟨by simpa using ih.1,fun k x hx=>?_⟩;cases k with
      | zero=>
        simp at hx;subst hx;exact ⟨c1,by omega,by omega,by simpa using c4⟩
      | succ k=>
        rw [List.getElem?_cons_succ] at hx;have:=ih.2 k x hx;rw [show i+(k+1)=i+1+k by omega];exact this
theorem decS_ok {T:List e8Sc}:∀(l:List Syn) (V:List Va),V.length+l.length<=16->(∀e∈l,(H4 T).contains e.text=true)->(H5 V++l.map (·.name)).Nodup->K8 T V l=(V++l.map (K9 T),Np)
  | [],V,_,_,_=>by rw [K8,A0,A1]
  | t::r,V,h1,h2,h3=>by
    have ht:=h2 t (by simp)
    have hn:(H5 V).contains t.name=false:=by
      cases hq:(H5 V).contains t.name with
      | false=>rfl
      | true=>
        rw [Ih] at h3;exact absurd rfl (h3.2.2 t.name (by simpa using hq) t.name (by simp))
    have hd:Lo T V t=0:=dec_4 (by rw [A8] at h1;simp;omega) (by rw [ht];rfl) hn
    rw [J1,if_neg (by rw [hd];decide),decS_ok r (V ++ [K9 T t]) (by rw [Al,E6];rw [A8] at h1;omega) (fun e he=>h2 e (by simp [he])) (by
      rw [show H5 (V ++ [K9 T t])=H5 V ++ [t.name] by simp [K9]];rw [Ao] at h3;simpa using h3)]
    simp
structure ShOK (T:List e8Sc) (q:Qy):Prop where
 t:(Fv T != 0)=false
 p:(I6 q.pattern != 0)=false
 v:VrE T q=0
 k:(gT T q).2=true
 r:q.returns≠[]
 e:∀e∈q.returns,Gn e=0
 u:Tz T q.vars (U0 q.pattern++q.returns) (tnB T q)=(0,true)
 n:Ru q.name=true
theorem sh_ok {T:List e8Sc}{q:Qy}(h1:(Fv T != 0)=false)(h:((fQ T q).2 != 0)=false):ShOK T q/\fQ T q=((gT T q).1,0):=by
 have key:∀{c:Bool} {f:Int} {x:Ac×Int},((if c then (([]:Ac),f) else x).2 != 0)=false->(c=true->(f != 0)=true)->c=false/\(if c then (([]:Ac),f) else x)=x:=fun {c f x} h hf=>by
  cases c with
  | false=>exact ⟨rfl,rfl⟩
  | true=>rw [if_pos rfl] at h;rw [hf rfl] at h;cases h
 obtain ⟨a1,b1⟩:=key h fun _=>rfl
 unfold fQ at h ⊢;rw [b1] at h ⊢;obtain ⟨a2,b2⟩:=key h fun h=>h
 rw [b2] at h ⊢;obtain ⟨a3,b3⟩:=key h fun h=>h
 rw [b3] at h ⊢;unfold sh1 at h ⊢;obtain ⟨a4,b4⟩:=key h fun _=>rfl
 rw [b4] at h ⊢;obtain ⟨a5,b5⟩:=key h fun _=>rfl
 rw [b5] at h ⊢;unfold sh2 at h ⊢;obtain ⟨a6,b6⟩:=key h fun h=>h
 rw [b6] at h ⊢;unfold sh3 at h ⊢;obtain ⟨a7,b7⟩:=key h fun h=>h
 rw [b7] at h ⊢;obtain ⟨a8,b8⟩:=key h fun _=>rfl
 rw [b8];refine ⟨⟨h1,a2,by simpa using a3,by simpa using a4,fun e=>by rw [e] at a5;simp at a5,?_,?_,by simpa using a1⟩,rfl⟩
 . exact cD (by simpa [rtE] using a6)
 show usR T q=(0,true);have e1:(usR T q).1=0:=by simpa using a7
 have e2:(usR T q).2=true:=by simpa using a8
 rw [<-e1,<-e2]
section
variable {T:List e8Sc} {q:Qy}
theorem ShOK.nd (h:ShOK T q):∀x∈H1 q.pattern,NdOK x:=P9 h.p
theorem ShOK.vl (h:ShOK T q):(L3 q.pattern).length=q.vars.length/\uL T ((L3 q.pattern).map (·.2)) [] 0 q.vars=0:=by
 have hv:=h.v;unfold VrE at hv;split at hv
 . cases hv
 rename_i h1;exact ⟨by have h2:=h1;simp at h2;omega,hv⟩
theorem ShOK.va (h:ShOK T q):(H5 q.vars).Nodup/\∀(k:Nat) (v:Va),q.vars[k]? = some v->Ru v.name=true/\0<=v.type/\v.type<(T.length:Int)/\∃x,(L3 q.pattern)[k]? = some x/\x.1=(k:Int)/\x.2=v.type:=by
 have h1:=vrG_ok q.vars [] 0 h.vl.2 O4;refine ⟨by simpa using h1.1,fun k v hk=>?_⟩;obtain ⟨a,b,c,d⟩:=h1.2 k v hk;have hl:k<(L3 q.pattern).length:=by rw [h.vl.1];exact (List.getElem?_eq_some_iff.1 hk).1
 have hx:=List.getElem?_eq_getElem hl;refine ⟨a,b,c,_,hx,fY h.p hx,?_⟩;rw [Eb,List.getElem?_map,hx] at d;exact d
theorem ShOK.ts (h:ShOK T q):TsOK T:=all_ts h.t
theorem ShOK.rv (h:ShOK T q):RvOK T q.vars:=⟨h.ts.tl,h.ts.fl,by have:=ty_len h.p;have:=h.vl.1;omega,fun v hv=>by
 obtain ⟨k,hk⟩:=Fh.1 hv;have:=h.va.2 k v hk;exact ⟨this.2.1,this.2.2.1⟩⟩
theorem lC:∀(l:List Fi) (seen:List Ac),Ld seen l=0->seen.Nodup->(seen++l.map (·.name)).Nodup
  | [],seen,_,hn=>by simpa using hn
  | f::r,seen,h,hn=>by
    rw [Ld] at h;split at h
    . rename_i h1;rw [h] at h1;cases h1
    . rename_i h1
      have h0:Ja seen f=0:=by simpa using h1
      have hc:f.name∉seen:=fun hm=>by
        have hm':seen.contains f.name=true:=by simpa using hm
        unfold Ja at h0;split at h0
        . cases h0
        first | cases h0 | (rw [if_pos hm'] at h0;cases h0)
      have:=lC r (seen ++ [f.name]) h (Ih.2 ⟨hn,by simp,fun a ha b hb=>by rw [D5.1 hb];exact fun e=>hc (e▸ha)⟩);simpa using this
theorem qW {s:e8Sc}(h:Ot s=0):(s.fields.map (·.name)).Nodup:=by
 unfold Ot at h;split at h
 . cases h
 split at h
 . cases h
 simpa using lC s.fields [] h O4
theorem ShOK.vr (h:ShOK T q):VrOK T q.vars:=⟨h.rv,h.va.1,fun s hs=>qW ((rM h.t).2.2 s hs)⟩
theorem ShOK.conds (h:ShOK T q):∀e∈U0 q.pattern++q.returns,CdOK T q.vars e:=by
  have hn:∀e∈U0 q.pattern++q.returns,Ip e=0:=fun e he=>by
    rcases G2.1 he with he | he
    . unfold U0 at he
      obtain ⟨x,hx,rfl⟩:=Cd.1 he;obtain ⟨hx1,hx2⟩:=Kv.1 hx;have hk:=h.nd x hx1;exact (S8 (hk.parts.2.2.1 (by rw [<-hk.flags.2];exact hx2))).2.2
    exact (S8 (h.e e he)).2.2
  have hu:=h.u;rw [Aaa hn] at hu;cases hk:(U0 q.pattern++q.returns).all (Tt T q.vars) with
  | false=>rw [hk] at hu;cases hu
  | true=>
    rw [hk,if_pos rfl] at hu;have h2:(tnB T q&&(U0 q.pattern++q.returns).all (aP T q.vars))=true:=congrArg Prod.snd hu;rw [Ce] at h2;exact fun e he=>⟨hn e he,F3.1 hk e he,F3.1 h2.2 e he⟩
theorem ShOK.pt (h:ShOK T q):∀x∈H1 q.pattern,PtOK T q.vars x:=fun x hx=>⟨h.nd x hx,fun hc=>h.conds _ (List.mem_append_left _ (Cd.2 ⟨x,Kv.2 ⟨hx,hc⟩,rfl⟩)),fun ht=>by
 have hm:(x.var,x.type)∈L3 q.pattern:=Cd.2 ⟨x,Kv.2 ⟨hx,ht⟩,rfl⟩;obtain ⟨k,hk⟩:=Fh.1 hm;have hl:k<q.vars.length:=by rw [<-h.vl.1];exact (List.getElem?_eq_some_iff.1 hk).1
 obtain ⟨_,b,c,y,hy,_,e⟩:=h.va.2 k _ (List.getElem?_eq_getElem hl);rw [hk] at hy;cases hy
 simp only at e;omega⟩
theorem ShOK.dec (h:ShOK T q):K8 T [] (Lb (Oa T q.vars q.pattern))=(q.vars,Np):=by
  rw [ev_back q.pattern h.nd];have hl:=h.vl.1;have hl2:((H1 q.pattern).filter Sx).length=q.vars.length:=by rw [<-hl];unfold L3;rw [Bg]
  have hat:∀(k:Nat) (x:Pt),((H1 q.pattern).filter Sx)[k]? = some x->∃v:Va,q.vars[k]? = some v/\x.type=v.type/\x.var=(k:Int)/\0<=v.type/\v.type<(T.length:Int):=fun k x hx=>by
    have hlt:k<q.vars.length:=by rw [<-hl2];exact (List.getElem?_eq_some_iff.1 hx).1
    obtain ⟨_,b,c,y,hy,d,e⟩:=h.va.2 k _ (List.getElem?_eq_getElem hlt);have:(L3 q.pattern)[k]? = some (x.var,x.type):=by unfold L3;rw [List.getElem?_map,hx];rfl
    rw [this] at hy;cases hy
    exact ⟨_,List.getElem?_eq_getElem hlt,e,d,b,c⟩
  have hmap:(((H1 q.pattern).filter Sx).map (Wm T q.vars)).map (K9 T)=q.vars:=by
    rw [Hd];refine X8 fun k=>?_
    rw [List.getElem?_map];cases hx:((H1 q.pattern).filter Sx)[k]? with
    | none=>
      have:=List.getElem?_eq_none_iff.1 hx;rw [List.getElem?_eq_none (by omega)];rfl
    | some x=>
      obtain ⟨v,hv,e1,e2,e3,e4⟩:=hat k x hx;rw [hv];show some (K9 T (Wm T q.vars x))=some v;unfold K9;rw [(jN h.ts.nd (by omega) (by omega)).1,e1];have:(Wm T q.vars x).name=v.name:=by unfold Wm gB;simp only;rw [e2,Ma,hv];rfl
      rw [this]
  rw [decS_ok _ [] (by rw [Bg,hl2,Bn,Eb,<-hl];exact ty_len h.p) (fun e he=>by
    obtain ⟨x,hx,rfl⟩:=Cd.1 he;obtain ⟨k,hk⟩:=Fh.1 hx;obtain ⟨v,hv,e1,e2,e3,e4⟩:=hat k x hk;exact (jN h.ts.nd (by omega) (by omega)).2) (by
    have:(((H1 q.pattern).filter Sx).map (Wm T q.vars)).map (·.name)=H5 q.vars:=by
      have e:H5 q.vars=((((H1 q.pattern).filter Sx).map (Wm T q.vars)).map (K9 T)).map (·.name):=congrArg (fun V:List Va=>V.map (·.name)) hmap.symm;rw [e,Hd,Hd,Hd];rfl
    rw [this];simpa using h.va.1),hmap,Cv]
theorem tU:Aq (qT T q) 1=Oa T q.vars q.pattern:=rfl
theorem qT_drop:(qT T q).kids.drop 2=q.returns.map (Pa T q.vars):=rfl
theorem q_back (h:ShOK T q)(hs:(fQ T q).1=(gT T q).1):Co T (qT T q)=(q,Np):=by
 have hd:=h.dec;have hvr:H8 T (qT T q)=q.vars:=by unfold H8;rw [tU,hd]
 have hvf:vfR T (qT T q)=Np:=by unfold vfR;rw [tU,hd]
 have hky:qG T (qT T q) q.vars=(q.key,true):=by
  have hk:=h.k;have e0:(Aq (qT T q) 0).text=(gT T q).1:=hs;unfold gT at hk e0;by_cases c1:((q.key.length:Int)==0)=true
  .
   rw [if_pos c1] at e0;rw [ky_no (by rw [e0];rfl)];have:q.key = []:=by simpa using c1
   rw [this]
  rw [if_neg c1] at hk e0;by_cases c2:((q.key.length:Int) != (T.length:Int))=true
  . rw [if_pos c2] at hk;cases hk
  rw [if_neg c2] at hk e0;by_cases c3:(decide (oH q<0)||decide (((kyF T q).length:Int)<=oH q))=true
  . rw [if_pos c3] at hk;cases hk
  rw [if_neg c3] at hk e0;have ho:kyO T q=true:=hk;unfold kyO at ho;rw [Ce,Ce] at ho
  have hne:((Aq (qT T q) 0).text != [])=true:=by
   rw [e0];have:=(cQ ho.2).1;simp only at *;cases hq:aL T q with
   | nil=>rw [hq] at this;simp at this
   | cons a r=>rfl
  rw [lT hne,e0];show Pf T q.vars (aL T q)=_;have h1:=ho.1.1;have h2:(Pf T q.vars (aL T q)).1=q.key:=by simpa using ho.1.2
  rw [<-h1,<-h2]
 have hvo:=h.vr
 have hw:(Fr T q.vars (qT T q)).err=0:=by
  rw [O3 (by rw [Vk (by show ¬((3:Int)=14\/(3:Int)=15\/(3:Int)=16);decide)];rfl),Vb]
  . rfl
  intro a ha;rcases Cu.1 (show a∈(⟨4,(fQ T q).1,[],0,[],0⟩:Syn)::Oa T q.vars q.pattern::q.returns.map (Pa T q.vars) from ha) with rfl | ha
  . rw [O3 (by rw [Vk (by show ¬((4:Int)=14\/(4:Int)=15\/(4:Int)=16);decide)];rfl)];rfl
  rcases Cu.1 ha with rfl | ha
  . exact pat_walk hvo q.pattern h.pt
  obtain ⟨x,hx,rfl⟩:=Cd.1 ha;have hc:=h.conds x (T1 _ hx);exact sK hvo x hc.n hc.k
 have hpt:uR T (qT T q) q.vars=q.pattern:=by
  unfold uR;rw [tU,pt_back hvo h.ts.nd q.pattern h.pt _ (chk_num h.p)]
 have hex:∀x∈q.returns,Dv T q.vars (Pa T q.vars x)=x:=fun x hx=>by
  have hc:=h.conds x (T1 _ hx);exact sJ hvo x hc.n hc.k hc.m
 rw [qr_b (by rw [hvf];rfl),hvr,qr_c (by rw [hky];rfl),qr_d (by rw [hw];rfl),qr_e (by rw [hpt];exact h.p)];unfold QR4
 rw [qT_drop,Vb (fun a ha=>by
  obtain ⟨x,hx,rfl⟩:=Cd.1 ha;rw [rt_no (by rw [hex x hx,h.e x hx];rfl)];rfl)]
 show (mY T (qT T q) q.vars,Np)=(q,Np);unfold mY
 rw [hky,hpt,qT_drop,Hd,show List.map (Dv T q.vars ∘ Pa T q.vars) q.returns=q.returns from by
  conv=>rhs;rw [<-List.map_id q.returns]
  exact Kw fun x hx=>hex x hx]
 rfl
end
def fiT (f:Fi):Syn:=⟨2,f.name,[],f.kind,[],0⟩
def tyT (s:e8Sc):Syn:=⟨1,s.name,[],0,s.fields.map fiT,0⟩
def Ti (s:e8Sc):Bool:=Ru s.name&&s.fields.all fun f=>Ru f.name
def Sg (p:Pg):Syn:=⟨0,[],[],0,p.types.map tyT++p.queries.map (qT p.types),0⟩
def Sw (T:List e8Sc):List Ac->List Qy->Int
 | _,[]=>0
 | seen,q::r=>if ((Kl T q).2 != 0) then (Kl T q).2 else if seen.contains q.name then 7 else Sw T (seen ++ [q.name]) r
def src3 (p:Pg):Syn×Int:=if ((Ba (Sg p) (.only 0)).2 != 0) then (Iz,(Ba (Sg p) (.only 0)).2) else (Sg p,0)
def zP (p:Pg):Syn×Int:=if (Sw p.types [] p.queries != 0) then (Iz,Sw p.types [] p.queries) else src3 p
def src1 (p:Pg):Syn×Int:=if !(p.types.all Ti) then (Iz,8) else if decide ((16:Int)<(p.queries.length:Int)) then (Iz,5) else zP p
def K3 (p:Pg):Syn×Int:=if (Fv p.types != 0) then (Iz,Fv p.types) else src1 p
structure SrcOK (p:Pg):Prop where
 t:(Fv p.types != 0)=false
 b:p.types.all Ti=true
 l:p.queries.length<=16
 g:Sw p.types [] p.queries=0
 w:((Ba (Sg p) (.only 0)).2 != 0)=false
theorem show_ok {T:List e8Sc}{q:Qy}(h:((Kl T q).2 != 0)=false):ShOK T q/\(fQ T q).1=(gT T q).1/\((Ba (qT T q) (.only 3)).2 != 0)=false/\Kl T q=(qT T q,0):=by
 have key:∀{c:Bool} {f:Int} {x:Syn×Int},((if c then (Iz,f) else x).2 != 0)=false->(c=true->(f != 0)=true)->c=false/\(if c then (Iz,f) else x)=x:=fun {c f x} h hf=>by
  cases c with
  | false=>exact ⟨rfl,rfl⟩
  | true=>rw [if_pos rfl] at h;rw [hf rfl] at h;cases h
 unfold Kl at h ⊢;obtain ⟨a1,b1⟩:=key h fun h=>h
 rw [b1] at h ⊢;obtain ⟨a2,b2⟩:=key h fun h=>h
 rw [b2] at h ⊢;obtain ⟨a3,b3⟩:=key h fun h=>h
 rw [b3];obtain ⟨s1,s2⟩:=sh_ok a1 a2;exact ⟨s1,by rw [s2],a3,rfl⟩
theorem srcG_ok {T:List e8Sc}:∀(l:List Qy) (seen:List Ac),Sw T seen l=0->seen.Nodup->(seen++l.map (·.name)).Nodup/\∀q∈l,((Kl T q).2 != 0)=false
  | [],seen,_,hn=>⟨by simpa using hn,fun q h=>by cases h⟩
  | q::r,seen,h,hn=>by
    rw [Sw] at h;split at h
    . rename_i h1;rw [h] at h1;cases h1
    . rename_i h1
      split at h
      . cases h
      . rename_i h2
        have hc:q.name∉seen:=by simpa using h2
        have ih:=srcG_ok r (seen ++ [q.name]) h (Ih.2 ⟨hn,by simp,fun a ha b hb=>by rw [D5.1 hb];exact fun e=>hc (e▸ha)⟩);refine ⟨by simpa using ih.1,fun x hx=>?_⟩;rcases Cu.1 hx with rfl | hx
        . simpa using h1
        exact ih.2 x hx
theorem wM:∀(l:List Fi) (fs:List Fi),fs.length+l.length<=8->(fs.map (·.name)++l.map (·.name)).Nodup->Fy fs (l.map fiT)=(fs++l,Np)
  | [],fs,_,_=>by rw [A0,Fy,A1]
  | f::r,fs,h1,h2=>by
    have hc:(fs.map (·.name)).contains f.name=false:=by
      cases hq:(fs.map (·.name)).contains f.name with
      | false=>rfl
      | true=>
        rw [Ih] at h2;exact absurd rfl (h2.2.2 f.name (by simpa using hq) f.name (by simp))
    rw [A8] at h1;rw [Ao,Fy,if_neg (by simp;omega),if_neg (by rw [show (fiT f).text=f.name from rfl,hc];decide)]
    refine (wM r (fs ++ [⟨f.name,f.kind⟩]) (by rw [Al,E6];omega) (by
      rw [Di,C4];simpa using h2)).trans ?_
    simp
theorem fZ:∀(m:List Syn) (out:List e8Sc),(∀a∈m,a.kind≠1)->Fw out m=(out,Np)
 | [],out,_=>rfl
 | k::r,out,h=>by rw [Fw,if_pos (by simpa using h k (by simp))];exact fZ r out fun a ha=>h a (by simp [ha])
theorem zZ:∀(l:List e8Sc) (out:List e8Sc) (m:List Syn),out.length+l.length<=16->(H4 out++H4 l).Nodup->(∀s∈l,Ot s=0)->Fw out (l.map tyT++m)=Fw (out++l) m
  | [],out,m,_,_,_=>by rw [A0,Cv,A1]
  | s::r,out,m,h1,h2,h3=>by
    have hc:(H4 out).contains s.name=false:=by
      cases hq:(H4 out).contains s.name with
      | false=>rfl
      | true=>
        rw [Ih] at h2;exact absurd rfl (h2.2.2 s.name (by simpa using hq) s.name (by simp))
    rw [A8] at h1
    have hf:Fy [] (tyT s).kids=(s.fields,Np):=by
      have:=wM s.fields [] (by have:=uA (h3 s (by simp));simp;omega) (by simpa using qW (h3 s (by simp)));simpa [tyT] using this
    rw [Ao,Cp,Fw,if_neg (by show ¬((1:Int) != 1)=true;decide),if_neg (by simp;omega),if_neg (by rw [show (tyT s).text=s.name from rfl,hc];decide),hf];rw [if_neg (show ¬(((s.fields,Np):List Fi×Fa).2.err != 0)=true from (by decide:¬((0:Int) != 0)=true))]
    refine (zZ r (out ++ [⟨s.name,s.fields⟩]) m (by rw [Al,E6];omega) (by
      rw [show H4 (out ++ [⟨s.name,s.fields⟩])=H4 out ++ [s.name] by simp,C4];simpa using h2) fun x hx=>h3 x (by simp [hx])).trans ?_
    rw [C4];rfl
theorem Vr {T:List e8Sc}:∀(l:List Syn) (qs:List Qy) (m:List Syn),(∀a∈l,a.kind≠3)->Dr T qs (l++m)=Dr T qs m
 | [],qs,m,_=>rfl
 | k::r,qs,m,h=>by rw [Cp,Dr,if_pos (by simpa using h k (by simp))];exact Vr r qs m fun a ha=>h a (by simp [ha])
theorem yJ {T:List e8Sc}:∀(l:List Qy) (qs:List Qy),qs.length+l.length<=16->(qs.map (·.name)++l.map (·.name)).Nodup->(∀q∈l,((Kl T q).2 != 0)=false)->Dr T qs (l.map (qT T))=(qs++l,Np)
  | [],qs,_,_,_=>by rw [A0,Dr,A1]
  | q::r,qs,h1,h2,h3=>by
    have hc:(qs.map (·.name)).contains q.name=false:=by
      cases hq:(qs.map (·.name)).contains q.name with
      | false=>rfl
      | true=>
        rw [Ih] at h2;exact absurd rfl (h2.2.2 q.name (by simpa using hq) q.name (by simp))
    rw [A8] at h1;obtain ⟨s1,s2,s3,s4⟩:=show_ok (h3 q (by simp));have hq:=q_back s1 s2;rw [Ao,Dr,if_neg (by show ¬((3:Int) != 3)=true;decide),if_neg (by simp;omega),if_neg (by rw [show (qT T q).text=q.name from rfl,hc];decide),hq,if_neg (show ¬(((q,Np):Qy×Fa).2.err != 0)=true from (by decide:¬((0:Int) != 0)=true))];rw [yJ r (qs ++ [q]) (by rw [Al,E6];omega) (by rw [Di,C4];simpa using h2) fun x hx=>h3 x (by simp [hx])];rw [C4];rfl
theorem p_back {p:Pg}(h:SrcOK p):Jt (Sg p)=(p,0,0):=by
 obtain ⟨h1,h2,h3⟩:=rM h.t;obtain ⟨g1,g2⟩:=srcG_ok p.queries [] h.g O4
 have ht:Ga (Sg p)=(p.types,Np):=by
  unfold Ga;show Fw [] (p.types.map tyT++p.queries.map (qT p.types))=_;rw [zZ p.types [] _ (by simpa using h1) (by simpa using h2) h3,Cv];refine fZ _ _ fun a ha=>?_
  obtain ⟨q,_,rfl⟩:=Cd.1 ha;show (3:Int)≠1;decide
 have hq:Dr p.types [] (Sg p).kids=(p.queries,Np):=by
  show Dr p.types [] (p.types.map tyT++p.queries.map (qT p.types))=_
  rw [Vr _ _ _ fun a ha=>by
   obtain ⟨s,_,rfl⟩:=Cd.1 ha;show (1:Int)≠3;decide]
  rw [yJ p.queries [] (by have:=h.l;simpa using this) (by simpa using g1) g2,Cv]
 have e1:(Ga (Sg p)).1=p.types:=by rw [ht]
 have:=pp_y (t:=Sg p) h.w (by rw [ht];rfl) (qs:=p.queries) (by rw [e1];exact hq);rw [this,e1]
theorem id_inj:∀a b:Ac,id a=id b->a=b:=fun a b h=>h
theorem zX_id (k:Int)(x:Ac):zX id k x=x:=by unfold zX;split <;> rfl
theorem zN_id (k:Int)(x:Ac):zN id k x=x:=by unfold zN;split <;> rfl
theorem zT_er:∀t:Syn,zT id (fun _=>0) t=Dy t:=by
  intro t
  induction t using Syn.ind with
  | h t ih=>
    rw [oA,Fc,zX_id,zN_id];rw [show t.kids.map (zT id (fun _=>0))=t.kids.map Dy from Kw ih]
theorem zV_id (V:List Va):V.map (zV id)=V:=by
 conv=>rhs;rw [<-List.map_id V]
 exact Kw fun v _=>rfl
theorem rnQ_id (q:Qy):rnQ id q=q:=by unfold rnQ;rw [zV_id]
theorem erk (t:Syn):(Dy t).kind=t.kind:=by rw [Fc]
theorem ertx (t:Syn):(Dy t).text=t.text:=by rw [Fc]
theorem ernm (t:Syn):(Dy t).num=t.num:=by rw [Fc]
theorem erq {T:List e8Sc}{t:Syn}(ht:QryOK t):(Co T (Dy t)).2.err=(Co T t).2.err/\(Co T (Dy t)).1=(Co T t).1:=by
 have:=z_query (T:=T) (t:=t) (c:=fun _=>0) id_inj ht;rw [zT_er,rnQ_id] at this;exact this
theorem er_fld:∀(l:List Syn) (fs:List Fi),(Fy fs (l.map Dy)).1=(Fy fs l).1/\(Fy fs (l.map Dy)).2.err=(Fy fs l).2.err
  | [],fs=>⟨rfl,rfl⟩
  | x::r,fs=>by
    rw [Ao,Fy,Fy,ertx,ernm];split
    . exact ⟨rfl,rfl⟩
    . split
      . exact ⟨rfl,rfl⟩
      exact er_fld r _
theorem sD:∀(l:List Syn) (out:List e8Sc),(Fw out (l.map Dy)).1=(Fw out l).1/\(Fw out (l.map Dy)).2.err=(Fw out l).2.err
  | [],out=>⟨rfl,rfl⟩
  | k::r,out=>by
    have hf:=er_fld k.kids [];rw [Ao,Fw,Fw,erk,ertx,I9,hf.1,hf.2];split
    . exact sD r out
    . split
      . exact ⟨rfl,rfl⟩
      . split
        . exact ⟨rfl,rfl⟩
        . split
          . exact ⟨rfl,hf.2⟩
          exact sD r _
theorem er_prg {T:List e8Sc}:∀(l:List Syn) (qs:List Qy),(∀a∈l,a.kind=3->QryOK a)->(Dr T qs (l.map Dy)).1=(Dr T qs l).1/\(Dr T qs (l.map Dy)).2.err=(Dr T qs l).2.err
  | [],qs,_=>⟨rfl,rfl⟩
  | k::r,qs,h=>by
    have ih:=fun qs=>er_prg (T:=T) r qs fun a ha=>h a (by simp [ha])
    rw [Ao,Dr,Dr,erk,ertx];split
    . exact ih qs
    . rename_i h3
      have hq:=erq (T:=T) (h k (by simp) (by simpa using h3));rw [hq.1,hq.2];split
      . exact ⟨rfl,rfl⟩
      . split
        . exact ⟨rfl,rfl⟩
        . split
          . exact ⟨rfl,hq.1⟩
          exact ih _
end Go.Proofs.YtibcelnfkhdjaaaGreatDoor
