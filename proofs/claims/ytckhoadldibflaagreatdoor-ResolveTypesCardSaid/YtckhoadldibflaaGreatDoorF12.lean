/-
  What the readers leave as it was: the tokens, the depth; and that they never go back. No program in sight. No condition.
-/
import Derived.Test.YtckhoadldibflaaGreatDoorK09
namespace Go.Proofs.YtckhoadldibflaaGreatDoor
open Go Go.Aw
set_option linter.unusedVariables false
set_option linter.unusedSimpArgs false

def H6 (a b:PS):Prop:=b.toks=a.toks∧a.pos≤b.pos∧b.depth=a.depth
theorem H6.refl (a:PS):H6 a a:=⟨rfl,Nat.le_refl _,rfl⟩
theorem H6.trans {a b c:PS}(h:H6 a b)(k:H6 b c):H6 a c:=⟨k.1.trans h.1,Nat.le_trans h.2.1 k.2.1,k.2.2.trans h.2.2⟩
theorem H6.adv (a:PS):H6 a (adv a):=⟨rfl,Nat.le_succ _,rfl⟩
theorem H6.fail (e:Int)(a:PS):H6 a (Eo e a):=⟨Jp _ _,Nat.le_of_eq (Ql _ _).symm,Nd _ _⟩
theorem H6.exp (w:Aq)(a:PS):H6 a (Cg w a):=⟨Rc _ _,lD _ _,Y3 _ _⟩
theorem H6.tok (k:Int)(a:PS):H6 a (Dm k a):=⟨Ri _ _,kC _ _,aH _ _⟩
def eZ (a:PS):Prop:=0≤a.depth∧a.depth≤64
theorem H6.rng {a b:PS}(h:H6 a b)(r:eZ a):eZ b:=by unfold eZ;rw [h.2.2];exact r
theorem Ch.goes {F:PS→Syn×PS}(h:Ch F){a:PS}(r:eZ a):H6 a (F a).2:=h a r.1 r.2
theorem H6.read {F:PS→Syn×PS}(h:Ch F){a b:PS}(r:eZ a)(k:H6 a b):H6 a (F b).2:=k.trans (h.goes (k.rng r))
theorem Ch.of {F:PS→Syn×PS}(h:∀st,eZ st→H6 st (F st).2):Ch F:=fun st h0 h1=>h st ⟨h0,h1⟩

theorem Ms {F:PS→Syn×PS}(hF:Ch F):∀(n:Nat) (st:PS) (out:List Syn),eZ st→H6 st (Ht F n st out).2
  | 0,st,out,r=>.refl _
  | n+1,st,out,r=>by
    unfold Ht
    split
    · have h:=H6.read hF r (.adv st)
      exact h.trans (Ms hF n _ _ (h.rng r))
    · exact .refl _
theorem Wx {F:PS→Syn×PS}(hF:Ch F){st:PS}(r:eZ st):H6 st (Pi F st).2:=by
 have h:=hF.goes r
 exact h.trans (Ms hF _ _ _ (h.rng r))
theorem To (st:PS):H6 st (Ez st).2:=by
 unfold Ez
 split
 · exact (H6.adv _).trans (.tok _ _)
 ·
  split
  · exact .tok _ _
  ·
   split
   · exact .adv _
   ·
    split
    · exact .adv _
    · exact .tok _ _
theorem zS:Ch Ez:=.of fun st _=>To st
theorem Ua (st:PS):H6 st (aV st).2:=((((H6.exp _ _).trans (.tok _ _)).trans (.exp _ _)).trans (.tok _ _))
@[simp] theorem okS_insP (st : PS) : Ly (aV st).2 ↔ Ly st := J8 (Ua st).1
@[simp] theorem okS_constP (st : PS) : Ly (Ez st).2 ↔ Ly st := J8 (To st).1
theorem X7 {n:Int}(h0 : -1000≤n)(h1:n≤1000):IntKind.i64.wrap n=n:=by
 unfold IntKind.wrap IntKind.signed IntKind.bits
 simp only [↓reduceIte,Bool.true_and,decide_eq_true_eq,ge_iff_le]
 split <;> omega
theorem Qa {read:Syn→PS→Syn×PS}{z:Syn}{st:PS}(r:eZ st)(h:∀s:PS,eZ s→H6 s (read z s).2):H6 st (Kn read z st).2:=by
 have hf:H6 st (Gx st):=by
  unfold Gx
  split
  · exact .fail _ _
  · exact .refl _
 have e0:Kn read z st=if ((Gx st).bad != 0) then (z,Gx st) else ((read z (adv (Hu st))).1,Id (read z (adv (Hu st))).2):=rfl
 rw [e0]
 split
 · exact hf
 ·
  rename_i hb
  by_cases hd:64≤st.depth
  ·
   exfalso
   apply hb
   unfold Gx
   rw [if_pos (decide_eq_true hd)]
   exact S5 (by decide) _
  ·
   have e1:(Hu st).depth=st.depth+1:=X7 (by have:=r.1;omega) (by omega)
   have k:=h (adv (Hu st)) ⟨show 0≤(Hu st).depth by rw [e1];have:=r.1;omega,show (Hu st).depth≤64 by rw [e1];omega⟩
   refine ⟨k.1,Nat.le_trans (Nat.le_succ _) k.2.1,?_⟩
   show IntKind.i64.wrap ((read z (adv (Hu st))).2.depth-1)=st.depth
   rw [k.2.2,show (adv (Hu st)).depth=(Hu st).depth from rfl,e1,X7 (by have:=r.1;omega) (by omega)]
   omega
theorem Vz {E:PS→Syn×PS}(hE:Ch E):Ch (G3 E):=.of fun st r=>by
 unfold G3
 split
 · exact Qa r fun s r=>(hE.goes r).trans (.exp _ _)
 ·
  split
  ·
   simp only
   have h:=((H6.adv st).trans (Ua _)).trans (.exp Co _)
   exact (h.trans (zS.goes (h.rng r))).trans (.exp _ _)
  ·
   split
   · exact ((H6.adv st).trans (Ua _)).trans (.exp _ _)
   ·
    split
    · exact (((H6.adv st).trans (.exp _ _)).trans (.tok _ _)).trans (.exp _ _)
    ·
     split
     ·
      simp only
      split
      · exact ((H6.tok _ _).trans (.exp _ _)).trans (.adv _)
      · exact ((H6.tok _ _).trans (.exp _ _)).trans (.tok _ _)
     · exact zS.goes r
theorem Py {F:PS→Syn×PS}(hF:Ch F){sg:List (Aq×Int)}:∀(n:Nat) (st:PS) (out:Syn),eZ st→H6 st (Ld F sg n st out).2
  | 0,st,out,r=>.refl _
  | n+1,st,out,r=>by
    unfold Ld
    split
    · have h:=H6.read hF r (.adv st)
      exact h.trans (Py hF n _ _ (h.rng r))
    · exact .refl _
theorem K9 {F:PS→Syn×PS}(hF:Ch F)(sg:List (Aq×Int)):Ch (Mw F sg):=.of fun st r=>by
 have h:=hF.goes r
 exact h.trans (Py hF _ _ _ (h.rng r))
theorem T6 {E:PS→Syn×PS}(hE:Ch E):Ch (P4 E):=K9 (Vz hE) zO
theorem jX {E:PS→Syn×PS}(hE:Ch E):Ch (Lm E):=.of fun st r=>by
 have h:=(T6 hE).goes r
 have h2:=(h.trans (.adv _)).trans ((T6 hE).goes ((h.trans (.adv _)).rng r))
 unfold Lm
 simp only
 repeat' split
 all_goals first | exact h2 | exact h
theorem L3 {E N:PS→Syn×PS}(hE:Ch E)(hN:Ch N):Ch (Sg E N):=.of fun st r=>by
 unfold Sg
 split
 · exact (jX hE).goes r
 · exact Qa r fun s r=>hN.goes r
theorem eD {E N:PS→Syn×PS}(hE:Ch E)(hN:Ch N):Ch (orP E N):=K9 (K9 (L3 hE hN) pW) orL
theorem Fc:Ch Do:=.of fun st _=>.refl _
theorem Hh:∀n,Ch (Od n).1∧Ch (Od n).2
 | 0=>⟨L3 Fc Fc,eD Fc Fc⟩
 | n+1=>⟨L3 (Hh n).2 (Hh n).1,eD (Hh n).2 (Hh n).1⟩
theorem U1 {E:PS→Syn×PS}(hE:Ch E):Ch (Ip E):=.of fun st r=>by
 have h:H6 st (Dm 0 (Dm 0 st)):=(H6.tok _ _).trans (.tok _ _)
 unfold Ip
 simp only
 split
 · exact H6.read hE r (h.trans (.adv _))
 · exact h
theorem mA {T:PS→Syn×PS}(hT:Ch T)(z:Syn){st:PS}(r:eZ st):H6 st (aP T z st).2:=by
 have h:=H6.read hT r (.exp Co st)
 exact h.trans (Ms hT _ _ _ (h.rng r))
theorem Wm {E T:PS→Syn×PS}(hE:Ch E)(hT:Ch T)(k:Int)(z:Syn){st:PS}(r:eZ st):H6 st (Fp E T k z st).2:=by
 unfold Fp
 split
 · exact mA hT z r
 ·
  split
  · exact .refl _
  ·
   split
   · exact H6.read (U1 hE) r (.exp _ _)
   ·
    split
    · exact (H6.exp _ _).trans (.tok _ _)
    · exact H6.read hE r (.exp _ _)
theorem Yx {E T:PS→Syn×PS}(hE:Ch E)(hT:Ch T):Ch (U9 E T):=.of fun st r=>by
 unfold U9
 split
 ·
  refine Qa r fun s r=>?_
  have h:=H6.read hT r (.exp Eh s)
  exact (h.trans (Wm hE hT _ _ (h.rng r))).trans (.exp _ _)
 · exact (U1 hE).goes r
theorem Qz {E:PS→Syn×PS}(hE:Ch E):∀n,Ch (iZ E n)
 | 0=>Yx hE Fc
 | n+1=>Yx hE (Qz hE n)
theorem Z5 (st:PS)(k:Int):H6 st (cK st k).2:=by
 unfold cK
 split
 · exact (H6.adv _).trans (.tok _ _)
 · exact .refl _
theorem cA {E T:PS→Syn×PS}(hE:Ch E)(hT:Ch T):Ch (F9 E T):=.of fun st r=>by
 have h1:H6 st (Cg Gd (cK (Dm 0 (Cg Fk st)) (Ct st)).2):=(((H6.exp _ _).trans (.tok _ _)).trans (Z5 _ _)).trans (.exp _ _)
 have h2:=(H6.read hT r h1).trans (.exp Fw _)
 exact (h2.trans (Wx hE (h2.rng r))).trans (.exp _ _)
end Go.Proofs.YtckhoadldibflaaGreatDoor
