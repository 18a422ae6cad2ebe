/-
  Several texts in one: S15, S16, S17, S18, S19, S20. No condition.
-/
import Derived.Test.YtkddpedfbicbeaaGreatDoorK14
set_option linter.unusedVariables false
set_option linter.unusedSimpArgs false
namespace Go.Proofs.YtkddpedfbicbeaaGreatDoor
open Go Go.Aw

/-- the sum where between ends -/
def C8 (a b:Ex):Su:=if !(Bn a 1 Kr).2 then (Bn a 1 Kr).1 else (Bn b (-1) (Bn a 1 Kr).1).1
theorem wS {a b:Ex}(hG:Im [(!(Bn a 1 Kr).2,false)]):C8 a b=(Bn b (-1) (Bn a 1 Kr).1).1:=by
 have h2:(!(Bn a 1 Kr).2)=false:=hG _ (List.mem_singleton.2 rfl)
 unfold C8;rw [Ci h2]
theorem xA {f:FuncId}{m bs:Nat}{R:List HO}{a b:Ex}{args:List AV}{H:List HO}(hG:Im [(!(Bn a 1 Kr).2,false)])(hc:Dv Tryz.prog f H args fun r H'=>r = .bool (Bn b (-1) (Bn a 1 Kr).1).2∧∃v,H'=N4 m bs v (Bn b (-1) (Bn a 1 Kr).1).1 R) :
  Dv Tryz.prog f H args fun r H'=>r = .bool (Bn b (-1) (Bn a 1 Kr).1).2∧∃v,H'=N4 m bs v (C8 a b) R:=by
 rw [wS hG];exact hc
theorem btw_f {m bs:Nat}{R:List HO}{v:Value}{a b:Ex}(hG:¬Im [(!(Bn a 1 Kr).2,false)]):∃u,N4 m bs v (Bn a 1 Kr).1 R=N4 m bs u (C8 a b) R:=by
 have h2:(!(Bn a 1 Kr).2)=true:=by
  rw [←Bool.not_eq_false]
  intro hx
  exact hG fun p hp=>by rw [List.mem_singleton.1 hp];exact hx
 refine ⟨v,?_⟩
 unfold C8;rw [if_pos h2]
theorem btw_no {a b:Ex}(h:(!(Bn a 1 Kr).2 || !(Bn b (-1) (Bn a 1 Kr).1).2)=true):Ch a b=(tO,false):=by
 unfold Ch
 by_cases h1:(!(Bn a 1 Kr).2)=true
 · rw [if_pos h1]
 · rw [if_neg h1,if_pos (by simpa [Bool.eq_false_iff.2 h1] using h)]
theorem pD {a b:Ex}(h:(!(Bn a 1 Kr).2 || !(Bn b (-1) (Bn a 1 Kr).1).2)=false):Ch a b=S0 (C8 a b):=by
 have h1:(!(Bn a 1 Kr).2)=false:=by cases hx:(!(Bn a 1 Kr).2) <;> simp_all
 have h2:(!(Bn b (-1) (Bn a 1 Kr).1).2)=false:=by rw [h1] at h;simpa using h
 unfold Ch C8
 rw [Ci h1,Ci h2,Ci h1]
theorem iT {a b:Ex}(h:(!(Bn a 1 Kr).2 || !(Bn b (-1) (Bn a 1 Kr).1).2)=false)(hp:Dt (C8 a b).ts [] []=none):Ch a b=(tO,false):=by
 rw [pD h,S0,hp]
theorem vY {a b:Ex}{p m:List Tm}(h:(!(Bn a 1 Kr).2 || !(Bn b (-1) (Bn a 1 Kr).1).2)=false)(hp:Dt (C8 a b).ts [] []=some (p,m)):Ch a b=(⟨p,m,(C8 a b).rest⟩,decide ((p.length:Int)≤1)&&decide ((m.length:Int)≤1)):=by
 rw [pD h,S0,hp]
theorem kH:suOK 0 Kr:=⟨by simp [Kr],by simp [Kr],by simp [Kr]⟩
theorem aV {a b:Ex}(ha:C1 a=0)(hb:C1 b=0):suOK (Ar a+Ar b) (C8 a b):=by
 have h1:suOK (0+Ar a) (Bn a 1 Kr).1:=Xf a ha (.inl rfl) kH
 unfold C8
 split
 · exact h1.mono (by omega)
 · exact (Xf b hb (.inr rfl) h1).mono (by omega)
/-- the terms of a sum are different ones -/
theorem X2 {t:Tm}{b:Int}:∀{ts:List (Tm×Int)},(ts.map (·.1)).Nodup→((In t b ts).map (·.1)).Nodup∧∀u,u∈(In t b ts).map (·.1)→u=t∨u∈ts.map (·.1)
  | [],_=>by simp [In]
  | q::r,h=>by
    rw [In]
    rw [List.map_cons,List.nodup_cons] at h
    split
    · rename_i he
      refine ⟨by simpa using h,fun u hu=>.inr (by simpa using hu)⟩
    · rename_i hne
      obtain ⟨h1,h2⟩:=X2 (t:=t) (b:=b) h.2
      refine ⟨?_,fun u hu=>?_⟩
      · rw [List.map_cons,List.nodup_cons]
        refine ⟨fun hu=>?_,h1⟩
        rcases h2 _ hu with e | hm
        · exact hne e.symm
        · exact h.1 hm
      · rw [List.map_cons,List.mem_cons] at hu
        rcases hu with e | hu
        · right;rw [e];simp
        · rcases h2 _ hu with e | hm
          · exact .inl e
          · right;rw [List.map_cons];exact List.mem_cons_of_mem _ hm
theorem aO (e:Ex):C1 e=0→∀{b:Int} {s:Su},(s.ts.map (·.1)).Nodup→((Bn e b s).1.ts.map (·.1)).Nodup:=by
 refine Ex.Aak (P:=fun e=>C1 e=0→∀{b:Int} {s:Su},(s.ts.map (·.1)).Nodup→((Bn e b s).1.ts.map (·.1)).Nodup) (fun e ih hn b s hs=>?_) e
 have hz:=Bb hn
 rw [Qa]
 unfold dN
 split
 · exact hs
 ·
  split
  · exact (X2 hs).1
  ·
   have two:(e.op=5∨e.op=6)→∀c,((if !((Ql (fun _ s=>(s,false)) (e.args.map Bn):My) b s).2 then (((Ql (fun _ s=>(s,false)) (e.args.map Bn):My) b s).1,false) else (Wn (fun _ s=>(s,false)) (e.args.map Bn):My) c ((Ql (fun _ s=>(s,false)) (e.args.map Bn):My) b s).1).1.ts.map (·.1)).Nodup:=by
    intro ho c
    have hl:=Dg hz.1 (by omega)
    rw [Ii Bn _ (by omega),Iv Bn _ hl]
    have m0:=A4 (show 0<e.args.length by omega)
    have m1:=Bi hl
    have i0:=ih _ m0 (hz.2 _ m0) (b:=b) hs
    split
    · exact i0
    · exact ih _ m1 (hz.2 _ m1) i0
   split
   · rename_i h5;exact two (.inl (by simpa using h5)) b
   ·
    split
    · rename_i h6;exact two (.inr (by simpa using h6)) (0-b)
    · exact hs
theorem dM {a b:Ex}(ha:C1 a=0)(hb:C1 b=0):((C8 a b).ts.map (·.1)).Nodup:=by
 have h1:=aO a ha (b:=1) (s:=Kr) (by simp [Kr])
 unfold C8
 split
 · exact h1
 · exact aO b hb h1
/-- the coefficient that the map holds at a term of the list -/
theorem coef_at {ts:List (Tm×Int)}{k:Nat}{q:Tm×Int}(hn:(ts.map (·.1)).Nodup)(h:ts[k]? = some q):F6 q.1 ts=q.2:=by
  induction ts generalizing k with
  | nil=>simp at h
  | cons p r ih=>
    rw [List.map_cons,List.nodup_cons] at hn
    unfold F6
    rw [List.find?_cons]
    cases k with
    | zero=>
      have:p=q:=by simpa using h
      subst this
      rw [K3.2 rfl];rfl
    | succ k=>
      have hq:r[k]? = some q:=by simpa using h
      have hm:=List.mem_of_getElem? hq
      have hne:eA q.1 p.1=false:=by
        rw [Bool.eq_false_iff]
        intro he
        have:=K3.1 he
        exact hn.1 (by rw [←this];exact List.mem_map_of_mem hm)
      rw [hne]
      exact ih hn.2 hq
theorem zM {ts:List (Tm×Int)}{k:Nat}{q:Tm×Int}(hn:(ts.map (·.1)).Nodup)(h:ts[k]? = some q):match Hj (Hr q.1) (Gs ts) with | some y=>y = .int .i64 q.2 | none=>[AV.int .i64 0] = [.int .i64 q.2]:=by
 have h1:=Pj q.1 ts
 rw [coef_at hn h] at h1
 exact h1
theorem parts_0 {t:Tm×Int}{r:List (Tm×Int)}{p m:List Tm}(h:(t.2==0)=true):Dt (t::r) p m=Dt r p m:=by rw [Dt,if_pos h]
theorem parts_1 {t:Tm×Int}{r:List (Tm×Int)}{p m:List Tm}(h:(t.2==0)=false)(h1:(t.2==1)=true):Dt (t::r) p m=Dt r (p ++ [t.1]) m:=by rw [Dt,Ci h,if_pos h1]
theorem zQ {t:Tm×Int}{r:List (Tm×Int)}{p m:List Tm}(h:(t.2==0)=false)(h1:(t.2==1)=false)(h2:(t.2 == -1)=true):Dt (t::r) p m=Dt r p (m ++ [t.1]):=by rw [Dt,Ci h,Ci h1,if_pos h2]
theorem zY {t:Tm×Int}{r:List (Tm×Int)}{p m:List Tm}(h:(t.2==0)=false)(h1:(t.2==1)=false)(h2:(t.2 == -1)=false):Dt (t::r) p m=none:=by rw [Dt,Ci h,Ci h1,Ci h2]

theorem Ky {T:List Sc}{V:List Va}{e:Ex}(hk:KOK T V e)(h:Cu e=true):1<e.args.length:=by
 unfold Cu at h
 have h':e.op=7∨e.op=8∨e.op=9:=by simp at h;omega
 exact Dg (Bb hk.nodes).1 (by omega)
theorem yJ {T:List Sc}{V:List Va}{e:Ex}(h:(e.op==1)=true):B5 T V e=true:=by rw [B5,if_pos h]
theorem jU {T:List Sc}{V:List Va}{e:Ex}(h:(e.op==1)=false)(h2:(!Cu e)=true):B5 T V e=false:=by rw [B5,Ci h,if_pos h2]
theorem tS {T:List Sc}{V:List Va}{e:Ex}(h:(e.op==1)=false)(h2:(!Cu e)=false)(h3:Cp T V e=true):B5 T V e=(Sg (Ao e)&&Sg (Bg e)):=by rw [B5,Ci h,Ci h2,if_pos h3]
theorem vQ {T:List Sc}{V:List Va}{e:Ex}(h:(e.op==1)=false)(h2:(!Cu e)=false)(h3:Cp T V e=false):B5 T V e=(Ch (Ao e) (Bg e)).2:=by rw [B5,Ci h,Ci h2,Ci h3]
theorem P8 {T:List Sc}{V:List Va}{e:Ex}(h:(Eb T V e != 0)=false):KOK T V e:=by
 have h0:Eb T V e=0:=by simpa using h
 unfold Eb at h0
 by_cases h1:((Db T V e).2 != 0)=true
 · rw [if_pos h1] at h0;rw [h0] at h1;cases h1
 · exact (aK (by simpa using h1)).1

theorem K1 {e:Ex}(h:Bw e=0)(ho:(e.op==1||e.op==2)=true):Hn (D1 e)=e:=by
 have ho':e.op=1∨e.op=2:=by simpa using ho
 have hn:=Xw h (by omega)
 unfold Bw at h
 split at h
 · cases h
 split at h
 · cases h
 split at h
 · cases h
 split at h
 · cases h
 rw [if_neg (by simp;omega)] at h
 unfold Bk at h
 have hu:(Dn e.op).1=true:=by rcases ho' with ho | ho <;> rw [ho] <;> rfl
 split at h
 · cases h
 rename_i hf
 cases e with | mk op args var field kind val=>
 simp only at ho' hn hf hu ⊢
 rw [hu] at hf
 simp only [Bool.not_true,Bool.false_and,Bool.false_or,Bool.or_eq_true,not_or,Bool.and_eq_true,not_and,Bool.not_eq_true',bne_iff_ne,ne_eq,Decidable.not_not,Bool.or_eq_false_iff,beq_eq_false_iff_ne] at hf
 have hk:kind=0:=hf.1.2 (by omega)
 have hv:val=v0:=by
  have:=hf.2 ⟨by omega,by omega⟩
  rw [←jQ];simpa using this
 have hfd:op=2→field=0:=fun h2=>hf.1.1 (by rw [h2];rfl)
 unfold Hn D1
 subst hn;subst hk;subst hv
 rfl
abbrev lJ:=Int→Su×Bool→Su×Bool
def colN (e:Ex)(fs:List lJ):lJ:=fun b s=>
 if e.op==0 then (⟨s.1.ts,s.1.rest+b*e.val.num⟩,s.2)
 else if e.op==1||e.op==2 then (⟨In (D1 e) b s.1.ts,s.1.rest⟩,s.2)
 else if e.op==5 then (Wn (fun _ s=>(s.1,false)) fs:lJ) b ((Ql (fun _ s=>(s.1,false)) fs:lJ) b s)
 else if e.op==6 then (Wn (fun _ s=>(s.1,false)) fs:lJ) (0-b) ((Ql (fun _ s=>(s.1,false)) fs:lJ) b s)
 else (s.1,false)
def colS:Ex→lJ:=Rh colN
theorem Pi {e:Ex}(h:Bw e=0):(e.op==0)=true∨((e.op==0)=false∧(e.op==1||e.op==2)=true)∨((e.op=5∨e.op=6)∧1<e.args.length)∨((e.op==0)=false∧(e.op==1||e.op==2)=false∧(e.op==5)=false∧(e.op==6)=false):=by
 by_cases h0:e.op=0
 · left;simpa using h0
 by_cases h1:e.op=1∨e.op=2
 · right;left;exact ⟨by simpa using h0,by simpa using h1⟩
 by_cases h5:e.op=5∨e.op=6
 · right;right;left;exact ⟨h5,Dg h (by omega)⟩
 · right;right;right;refine ⟨by simpa using h0,by simp;omega,by simp;omega,by simp;omega⟩
/-- the sum where difference ends -/
def mN (a b:Ex):Su×Bool:=colS b (-1) (colS a 1 (Kr,true))
def differS (a b:Ex):Gp×Bool:=match Dt (mN a b).1.ts [] [] with
 | some (p,m)=>(⟨p,m,(mN a b).1.rest⟩,(mN a b).2&&(decide ((p.length:Int)≤1)&&decide ((m.length:Int)≤1)))
 | none=>(tO,false)
/-! ### the sum in the heap -/
abbrev rTm (ts:List (Tm×Int)):List (List AV):=ts.map fun p=>cE (Hn p.1)
abbrev rCo (ts:List (Tm×Int)):List (List AV):=ts.map fun p=>[AV.int .i64 p.2]
abbrev linH (v u:Value)(ts:List (Tm×Int))(R:List HO):List HO:=.row v (rTm ts).length 30 8 :: .buf u (rCo ts) 3 1::R
abbrev linR (v u:Value)(s:Su)(ok:Bool):AV:=.agg [.row v 8 (rTm s.ts),.val u,.int .i64 s.rest,.bool ok]
def cGpR (g:Gp):List AV:=[.sl 8 (g.plus.map fun t=>cE (Hn t)),.sl 8 (g.minus.map fun t=>cE (Hn t)),.int .i64 g.rest]

/-- a well-typed expression within the limits -/
structure KC (T:List Sc) (V:List Va) (e:Ex):Prop where
 kok:KOK T V e
 types:Ea T=0
 vars:Hv T V=0
 check:Bu e=0
theorem kM {e:Ex}(h:Bu e=0):Ar e≤64∧Ez e≤12∧C1 e=0:=by
 unfold Bu at h
 split at h
 · cases h
 rename_i h1
 split at h
 · cases h
 rename_i h2
 simp only [decide_eq_true_eq] at h1 h2
 exact ⟨by omega,by omega,h⟩
theorem Is {T:List Sc}{V:List Va}{e:Ex}(h:KC T V e):Ar e≤64:=(kM h.check).1
theorem pB {T:List Sc}{V:List Va}{e:Ex}(h:KC T V e):Db T V e=Ca T V e:=by
 unfold Db
 rw [if_neg (by rw [h.types];decide),if_neg (by rw [h.vars];decide),if_neg (by rw [h.check];decide)]
theorem fP {T:List Sc}{V:List Va}{e:Ex}(h:KC T V e):(Db T V e).1=Am T V e:=by rw [pB h,Fz h.kok]
theorem iH {T:List Sc}{V:List Va}{e:Ex}(h:(Db T V e).2=0):KC T V e:=by
 have hk:=(aK h).1
 unfold Db at h
 by_cases h1:(Ea T != 0)=true
 · rw [if_pos h1] at h;simp only at h;rw [h] at h1;cases h1
 rw [if_neg h1] at h
 by_cases h2:(Hv T V != 0)=true
 · rw [if_pos h2] at h;simp only at h;rw [h] at h2;cases h2
 rw [if_neg h2] at h
 by_cases h3:(Bu e != 0)=true
 · rw [if_pos h3] at h;simp only at h;rw [h] at h3;cases h3
 exact ⟨hk,by simpa using h1,by simpa using h2,by simpa using h3⟩
theorem R0 {T:List Sc}{V:List Va}{e:Ex}(h:(Eb T V e != 0)=false):KC T V e∧Am T V e=1:=by
 have h0:Eb T V e=0:=by simpa using h
 unfold Eb at h0
 by_cases h1:((Db T V e).2 != 0)=true
 · rw [if_pos h1] at h0;rw [h0] at h1;cases h1
 ·
  rw [if_neg h1] at h0
  have hk:=iH (by simpa using h1)
  refine ⟨hk,?_⟩
  by_cases h2:((Db T V e).1 != 1)=true
  · rw [if_pos h2] at h0;cases h0
  · rw [←fP hk];simpa using h2
theorem kc_cond {T:List Sc}{V:List Va}{e:Ex}(h:KC T V e)(hk:Am T V e=1):Eb T V e=0:=by
 have h2:(Db T V e).2=0:=by rw [pB h];exact h.kok.kind
 unfold Eb
 rw [if_neg (by rw [h2];decide),if_neg (by rw [fP h,hk];decide)]
theorem Ot {T:List Sc}{V:List Va}{e a:Ex}(h:KOK T V e)(ha:a∈e.args):Mo e.op (Am T V a) (Am T V (Ao e))=true:=by
 have hp:e.args≠[]:=by intro hn;rw [hn] at ha;cases ha
 have h1:=(Pc h hp).2.1
 unfold Di at h1
 have h2:=G7 h1 _ (List.mem_map_of_mem (f:=fun a=>(Ca T V a).1) ha)
 have h0:0<e.args.length:=List.length_pos_iff.2 hp
 have h3:((e.args.map fun a=>(Ca T V a).1).headD 0)=(Ca T V (Ao e)).1:=by
  cases hargs:e.args with
  | nil=>exact absurd hargs hp
  | cons x r=>unfold Ao;rw [hargs];rfl
 rw [h3] at h2
 rw [Fz (A1 h ha),Fz (A1 h (A4 h0))] at h2
 split at h2
 · assumption
 · cases h2
theorem Ik {T:List Sc}{V:List Va}{e a:Ex}(h:KOK T V e)(ho:e.op=9)(ha:a∈e.args):Am T V a=Am T V (Ao e):=by
 have h1:=Ot h ha
 unfold Mo at h1
 rw [if_neg (by simp;omega),if_neg (by simp;omega),if_pos (by simp;omega)] at h1
 simpa using h1
/-! ### The reference's -/
def rcmpS (e:Ex):Bool:=(e.op != 7&&e.op != 8)&&e.op != 9

theorem fN:∀g w u,Rep g w u (.sl 1 [[.val (.slice none 0 0)]])→Rep g w u (.sl 1 [[.sl 9 []]]):=fun g w u h=>by
  cases h with
  | sl b o n cap z es hn hc hm hz f hs hr=>
    refine .sl b o n cap 1 _ hn hc hm (fun e he=>by rw [List.mem_singleton.1 he];rfl) f (fun i e hi j x hj=>?_) (fun i e hi j x hj=>?_)
    · cases i with
      | succ i=>simp at hi
      | zero=>
        cases j with
        | succ j=>simp at hi;subst hi;simp at hj
        | zero=>exact hs 0 _ rfl 0 _ rfl
    · cases i with
      | succ i=>simp at hi
      | zero=>
        cases j with
        | succ j=>simp at hi;subst hi;simp at hj
        | zero=>
          simp at hi;subst hi;simp at hj;subst hj
          have:=(hr 0 _ rfl 0 _ rfl).inv_val
          rw [this];exact .sl0 _ _ _ (Nat.zero_le _)

/-! ### products -/
theorem nH {α:Type}{a b:List (List α)}(h:decide ((256:Int)<(a.length:Int)*(b.length:Int))=true):Mc a b=([],false):=by rw [Mc,if_pos h]
theorem jK {α:Type}{a b:List (List α)}(h:decide ((256:Int)<(a.length:Int)*(b.length:Int))=false):Mc a b=(a.flatMap fun x=>b.map fun y=>x++y,true):=by rw [Mc,Ci h]
theorem sY {α:Type}{a b:List (List α)}{k:Nat}{x:List α}(h:a[k]? = some x):((a.take (k+1)).flatMap fun x=>b.map fun y=>x++y)=((a.take k).flatMap fun x=>b.map fun y=>x++y)++b.map fun y=>x++y:=by
 rw [Cq h,List.flatMap_append];simp
theorem jP {α:Type}(a b:List (List α)):(a.flatMap fun x=>b.map fun y=>x++y).length=a.length*b.length:=by
 induction a with
 | nil=>simp
 | cons x r ih=>rw [List.flatMap_cons,List.length_append,ih,List.length_map,List.length_cons,Nat.succ_mul];omega
theorem prod_le {α:Type}{a b:List (List α)}{k j:Nat}(hk:k<a.length)(hj:j<b.length)(h:decide ((256:Int)<(a.length:Int)*(b.length:Int))=false):k*b.length+j<256:=by
 have h1:a.length*b.length≤256:=by
  have:¬(256:Int)<(a.length:Int)*(b.length:Int):=by simpa using h
  have h2:((a.length*b.length:Nat):Int)=(a.length:Int)*(b.length:Int):=by simp
  omega
 have h2:(k+1)*b.length≤a.length*b.length:=Nat.mul_le_mul_right _ hk
 rw [Nat.succ_mul] at h2
 omega
theorem jT {a b:Cs}(h:(!a.2 || !b.2)=true):El a b=([],false):=by rw [El,if_pos h]
theorem Zs {a b:Cs}(h:(!a.2 || !b.2)=false):El a b=Mc a.1 b.1:=by rw [El,Ci h]
theorem nF {a b:Cs}(h:((!a.2 || !b.2)||decide ((256:Int)<(a.1.length:Int)+(b.1.length:Int)))=true):Jf a b=([],false):=by rw [Jf,if_pos h]
theorem eP {a b:Cs}(h:((!a.2 || !b.2)||decide ((256:Int)<(a.1.length:Int)+(b.1.length:Int)))=false):Jf a b=(a.1++b.1,true):=by rw [Jf,Ci h]

/-! ### how long they are -/
/-- at most 256 clauses, each at most so long -/
structure csOK (n:Nat) (c:Cs):Prop where
 len:c.1.length≤256
 lits:∀x∈c.1,x.length≤n
theorem csOK.mono {n m:Nat}{c:Cs}(h:csOK n c)(hm:n≤m):csOK m c:=⟨h.len,fun x hx=>Nat.le_trans (h.lits x hx) hm⟩
theorem dQ {n:Nat}:csOK n ([],false):=⟨Nat.zero_le _,fun x hx=>by cases hx⟩
theorem Lq {n m:Nat}{a b:Cs}(ha:csOK n a)(hb:csOK m b):csOK (n+m) (El a b):=by
 unfold El
 split
 · exact dQ
 ·
  unfold Mc
  split
  · exact dQ
  ·
   rename_i h
   refine ⟨?_,fun x hx=>?_⟩
   ·
    show (a.1.flatMap fun x=>b.1.map fun y=>x++y).length≤256
    rw [jP]
    have h1:¬(256:Int)<(a.1.length:Int)*(b.1.length:Int):=by simpa using h
    have h2:((a.1.length*b.1.length:Nat):Int)=(a.1.length:Int)*(b.1.length:Int):=by simp
    omega
   ·
    obtain ⟨y,hy,hm⟩:=List.mem_flatMap.1 hx
    obtain ⟨z,hz,rfl⟩:=List.mem_map.1 hm
    have:=ha.lits y hy
    have:=hb.lits z hz
    rw [List.length_append];omega
theorem nY {n:Nat}{a b:Cs}(ha:csOK n a)(hb:csOK n b):csOK n (Jf a b):=by
 unfold Jf
 split
 · exact dQ
 ·
  rename_i h
  refine ⟨?_,fun x hx=>?_⟩
  ·
   show (a.1++b.1).length≤256
   simp at h
   rw [List.length_append];omega
  ·
   rcases List.mem_append.1 hx with h | h
   · exact ha.lits x h
   · exact hb.lits x h
section
variable {T:List Sc} {V:List Va}
abbrev NF0:Hk:=fun _=>([],false)
theorem Gg {e:Ex}{s:Bool}(h:(e.op==0)=true)(h1:((e.val.num==1)==s)=true):Da T V e s=([[]],true):=by rw [Jh,O2,if_pos h,if_pos h1]
theorem Gr {e:Ex}{s:Bool}(h:(e.op==0)=true)(h1:((e.val.num==1)==s)=false):Da T V e s=([],true):=by rw [Jh,O2,if_pos h,Ci h1]
theorem Gd {e:Ex}{s:Bool}(hl:0<e.args.length)(h:(e.op==12)=true):Da T V e s=Da T V (Ao e) (!s):=by
 rw [Jh,O2,Ci (by simp at h ⊢;omega),if_pos h,Ii _ _ hl]
theorem Gk {e:Ex}{s:Bool}(hl:1<e.args.length)(h:(e.op==10||e.op==11)=true)(h1:((e.op==10)==s)=true):Da T V e s=El (Da T V (Ao e) s) (Da T V (Bg e) s):=by
 rw [Jh,O2,Ci (by simp at h ⊢;omega),Ci (by simp at h ⊢;omega),if_pos h,if_pos h1,Ii _ _ (by omega),Iv _ _ hl]
theorem Gq {e:Ex}{s:Bool}(hl:1<e.args.length)(h:(e.op==10||e.op==11)=true)(h1:((e.op==10)==s)=false):Da T V e s=Jf (Da T V (Ao e) s) (Da T V (Bg e) s):=by
 rw [Jh,O2,Ci (by simp at h ⊢;omega),Ci (by simp at h ⊢;omega),if_pos h,Ci h1,Ii _ _ (by omega),Iv _ _ hl]
theorem Gb {e:Ex}{s:Bool}(hl:1<e.args.length)(h:(e.op==9)=true)(h1:(Am T V (Ao e)==1)=true) :
  Da T V e s=Jf (El (Da T V (Ao e) true) (Da T V (Bg e) s)) (El (Da T V (Ao e) false) (Da T V (Bg e) (!s))):=by
 rw [Jh,O2,Ci (by simp at h ⊢;omega),Ci (by simp at h ⊢;omega),Ci (by simp at h ⊢;omega),if_pos (by rw [h,h1];rfl),Ii _ _ (by omega),Iv _ _ hl]
theorem Gl {e:Ex}{s:Bool}(h:(e.op==9)=true)(h1:(Am T V (Ao e)==1)=false)(h2:(Am T V (Ao e)==0 && !s)=true) :
  Da T V e s=Eg [⟨two 7 (Ao e) (Bg e),false⟩,⟨two 7 (Bg e) (Ao e),false⟩]:=by
 rw [Jh,O2,Ci (by simp at h ⊢;omega),Ci (by simp at h ⊢;omega),Ci (by simp at h ⊢;omega),Ci (by rw [h1,Bool.and_false]),if_pos (by rw [h,h2];rfl)]
theorem Ip {e:Ex}{s:Bool}(h:(e.op==9)=true)(h1:(Am T V (Ao e)==1)=false)(h2:(Am T V (Ao e)==0 && !s)=false):Da T V e s=Eg [⟨e,!s⟩]:=by
 rw [Jh,O2,Ci (by simp at h ⊢;omega),Ci (by simp at h ⊢;omega),Ci (by simp at h ⊢;omega),Ci (by rw [h1,Bool.and_false]),Ci (by rw [h2,Bool.and_false])]
theorem Kp {e:Ex}{s:Bool}(h0:(e.op==0)=false)(h12:(e.op==12)=false)(h10:(e.op==10||e.op==11)=false)(h:(e.op==9)=false):Da T V e s=Eg [⟨e,!s⟩]:=by
 rw [Jh,O2,Ci h0,Ci h12,Ci h10,Ci (by rw [h];rfl),Ci (by rw [h];rfl)]
/-- how an expression may look to Da -/
theorem Ls {e:Ex}(s:Bool)(hk:KOK T V e) :
    (e.op==0)=true∨((e.op==12)=true∧0<e.args.length)∨((e.op==10||e.op==11)=true∧1<e.args.length)∨((e.op==9)=true∧1<e.args.length∧(Am T V (Ao e)==1)=true)∨
    ((e.op==9)=true∧1<e.args.length∧(Am T V (Ao e)==1)=false∧(Am T V (Ao e)==0 && !s)=true)∨((e.op==0)=false∧(e.op==12)=false∧(e.op==10||e.op==11)=false∧Da T V e s=Eg [⟨e,!s⟩]∧((e.op==9)=true→(Am T V (Ao e)==1)=false∧(Am T V (Ao e)==0 && !s)=false)):=by
  have hz:=Bb hk.nodes
  cases h0:e.op==0 with
  | true=>exact .inl rfl
  | false=>
  cases h12:e.op==12 with
  | true=>exact .inr (.inl ⟨rfl,V7 hz.1 (eq_of_beq h12)⟩)
  | false=>
  cases h10:(e.op==10||e.op==11) with
  | true=>exact .inr (.inr (.inl ⟨rfl,Dg hz.1 (by simp at h10;omega)⟩))
  | false=>
  cases h9:e.op==9 with
  | true=>
    have hl:=Dg hz.1 (by simp at h9;omega)
    cases h1:Am T V (Ao e)==1 with
    | true=>exact .inr (.inr (.inr (.inl ⟨rfl,hl,rfl⟩)))
    | false=>
      cases h2:(Am T V (Ao e)==0 && !s) with
      | true=>exact .inr (.inr (.inr (.inr (.inl ⟨rfl,hl,rfl,rfl⟩))))
      | false=>exact .inr (.inr (.inr (.inr (.inr ⟨rfl,rfl,rfl,Ip h9 h1 h2,fun _=>⟨rfl,rfl⟩⟩))))
  | false=>exact .inr (.inr (.inr (.inr (.inr ⟨rfl,rfl,rfl,Kp h0 h12 h10 h9,fun h=>Bool.noConfusion h⟩))))
theorem Gj (e:Ex):KOK T V e→∀s,csOK (Ar e) (Da T V e s):=by
 refine Ex.Aak (P:=fun e=>KOK T V e→∀s,csOK (Ar e) (Da T V e s)) (fun e ih hk s=>?_) e
 have hsz:1≤Ar e:=by rw [D5];omega
 rcases Ls s hk with h | ⟨h,hl⟩ | ⟨h,hl⟩ | ⟨h,hl,h1⟩ | ⟨h,hl,h1,h2⟩ | ⟨_,_,_,h,_⟩
 ·
  cases h1:((e.val.num==1)==s) with
  | true=>rw [Gg h h1];exact ⟨by simp,by simp⟩
  | false=>rw [Gr h h1];exact ⟨by simp,by simp⟩
 ·
  rw [Gd hl h]
  exact (ih _ (A4 hl) (A1 hk (A4 hl)) _).mono (Nat.le_of_lt (vM hl))
 ·
  have m0:=A4 (show 0<e.args.length by omega)
  have m1:=Bi hl
  have i0:=ih _ m0 (A1 hk m0) s
  have i1:=ih _ m1 (A1 hk m1) s
  have hs:=Dx hl
  cases h1:((e.op==10)==s) with
  | true=>rw [Gk hl h h1];exact (Lq i0 i1).mono (by omega)
  | false=>rw [Gq hl h h1];exact nY (i0.mono (by omega)) (i1.mono (by omega))
 ·
  have m0:=A4 (show 0<e.args.length by omega)
  have m1:=Bi hl
  have i0:=ih _ m0 (A1 hk m0)
  have i1:=ih _ m1 (A1 hk m1)
  have hs:=Dx hl
  rw [Gb hl h h1]
  exact nY ((Lq (i0 _) (i1 _)).mono (by omega)) ((Lq (i0 _) (i1 _)).mono (by omega))
 · rw [Gl h h1 h2];exact ⟨by simp [Eg],by simp [Eg];omega⟩
 · rw [h];exact ⟨by simp [Eg],by simp [Eg];omega⟩
/-! ### The reference's -/
def nM (a b:List (List Lit)):Cs:=(a++b,decide (((a++b).length:Int)≤256))
def oG (a b:Cs)(times:Bool):Cs:=if !a.2 || !b.2 then ([],false) else if times then Mc a.1 b.1 else nM a.1 b.1
def zR (a b:Cs):Cs:=if !a.2 || !b.2 then ([],false) else nM a.1 b.1
section
variable (T V)
def rnormN (e:Ex)(fs:List Hk):Hk:=fun sign=>
 if e.op==0 then (if (e.val.num==1)==sign then ([[]],true) else ([],true))
 else if e.op==12 then (Ql NF0 fs:Hk) (!sign)
 else if e.op==10 then oG ((Ql NF0 fs:Hk) sign) ((Wn NF0 fs:Hk) sign) sign
 else if e.op==11 then oG ((Ql NF0 fs:Hk) sign) ((Wn NF0 fs:Hk) sign) (!sign)
 else if e.op==9&&Am T V (Ao e)==1 then zR (oG ((Ql NF0 fs:Hk) true) ((Wn NF0 fs:Hk) sign) true) (oG ((Ql NF0 fs:Hk) false) ((Wn NF0 fs:Hk) (!sign)) true)
 else if e.op==9&&(Am T V (Ao e)==0 && !sign) then Eg [⟨two 7 (Ao e) (Bg e),false⟩,⟨two 7 (Bg e) (Ao e),false⟩]
 else Eg [⟨e,!sign⟩]
def rnormS:Ex→Hk:=Rh (rnormN T V)
end
/-- where the program's list is not ok the reference's is not, either; else they are the same -/
def csR (r p:Cs):Prop:=r.2=p.2∧(p.2=true→r=p)
/-- how long the reference's are -/
structure rcOK (n:Nat) (c:Cs):Prop where
 len:c.1.length≤512
 lits:∀x∈c.1,x.length≤n
end

theorem P2 {e:Ex}(h:0<e.args.length):e.args[0]? = some (Ao e):=by
 unfold Ao
 cases ha:e.args with
 | nil=>rw [ha] at h;cases h
 | cons a r=>rfl
theorem R5 {e:Ex}(h:1<e.args.length):e.args[1]? = some (Bg e):=by
  unfold Bg
  cases ha:e.args with
  | nil=>rw [ha] at h;cases h
  | cons a r=>
    cases r with
    | nil=>rw [ha] at h;simp at h
    | cons b r=>rfl
section
variable {T:List Sc} {V:List Va} {e:Ex}
theorem tG (h:(Eb T V e != 0)=true):Jb T V e=([],Eb T V e):=by rw [Jb,if_pos h]
theorem qN (h:(Eb T V e != 0)=false)(h2:(!(Da T V e true).2)=true):Jb T V e=([],17):=by rw [Jb,Ci h,if_pos h2]
theorem rU (h:(Eb T V e != 0)=false)(h2:(!(Da T V e true).2)=false):Jb T V e=((Da T V e true).1,0):=by rw [Jb,Ci h,Ci h2]
end
section
variable {T:List Sc} {V:List Va} {e:Ex}
theorem V8 {a b:Cs}(h:(!a.2 || !b.2)=false):a.2=true∧b.2=true:=by
 cases h1:a.2 <;> cases h2:b.2 <;> simp_all
end
/-! ### Comparing clauses -/
def F1:List Lit→List Lit→Bool
 | [],[]=>true
 | a::r,b::q=>!(a.neg != b.neg || !Lw a.cond b.cond)&&F1 r q
 | _,_=>false
def J5:List (List Lit)→List (List Lit)→Bool
 | [],[]=>true
 | a::r,b::q=>F1 a b&&J5 r q
 | _,_=>false
theorem F2:∀a b:List Lit,F1 a b=true↔a=b
  | [],[]=>by simp [F1]
  | [],b::q=>by simp [F1]
  | a::r,[]=>by simp [F1]
  | a::r,b::q=>by
    have ih:=F2 r q
    rw [F1,Bool.and_eq_true,ih]
    cases a with | mk c n=>
    cases b with | mk d m=>
    have hs:=Tj c d
    cases hn:(n != m) with
    | true => have : n ≠ m := by simpa using hn
              simp [this]
    | false=>
      have:n=m:=by simpa using hn
      subst this
      cases hc:Lw c d with
      | true=>simp [hs.1 hc]
      | false=>
        have:c≠d:=fun h=>by rw [hs.2 h] at hc;cases hc
        simp [this]
theorem Kh:∀a b:List (List Lit),J5 a b=true↔a=b
 | [],[]=>by simp [J5]
 | [],b::q=>by simp [J5]
 | a::r,[]=>by simp [J5]
 | a::r,b::q=>by rw [J5,Bool.and_eq_true,Kh r q,F2];simp
theorem dA {a b:List Lit}(h:((a.length:Int) != (b.length:Int))=true):F1 a b=false:=by
 rw [Bool.eq_false_iff]
 intro h1
 rw [(F2 a b).1 h1] at h;simp at h
theorem gX {a b:List (List Lit)}(h:((a.length:Int) != (b.length:Int))=true):J5 a b=false:=by
 rw [Bool.eq_false_iff]
 intro h1
 rw [(Kh a b).1 h1] at h;simp at h
theorem bG {a b:List Lit}{k:Nat}{x y:Lit}(hx:a[k]? = some x)(hy:b[k]? = some y)(h:(x.neg != y.neg || !Lw x.cond y.cond)=true):F1 a b=false:=by
 rw [Bool.eq_false_iff]
 intro h1
 have:=(F2 a b).1 h1
 subst this
 rw [hx] at hy;cases hy
 rw [jX] at h;simp at h
theorem fY {a b:List (List Lit)}{k:Nat}{x y:List Lit}(hx:a[k]? = some x)(hy:b[k]? = some y)(h:(!F1 x y)=true):J5 a b=false:=by
 rw [Bool.eq_false_iff]
 intro h1
 have:=(Kh a b).1 h1
 subst this
 rw [hx] at hy;cases hy
 rw [(F2 x x).2 rfl] at h;cases h
theorem vO {x y:Lit}(h:(x.neg != y.neg || !Lw x.cond y.cond)=false):x=y:=by
 have:F1 [x] [y]=true:=by rw [F1,h];rfl
 have:=(F2 _ _).1 this
 simpa using this
theorem zF {x y:List Lit}(h:(!F1 x y)=false):x=y:=(F2 x y).1 (by simpa using h)
end Go.Proofs.YtkddpedfbicbeaaGreatDoor
