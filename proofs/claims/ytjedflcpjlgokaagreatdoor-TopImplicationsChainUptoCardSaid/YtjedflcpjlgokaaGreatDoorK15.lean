/-
  Several texts in one: S15, S16, S17, S18, S19, S20, S21. No condition.
-/
import Derived.Test.YtjedflcpjlgokaaGreatDoorK14
import Derived.Test.YtjedflcpjlgokaaGreatDoorK04
set_option linter.unusedVariables false
set_option linter.unusedSimpArgs false
namespace Go.Proofs.YtjedflcpjlgokaaGreatDoor
open Go Go.Aw

def Cx (a b:Ex):Su:=if !(Bh a 1 Kb).2 then (Bh a 1 Kb).1 else (Bh b (-1) (Bh a 1 Kb).1).1
theorem rG {a b:Ex}(hG:Ig [(!(Bh a 1 Kb).2,false)]):Cx a b=(Bh b (-1) (Bh a 1 Kb).1).1:=by
 have h2:(!(Bh a 1 Kb).2)=false:=hG _ (List.mem_singleton.2 rfl)
 unfold Cx;rw [C3 h2]
theorem uX {f:FuncId}{m bs:Nat}{R:List HO}{a b:Ex}{args:List AV}{H:List HO}(hG:Ig [(!(Bh a 1 Kb).2,false)])(hc:Dj Tryz.prog f H args fun r H'=>r = .bool (Bh b (-1) (Bh a 1 Kb).1).2∧∃v,H'=Ng m bs v (Bh b (-1) (Bh a 1 Kb).1).1 R) :
  Dj Tryz.prog f H args fun r H'=>r = .bool (Bh b (-1) (Bh a 1 Kb).1).2∧∃v,H'=Ng m bs v (Cx a b) R:=by
 rw [rG hG];exact hc
theorem btw_f {m bs:Nat}{R:List HO}{v:Value}{a b:Ex}(hG:¬Ig [(!(Bh a 1 Kb).2,false)]):∃u,Ng m bs v (Bh a 1 Kb).1 R=Ng m bs u (Cx a b) R:=by
 have h2:(!(Bh a 1 Kb).2)=true:=by
  rw [←Bool.not_eq_false]
  intro hx
  exact hG fun p hp=>by rw [List.mem_singleton.1 hp];exact hx
 refine ⟨v,?_⟩
 unfold Cx;rw [if_pos h2]
theorem btw_no {a b:Ex}(h:(!(Bh a 1 Kb).2 || !(Bh b (-1) (Bh a 1 Kb).1).2)=true):Cd a b=(qN,false):=by
 unfold Cd
 by_cases h1:(!(Bh a 1 Kb).2)=true
 · rw [if_pos h1]
 · rw [if_neg h1,if_pos (by simpa [Bool.eq_false_iff.2 h1] using h)]
theorem mS {a b:Ex}(h:(!(Bh a 1 Kb).2 || !(Bh b (-1) (Bh a 1 Kb).1).2)=false):Cd a b=Q5 (Cx a b):=by
 have h1:(!(Bh a 1 Kb).2)=false:=by cases hx:(!(Bh a 1 Kb).2) <;> simp_all
 have h2:(!(Bh b (-1) (Bh a 1 Kb).1).2)=false:=by rw [h1] at h;simpa using h
 unfold Cd Cx
 rw [C3 h1,C3 h2,C3 h1]
theorem dL {a b:Ex}(h:(!(Bh a 1 Kb).2 || !(Bh b (-1) (Bh a 1 Kb).1).2)=false)(hp:Di (Cx a b).ts [] []=none):Cd a b=(qN,false):=by
 rw [mS h,Q5,hp]
theorem tQ {a b:Ex}{p m:List Tm}(h:(!(Bh a 1 Kb).2 || !(Bh b (-1) (Bh a 1 Kb).1).2)=false)(hp:Di (Cx a b).ts [] []=some (p,m)):Cd a b=(⟨p,m,(Cx a b).rest⟩,decide ((p.length:Int)≤1)&&decide ((m.length:Int)≤1)):=by
 rw [mS h,Q5,hp]
theorem jG:suOK 0 Kb:=⟨by simp [Kb],by simp [Kb],by simp [Kb]⟩
theorem Yg {a b:Ex}(ha:Dc a=0)(hb:Dc b=0):suOK (At a+At b) (Cx a b):=by
 have h1:suOK (0+At a) (Bh a 1 Kb).1:=Vp a ha (.inl rfl) jG
 unfold Cx
 split
 · exact h1.mono (by omega)
 · exact (Vp b hb (.inr rfl) h1).mono (by omega)
theorem Xb {t:Tm}{b:Int}:∀{ts:List (Tm×Int)},(ts.map (·.1)).Nodup→((H5 t b ts).map (·.1)).Nodup∧∀u,u∈(H5 t b ts).map (·.1)→u=t∨u∈ts.map (·.1)
  | [],_=>by simp [H5]
  | q::r,h=>by
    rw [H5]
    rw [List.map_cons,List.nodup_cons] at h
    split
    · rename_i he
      refine ⟨by simpa using h,fun u hu=>.inr (by simpa using hu)⟩
    · rename_i hne
      obtain ⟨h1,h2⟩:=Xb (t:=t) (b:=b) h.2
      refine ⟨?_,fun u hu=>?_⟩
      · rw [List.map_cons,List.nodup_cons]
        refine ⟨fun hu=>?_,h1⟩
        rcases h2 _ hu with e | hm
        · exact hne e.symm
        · exact h.1 hm
      · rw [List.map_cons,List.mem_cons] at hu
        rcases hu with e | hu
        · right;rw [e];simp
        · rcases h2 _ hu with e | hm
          · exact .inl e
          · right;rw [List.map_cons];exact List.mem_cons_of_mem _ hm
theorem Yo (e:Ex):Dc e=0→∀{b:Int} {s:Su},(s.ts.map (·.1)).Nodup→((Bh e b s).1.ts.map (·.1)).Nodup:=by
 refine Ex.Aaj (P:=fun e=>Dc e=0→∀{b:Int} {s:Su},(s.ts.map (·.1)).Nodup→((Bh e b s).1.ts.map (·.1)).Nodup) (fun e ih hn b s hs=>?_) e
 have hz:=A8 hn
 rw [O0]
 unfold aY
 split
 · exact hs
 ·
  split
  · exact (Xb hs).1
  ·
   have two:(e.op=5∨e.op=6)→∀c,((if !((Qq (fun _ s=>(s,false)) (e.args.map Bh):Mu) b s).2 then (((Qq (fun _ s=>(s,false)) (e.args.map Bh):Mu) b s).1,false) else (Zf (fun _ s=>(s,false)) (e.args.map Bh):Mu) c ((Qq (fun _ s=>(s,false)) (e.args.map Bh):Mu) b s).1).1.ts.map (·.1)).Nodup:=by
    intro ho c
    have hl:=Fh hz.1 (by omega)
    rw [Lc Bh _ (by omega),Mp Bh _ hl]
    have m0:=Ba (show 0<e.args.length by omega)
    have m1:=Bw hl
    have i0:=ih _ m0 (hz.2 _ m0) (b:=b) hs
    split
    · exact i0
    · exact ih _ m1 (hz.2 _ m1) i0
   split
   · rename_i h5;exact two (.inl (by simpa using h5)) b
   ·
    split
    · rename_i h6;exact two (.inr (by simpa using h6)) (0-b)
    · exact hs
theorem Z9 {a b:Ex}(ha:Dc a=0)(hb:Dc b=0):((Cx a b).ts.map (·.1)).Nodup:=by
 have h1:=Yo a ha (b:=1) (s:=Kb) (by simp [Kb])
 unfold Cx
 split
 · exact h1
 · exact Yo b hb h1
theorem zE {ts:List (Tm×Int)}{k:Nat}{q:Tm×Int}(hn:(ts.map (·.1)).Nodup)(h:ts[k]? = some q):Fq q.1 ts=q.2:=by
  induction ts generalizing k with
  | nil=>simp at h
  | cons p r ih=>
    rw [List.map_cons,List.nodup_cons] at hn
    unfold Fq
    rw [List.find?_cons]
    cases k with
    | zero=>
      have:p=q:=by simpa using h
      subst this
      rw [Km.2 rfl];rfl
    | succ k=>
      have hq:r[k]? = some q:=by simpa using h
      have hm:=List.mem_of_getElem? hq
      have hne:bO q.1 p.1=false:=by
        rw [Bool.eq_false_iff]
        intro he
        have:=Km.1 he
        exact hn.1 (by rw [←this];exact List.mem_map_of_mem hm)
      rw [hne]
      exact ih hn.2 hq
theorem wM {ts:List (Tm×Int)}{k:Nat}{q:Tm×Int}(hn:(ts.map (·.1)).Nodup)(h:ts[k]? = some q):match Gy (G4 q.1) (F8 ts) with | some y=>y = .int .i64 q.2 | none=>[AV.int .i64 0] = [.int .i64 q.2]:=by
 have h1:=Nl q.1 ts
 rw [zE hn h] at h1
 exact h1
theorem yG {t:Tm×Int}{r:List (Tm×Int)}{p m:List Tm}(h:(t.2==0)=true):Di (t::r) p m=Di r p m:=by rw [Di,if_pos h]
theorem wZ {t:Tm×Int}{r:List (Tm×Int)}{p m:List Tm}(h:(t.2==0)=false)(h1:(t.2==1)=true):Di (t::r) p m=Di r (p ++ [t.1]) m:=by rw [Di,C3 h,if_pos h1]
theorem wA {t:Tm×Int}{r:List (Tm×Int)}{p m:List Tm}(h:(t.2==0)=false)(h1:(t.2==1)=false)(h2:(t.2 == -1)=true):Di (t::r) p m=Di r p (m ++ [t.1]):=by rw [Di,C3 h,C3 h1,if_pos h2]
theorem xR {t:Tm×Int}{r:List (Tm×Int)}{p m:List Tm}(h:(t.2==0)=false)(h1:(t.2==1)=false)(h2:(t.2 == -1)=false):Di (t::r) p m=none:=by rw [Di,C3 h,C3 h1,C3 h2]

theorem Kd {T:List Sc}{V:List Va}{e:Ex}(hk:KOK T V e)(h:Cm e=true):1<e.args.length:=by
 unfold Cm at h
 have h':e.op=7∨e.op=8∨e.op=9:=by simp at h;omega
 exact Fh (A8 hk.nodes).1 (by omega)
theorem uM {T:List Sc}{V:List Va}{e:Ex}(h:(e.op==1)=true):B0 T V e=true:=by rw [B0,if_pos h]
theorem cQ {T:List Sc}{V:List Va}{e:Ex}(h:(e.op==1)=false)(h2:(!Cm e)=true):B0 T V e=false:=by rw [B0,C3 h,if_pos h2]
theorem uV {T:List Sc}{V:List Va}{e:Ex}(h:(e.op==1)=false)(h2:(!Cm e)=false)(h3:Ch T V e=true):B0 T V e=(Ru (Ap e)&&Ru (Bj e)):=by rw [B0,C3 h,C3 h2,if_pos h3]
theorem tJ {T:List Sc}{V:List Va}{e:Ex}(h:(e.op==1)=false)(h2:(!Cm e)=false)(h3:Ch T V e=false):B0 T V e=(Cd (Ap e) (Bj e)).2:=by rw [B0,C3 h,C3 h2,C3 h3]

theorem Kj {e:Ex}(h:Bt e=0)(ho:(e.op==1||e.op==2)=true):Hr (Dp e)=e:=by
 have ho':e.op=1∨e.op=2:=by simpa using ho
 have hn:=Xh h (by omega)
 unfold Bt at h
 split at h
 · cases h
 split at h
 · cases h
 split at h
 · cases h
 split at h
 · cases h
 rw [if_neg (by simp;omega)] at h
 unfold Bg at h
 have hu:(Dq e.op).1=true:=by rcases ho' with ho | ho <;> rw [ho] <;> rfl
 split at h
 · cases h
 rename_i hf
 cases e with | mk op args var field kind val=>
 simp only at ho' hn hf hu ⊢
 rw [hu] at hf
 simp only [Bool.not_true,Bool.false_and,Bool.false_or,Bool.or_eq_true,not_or,Bool.and_eq_true,not_and,Bool.not_eq_true',bne_iff_ne,ne_eq,Decidable.not_not,Bool.or_eq_false_iff,beq_eq_false_iff_ne] at hf
 have hk:kind=0:=hf.1.2 (by omega)
 have hv:val=v0:=by
  have:=hf.2 ⟨by omega,by omega⟩
  rw [←fA];simpa using this
 have hfd:op=2→field=0:=fun h2=>hf.1.1 (by rw [h2];rfl)
 unfold Hr Dp
 subst hn;subst hk;subst hv
 rfl
abbrev iM:=Int→Su×Bool→Su×Bool
def colN (e:Ex)(fs:List iM):iM:=fun b s=>
 if e.op==0 then (⟨s.1.ts,s.1.rest+b*e.val.num⟩,s.2)
 else if e.op==1||e.op==2 then (⟨H5 (Dp e) b s.1.ts,s.1.rest⟩,s.2)
 else if e.op==5 then (Zf (fun _ s=>(s.1,false)) fs:iM) b ((Qq (fun _ s=>(s.1,false)) fs:iM) b s)
 else if e.op==6 then (Zf (fun _ s=>(s.1,false)) fs:iM) (0-b) ((Qq (fun _ s=>(s.1,false)) fs:iM) b s)
 else (s.1,false)
def colS:Ex→iM:=Pg colN
theorem Np {e:Ex}(h:Bt e=0):(e.op==0)=true∨((e.op==0)=false∧(e.op==1||e.op==2)=true)∨((e.op=5∨e.op=6)∧1<e.args.length)∨((e.op==0)=false∧(e.op==1||e.op==2)=false∧(e.op==5)=false∧(e.op==6)=false):=by
 by_cases h0:e.op=0
 · left;simpa using h0
 by_cases h1:e.op=1∨e.op=2
 · right;left;exact ⟨by simpa using h0,by simpa using h1⟩
 by_cases h5:e.op=5∨e.op=6
 · right;right;left;exact ⟨h5,Fh h (by omega)⟩
 · right;right;right;refine ⟨by simpa using h0,by simp;omega,by simp;omega,by simp;omega⟩
def jS (a b:Ex):Su×Bool:=colS b (-1) (colS a 1 (Kb,true))
def differS (a b:Ex):Gp×Bool:=match Di (jS a b).1.ts [] [] with
 | some (p,m)=>(⟨p,m,(jS a b).1.rest⟩,(jS a b).2&&(decide ((p.length:Int)≤1)&&decide ((m.length:Int)≤1)))
 | none=>(qN,false)
abbrev rTm (ts:List (Tm×Int)):List (List AV):=ts.map fun p=>cE (Hr p.1)
abbrev rCo (ts:List (Tm×Int)):List (List AV):=ts.map fun p=>[AV.int .i64 p.2]
abbrev linH (v u:Value)(ts:List (Tm×Int))(R:List HO):List HO:=.row v (rTm ts).length 30 8 :: .buf u (rCo ts) 3 1::R
abbrev linR (v u:Value)(s:Su)(ok:Bool):AV:=.agg [.row v 8 (rTm s.ts),.val u,.int .i64 s.rest,.bool ok]
def cGpR (g:Gp):List AV:=[.sl 8 (g.plus.map fun t=>cE (Hr t)),.sl 8 (g.minus.map fun t=>cE (Hr t)),.int .i64 g.rest]

structure KC (T:List Sc) (V:List Va) (e:Ex):Prop where
 kok:KOK T V e
 types:D8 T=0
 vars:Hb T V=0
 check:B4 e=0
theorem gW {e:Ex}(h:B4 e=0):At e≤64∧El e≤12∧Dc e=0:=by
 unfold B4 at h
 split at h
 · cases h
 rename_i h1
 split at h
 · cases h
 rename_i h2
 simp only [decide_eq_true_eq] at h1 h2
 exact ⟨by omega,by omega,h⟩
theorem Jn {T:List Sc}{V:List Va}{e:Ex}(h:KC T V e):At e≤64:=(gW h.check).1
theorem kM {T:List Sc}{V:List Va}{e:Ex}(h:KC T V e):C7 T V e=Ce T V e:=by
 unfold C7
 rw [if_neg (by rw [h.types];decide),if_neg (by rw [h.vars];decide),if_neg (by rw [h.check];decide)]
theorem eX {T:List Sc}{V:List Va}{e:Ex}(h:KC T V e):(C7 T V e).1=Ak T V e:=by rw [kM h,Iw h.kok]
theorem eA {T:List Sc}{V:List Va}{e:Ex}(h:(C7 T V e).2=0):KC T V e:=by
 have hk:=(nS h).1
 unfold C7 at h
 by_cases h1:(D8 T != 0)=true
 · rw [if_pos h1] at h;simp only at h;rw [h] at h1;cases h1
 rw [if_neg h1] at h
 by_cases h2:(Hb T V != 0)=true
 · rw [if_pos h2] at h;simp only at h;rw [h] at h2;cases h2
 rw [if_neg h2] at h
 by_cases h3:(B4 e != 0)=true
 · rw [if_pos h3] at h;simp only at h;rw [h] at h3;cases h3
 exact ⟨hk,by simpa using h1,by simpa using h2,by simpa using h3⟩
theorem dZ {T:List Sc}{V:List Va}{e:Ex}(h:(Fg T V e != 0)=false):KC T V e∧Ak T V e=1:=by
 have h0:Fg T V e=0:=by simpa using h
 unfold Fg at h0
 by_cases h1:((C7 T V e).2 != 0)=true
 · rw [if_pos h1] at h0;rw [h0] at h1;cases h1
 ·
  rw [if_neg h1] at h0
  have hk:=eA (by simpa using h1)
  refine ⟨hk,?_⟩
  by_cases h2:((C7 T V e).1 != 1)=true
  · rw [if_pos h2] at h0;cases h0
  · rw [←eX hk];simpa using h2
theorem yZ {T:List Sc}{V:List Va}{e:Ex}(h:KC T V e)(hk:Ak T V e=1):Fg T V e=0:=by
 have h2:(C7 T V e).2=0:=by rw [kM h];exact h.kok.kind
 unfold Fg
 rw [if_neg (by rw [h2];decide),if_neg (by rw [eX h,hk];decide)]
theorem Qh {T:List Sc}{V:List Va}{e a:Ex}(h:KOK T V e)(ha:a∈e.args):Na e.op (Ak T V a) (Ak T V (Ap e))=true:=by
 have hp:e.args≠[]:=by intro hn;rw [hn] at ha;cases ha
 have h1:=(R6 h hp).2.1
 unfold Dm at h1
 have h2:=Hj h1 _ (List.mem_map_of_mem (f:=fun a=>(Ce T V a).1) ha)
 have h0:0<e.args.length:=List.length_pos_iff.2 hp
 have h3:((e.args.map fun a=>(Ce T V a).1).headD 0)=(Ce T V (Ap e)).1:=by
  cases hargs:e.args with
  | nil=>exact absurd hargs hp
  | cons x r=>unfold Ap;rw [hargs];rfl
 rw [h3] at h2
 rw [Iw (Az h ha),Iw (Az h (Ba h0))] at h2
 split at h2
 · assumption
 · cases h2
theorem H8 {T:List Sc}{V:List Va}{e a:Ex}(h:KOK T V e)(ho:e.op=9)(ha:a∈e.args):Ak T V a=Ak T V (Ap e):=by
 have h1:=Qh h ha
 unfold Na at h1
 rw [if_neg (by simp;omega),if_neg (by simp;omega),if_pos (by simp;omega)] at h1
 simpa using h1
def rcmpS (e:Ex):Bool:=(e.op != 7&&e.op != 8)&&e.op != 9

theorem fP:∀g w u,Rep g w u (.sl 1 [[.val (.slice none 0 0)]])→Rep g w u (.sl 1 [[.sl 9 []]]):=fun g w u h=>by
  cases h with
  | sl b o n cap z es hn hc hm hz f hs hr=>
    refine .sl b o n cap 1 _ hn hc hm (fun e he=>by rw [List.mem_singleton.1 he];rfl) f (fun i e hi j x hj=>?_) (fun i e hi j x hj=>?_)
    · cases i with
      | succ i=>simp at hi
      | zero=>
        cases j with
        | succ j=>simp at hi;subst hi;simp at hj
        | zero=>exact hs 0 _ rfl 0 _ rfl
    · cases i with
      | succ i=>simp at hi
      | zero=>
        cases j with
        | succ j=>simp at hi;subst hi;simp at hj
        | zero=>
          simp at hi;subst hi;simp at hj;subst hj
          have:=(hr 0 _ rfl 0 _ rfl).inv_val
          rw [this];exact .sl0 _ _ _ (Nat.zero_le _)

theorem lF {α:Type}{a b:List (List α)}(h:decide ((256:Int)<(a.length:Int)*(b.length:Int))=true):Lx a b=([],false):=by rw [Lx,if_pos h]
theorem eI {α:Type}{a b:List (List α)}(h:decide ((256:Int)<(a.length:Int)*(b.length:Int))=false):Lx a b=(a.flatMap fun x=>b.map fun y=>x++y,true):=by rw [Lx,C3 h]
theorem qE {α:Type}{a b:List (List α)}{k:Nat}{x:List α}(h:a[k]? = some x):((a.take (k+1)).flatMap fun x=>b.map fun y=>x++y)=((a.take k).flatMap fun x=>b.map fun y=>x++y)++b.map fun y=>x++y:=by
 rw [C9 h,List.flatMap_append];simp
theorem fL {α:Type}(a b:List (List α)):(a.flatMap fun x=>b.map fun y=>x++y).length=a.length*b.length:=by
 induction a with
 | nil=>simp
 | cons x r ih=>rw [List.flatMap_cons,List.length_append,ih,List.length_map,List.length_cons,Nat.succ_mul];omega
theorem wT {α:Type}{a b:List (List α)}{k j:Nat}(hk:k<a.length)(hj:j<b.length)(h:decide ((256:Int)<(a.length:Int)*(b.length:Int))=false):k*b.length+j<256:=by
 have h1:a.length*b.length≤256:=by
  have:¬(256:Int)<(a.length:Int)*(b.length:Int):=by simpa using h
  have h2:((a.length*b.length:Nat):Int)=(a.length:Int)*(b.length:Int):=by simp
  omega
 have h2:(k+1)*b.length≤a.length*b.length:=Nat.mul_le_mul_right _ hk
 rw [Nat.succ_mul] at h2
 omega
theorem eG {a b:Cs}(h:(!a.2 || !b.2)=true):Eb a b=([],false):=by rw [Eb,if_pos h]
theorem Zb {a b:Cs}(h:(!a.2 || !b.2)=false):Eb a b=Lx a.1 b.1:=by rw [Eb,C3 h]
theorem mJ {a b:Cs}(h:((!a.2 || !b.2)||decide ((256:Int)<(a.1.length:Int)+(b.1.length:Int)))=true):Iu a b=([],false):=by rw [Iu,if_pos h]
theorem gQ {a b:Cs}(h:((!a.2 || !b.2)||decide ((256:Int)<(a.1.length:Int)+(b.1.length:Int)))=false):Iu a b=(a.1++b.1,true):=by rw [Iu,C3 h]

structure csOK (n:Nat) (c:Cs):Prop where
 len:c.1.length≤256
 lits:∀x∈c.1,x.length≤n
theorem csOK.mono {n m:Nat}{c:Cs}(h:csOK n c)(hm:n≤m):csOK m c:=⟨h.len,fun x hx=>Nat.le_trans (h.lits x hx) hm⟩
theorem aL {n:Nat}:csOK n ([],false):=⟨Nat.zero_le _,fun x hx=>by cases hx⟩
theorem K6 {n m:Nat}{a b:Cs}(ha:csOK n a)(hb:csOK m b):csOK (n+m) (Eb a b):=by
 unfold Eb
 split
 · exact aL
 ·
  unfold Lx
  split
  · exact aL
  ·
   rename_i h
   refine ⟨?_,fun x hx=>?_⟩
   ·
    show (a.1.flatMap fun x=>b.1.map fun y=>x++y).length≤256
    rw [fL]
    have h1:¬(256:Int)<(a.1.length:Int)*(b.1.length:Int):=by simpa using h
    have h2:((a.1.length*b.1.length:Nat):Int)=(a.1.length:Int)*(b.1.length:Int):=by simp
    omega
   ·
    obtain ⟨y,hy,hm⟩:=List.mem_flatMap.1 hx
    obtain ⟨z,hz,rfl⟩:=List.mem_map.1 hm
    have:=ha.lits y hy
    have:=hb.lits z hz
    rw [List.length_append];omega
theorem lO {n:Nat}{a b:Cs}(ha:csOK n a)(hb:csOK n b):csOK n (Iu a b):=by
 unfold Iu
 split
 · exact aL
 ·
  rename_i h
  refine ⟨?_,fun x hx=>?_⟩
  ·
   show (a.1++b.1).length≤256
   simp at h
   rw [List.length_append];omega
  ·
   rcases List.mem_append.1 hx with h | h
   · exact ha.lits x h
   · exact hb.lits x h
section
variable {T:List Sc} {V:List Va}
abbrev xS:Gz:=fun _=>([],false)
theorem F0 {e:Ex}{s:Bool}(h:(e.op==0)=true)(h1:((e.val.num==1)==s)=true):C4 T V e s=([[]],true):=by rw [It,Nw,if_pos h,if_pos h1]
theorem Fv {e:Ex}{s:Bool}(h:(e.op==0)=true)(h1:((e.val.num==1)==s)=false):C4 T V e s=([],true):=by rw [It,Nw,if_pos h,C3 h1]
theorem F5 {e:Ex}{s:Bool}(hl:0<e.args.length)(h:(e.op==12)=true):C4 T V e s=C4 T V (Ap e) (!s):=by
 rw [It,Nw,C3 (by simp at h ⊢;omega),if_pos h,Lc _ _ hl]
theorem Fz {e:Ex}{s:Bool}(hl:1<e.args.length)(h:(e.op==10||e.op==11)=true)(h1:((e.op==10)==s)=true):C4 T V e s=Eb (C4 T V (Ap e) s) (C4 T V (Bj e) s):=by
 rw [It,Nw,C3 (by simp at h ⊢;omega),C3 (by simp at h ⊢;omega),if_pos h,if_pos h1,Lc _ _ (by omega),Mp _ _ hl]
theorem Fw {e:Ex}{s:Bool}(hl:1<e.args.length)(h:(e.op==10||e.op==11)=true)(h1:((e.op==10)==s)=false):C4 T V e s=Iu (C4 T V (Ap e) s) (C4 T V (Bj e) s):=by
 rw [It,Nw,C3 (by simp at h ⊢;omega),C3 (by simp at h ⊢;omega),if_pos h,C3 h1,Lc _ _ (by omega),Mp _ _ hl]
theorem F4 {e:Ex}{s:Bool}(hl:1<e.args.length)(h:(e.op==9)=true)(h1:(Ak T V (Ap e)==1)=true) :
  C4 T V e s=Iu (Eb (C4 T V (Ap e) true) (C4 T V (Bj e) s)) (Eb (C4 T V (Ap e) false) (C4 T V (Bj e) (!s))):=by
 rw [It,Nw,C3 (by simp at h ⊢;omega),C3 (by simp at h ⊢;omega),C3 (by simp at h ⊢;omega),if_pos (by rw [h,h1];rfl),Lc _ _ (by omega),Mp _ _ hl]
theorem Ft {e:Ex}{s:Bool}(h:(e.op==9)=true)(h1:(Ak T V (Ap e)==1)=false)(h2:(Ak T V (Ap e)==0 && !s)=true) :
  C4 T V e s=D4 [⟨two 7 (Ap e) (Bj e),false⟩,⟨two 7 (Bj e) (Ap e),false⟩]:=by
 rw [It,Nw,C3 (by simp at h ⊢;omega),C3 (by simp at h ⊢;omega),C3 (by simp at h ⊢;omega),C3 (by rw [h1,Bool.and_false]),if_pos (by rw [h,h2];rfl)]
theorem Id {e:Ex}{s:Bool}(h:(e.op==9)=true)(h1:(Ak T V (Ap e)==1)=false)(h2:(Ak T V (Ap e)==0 && !s)=false):C4 T V e s=D4 [⟨e,!s⟩]:=by
 rw [It,Nw,C3 (by simp at h ⊢;omega),C3 (by simp at h ⊢;omega),C3 (by simp at h ⊢;omega),C3 (by rw [h1,Bool.and_false]),C3 (by rw [h2,Bool.and_false])]
theorem J3 {e:Ex}{s:Bool}(h0:(e.op==0)=false)(h12:(e.op==12)=false)(h10:(e.op==10||e.op==11)=false)(h:(e.op==9)=false):C4 T V e s=D4 [⟨e,!s⟩]:=by
 rw [It,Nw,C3 h0,C3 h12,C3 h10,C3 (by rw [h];rfl),C3 (by rw [h];rfl)]
theorem Kz {e:Ex}(s:Bool)(hk:KOK T V e) :
    (e.op==0)=true∨((e.op==12)=true∧0<e.args.length)∨((e.op==10||e.op==11)=true∧1<e.args.length)∨((e.op==9)=true∧1<e.args.length∧(Ak T V (Ap e)==1)=true)∨
    ((e.op==9)=true∧1<e.args.length∧(Ak T V (Ap e)==1)=false∧(Ak T V (Ap e)==0 && !s)=true)∨((e.op==0)=false∧(e.op==12)=false∧(e.op==10||e.op==11)=false∧C4 T V e s=D4 [⟨e,!s⟩]∧((e.op==9)=true→(Ak T V (Ap e)==1)=false∧(Ak T V (Ap e)==0 && !s)=false)):=by
  have hz:=A8 hk.nodes
  cases h0:e.op==0 with
  | true=>exact .inl rfl
  | false=>
  cases h12:e.op==12 with
  | true=>exact .inr (.inl ⟨rfl,kO hz.1 (eq_of_beq h12)⟩)
  | false=>
  cases h10:(e.op==10||e.op==11) with
  | true=>exact .inr (.inr (.inl ⟨rfl,Fh hz.1 (by simp at h10;omega)⟩))
  | false=>
  cases h9:e.op==9 with
  | true=>
    have hl:=Fh hz.1 (by simp at h9;omega)
    cases h1:Ak T V (Ap e)==1 with
    | true=>exact .inr (.inr (.inr (.inl ⟨rfl,hl,rfl⟩)))
    | false=>
      cases h2:(Ak T V (Ap e)==0 && !s) with
      | true=>exact .inr (.inr (.inr (.inr (.inl ⟨rfl,hl,rfl,rfl⟩))))
      | false=>exact .inr (.inr (.inr (.inr (.inr ⟨rfl,rfl,rfl,Id h9 h1 h2,fun _=>⟨rfl,rfl⟩⟩))))
  | false=>exact .inr (.inr (.inr (.inr (.inr ⟨rfl,rfl,rfl,J3 h0 h12 h10 h9,fun h=>Bool.noConfusion h⟩))))
theorem F1 (e:Ex):KOK T V e→∀s,csOK (At e) (C4 T V e s):=by
 refine Ex.Aaj (P:=fun e=>KOK T V e→∀s,csOK (At e) (C4 T V e s)) (fun e ih hk s=>?_) e
 have hsz:1≤At e:=by rw [Ek];omega
 rcases Kz s hk with h | ⟨h,hl⟩ | ⟨h,hl⟩ | ⟨h,hl,h1⟩ | ⟨h,hl,h1,h2⟩ | ⟨_,_,_,h,_⟩
 ·
  cases h1:((e.val.num==1)==s) with
  | true=>rw [F0 h h1];exact ⟨by simp,by simp⟩
  | false=>rw [Fv h h1];exact ⟨by simp,by simp⟩
 ·
  rw [F5 hl h]
  exact (ih _ (Ba hl) (Az hk (Ba hl)) _).mono (Nat.le_of_lt (size0 hl))
 ·
  have m0:=Ba (show 0<e.args.length by omega)
  have m1:=Bw hl
  have i0:=ih _ m0 (Az hk m0) s
  have i1:=ih _ m1 (Az hk m1) s
  have hs:=Dl hl
  cases h1:((e.op==10)==s) with
  | true=>rw [Fz hl h h1];exact (K6 i0 i1).mono (by omega)
  | false=>rw [Fw hl h h1];exact lO (i0.mono (by omega)) (i1.mono (by omega))
 ·
  have m0:=Ba (show 0<e.args.length by omega)
  have m1:=Bw hl
  have i0:=ih _ m0 (Az hk m0)
  have i1:=ih _ m1 (Az hk m1)
  have hs:=Dl hl
  rw [F4 hl h h1]
  exact lO ((K6 (i0 _) (i1 _)).mono (by omega)) ((K6 (i0 _) (i1 _)).mono (by omega))
 · rw [Ft h h1 h2];exact ⟨by simp [D4],by simp [D4];omega⟩
 · rw [h];exact ⟨by simp [D4],by simp [D4];omega⟩
def mB (a b:List (List Lit)):Cs:=(a++b,decide (((a++b).length:Int)≤256))
def kL (a b:Cs)(times:Bool):Cs:=if !a.2 || !b.2 then ([],false) else if times then Lx a.1 b.1 else mB a.1 b.1
def xC (a b:Cs):Cs:=if !a.2 || !b.2 then ([],false) else mB a.1 b.1
section
variable (T V)
def rnormN (e:Ex)(fs:List Gz):Gz:=fun sign=>
 if e.op==0 then (if (e.val.num==1)==sign then ([[]],true) else ([],true))
 else if e.op==12 then (Qq xS fs:Gz) (!sign)
 else if e.op==10 then kL ((Qq xS fs:Gz) sign) ((Zf xS fs:Gz) sign) sign
 else if e.op==11 then kL ((Qq xS fs:Gz) sign) ((Zf xS fs:Gz) sign) (!sign)
 else if e.op==9&&Ak T V (Ap e)==1 then xC (kL ((Qq xS fs:Gz) true) ((Zf xS fs:Gz) sign) true) (kL ((Qq xS fs:Gz) false) ((Zf xS fs:Gz) (!sign)) true)
 else if e.op==9&&(Ak T V (Ap e)==0 && !sign) then D4 [⟨two 7 (Ap e) (Bj e),false⟩,⟨two 7 (Bj e) (Ap e),false⟩]
 else D4 [⟨e,!sign⟩]
def rnormS:Ex→Gz:=Pg (rnormN T V)
end
def csR (r p:Cs):Prop:=r.2=p.2∧(p.2=true→r=p)
structure rcOK (n:Nat) (c:Cs):Prop where
 len:c.1.length≤512
 lits:∀x∈c.1,x.length≤n
end

theorem Oq {e:Ex}(h:0<e.args.length):e.args[0]? = some (Ap e):=by
 unfold Ap
 cases ha:e.args with
 | nil=>rw [ha] at h;cases h
 | cons a r=>rfl
theorem Rg {e:Ex}(h:1<e.args.length):e.args[1]? = some (Bj e):=by
  unfold Bj
  cases ha:e.args with
  | nil=>rw [ha] at h;cases h
  | cons a r=>
    cases r with
    | nil=>rw [ha] at h;simp at h
    | cons b r=>rfl
section
variable {T:List Sc} {V:List Va} {e:Ex}
end
section
variable {T:List Sc} {V:List Va} {e:Ex}
theorem U6 {a b:Cs}(h:(!a.2 || !b.2)=false):a.2=true∧b.2=true:=by
 cases h1:a.2 <;> cases h2:b.2 <;> simp_all
end
def dD:List Lit→List Lit→Bool
 | [],[]=>true
 | a::r,b::q=>!(a.neg != b.neg || !rR a.cond b.cond)&&dD r q
 | _,_=>false
def xH:List (List Lit)→List (List Lit)→Bool
 | [],[]=>true
 | a::r,b::q=>dD a b&&xH r q
 | _,_=>false

section
variable {T:List Sc} {V:List Va}
def litE (T:List Sc)(V:List Va)(c:Lit):Int:=if Fg T V c.cond != 0 then Fg T V c.cond else if Sg T V c.cond||(c.neg&&(c.cond.op==9&&Ak T V (Ap c.cond)==0)) then 3 else 0
theorem Xj {α:Type}{f:α→Int}{l:List α}{k:Nat}{a:α}(hk:Aq f (l.take k)=0)(ha:l[k]? = some a)(h:f a≠0):Aq f l=f a:=by
  induction l generalizing k with
  | nil=>simp at ha
  | cons x r ih=>
    cases k with
    | zero => have : x = a := by simpa using ha
              subst this
              rw [Aq,if_pos (by simpa using h)]
    | succ k=>
      rw [List.take_succ_cons,Aq] at hk
      by_cases hx:(f x != 0)=true
      · rw [if_pos hx] at hk;rw [hk] at hx;cases hx
      · rw [if_neg hx] at hk
        rw [Aq,if_neg hx]
        exact ih hk (by simpa using ha)
theorem Wo {α:Type}{f:α→Int}{l:List α}{k:Nat}{a:α}(hk:Aq f (l.take k)=0)(ha:l[k]? = some a)(h:f a=0):Aq f (l.take (k+1))=0:=by
  rw [C9 ha]
  generalize l.take k=m at hk
  induction m with
  | nil=>simp [Aq,h]
  | cons x r ih=>
    rw [Aq] at hk
    by_cases hx:(f x != 0)=true
    · rw [if_pos hx] at hk;rw [hk] at hx;cases hx
    · rw [if_neg hx] at hk
      rw [List.cons_append,Aq,if_neg hx]
      exact ih hk
def Up (T:List Sc)(V:List Va)(l:List Lit):Prop:=∀c∈l,KOK T V c.cond∧At c.cond≤64
theorem Yw {l:Lit}(h:(l.cond.op==1)=true):Aa T V l=(⟨[Dp l.cond],[],0⟩,true):=by rw [Aa,if_pos h]
theorem nD {l:Lit}(h:(l.cond.op==1)=false)(h2:(!Cm l.cond||Ch T V l.cond)=true):Aa T V l=(qN,false):=by rw [Aa,C3 h,if_pos h2]
theorem Zq {l:Lit}(h:(l.cond.op==1)=false)(h2:(!Cm l.cond||Ch T V l.cond)=false):Aa T V l=Cd (Ap l.cond) (Bj l.cond):=by rw [Aa,C3 h,C3 h2]
theorem Uu {l:Lit}(h2:(!Cm l.cond||Ch T V l.cond)=false):Cm l.cond=true:=by
 cases hq:Cm l.cond with
 | true=>rfl
 | false=>rw [hq] at h2;simp at h2
theorem uG {t:Tm}(h:(t.op==2)=true):Ct T V t=(0,1099511627776):=by rw [Ct,if_pos h]
theorem sX {t:Tm}(h:(t.op==2)=false)(h2:(Ak T V (Hr t)==1)=true):Ct T V t=(0,1):=by rw [Ct,C3 h,if_pos h2]
theorem vH {t:Tm}(h:(t.op==2)=false)(h2:(Ak T V (Hr t)==1)=false):Ct T V t=(-1099511627776,1099511627776):=by rw [Ct,C3 h,C3 h2]

theorem X6 (e:Ex):KOK T V e→∀{b:Int} {s:Su},(∀p∈s.ts,KOK T V (Hr p.1))→∀p∈(Bh e b s).1.ts,KOK T V (Hr p.1):=by
  refine Ex.Aaj (P:=fun e=>KOK T V e→∀{b:Int} {s:Su},(∀p∈s.ts,KOK T V (Hr p.1))→∀p∈(Bh e b s).1.ts,KOK T V (Hr p.1)) (fun e ih hk b s hs=>?_) e
  have hz:=A8 hk.nodes
  rcases Np hz.1 with h | ⟨h,h1⟩ | ⟨h,hl⟩ | ⟨h,h1,h2,h3⟩
  · rw [Fe h];exact hs
  · rw [B2 h h1]
    intro p hp
    have key:∀{ts:List (Tm×Int)},(∀p∈ts,KOK T V (Hr p.1))→∀p∈H5 (Dp e) b ts,KOK T V (Hr p.1):=by
      intro ts
      induction ts with
      | nil=>intro _ p hp;rw [H5,List.mem_singleton] at hp;rw [hp];rw [Kj hz.1 h1];exact hk
      | cons q r ihr=>
        intro hts p hp
        rw [H5] at hp
        split at hp
        · rcases List.mem_cons.1 hp with rfl | hp
          · exact hts q (List.mem_cons_self ..)
          · exact hts p (List.mem_cons_of_mem _ hp)
        · rcases List.mem_cons.1 hp with rfl | hp
          · exact hts p (List.mem_cons_self ..)
          · exact ihr (fun p hp=>hts p (List.mem_cons_of_mem _ hp)) p hp
    exact key hs p hp
  · have m0:=Ba (show 0<e.args.length by omega)
    have m1:=Bw hl
    have key:∀c,∀p∈(if !(Bh (Ap e) b s).2 then ((Bh (Ap e) b s).1,false) else Bh (Bj e) c (Bh (Ap e) b s).1).1.ts,KOK T V (Hr p.1):=fun c=>by
      have i0:=ih _ m0 (Az hk m0) (b:=b) hs
      split
      · exact i0
      · exact ih _ m1 (Az hk m1) i0
    rcases h with h | h
    · rw [Jp (c:=b) hl (.inl ⟨h,rfl⟩)];exact key b
    · rw [Jp (c:=0-b) hl (.inr ⟨h,rfl⟩)];exact key _
  · rw [Ge h h1 h2 h3];exact hs
theorem In {P:Tm→Prop}:∀{ts:List (Tm×Int)} {p m p' m':List Tm},(∀t∈ts,P t.1)→(∀t∈p,P t)→(∀t∈m,P t)→Di ts p m=some (p',m')→(∀t∈p',P t)∧∀t∈m',P t
  | [],p,m,p',m',_,hp,hm,h=>by rw [Di] at h;cases h;exact ⟨hp,hm⟩
  | t::r,p,m,p',m',ht,hp,hm,h=>by
    rw [Di] at h
    have hr:∀t∈r,P t.1:=fun x hx=>ht x (List.mem_cons_of_mem _ hx)
    have h0:P t.1:=ht t (List.mem_cons_self ..)
    have snoc:∀{l:List Tm},(∀t∈l,P t)→∀x∈l ++ [t.1],P x:=fun hl x hx=>by
      rcases List.mem_append.1 hx with h | h
      · exact hl x h
      · rw [List.mem_singleton.1 h];exact h0
    split at h
    · exact In hr hp hm h
    · split at h
      · exact In hr (snoc hp) hm h
      · split at h
        · exact In hr hp (snoc hm) h
        · cases h
theorem bZ {a b:Ex}(ha:KOK T V a)(hb:KOK T V b):∀p∈(Cx a b).ts,KOK T V (Hr p.1):=by
 have h1:=X6 a ha (b:=1) (s:=Kb) (fun p hp=>by cases hp)
 unfold Cx
 split
 · exact h1
 · exact X6 b hb h1
structure GOK (T:List Sc) (V:List Va) (g:Gp):Prop where
 plus:∀t∈g.plus,KOK T V (Hr t)
 minus:∀t∈g.minus,KOK T V (Hr t)
 rest : -140737488355328≤g.rest∧g.rest≤140737488355328
 lp:g.plus.length≤128
 lm:g.minus.length≤128
theorem bQ:GOK T V qN:=⟨fun t h=>(by cases h),fun t h=>(by cases h),by simp [qN],by simp [qN],by simp [qN]⟩
theorem O1:∀{ts:List (Tm×Int)} {p m p' m':List Tm},Di ts p m=some (p',m')→p'.length≤p.length+ts.length∧m'.length≤m.length+ts.length
  | [],p,m,p',m',h=>by rw [Di] at h;cases h;simp
  | t::r,p,m,p',m',h=>by
    rw [Di] at h
    split at h
    · have:=O1 h;simp only [List.length_cons];omega
    · split at h
      · have:=O1 h;simp only [List.length_cons,List.length_append,List.length_nil] at this ⊢;omega
      · split at h
        · have:=O1 h;simp only [List.length_cons,List.length_append,List.length_nil] at this ⊢;omega
        · cases h
theorem jT {a b:Ex}(ha:KOK T V a)(hb:KOK T V b)(hs:At a+At b≤128):GOK T V (Cd a b).1:=by
  unfold Cd
  split
  · exact bQ
  rename_i h1
  split
  · exact bQ
  rename_i h2
  have he:(Bh b (-1) (Bh a 1 Kb).1).1=Cx a b:=by unfold Cx;rw [if_neg h1]
  rw [he]
  have ho:=Yg ha.nodes hb.nodes
  unfold Q5
  cases hp:Di (Cx a b).ts [] [] with
  | none=>exact bQ
  | some p=>
    obtain ⟨p,m⟩:=p
    obtain ⟨t1,t2⟩:=In (P:=fun t=>KOK T V (Hr t)) (bZ ha hb) (fun t h=>by cases h) (fun t h=>by cases h) hp
    obtain ⟨l1,l2⟩:=O1 hp
    have hr:=ho.rest
    have hl:=ho.len
    simp only [List.length_nil,Nat.zero_add] at l1 l2
    exact ⟨t1,t2,by simp only;omega,by simp only;omega,by simp only;omega⟩
theorem Qm {l:Lit}(hk:KOK T V l.cond)(hs:At l.cond≤64):GOK T V (Aa T V l).1:=by
  cases h:l.cond.op==1 with
  | true=>
    rw [Yw h]
    refine ⟨fun t ht=>?_,fun t ht=>(by cases ht),by simp,by simp,by simp⟩
    rw [List.mem_singleton.1 ht,Kj (A8 hk.nodes).1 (by rw [h];rfl)]
    exact hk
  | false=>
    cases h2:(!Cm l.cond||Ch T V l.cond) with
    | true=>rw [nD h h2];exact bQ
    | false=>
      rw [Zq h h2]
      have hl:=Kd hk (Uu h2)
      have hs2:=Dl hl
      exact jT (Az hk (Ba (by omega))) (Az hk (Bw hl)) (by omega)
end
end Go.Proofs.YtjedflcpjlgokaaGreatDoor
