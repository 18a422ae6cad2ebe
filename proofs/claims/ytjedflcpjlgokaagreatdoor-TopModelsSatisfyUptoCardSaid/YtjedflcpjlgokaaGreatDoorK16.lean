/-
  Several texts in one: S17, S18, S19, S20. No condition.
-/
import Derived.Test.YtjedflcpjlgokaaGreatDoorK15
set_option linter.unusedVariables false
set_option linter.unusedSimpArgs false
namespace Go.Proofs.YtjedflcpjlgokaaGreatDoor
open Go Go.Aw

theorem Ky {e:Ex}(h:B3 e=0)(ho:(e.op==1||e.op==2)=true):Fx (Dv e)=e:=by
 have ho':e.op=1∨e.op=2:=by simpa using ho
 have hn:=W7 h (by omega)
 unfold B3 at h
 split at h
 · cases h
 split at h
 · cases h
 split at h
 · cases h
 split at h
 · cases h
 rw [if_neg (by simp;omega)] at h
 unfold Br at h
 have hu:(D2 e.op).1=true:=by rcases ho' with ho | ho <;> rw [ho] <;> rfl
 split at h
 · cases h
 rename_i hf
 cases e with | mk op args var field kind val=>
 simp only at ho' hn hf hu ⊢
 rw [hu] at hf
 simp only [Bool.not_true,Bool.false_and,Bool.false_or,Bool.or_eq_true,not_or,Bool.and_eq_true,not_and,Bool.not_eq_true',bne_iff_ne,ne_eq,Decidable.not_not,Bool.or_eq_false_iff,beq_eq_false_iff_ne] at hf
 have hk:kind=0:=hf.1.2 (by omega)
 have hv:val=v0:=by
  have:=hf.2 ⟨by omega,by omega⟩
  rw [←gE];simpa using this
 have hfd:op=2→field=0:=fun h2=>hf.1.1 (by rw [h2];rfl)
 unfold Fx Dv
 subst hn;subst hk;subst hv
 rfl
theorem uH (t u:Tm):Lx (Fx t) (Fx u)=Pq t u:=by
 have h1:Lx (Fx t) (Fx u)=true↔t=u:=by
  rw [pX]
  refine ⟨fun h=>?_,fun h=>by rw [h]⟩
  unfold Fx at h
  cases t;cases u
  simp at h
  simp [h]
 cases hq:Pq t u with
 | true=>exact h1.2 (Ft.1 hq)
 | false=>rw [Bool.eq_false_iff];intro hh;rw [Ft.2 (h1.1 hh)] at hq;cases hq
theorem oZ (t u:Tm):Lx (Fx u) (Fx t)=Pq t u:=by
 rw [uH]
 cases hq:Pq t u with
 | true=>rw [Ft];exact (Ft.1 hq).symm
 | false=>rw [Bool.eq_false_iff];intro hh;rw [Ft.2 (Ft.1 hh).symm] at hq;cases hq
abbrev iP:=Int→Su×Bool→Su×Bool
def iU (e:Ex)(fs:List iP):iP:=fun b s=>
 if e.op==0 then (⟨s.1.ts,s.1.rest+b*e.val.num⟩,s.2)
 else if e.op==1||e.op==2 then (⟨Fv (Dv e) b s.1.ts,s.1.rest⟩,s.2)
 else if e.op==5 then (Ys (fun _ s=>(s.1,false)) fs:iP) b ((Q8 (fun _ s=>(s.1,false)) fs:iP) b s)
 else if e.op==6 then (Ys (fun _ s=>(s.1,false)) fs:iP) (0-b) ((Q8 (fun _ s=>(s.1,false)) fs:iP) b s)
 else (s.1,false)
def Gj:Ex→iP:=P3 iU
theorem Ux (e:Ex):Gj e=iU e (e.args.map Gj):=U5 iU e
theorem Ia {e:Ex}{b:Int}{s:Su×Bool}(h:(e.op==0)=true):Gj e b s=(⟨s.1.ts,s.1.rest+b*e.val.num⟩,s.2):=by rw [Ux,iU,if_pos h]
theorem Jj {e:Ex}{b:Int}{s:Su×Bool}(h:(e.op==0)=false)(h1:(e.op==1||e.op==2)=true):Gj e b s=(⟨Fv (Dv e) b s.1.ts,s.1.rest⟩,s.2):=by rw [Ux,iU,C8 h,if_pos h1]
theorem I6 {e:Ex}{b:Int}{s:Su×Bool}(h:(e.op==0)=false)(h1:(e.op==1||e.op==2)=false)(h2:(e.op==5)=false)(h3:(e.op==6)=false):Gj e b s=(s.1,false):=by rw [Ux,iU,C8 h,C8 h1,C8 h2,C8 h3]
theorem Fj {e:Ex}{b c:Int}{s:Su×Bool}(hl:1<e.args.length)(h:(e.op=5∧c=b)∨(e.op=6∧c=0-b)):Gj e b s=Gj (Cc e) c (Gj (Av e) b s):=by
 rw [Ux,iU]
 rcases h with ⟨h,rfl⟩ | ⟨h,rfl⟩
 · rw [C8 (by simp;omega),C8 (by simp;omega),if_pos (by simpa using h),Jx Gj _ (by omega),K1 Gj _ hl]
 · rw [C8 (by simp;omega),C8 (by simp;omega),C8 (by simp;omega),if_pos (by simpa using h),Jx Gj _ (by omega),K1 Gj _ hl]
theorem Kb {e:Ex}(h:B3 e=0):(e.op==0)=true∨((e.op==0)=false∧(e.op==1||e.op==2)=true)∨((e.op=5∨e.op=6)∧1<e.args.length)∨((e.op==0)=false∧(e.op==1||e.op==2)=false∧(e.op==5)=false∧(e.op==6)=false):=by
 by_cases h0:e.op=0
 · left;simpa using h0
 by_cases h1:e.op=1∨e.op=2
 · right;left;exact ⟨by simpa using h0,by simpa using h1⟩
 by_cases h5:e.op=5∨e.op=6
 · right;right;left;exact ⟨h5,Ei h (by omega)⟩
 · right;right;right;refine ⟨by simpa using h0,by simp;omega,by simp;omega,by simp;omega⟩
theorem Qv:∀{x:Su×Bool},x.2=false→x=(x.1,false)
 | ⟨_,_⟩,h=>by simp only at h;rw [h]
theorem Yh (e:Ex):Ca e=0→∀{b:Int} {s:Su},(Gj e b (s,false)).2=false:=by
 refine Ex.Aav (P:=fun e=>Ca e=0→∀{b:Int} {s:Su},(Gj e b (s,false)).2=false) (fun e ih hn b s=>?_) e
 have hz:=Bc hn
 rcases Kb hz.1 with h | ⟨h,h1⟩ | ⟨h,hl⟩ | ⟨h,h1,h2,h3⟩
 · rw [Ia h]
 · rw [Jj h h1]
 ·
  have m0:=A0 (show 0<e.args.length by omega)
  have m1:=Bk hl
  have key:∀c,(Gj (Cc e) c (Gj (Av e) b (s,false))).2=false:=fun c=>by
   rw [Qv (ih _ m0 (hz.2 _ m0) (b:=b) (s:=s))]
   exact ih _ m1 (hz.2 _ m1)
  rcases h with h | h
  · rw [Fj (c:=b) hl (.inl ⟨h,rfl⟩)];exact key _
  · rw [Fj (c:=0-b) hl (.inr ⟨h,rfl⟩)];exact key _
 · rw [I6 h h1 h2 h3]
theorem Ps (e:Ex):Ca e=0→∀{b:Int} {s:Su} {ok:Bool},((Bg e b s).2=true→Gj e b (s,ok)=((Bg e b s).1,ok))∧((Bg e b s).2=false→(Gj e b (s,ok)).2=false):=by
  refine Ex.Aav (P:=fun e=>Ca e=0→∀{b:Int} {s:Su} {ok:Bool},((Bg e b s).2=true→Gj e b (s,ok)=((Bg e b s).1,ok))∧((Bg e b s).2=false→(Gj e b (s,ok)).2=false)) (fun e ih hn b s ok=>?_) e
  have hz:=Bc hn
  rcases Kb hz.1 with h | ⟨h,h1⟩ | ⟨h,hl⟩ | ⟨h,h1,h2,h3⟩
  · rw [Ia h,Fa h];simp
  · rw [Jj h h1,B8 h h1];simp
  · have m0:=A0 (show 0<e.args.length by omega)
    have m1:=Bk hl
    have key:∀c,Bg e b s=(if !(Bg (Av e) b s).2 then ((Bg (Av e) b s).1,false) else Bg (Cc e) c (Bg (Av e) b s).1)→Gj e b (s,ok)=Gj (Cc e) c (Gj (Av e) b (s,ok))→((Bg e b s).2=true→Gj e b (s,ok)=((Bg e b s).1,ok))∧((Bg e b s).2=false→(Gj e b (s,ok)).2=false):=fun c h1 h2=>by
      rw [h1,h2]
      obtain ⟨i1,i2⟩:=ih _ m0 (hz.2 _ m0) (b:=b) (s:=s) (ok:=ok)
      cases hq:(Bg (Av e) b s).2 with
      | true=>
        rw [i1 hq]
        simp only [Bool.not_true,Bool.false_eq_true,if_false]
        exact ih _ m1 (hz.2 _ m1)
      | false=>
        simp only [Bool.not_false,if_true]
        refine ⟨fun h=>Bool.noConfusion h,fun _=>?_⟩
        rw [Qv (i2 hq)]
        exact Yh _ (hz.2 _ m1)
    rcases h with h | h
    · exact key b (Ik hl (.inl ⟨h,rfl⟩)) (Fj hl (.inl ⟨h,rfl⟩))
    · exact key (0-b) (Ik hl (.inr ⟨h,rfl⟩)) (Fj hl (.inr ⟨h,rfl⟩))
  · rw [I6 h h1 h2 h3,F4 h h1 h2 h3];simp
theorem Qh (e:Ex):Ca e=0→∀{n:Nat} {b:Int} {s:Su×Bool},b=1∨b = -1→suOK n s.1→suOK (n+Ar e) (Gj e b s).1:=by
 refine Ex.Aav (P:=fun e=>Ca e=0→∀{n:Nat} {b:Int} {s:Su×Bool},b=1∨b = -1→suOK n s.1→suOK (n+Ar e) (Gj e b s).1) (fun e ih hn n b s hb hs=>?_) e
 have hz:=Bc hn
 have hsz:1≤Ar e:=by rw [Dp];omega
 rcases Kb hz.1 with h | ⟨h,h1⟩ | ⟨h,hl⟩ | ⟨h,h1,h2,h3⟩
 ·
  rw [Ia h]
  have hc:=L7 hz.1 (by simpa using h)
  refine (show suOK (n+1) _ from ⟨?_,fun p hp=>by have:=hs.coef p hp;omega,by have:=hs.len;simp only;omega⟩).mono (by omega)
  have:=hs.rest
  rcases hb with rfl | rfl <;> simp only <;> omega
 ·
  rw [Jj h h1]
  obtain ⟨h1,h2⟩:=aQ (t:=Dv e) hb hs.coef
  exact (show suOK (n+1) _ from ⟨by have:=hs.rest;simp only;omega,h1,by have:=hs.len;simp only;omega⟩).mono (by omega)
 ·
  have m0:=A0 (show 0<e.args.length by omega)
  have m1:=Bk hl
  have hs2:=Db hl
  have i0:=ih _ m0 (hz.2 _ m0) hb hs
  rcases h with h | h
  · rw [Fj (c:=b) hl (.inl ⟨h,rfl⟩)];exact (ih _ m1 (hz.2 _ m1) hb i0).mono (by omega)
  · rw [Fj (c:=0-b) hl (.inr ⟨h,rfl⟩)];exact (ih _ m1 (hz.2 _ m1) (by omega) i0).mono (by omega)
 · rw [I6 h h1 h2 h3];exact hs.mono (by omega)
def Ee (a b:Ex):Su×Bool:=Gj b (-1) (Gj a 1 (Ir,true))
def Hl (a b:Ex):Gp×Bool:=match C5 (Ee a b).1.ts [] [] with
 | some (p,m)=>(⟨p,m,(Ee a b).1.rest⟩,(Ee a b).2&&(decide ((p.length:Int)≤1)&&decide ((m.length:Int)≤1)))
 | none=>(nV,false)
theorem pG {a b:Ex}(ha:Ca a=0)(hb:Ca b=0):suOK (Ar a+Ar b) (Ee a b).1:=by
 have h1:suOK (0+Ar a) (Gj a 1 (Ir,true)).1:=Qh a ha (.inl rfl) Nl
 exact (Qh b hb (.inr rfl) h1).mono (by omega)
theorem iB {a b:Ex}(ha:Ca a=0)(hb:Ca b=0)(h:(B7 a b).2=true):Hl a b=B7 a b:=by
 unfold B7 at h ⊢
 split at h
 · cases h
 rename_i h1
 rw [if_neg h1]
 split at h
 · cases h
 rename_i h2
 rw [if_neg h2]
 have e1:Gj a 1 (Ir,true)=((Bg a 1 Ir).1,true):=(Ps a ha).1 (by simpa using h1)
 have e2:Gj b (-1) ((Bg a 1 Ir).1,true)=((Bg b (-1) (Bg a 1 Ir).1).1,true):=(Ps b hb).1 (by simpa using h2)
 unfold Hl Ee Or
 rw [e1,e2]
 cases C5 (Bg b (-1) (Bg a 1 Ir).1).1.ts [] [] with
 | none=>rfl
 | some p=>obtain ⟨p,m⟩:=p;simp
theorem hN {a b:Ex}(ha:Ca a=0)(hb:Ca b=0):(Hl a b).2=(B7 a b).2:=by
  have key:(Ee a b).2=false→(Hl a b).2=false:=fun h=>by
    unfold Hl
    cases C5 (Ee a b).1.ts [] [] with
    | none=>rfl
    | some p=>obtain ⟨p,m⟩:=p;simp [h]
  cases hq:(B7 a b).2 with
  | true=>rw [iB ha hb hq];exact hq
  | false=>
    unfold B7 at hq
    split at hq
    · rename_i h1
      refine key ?_
      have e1:=(Ps a ha (b:=1) (s:=Ir) (ok:=true)).2 (by simpa using h1)
      unfold Ee
      rw [Qv e1]
      exact Yh _ hb
    · rename_i h1
      have e1:Gj a 1 (Ir,true)=((Bg a 1 Ir).1,true):=(Ps a ha).1 (by simpa using h1)
      split at hq
      · rename_i h2
        refine key ?_
        unfold Ee
        rw [e1]
        exact (Ps b hb).2 (by simpa using h2)
      · rename_i h2
        have e2:Gj b (-1) ((Bg a 1 Ir).1,true)=((Bg b (-1) (Bg a 1 Ir).1).1,true):=(Ps b hb).1 (by simpa using h2)
        unfold Hl Ee
        unfold Or at hq
        rw [e1,e2]
        cases hp:C5 (Bg b (-1) (Bg a 1 Ir).1).1.ts [] [] with
        | none=>rfl
        | some p=>obtain ⟨p,m⟩:=p;rw [hp] at hq;simpa using hq

abbrev gU (ts:List (Tm×Int)):List (List AV):=ts.map fun p=>cE (Fx p.1)
abbrev Ve (ts:List (Tm×Int)):List (List AV):=ts.map fun p=>[AV.int .i64 p.2]
abbrev Rv (v u:Value)(ts:List (Tm×Int))(R:List HO):List HO:=.row v (gU ts).length 30 8 :: .buf u (Ve ts) 3 1::R
abbrev Up (v u:Value)(s:Su)(ok:Bool):AV:=.agg [.row v 8 (gU s.ts),.val u,.int .i64 s.rest,.bool ok]
theorem Jv {v u:Value}{es:List (List AV)}{r:Int}{ok:Bool}(h:u.oneCell'=true):Be [AV.row v 8 es,.val u,.int .i64 r,.bool ok]=true:=by simp [Be,Nc,h]
theorem Aah {a b:Nat}(h:a≤b):Nat.ble a b=true:=Nat.ble_eq_true_of_le h
theorem bH {t:Tm}{b:Int}:∀{ts:List (Tm×Int)} {k:Nat} {q:Tm×Int},(ts.take k).all (fun q=>!Pq t q.1)=true→ts[k]? = some q→Pq t q.1=true→Fv t b ts=ts.set k (q.1,q.2+b)
  | [],k,q,_,h,_=>by simp at h
  | p::r,0,q,_,h,he=>by
    have:p=q:=by simpa using h
    subst this
    rw [Fv,if_pos (Ft.1 he)];rfl
  | p::r,k+1,q,h1,h,he=>by
    simp only [List.take_succ_cons,List.all_cons,Bool.and_eq_true] at h1
    have hne:¬t=p.1:=fun hh=>by rw [Ft.2 hh] at h1;simp at h1
    rw [Fv,if_neg hne,bH h1.2 (by simpa using h) he];rfl
theorem Vr {t:Tm}{b:Int}:∀{ts:List (Tm×Int)},ts.all (fun q=>!Pq t q.1)=true→Fv t b ts=ts ++ [(t,b)]
  | [],_=>rfl
  | p::r,h1=>by
    simp only [List.all_cons,Bool.and_eq_true] at h1
    have hne:¬t=p.1:=fun hh=>by rw [Ft.2 hh] at h1;simp at h1
    rw [Fv,if_neg hne,Vr h1.2];rfl
theorem lD {ts:List (Tm×Int)}{k:Nat}{q:Tm×Int}{x:Int}(h:ts[k]? = some q):gU (ts.set k (q.1,x))=gU ts:=by
 refine List.ext_getElem? fun i=>?_
 simp only [gU,List.getElem?_map,List.getElem?_set]
 split
 ·
  rename_i hi;subst hi
  rw [h]
  split
  · rfl
  · rename_i hl;exact absurd (A4 h) hl
 · rfl
theorem kW {ts:List (Tm×Int)}{k:Nat}{t:Tm}{x:Int}:Ve (ts.set k (t,x))=(Ve ts).set k [AV.int .i64 x]:=by simp [Ve,List.map_set]
theorem Rb (ts:List (Tm×Int)):(Ve ts).flatten=ts.map fun p=>AV.int .i64 p.2:=by
 induction ts with
 | nil=>rfl
 | cons p r ih=>simp only [Ve,List.map_cons,List.flatten_cons] at ih ⊢;rw [ih];rfl
theorem zW (ts:List (Tm×Int)):∀e∈Ve ts,e.length=1:=by
 intro e he
 obtain ⟨p,_,rfl⟩:=List.mem_map.1 he
 rfl
theorem rCo_at {ts:List (Tm×Int)}{k:Nat}{q:Tm×Int}{J:List AV}(h:ts[k]? = some q):((Ve ts).flatten++J)[0+((k:Int)).toNat*1]? = some (.int .i64 q.2):=by
 have hl:=A4 h
 rw [show 0+((k:Int)).toNat*1=k by omega,Rb,List.getElem?_append_left (by simpa using hl),List.getElem?_map,h];rfl
theorem rCo_le {ts:List (Tm×Int)}{k:Nat}{q:Tm×Int}{J:List AV}(h:ts[k]? = some q):Nat.ble (0+((k:Int)).toNat*1+1) ((Ve ts).flatten++J).length=true:=by
 have hl:=A4 h
 refine Aah ?_
 rw [List.length_append,Rb,List.length_map]
 omega
theorem wM {ts:List (Tm×Int)}{k:Nat}{q:Tm×Int}{J:List AV}{x:Int}(h:ts[k]? = some q):D7 ((Ve ts).flatten++J) (0+((k:Int)).toNat*1) [.int .i64 x]=((Ve ts).set k [AV.int .i64 x]).flatten++J:=by
 have hl:=A4 h
 rw [show 0+((k:Int)).toNat*1=k by omega]
 have e1:(Ve ts).set k [AV.int .i64 x]=Ve (ts.set k (q.1,x)):=by rw [kW]
 rw [e1,Rb,Rb,List.map_set]
 unfold D7
 rw [List.take_append_of_le_length (by simp;omega),List.drop_append_of_le_length (by simp;omega)]
 have hm:k<(ts.map fun p=>AV.int .i64 p.2).length:=by simpa using hl
 rw [List.set_eq_take_append_cons_drop,if_pos hm]
 simp
theorem aS {ts:List (Tm×Int)}{k:Nat}{x:List AV}:((Ve ts).set k x).length=(Ve ts).length:=List.length_set ..
theorem vI {ts:List (Tm×Int)}{k:Nat}{x:Int}:∀e∈(Ve ts).set k [AV.int .i64 x],e.length=1:=by
 intro e he
 rcases List.mem_or_eq_of_mem_set he with h | rfl
 · exact zW ts e h
 · rfl
theorem uO {v u:Value}{s:Su}{ok:Bool}{t:Tm}{b:Int}{k:Nat}{q:Tm×Int}(h1:(s.ts.take k).all (fun q=>!Pq t q.1)=true)(h:s.ts[k]? = some q)(he:Pq t q.1=true):AV.agg [.row v 8 (gU s.ts),.val u,.int .i64 s.rest,.bool ok]=Up v u ⟨Fv t b s.ts,s.rest⟩ ok:=by
 simp only [Up]
 rw [bH h1 h he,lD h]
theorem rJ {v u:Value}{R:List HO}{s:Su}{t:Tm}{b:Int}{k:Nat}{q:Tm×Int}(h1:(s.ts.take k).all (fun q=>!Pq t q.1)=true)(h:s.ts[k]? = some q)(he:Pq t q.1=true):(HO.row v (gU s.ts).length 30 8 :: .buf u ((Ve s.ts).set k [AV.int .i64 (q.2+b)]) 3 1::R)=Rv v u (Fv t b s.ts) R:=by
 simp only [Rv]
 rw [bH h1 h he,lD h,kW]
theorem sH {v u:Value}{s:Su}{ok:Bool}{t:Tm}{b:Int}(h1:s.ts.all (fun q=>!Pq t q.1)=true):AV.agg [.row v 8 (gU s.ts ++ [cE (Fx t)]),.val u,.int .i64 s.rest,.bool ok]=Up v u ⟨Fv t b s.ts,s.rest⟩ ok:=by
 simp only [Up]
 rw [Vr h1]
 simp [gU]
theorem vB {v u:Value}{R:List HO}{s:Su}{t:Tm}{b:Int}(h1:s.ts.all (fun q=>!Pq t q.1)=true):(HO.row v (gU s.ts ++ [cE (Fx t)]).length 30 8 :: .buf u (Ve s.ts ++ [[AV.int .i64 b]]) 3 1::R)=Rv v u (Fv t b s.ts) R:=by
 simp only [Rv]
 rw [Vr h1]
 simp [gU,Ve]
theorem rCo_ne {ts:List (Tm×Int)}{k:Nat}{q:Tm×Int}(h:ts[k]? = some q):Ve ts≠[]:=by
 intro hn
 have:=A4 h
 have h2:(Ve ts).length=0:=by rw [hn];rfl
 rw [List.length_map] at h2
 omega
theorem Co {e:Ex}{b:Int}{s X:Su×Bool}{R H:List HO}{r:AV}(h:Gj e b s=X)(k:∃v' u',u'.oneCell'=true∧r=Up v' u' X.1 X.2∧H=Rv v' u' X.1.ts R):∃v' u',u'.oneCell'=true∧r=Up v' u' (Gj e b s).1 (Gj e b s).2∧H=Rv v' u' (Gj e b s).1.ts R:=by rw [h];exact k
def cGpR (g:Gp):List AV:=[.sl 8 (g.plus.map fun t=>cE (Fx t)),.sl 8 (g.minus.map fun t=>cE (Fx t)),.int .i64 g.rest]
theorem dif_no {a b:Ex}(hp:C5 (Ee a b).1.ts [] []=none):Hl a b=(nV,false):=by rw [Hl,hp]
theorem xR {a b:Ex}{p m:List Tm}(hp:C5 (Ee a b).1.ts [] []=some (p,m)):Hl a b=(⟨p,m,(Ee a b).1.rest⟩,((Ee a b).2&&decide ((p.length:Int)≤1))&&decide ((m.length:Int)≤1)):=by rw [Hl,hp,Bool.and_assoc]
theorem qP {t:Tm×Int}{r:List (Tm×Int)}{p m:List Tm}(h:(t.2==0)=false)(h1:(t.2==1)=false)(h2:(t.2 == -1)=false):C5 (t::r) p m=none:=kZ h h1 h2
theorem one_ne {x:Int}(h:(x==1)=true):(x==0)=false:=by simp at h ⊢;omega
theorem yT {x:Int}(h:(x == -1)=true):(x==0)=false:=by simp at h ⊢;omega
theorem bne_ne {x:Int}(h:(x != 0)=true):(x==0)=false:=by simpa using h
theorem bne_eq {x:Int}(h:(x != 0)=false):(x==0)=true:=by simpa using h

structure KC (T:List Sc) (V:List Va) (e:Ex):Prop where
 kok:KOK T V e
 types:Ep T=0
 vars:Iv T V=0
 check:B4 e=0
theorem Wt {e:Ex}(h:B4 e=0):Ar e≤64∧Ct e≤12∧Ca e=0:=by
 unfold B4 at h
 split at h
 · cases h
 rename_i h1
 split at h
 · cases h
 rename_i h2
 simp only [decide_eq_true_eq] at h1 h2
 exact ⟨by omega,by omega,h⟩
theorem sC {e:Ex}(h1:Ar e≤64)(h2:Ct e≤12)(h3:Ca e=0):B4 e=0:=by
 unfold B4
 rw [if_neg (by simp;omega),if_neg (by simp;omega)]
 exact h3
theorem nX {e a:Ex}(h:B4 e=0)(ha:a∈e.args):B4 a=0:=by
 obtain ⟨h1,h2,h3⟩:=Wt h
 have:=Fe ha
 have:=nL ha
 exact sC (by omega) (by omega) ((Bc h3).2 a ha)
theorem iA {T:List Sc}{V:List Va}{e a:Ex}(h:KC T V e)(ha:a∈e.args):KC T V a:=⟨A2 h.kok ha,h.types,h.vars,nX h.check ha⟩
theorem Jy {T:List Sc}{V:List Va}{e:Ex}(h:KC T V e):Ar e≤64:=(Wt h.check).1
theorem mR {T:List Sc}{V:List Va}{e:Ex}(h:KC T V e):Cn T V e=Cj T V e:=by
 unfold Cn
 rw [if_neg (by rw [h.types];decide),if_neg (by rw [h.vars];decide),if_neg (by rw [h.check];decide)]
theorem Rk {T:List Sc}{V:List Va}{e:Ex}(h:KC T V e):(Cn T V e).1=An T V e:=by rw [mR h,Jb h.kok]
theorem fU {T:List Sc}{V:List Va}{e:Ex}(h:(Cn T V e).2=0):KC T V e:=by
 have hk:=(X8 h).1
 unfold Cn at h
 by_cases h1:(Ep T != 0)=true
 · rw [if_pos h1] at h;simp only at h;rw [h] at h1;cases h1
 rw [if_neg h1] at h
 by_cases h2:(Iv T V != 0)=true
 · rw [if_pos h2] at h;simp only at h;rw [h] at h2;cases h2
 rw [if_neg h2] at h
 by_cases h3:(B4 e != 0)=true
 · rw [if_pos h3] at h;simp only at h;rw [h] at h3;cases h3
 exact ⟨hk,by simpa using h1,by simpa using h2,by simpa using h3⟩
theorem O3 {T:List Sc}{V:List Va}{e:Ex}(h:(D1 T V e != 0)=false):KC T V e∧An T V e=1:=by
 have h0:D1 T V e=0:=by simpa using h
 unfold D1 at h0
 by_cases h1:((Cn T V e).2 != 0)=true
 · rw [if_pos h1] at h0;rw [h0] at h1;cases h1
 ·
  rw [if_neg h1] at h0
  have hk:=fU (by simpa using h1)
  refine ⟨hk,?_⟩
  by_cases h2:((Cn T V e).1 != 1)=true
  · rw [if_pos h2] at h0;cases h0
  · rw [←Rk hk];simpa using h2
theorem kJ {T:List Sc}{V:List Va}{e:Ex}(h:KC T V e)(hk:An T V e=1):D1 T V e=0:=by
 have h2:(Cn T V e).2=0:=by rw [mR h];exact h.kok.kind
 unfold D1
 rw [if_neg (by rw [h2];decide),if_neg (by rw [Rk h,hk];decide)]
theorem Oj {T:List Sc}{V:List Va}{e a:Ex}(h:KOK T V e)(ha:a∈e.args):Nu e.op (An T V a) (An T V (Av e))=true:=by
 have hp:e.args≠[]:=by intro hn;rw [hn] at ha;cases ha
 have h1:=(Sd h hp).2.1
 unfold D0 at h1
 have h2:=Gy h1 _ (List.mem_map_of_mem (f:=fun a=>(Cj T V a).1) ha)
 have h0:0<e.args.length:=List.length_pos_iff.2 hp
 have h3:((e.args.map fun a=>(Cj T V a).1).headD 0)=(Cj T V (Av e)).1:=by
  cases hargs:e.args with
  | nil=>exact absurd hargs hp
  | cons x r=>unfold Av;rw [hargs];rfl
 rw [h3] at h2
 rw [Jb (A2 h ha),Jb (A2 h (A0 h0))] at h2
 split at h2
 · assumption
 · cases h2
theorem yF {T:List Sc}{V:List Va}{e a:Ex}(h:KOK T V e)(ho:e.op=5∨e.op=6∨e.op=7∨e.op=8)(ha:a∈e.args):An T V a=0:=by
 have h1:=Oj h ha
 unfold Nu at h1
 rw [if_pos (by simp;omega)] at h1
 simpa using h1
theorem O6 {T:List Sc}{V:List Va}{e a:Ex}(h:KOK T V e)(ho:e.op=9)(ha:a∈e.args):An T V a=An T V (Av e):=by
 have h1:=Oj h ha
 unfold Nu at h1
 rw [if_neg (by simp;omega),if_neg (by simp;omega),if_pos (by simp;omega)] at h1
 simpa using h1
def rA (e:Ex):Bool:=(e.op != 7&&e.op != 8)&&e.op != 9
theorem lZ (e:Ex):rA e = !Cb e:=by
 unfold rA Cb
 cases h7:e.op==7 <;> cases h8:e.op==8 <;> cases h9:e.op==9 <;> simp [bne,h7,h8,h9]
theorem rsim_2 {T:List Sc}{V:List Va}{e:Ex}(h:(e.op==1)=false)(h2:((e.op != 7&&e.op != 8)&&e.op != 9)=true):Ck T V e=false:=Vh h (by rw [←lZ];exact h2)
theorem Xl {e:Ex}(h2:((e.op != 7&&e.op != 8)&&e.op != 9)=false):Cb e=true:=by
 have:rA e=false:=h2
 rw [lZ] at this;simpa using this
theorem uF {T:List Sc}{V:List Va}{e:Ex}(hk:KOK T V e)(hc:Cb e=true):(An T V (Av e)==2)=Dl T V e:=by
  unfold Dl
  cases h9:e.op==9 with
  | true=>rfl
  | false=>
    have h2:=Je hk hc
    have hop:e.op=7∨e.op=8:=by unfold Cb at hc;rw [h9] at hc;simpa using hc
    rw [yF hk (by omega) (A0 (by omega))];rfl
theorem rsim_3 {T:List Sc}{V:List Va}{e:Ex}(hk:KOK T V e)(h:(e.op==1)=false)(h2:((e.op != 7&&e.op != 8)&&e.op != 9)=false)(h3:(An T V (Av e)==2)=true):Ck T V e=(Lq (Av e)&&Lq (Cc e)):=
 eO h (by rw [Xl h2];rfl) (by rw [←uF hk (Xl h2)];exact h3)
theorem rsim_4 {T:List Sc}{V:List Va}{e:Ex}(hk:KOK T V e)(h:(e.op==1)=false)(h2:((e.op != 7&&e.op != 8)&&e.op != 9)=false)(h3:(An T V (Av e)==2)=false)(hd:(Hl (Av e) (Cc e)).2=(B7 (Av e) (Cc e)).2):Ck T V e=(Hl (Av e) (Cc e)).2:=by
 rw [hd]
 exact gA h (by rw [Xl h2];rfl) (by rw [←uF hk (Xl h2)];exact h3)
theorem rlog_1 {T:List Sc}{V:List Va}{e:Ex}(h:(e.op==9)=true):C6 T V e=(An T V (Av e)==1):=by rw [C6,if_pos h]
theorem sW {T:List Sc}{V:List Va}{e:Ex}(h:(e.op==9)=false):C6 T V e=(((e.op==10||e.op==11)||e.op==12)||e.op==0):=by rw [C6,C8 h]

theorem gC:∀g w u,Rep g w u (.sl 1 [[.val (.slice none 0 0)]])→Rep g w u (.sl 1 [[.sl 9 []]]):=fun g w u h=>by
  cases h with
  | sl b o n cap z es hn hc hm hz f hs hr=>
    refine .sl b o n cap 1 _ hn hc hm (fun e he=>by rw [List.mem_singleton.1 he];rfl) f (fun i e hi j x hj=>?_) (fun i e hi j x hj=>?_)
    · cases i with
      | succ i=>simp at hi
      | zero=>
        cases j with
        | succ j=>simp at hi;subst hi;simp at hj
        | zero=>exact hs 0 _ rfl 0 _ rfl
    · cases i with
      | succ i=>simp at hi
      | zero=>
        cases j with
        | succ j=>simp at hi;subst hi;simp at hj
        | zero=>
          simp at hi;subst hi;simp at hj;subst hj
          have:=(hr 0 _ rfl 0 _ rfl).inv_val
          rw [this];exact .sl0 _ _ _ (Nat.zero_le _)

theorem yY {α:Type}{a b:List (List α)}(h:decide ((256:Int)<(a.length:Int)*(b.length:Int))=true):Lh a b=([],false):=by rw [Lh,if_pos h]
theorem sS {α:Type}{a b:List (List α)}(h:decide ((256:Int)<(a.length:Int)*(b.length:Int))=false):Lh a b=(a.flatMap fun x=>b.map fun y=>x++y,true):=by rw [Lh,C8 h]
theorem pD {α:Type}{a b:List (List α)}{k:Nat}{x:List α}(h:a[k]? = some x):((a.take (k+1)).flatMap fun x=>b.map fun y=>x++y)=((a.take k).flatMap fun x=>b.map fun y=>x++y)++b.map fun y=>x++y:=by
 rw [C4 h,List.flatMap_append];simp
theorem eD {α:Type}(a b:List (List α)):(a.flatMap fun x=>b.map fun y=>x++y).length=a.length*b.length:=by
 induction a with
 | nil=>simp
 | cons x r ih=>rw [List.flatMap_cons,List.length_append,ih,List.length_map,List.length_cons,Nat.succ_mul];omega
theorem wR {α:Type}{a b:List (List α)}{k j:Nat}(hk:k<a.length)(hj:j<b.length)(h:decide ((256:Int)<(a.length:Int)*(b.length:Int))=false):k*b.length+j<256:=by
 have h1:a.length*b.length≤256:=by
  have:¬(256:Int)<(a.length:Int)*(b.length:Int):=by simpa using h
  have h2:((a.length*b.length:Nat):Int)=(a.length:Int)*(b.length:Int):=by simp
  omega
 have h2:(k+1)*b.length≤a.length*b.length:=Nat.mul_le_mul_right _ hk
 rw [Nat.succ_mul] at h2
 omega
theorem vV {a b:Cs}(h:(!a.2 || !b.2)=true):Ek a b=([],false):=by rw [Ek,if_pos h]
theorem nF {a b:Cs}(h:(!a.2 || !b.2)=false):Ek a b=Lh a.1 b.1:=by rw [Ek,C8 h]
theorem xK {a b:Cs}(h:((!a.2 || !b.2)||decide ((256:Int)<(a.1.length:Int)+(b.1.length:Int)))=true):Ie a b=([],false):=by rw [Ie,if_pos h]
theorem uY {a b:Cs}(h:((!a.2 || !b.2)||decide ((256:Int)<(a.1.length:Int)+(b.1.length:Int)))=false):Ie a b=(a.1++b.1,true):=by rw [Ie,C8 h]

structure csOK (n:Nat) (c:Cs):Prop where
 len:c.1.length≤256
 lits:∀x∈c.1,x.length≤n
theorem csOK.mono {n m:Nat}{c:Cs}(h:csOK n c)(hm:n≤m):csOK m c:=⟨h.len,fun x hx=>Nat.le_trans (h.lits x hx) hm⟩
theorem cB {n:Nat}:csOK n ([],false):=⟨Nat.zero_le _,fun x hx=>by cases hx⟩
theorem Ml {n m:Nat}{a b:Cs}(ha:csOK n a)(hb:csOK m b):csOK (n+m) (Ek a b):=by
 unfold Ek
 split
 · exact cB
 ·
  unfold Lh
  split
  · exact cB
  ·
   rename_i h
   refine ⟨?_,fun x hx=>?_⟩
   ·
    show (a.1.flatMap fun x=>b.1.map fun y=>x++y).length≤256
    rw [eD]
    have h1:¬(256:Int)<(a.1.length:Int)*(b.1.length:Int):=by simpa using h
    have h2:((a.1.length*b.1.length:Nat):Int)=(a.1.length:Int)*(b.1.length:Int):=by simp
    omega
   ·
    obtain ⟨y,hy,hm⟩:=List.mem_flatMap.1 hx
    obtain ⟨z,hz,rfl⟩:=List.mem_map.1 hm
    have:=ha.lits y hy
    have:=hb.lits z hz
    rw [List.length_append];omega
theorem mM {n:Nat}{a b:Cs}(ha:csOK n a)(hb:csOK n b):csOK n (Ie a b):=by
 unfold Ie
 split
 · exact cB
 ·
  rename_i h
  refine ⟨?_,fun x hx=>?_⟩
  ·
   show (a.1++b.1).length≤256
   simp at h
   rw [List.length_append];omega
  ·
   rcases List.mem_append.1 hx with h | h
   · exact ha.lits x h
   · exact hb.lits x h
section
variable {T:List Sc} {V:List Va}
abbrev xU:G9:=fun _=>([],false)
theorem Fq {e:Ex}{s:Bool}(h:(e.op==0)=true)(h1:((e.val.num==1)==s)=true):Cl T V e s=([[]],true):=by rw [I3,Oh,if_pos h,if_pos h1]
theorem Fm {e:Ex}{s:Bool}(h:(e.op==0)=true)(h1:((e.val.num==1)==s)=false):Cl T V e s=([],true):=by rw [I3,Oh,if_pos h,C8 h1]
theorem Fp {e:Ex}{s:Bool}(hl:0<e.args.length)(h:(e.op==12)=true):Cl T V e s=Cl T V (Av e) (!s):=by
 rw [I3,Oh,C8 (by simp at h ⊢;omega),if_pos h,Jx _ _ hl]
theorem Fs {e:Ex}{s:Bool}(hl:1<e.args.length)(h:(e.op==10||e.op==11)=true)(h1:((e.op==10)==s)=true):Cl T V e s=Ek (Cl T V (Av e) s) (Cl T V (Cc e) s):=by
 rw [I3,Oh,C8 (by simp at h ⊢;omega),C8 (by simp at h ⊢;omega),if_pos h,if_pos h1,Jx _ _ (by omega),K1 _ _ hl]
theorem Fl {e:Ex}{s:Bool}(hl:1<e.args.length)(h:(e.op==10||e.op==11)=true)(h1:((e.op==10)==s)=false):Cl T V e s=Ie (Cl T V (Av e) s) (Cl T V (Cc e) s):=by
 rw [I3,Oh,C8 (by simp at h ⊢;omega),C8 (by simp at h ⊢;omega),if_pos h,C8 h1,Jx _ _ (by omega),K1 _ _ hl]
theorem Fr {e:Ex}{s:Bool}(hl:1<e.args.length)(h:(e.op==9)=true)(h1:(An T V (Av e)==1)=true) :
  Cl T V e s=Ie (Ek (Cl T V (Av e) true) (Cl T V (Cc e) s)) (Ek (Cl T V (Av e) false) (Cl T V (Cc e) (!s))):=by
 rw [I3,Oh,C8 (by simp at h ⊢;omega),C8 (by simp at h ⊢;omega),C8 (by simp at h ⊢;omega),if_pos (by rw [h,h1];rfl),Jx _ _ (by omega),K1 _ _ hl]
theorem Fk {e:Ex}{s:Bool}(h:(e.op==9)=true)(h1:(An T V (Av e)==1)=false)(h2:(An T V (Av e)==0 && !s)=true) :
  Cl T V e s=D9 [⟨two 7 (Av e) (Cc e),false⟩,⟨two 7 (Cc e) (Av e),false⟩]:=by
 rw [I3,Oh,C8 (by simp at h ⊢;omega),C8 (by simp at h ⊢;omega),C8 (by simp at h ⊢;omega),C8 (by rw [h1,Bool.and_false]),if_pos (by rw [h,h2];rfl)]
theorem Io {e:Ex}{s:Bool}(h:(e.op==9)=true)(h1:(An T V (Av e)==1)=false)(h2:(An T V (Av e)==0 && !s)=false):Cl T V e s=D9 [⟨e,!s⟩]:=by
 rw [I3,Oh,C8 (by simp at h ⊢;omega),C8 (by simp at h ⊢;omega),C8 (by simp at h ⊢;omega),C8 (by rw [h1,Bool.and_false]),C8 (by rw [h2,Bool.and_false])]
theorem Kn {e:Ex}{s:Bool}(h0:(e.op==0)=false)(h12:(e.op==12)=false)(h10:(e.op==10||e.op==11)=false)(h:(e.op==9)=false):Cl T V e s=D9 [⟨e,!s⟩]:=by
 rw [I3,Oh,C8 h0,C8 h12,C8 h10,C8 (by rw [h];rfl),C8 (by rw [h];rfl)]
theorem It {e:Ex}(s:Bool)(hk:KOK T V e) :
    (e.op==0)=true∨((e.op==12)=true∧0<e.args.length)∨((e.op==10||e.op==11)=true∧1<e.args.length)∨((e.op==9)=true∧1<e.args.length∧(An T V (Av e)==1)=true)∨
    ((e.op==9)=true∧1<e.args.length∧(An T V (Av e)==1)=false∧(An T V (Av e)==0 && !s)=true)∨((e.op==0)=false∧(e.op==12)=false∧(e.op==10||e.op==11)=false∧Cl T V e s=D9 [⟨e,!s⟩]∧((e.op==9)=true→(An T V (Av e)==1)=false∧(An T V (Av e)==0 && !s)=false)):=by
  have hz:=Bc hk.nodes
  cases h0:e.op==0 with
  | true=>exact .inl rfl
  | false=>
  cases h12:e.op==12 with
  | true=>exact .inr (.inl ⟨rfl,lL hz.1 (eq_of_beq h12)⟩)
  | false=>
  cases h10:(e.op==10||e.op==11) with
  | true=>exact .inr (.inr (.inl ⟨rfl,Ei hz.1 (by simp at h10;omega)⟩))
  | false=>
  cases h9:e.op==9 with
  | true=>
    have hl:=Ei hz.1 (by simp at h9;omega)
    cases h1:An T V (Av e)==1 with
    | true=>exact .inr (.inr (.inr (.inl ⟨rfl,hl,rfl⟩)))
    | false=>
      cases h2:(An T V (Av e)==0 && !s) with
      | true=>exact .inr (.inr (.inr (.inr (.inl ⟨rfl,hl,rfl,rfl⟩))))
      | false=>exact .inr (.inr (.inr (.inr (.inr ⟨rfl,rfl,rfl,Io h9 h1 h2,fun _=>⟨rfl,rfl⟩⟩))))
  | false=>exact .inr (.inr (.inr (.inr (.inr ⟨rfl,rfl,rfl,Kn h0 h12 h10 h9,fun h=>Bool.noConfusion h⟩))))
theorem H5 (e:Ex):KOK T V e→∀s,csOK (Ar e) (Cl T V e s):=by
 refine Ex.Aav (P:=fun e=>KOK T V e→∀s,csOK (Ar e) (Cl T V e s)) (fun e ih hk s=>?_) e
 have hsz:1≤Ar e:=by rw [Dp];omega
 rcases It s hk with h | ⟨h,hl⟩ | ⟨h,hl⟩ | ⟨h,hl,h1⟩ | ⟨h,hl,h1,h2⟩ | ⟨_,_,_,h,_⟩
 ·
  cases h1:((e.val.num==1)==s) with
  | true=>rw [Fq h h1];exact ⟨by simp,by simp⟩
  | false=>rw [Fm h h1];exact ⟨by simp,by simp⟩
 ·
  rw [Fp hl h]
  exact (ih _ (A0 hl) (A2 hk (A0 hl)) _).mono (Nat.le_of_lt (size0 hl))
 ·
  have m0:=A0 (show 0<e.args.length by omega)
  have m1:=Bk hl
  have i0:=ih _ m0 (A2 hk m0) s
  have i1:=ih _ m1 (A2 hk m1) s
  have hs:=Db hl
  cases h1:((e.op==10)==s) with
  | true=>rw [Fs hl h h1];exact (Ml i0 i1).mono (by omega)
  | false=>rw [Fl hl h h1];exact mM (i0.mono (by omega)) (i1.mono (by omega))
 ·
  have m0:=A0 (show 0<e.args.length by omega)
  have m1:=Bk hl
  have i0:=ih _ m0 (A2 hk m0)
  have i1:=ih _ m1 (A2 hk m1)
  have hs:=Db hl
  rw [Fr hl h h1]
  exact mM ((Ml (i0 _) (i1 _)).mono (by omega)) ((Ml (i0 _) (i1 _)).mono (by omega))
 · rw [Fk h h1 h2];exact ⟨by simp [D9],by simp [D9];omega⟩
 · rw [h];exact ⟨by simp [D9],by simp [D9];omega⟩
def kM (a b:List (List Lit)):Cs:=(a++b,decide (((a++b).length:Int)≤256))
def mA (a b:Cs)(times:Bool):Cs:=if !a.2 || !b.2 then ([],false) else if times then Lh a.1 b.1 else kM a.1 b.1
def Aaa (a b:Cs):Cs:=if !a.2 || !b.2 then ([],false) else kM a.1 b.1
section
variable (T V)
def rnormN (e:Ex)(fs:List G9):G9:=fun sign=>
 if e.op==0 then (if (e.val.num==1)==sign then ([[]],true) else ([],true))
 else if e.op==12 then (Q8 xU fs:G9) (!sign)
 else if e.op==10 then mA ((Q8 xU fs:G9) sign) ((Ys xU fs:G9) sign) sign
 else if e.op==11 then mA ((Q8 xU fs:G9) sign) ((Ys xU fs:G9) sign) (!sign)
 else if e.op==9&&An T V (Av e)==1 then Aaa (mA ((Q8 xU fs:G9) true) ((Ys xU fs:G9) sign) true) (mA ((Q8 xU fs:G9) false) ((Ys xU fs:G9) (!sign)) true)
 else if e.op==9&&(An T V (Av e)==0 && !sign) then D9 [⟨two 7 (Av e) (Cc e),false⟩,⟨two 7 (Cc e) (Av e),false⟩]
 else D9 [⟨e,!sign⟩]
def rnormS:Ex→G9:=P3 (rnormN T V)
end
def csR (r p:Cs):Prop:=r.2=p.2∧(p.2=true→r=p)
structure rcOK (n:Nat) (c:Cs):Prop where
 len:c.1.length≤512
 lits:∀x∈c.1,x.length≤n
end

theorem Pl {e:Ex}(h:0<e.args.length):e.args[0]? = some (Av e):=by
 unfold Av
 cases ha:e.args with
 | nil=>rw [ha] at h;cases h
 | cons a r=>rfl
theorem Sf {e:Ex}(h:1<e.args.length):e.args[1]? = some (Cc e):=by
  unfold Cc
  cases ha:e.args with
  | nil=>rw [ha] at h;cases h
  | cons a r=>
    cases r with
    | nil=>rw [ha] at h;simp at h
    | cons b r=>rfl
section
variable {T:List Sc} {V:List Va} {e:Ex}
theorem Yq (h:(D1 T V e != 0)=true):Ce T V e=([],D1 T V e):=by rw [Ce,if_pos h]
theorem aC (h:(D1 T V e != 0)=false)(h2:(!(Cl T V e true).2)=true):Ce T V e=([],17):=by rw [Ce,C8 h,if_pos h2]
theorem aE (h:(D1 T V e != 0)=false)(h2:(!(Cl T V e true).2)=false):Ce T V e=((Cl T V e true).1,0):=by rw [Ce,C8 h,C8 h2]
end
section
variable {T:List Sc} {V:List Va} {e:Ex}
end
def dX:List Lit→List Lit→Bool
 | [],[]=>true
 | a::r,b::q=>!(a.neg != b.neg || !Lx a.cond b.cond)&&dX r q
 | _,_=>false
def zY:List (List Lit)→List (List Lit)→Bool
 | [],[]=>true
 | a::r,b::q=>dX a b&&zY r q
 | _,_=>false
end Go.Proofs.YtjedflcpjlgokaaGreatDoor
