/-
  Several texts in one: S14, S15, S16, S17, S18, S19, S20, S21, S22. No condition.
-/
import Derived.Test.YtkddpedfbicbeaaGreatDoorK07
import Derived.Test.YtkddpedfbicbeaaGreatDoorK02
set_option linter.unusedVariables false
set_option linter.unusedSimpArgs false
namespace Go.Proofs.YtkddpedfbicbeaaGreatDoor
open Go Go.Aw

def GT:List (Nat×Nat×Bool×Nat):=[(0,1,true,3),(1,1,true,3),(2,1,true,3)]
def Gv (ts:List (Tm×Int)):List (List AV×AV):=ts.map fun p=>(Ia p.1,.int .i64 p.2)
def bP (t u:Tm):Bool:=t.op==u.op&&(t.v==u.v&&t.field==u.field)
theorem Kz {t u:Tm}:bP t u=true↔t=u:=by
 unfold bP
 cases t;cases u
 simp
def Hs (t:Tm)(k:List AV):Bool:=(G7 TL [(0,1,true,3),(1,1,true,3),(2,1,true,3)] (Ia t) k).getD false
theorem bV (t u:Tm):G7 TL [(0,1,true,3),(1,1,true,3),(2,1,true,3)] (Ia t) (Ia u)=some (bP t u):=by
 show some ((t.op==u.op)&&((t.v==u.v)&&((t.field==u.field)&&true)))=_
 rw [Bool.and_true];rfl
theorem Sj (t u:Tm):Hs t (Ia u)=bP t u:=by unfold Hs;rw [bV];rfl
theorem Iw (t:Tm)(ts:List (Tm×Int)):∀p∈Gv ts,G7 TL [(0,1,true,3),(1,1,true,3),(2,1,true,3)] (Ia t) p.1=some (Hs t p.1):=by
 intro p hp
 obtain ⟨x,_,rfl⟩:=List.mem_map.1 hp
 show G7 TL _ (Ia t) (Ia x.1)=some (Hs t (Ia x.1))
 rw [bV,Sj]
theorem xR (ts:List (Tm×Int)):(Gv ts).length=ts.length:=List.length_map ..
def tT (t:Tm):List (Tm×Int)→Option Nat
 | []=>none
 | q::r=>if bP t q.1 then some 0 else (tT t r).map (· + 1)
theorem mS (t:Tm):∀ts:List (Tm×Int),Lh (Hs t) (Gv ts)=tT t ts
  | []=>rfl
  | q::r=>by
    have ih:=mS t r
    unfold Gv at ih ⊢
    rw [List.map_cons,Lh,Sj,ih,tT]
theorem dY (t:Tm):∀ts:List (Tm×Int),Hf (Hs t) (Gv ts)=(ts.find? fun q=>bP t q.1).map fun q=>.int .i64 q.2
  | []=>rfl
  | q::r=>by
    have ih:=dY t r
    unfold Gv at ih ⊢
    rw [List.map_cons,Hf,Sj,ih,List.find?_cons]
    cases bP t q.1 <;> rfl
/-- the coefficient of a term -/
def F8 (t:Tm)(ts:List (Tm×Int)):Int:=((ts.find? fun q=>bP t q.1).map fun q=>q.2).getD 0
def Q3 (t:Tm)(ts:List (Tm×Int)):Bool:=(ts.find? fun q=>bP t q.1).isSome
theorem Pi (t:Tm)(ts:List (Tm×Int)):match Hf (Hs t) (Gv ts) with | some y=>y = .int .i64 (F8 t ts) | none=>[AV.int .i64 0] = [.int .i64 (F8 t ts)]:=by
 rw [dY]
 unfold F8
 cases ts.find? fun q=>bP t q.1 <;> rfl
theorem has_t (t:Tm)(ts:List (Tm×Int)):(Hf (Hs t) (Gv ts)).isSome=Q3 t ts:=by
 rw [dY]
 unfold Q3
 cases ts.find? fun q=>bP t q.1 <;> rfl
theorem fW {t:Tm}{ts:List (Tm×Int)}(h:Q3 t ts=false):Hf (Hs t) (Gv ts)=none:=by
 rw [dY]
 unfold Q3 at h
 cases hf:ts.find? fun q=>bP t q.1 with
 | none=>rfl
 | some q=>rw [hf] at h;cases h
theorem cK {t:Tm}{b:Int}:∀{ts:List (Tm×Int)},Q3 t ts=false→Io t b ts=ts ++ [(t,b)]∧F8 t ts=0
  | [],_=>⟨rfl,rfl⟩
  | q::r,h=>by
    unfold Q3 at h
    rw [List.find?_cons] at h
    cases hq:bP t q.1 with
    | true=>rw [hq] at h;cases h
    | false=>
      rw [hq] at h
      obtain ⟨h1,h2⟩:=cK (t:=t) (b:=b) (ts:=r) h
      have hne:¬t=q.1:=fun he=>by rw [Kz.2 he] at hq;cases hq
      refine ⟨by rw [Io,if_neg hne,h1];rfl,?_⟩
      unfold F8 at h2 ⊢
      rw [List.find?_cons,hq];exact h2
theorem dC {t:Tm}{b:Int}:∀{ts:List (Tm×Int)},Q3 t ts=true→∃j,tT t ts=some j∧ts[j]? = some (t,F8 t ts)∧Io t b ts=ts.modify j (fun p=>(p.1,F8 t ts+b))
  | [],h=>by cases h
  | q::r,h=>by
    unfold Q3 at h
    rw [List.find?_cons] at h
    cases hq:bP t q.1 with
    | true=>
      have he:=Kz.1 hq
      have hc:F8 t (q::r)=q.2:=by unfold F8;rw [List.find?_cons,hq];rfl
      rw [hc]
      exact ⟨0,by rw [tT,if_pos hq],by subst he;rfl,by rw [Io,if_pos he];subst he;rfl⟩
    | false=>
      rw [hq] at h
      obtain ⟨j,h1,h2,h3⟩:=dC (t:=t) (b:=b) (ts:=r) h
      have hne:¬t=q.1:=fun he=>by rw [Kz.2 he] at hq;cases hq
      have hc:F8 t (q::r)=F8 t r:=by unfold F8;rw [List.find?_cons,hq]
      rw [hc]
      exact ⟨j+1,by rw [tT,if_neg (by rw [hq];decide),h1];rfl,by simpa using h2,by rw [Io,if_neg hne,h3];rfl⟩
theorem V6 {ts:List (Tm×Int)}{j:Nat}{t:Tm}{c:Int}(h:ts[j]? = some (t,c)):(Gv ts)[j]? = some (Ia t,.int .i64 c):=by
 unfold Gv;rw [List.getElem?_map,h];rfl
theorem Xq {x:Int}:∀{ts:List (Tm×Int)} {j:Nat},N6 (Gv ts) j (.int .i64 x)=Gv (ts.modify j fun p=>(p.1,x))
  | [],j=>by cases j <;> rfl
  | p::r,0=>rfl
  | p::r,j+1=>by
    have ih:=Xq (x:=x) (ts:=r) (j:=j)
    unfold N6 Gv at ih ⊢
    simp only [List.map_cons,List.modify_succ_cons]
    rw [ih]
theorem jI {ts:List (Tm×Int)}{t:Tm}{c:Int}:(Gv ts ++ [(Ia t,.int .i64 c)])[(Gv ts).length]? = some (Ia t,.int .i64 c):=by
 rw [List.getElem?_append_right (Nat.le_refl _),Nat.sub_self];rfl
theorem bT {ts:List (Tm×Int)}{t:Tm}{c x:Int}:N6 (Gv ts ++ [(Ia t,.int .i64 c)]) (Gv ts).length (.int .i64 x)=Gv (ts ++ [(t,x)]):=by
 rw [show Gv ts ++ [(Ia t,AV.int .i64 c)]=Gv (ts ++ [(t,c)]) by unfold Gv;rw [List.map_append];rfl,xR,Xq]
 congr 1
 induction ts with
 | nil=>rfl
 | cons a r ih=>simpa using ih

/-! ### how far a sum reaches -/
structure suOK (n:Nat) (s:Su):Prop where
 rest : -(n:Int)*1099511627776≤s.rest∧s.rest≤(n:Int)*1099511627776
 coef:∀p∈s.ts,-(n:Int)≤p.2∧p.2≤(n:Int)
 len:s.ts.length≤n
theorem Th {e:Ex}(h:By e=0)(ho:e.op=0) : -1099511627776≤e.val.num∧e.val.num≤1099511627776:=by
 unfold By at h
 split at h
 · cases h
 split at h
 · cases h
 split at h
 · cases h
 split at h
 · cases h
 rw [if_pos (by rw [ho];rfl)] at h
 have hc:Fk e=0:=by
  by_cases hx:(Fk e != 0)=true
  · rw [if_pos hx] at h;exact h
  · simpa using hx
 have hv:Ap e.val=0:=by
  unfold Fk at hc
  by_cases hx:(Ap e.val != 0)=true
  · rw [if_pos hx] at hc;exact hc
  · simpa using hx
 have vs:e.val.kind=0∨e.val.kind=1→D9 e.val=0→-1099511627776≤e.val.num∧e.val.num≤1099511627776:=by
  intro hk hz
  unfold D9 at hz
  by_cases h1:(e.val.kind==0&&(decide (e.val.num < -1099511627776)||decide (1099511627776<e.val.num)))=true
  · rw [if_pos h1] at hz;cases hz
  ·
   rw [if_neg h1] at hz
   rcases hk with hk | hk
   · simp [hk] at h1;omega
   ·
    by_cases h2:(e.val.kind==1&&e.val.num != 0&&e.val.num != 1)=true
    · rw [if_pos h2] at hz;cases hz
    · simp [hk] at h2;omega
 unfold Ap at hv
 by_cases h1:(e.val.kind==0||e.val.kind==1)=true
 ·
  rw [if_pos h1] at hv
  split at hv
  · cases hv
  · exact vs (by simpa using h1) hv
 ·
  rw [if_neg h1] at hv
  by_cases h2:(e.val.kind==2)=true
  ·
   rw [if_pos h2] at hv
   by_cases h3:(e.val.num != 0)=true
   · rw [if_pos h3] at hv;cases hv
   ·
    have:e.val.num=0:=by simpa using h3
    omega
  · rw [if_neg h2] at hv;cases hv
theorem suOK.mono {n m:Nat}{s:Su}(h:suOK n s)(hm:n≤m):suOK m s:=
 ⟨by have:=h.rest;omega,fun p hp=>by have:=h.coef p hp;omega,Nat.le_trans h.len hm⟩
theorem oF {n:Nat}{t:Tm}{b:Int}(hb:b=1∨b = -1):∀{ts:List (Tm×Int)},(∀p∈ts,-(n:Int)≤p.2∧p.2≤(n:Int))→(∀p∈Io t b ts,-((n+1:Nat):Int)≤p.2∧p.2≤((n+1:Nat):Int))∧(Io t b ts).length≤ts.length+1
  | [],_=>by simp [Io];omega
  | q::r,h=>by
    rw [Io]
    split
    · refine ⟨fun p hp=>?_,by simp⟩
      rcases List.mem_cons.1 hp with rfl | hp
      · have:=h q (by simp);simp only;omega
      · have:=h p (by simp [hp]);omega
    · obtain ⟨h1,h2⟩:=oF hb (ts:=r) fun p hp=>h p (by simp [hp])
      refine ⟨fun p hp=>?_,by simp;omega⟩
      rcases List.mem_cons.1 hp with rfl | hp
      · have:=h p (by simp);omega
      · exact h1 p hp
theorem Ye (e:Ex):C3 e=0→∀{n:Nat} {b:Int} {s:Su},b=1∨b = -1→suOK n s→suOK (n+At e) (Bp e b s).1:=by
  refine Ex.Abu (P:=fun e=>C3 e=0→∀{n:Nat} {b:Int} {s:Su},b=1∨b = -1→suOK n s→suOK (n+At e) (Bp e b s).1) (fun e ih hn n b s hb hs=>?_) e
  have hz:=Be hn
  have hsz:1≤At e:=by rw [D5];omega
  have hsum2:∀h:1<e.args.length,At (Ao e)+At (Bi e)+1≤At e:=fun h=>by
    have hp:=D5 e
    cases ha:e.args with
    | nil=>rw [ha] at h;simp at h
    | cons a r=>
      cases r with
      | nil=>rw [ha] at h;simp at h
      | cons b r=>
        have e0:Ao e=a:=by unfold Ao;rw [ha];rfl
        have e1:Bi e=b:=by unfold Bi;rw [ha];rfl
        rw [e0,e1,hp,ha];simp;omega
  rw [Pq]
  unfold cM
  split
  · rename_i h0
    have hc:=Th hz.1 (by simpa using h0)
    refine (show suOK (n+1) _ from ⟨?_,fun p hp=>by have:=hs.coef p hp;omega,by have:=hs.len;simp only;omega⟩).mono (by omega)
    have:=hs.rest
    rcases hb with rfl | rfl <;> simp only <;> omega
  · split
    · obtain ⟨h1,h2⟩:=oF (t:=D0 e) hb hs.coef
      exact (show suOK (n+1) _ from ⟨by have:=hs.rest;simp only;omega,h1,by have:=hs.len;simp only;omega⟩).mono (by omega)
    · have two:(e.op=5∨e.op=6)→∀c,(c=1∨c = -1)→suOK (n+At e) (if !((Qd (fun _ s=>(s,false)) (e.args.map Bp):M1) b s).2 then (((Qd (fun _ s=>(s,false)) (e.args.map Bp):M1) b s).1,false) else (Yb (fun _ s=>(s,false)) (e.args.map Bp):M1) c ((Qd (fun _ s=>(s,false)) (e.args.map Bp):M1) b s).1).1:=by
        intro ho c hc
        have hl:=Dg hz.1 (by omega)
        have hs2:=hsum2 hl
        rw [Ig Bp _ (by omega),Iv Bp _ hl]
        have m0:=A6 (show 0<e.args.length by omega)
        have m1:=Bl hl
        have i0:=ih _ m0 (hz.2 _ m0) hb hs
        split
        · exact i0.mono (by omega)
        · exact (ih _ m1 (hz.2 _ m1) hc i0).mono (by omega)
      split
      · rename_i h5;exact two (.inl (by simpa using h5)) b hb
      · split
        · rename_i h6;exact two (.inr (by simpa using h6)) (0-b) (by omega)
        · exact hs.mono (by omega)

/-! ### the sum in the heap -/
abbrev N4 (m bs:Nat)(v:Value)(s:Su)(R:List HO):List HO:=.row v (s.ts.map fun p=>Ia p.1).length 143 3 :: .box bs 207 [.val (.map (some m)),.row v 3 (s.ts.map fun p=>Ia p.1),.int .i64 s.rest] :: .kmap m (Gv s.ts)::R
theorem Bo {m bs:Nat}{R:List HO}{e:Ex}{b:Int}{s:Su}{X:Su×Bool}{r:AV}{H:List HO}(h:Bp e b s=X)(k:r = .bool X.2∧∃v,H=N4 m bs v X.1 R):r = .bool (Bp e b s).2∧∃v,H=N4 m bs v (Bp e b s).1 R:=by rw [h];exact k
theorem Fv {e:Ex}{b:Int}{s:Su}(h:(e.op==0)=true):Bp e b s=(⟨s.ts,s.rest+b*e.val.num⟩,true):=by rw [Pq,cM,if_pos h]
theorem B7 {e:Ex}{b:Int}{s:Su}(h:(e.op==0)=false)(h1:(e.op==1||e.op==2)=true):Bp e b s=(⟨Io (D0 e) b s.ts,s.rest⟩,true):=by rw [Pq,cM,Ci h,if_pos h1]
theorem Gy {e:Ex}{b:Int}{s:Su}(h:(e.op==0)=false)(h1:(e.op==1||e.op==2)=false)(h2:(e.op==5)=false)(h3:(e.op==6)=false):Bp e b s=(s,false):=by rw [Pq,cM,Ci h,Ci h1,Ci h2,Ci h3]
theorem J5 {e:Ex}{b c:Int}{s:Su}(hl:1<e.args.length)(h:(e.op=5∧c=b)∨(e.op=6∧c=0-b)):Bp e b s=if !(Bp (Ao e) b s).2 then ((Bp (Ao e) b s).1,false) else Bp (Bi e) c (Bp (Ao e) b s).1:=by
 rw [Pq,cM]
 rcases h with ⟨h,rfl⟩ | ⟨h,rfl⟩
 · rw [Ci (by simp;omega),Ci (by simp;omega),if_pos (by simpa using h),Ig Bp _ (by omega),Iv Bp _ hl]
 · rw [Ci (by simp;omega),Ci (by simp;omega),Ci (by simp;omega),if_pos (by simpa using h),Ig Bp _ (by omega),Iv Bp _ hl]
theorem sH {e:Ex}{b c:Int}{s:Su}(hl:1<e.args.length)(h:(e.op=5∧c=b)∨(e.op=6∧c=0-b))(hG:Il [((Bp (Ao e) b s).2,true)]):Bp e b s=Bp (Bi e) c (Bp (Ao e) b s).1:=by
 have h2:(Bp (Ao e) b s).2=true:=hG _ (List.mem_singleton.2 rfl)
 rw [J5 hl h,h2];rfl
theorem Zl {m bs:Nat}{R:List HO}{v:Value}{e:Ex}{b c:Int}{s:Su}(hl:1<e.args.length)(h:(e.op=5∧c=b)∨(e.op=6∧c=0-b))(hG:¬Il [((Bp (Ao e) b s).2,true)]):∃u,N4 m bs v (Bp (Ao e) b s).1 R=N4 m bs u (Bp e b s).1 R:=by
 have h2:(Bp (Ao e) b s).2=false:=by
  rw [Bool.eq_false_iff]
  intro hx
  exact hG fun p hp=>by rw [List.mem_singleton.1 hp];exact hx
 refine ⟨v,?_⟩
 rw [J5 hl h,h2];rfl
theorem De {e:Ex}{b c:Int}{s:Su}(hl:1<e.args.length)(h:(e.op=5∧c=b)∨(e.op=6∧c=0-b)):((Bp (Ao e) b s).2&&(Bp (Bi e) c (Bp (Ao e) b s).1).2)=(Bp e b s).2:=by
 rw [J5 hl h]
 cases hq:(Bp (Ao e) b s).2 <;> simp
theorem fB {f:FuncId}{m bs:Nat}{R:List HO}{e:Ex}{b c:Int}{s:Su}{args:List AV}{H:List HO}(hl:1<e.args.length)(h:(e.op=5∧c=b)∨(e.op=6∧c=0-b))(hG:Il [((Bp (Ao e) b s).2,true)])(hc:Du Tryz.prog f H args fun r H'=>r = .bool (Bp (Bi e) c (Bp (Ao e) b s).1).2∧∃v,H'=N4 m bs v (Bp (Bi e) c (Bp (Ao e) b s).1).1 R) :
  Du Tryz.prog f H args fun r H'=>r = .bool (Bp (Bi e) c (Bp (Ao e) b s).1).2∧∃v,H'=N4 m bs v (Bp e b s).1 R:=by
 rw [sH hl h hG];exact hc
theorem Gl {m bs:Nat}{v:Value}{R:List HO}{t:Tm}{b:Int}{s:Su}(h:Q3 t s.ts=false) :
  (HO.row v ((s.ts.map fun p=>Ia p.1) ++ [Ia t]).length 143 3 :: .box bs 207 [.val (.map (some m)),.row v 3 ((s.ts.map fun p=>Ia p.1) ++ [Ia t]),.int .i64 s.rest] :: .kmap m (N6 (Gv s.ts ++ [(Ia t,.int .i64 0)]) (Gv s.ts).length (.int .i64 (F8 t s.ts+b)))::R)=N4 m bs v ⟨Io t b s.ts,s.rest⟩ R:=by
 obtain ⟨h1,h2⟩:=cK (b:=b) h
 rw [bT,h1,h2,Int.zero_add]
 show _=HO.row v ((s.ts ++ [(t,b)]).map fun p=>Ia p.1).length 143 3::_
 rw [List.map_append];rfl
theorem nK {c:Int}:∀(l:List (Tm×Int)) (j:Nat),((l.modify j (fun p=>(p.1,c))).map fun p=>Ia p.1)=l.map fun p=>Ia p.1
 | [],j=>by cases j <;> rfl
 | a::r,0=>rfl
 | a::r,j+1=>by simp only [List.modify_succ_cons,List.map_cons];rw [nK r j]
theorem Gf {m bs j:Nat}{v:Value}{R:List HO}{t:Tm}{b:Int}{s:Su}(h3:Io t b s.ts=s.ts.modify j (fun p=>(p.1,F8 t s.ts+b))) :
  (HO.row v (s.ts.map fun p=>Ia p.1).length 143 3 :: .box bs 207 [.val (.map (some m)),.row v 3 (s.ts.map fun p=>Ia p.1),.int .i64 s.rest] :: .kmap m (N6 (Gv s.ts) j (.int .i64 (F8 t s.ts+b)))::R)=N4 m bs v ⟨Io t b s.ts,s.rest⟩ R:=by
 have hm:=nK (c:=F8 t s.ts+b) s.ts j
 rw [Xq,h3]
 show _=HO.row v ((s.ts.modify j (fun p=>(p.1,F8 t s.ts+b))).map fun p=>Ia p.1).length 143 3::HO.box bs 207 [.val (.map (some m)),.row v 3 ((s.ts.modify j (fun p=>(p.1,F8 t s.ts+b))).map fun p=>Ia p.1),.int .i64 s.rest]::_
 rw [hm]
theorem Zp {a b:Bool}(h:a=true):(a||b)=true:=by rw [h];rfl
theorem aB {a b:Bool}(h:b=true):(a||b)=true:=by rw [h];simp
theorem cP {a b:Bool}(h:a=false)(h':b=false):(a||b)=false:=by rw [h,h'];rfl
theorem V8 {n:Nat}{s:Su}(h:suOK n s)(t:Tm) : -(n:Int)≤F8 t s.ts∧F8 t s.ts≤(n:Int):=by
 unfold F8
 cases hf:s.ts.find? fun q=>bP t q.1 with
 | none=>simp only [Option.map_none,Option.getD_none];omega
 | some q=>exact h.coef q (List.mem_of_find?_eq_some hf)
theorem pI {P:Program}{o:Oper}{ρ:Operand→AV}{x:AV}{a b:HO}{K:List HO→Prop}(h1:∀k:Nat,Di P o ρ (fun H=>H[k]? = some a) x)(h2:∀k:Nat,Di P o ρ (fun H=>H[k]? = some b) x)(h:∀H,K H→a∈H∨b∈H):Di P o ρ K x:=by
 intro g w c H next Q hr hH hk hn
 rcases h H hk with h | h
 ·
  obtain ⟨k,hk⟩:=List.getElem?_of_mem h
  exact h1 k g w c H next Q hr hH hk hn
 ·
  obtain ⟨k,hk⟩:=List.getElem?_of_mem h
  exact h2 k g w c H next Q hr hH hk hn
theorem iG (t:Tm)(ts:List (Tm×Int)):∀p∈Gv ts ++ [(Ia t,AV.int .i64 0)],G7 TL [(0,1,true,3),(1,1,true,3),(2,1,true,3)] (Ia t) p.1=some (Hs t p.1):=by
 have:Gv ts ++ [(Ia t,AV.int .i64 0)]=Gv (ts ++ [(t,0)]):=by unfold Gv;rw [List.map_append];rfl
 rw [this];exact Iw t _
theorem pT {t:Tm}{ts:List (Tm×Int)}(h:Q3 t ts=false):match Hf (Hs t) (Gv ts ++ [(Ia t,AV.int .i64 0)]) with | some y=>y = .int .i64 (F8 t ts) | none=>[AV.int .i64 0] = [.int .i64 (F8 t ts)]:=by
 have h1:Gv ts ++ [(Ia t,AV.int .i64 0)]=Gv (ts ++ [(t,0)]):=by unfold Gv;rw [List.map_append];rfl
 have h2:F8 t (ts ++ [(t,0)])=F8 t ts:=by
  rw [(cK (b:=0) h).2]
  unfold F8
  unfold Q3 at h
  rw [List.find?_append]
  cases hf:ts.find? fun q=>bP t q.1 with
  | some q=>rw [hf] at h;cases h
  | none=>rw [List.find?_cons,Kz.2 rfl];rfl
 rw [h1,←h2];exact Pi t _
theorem Dw {e:Ex}(h:1<e.args.length):At (Ao e)+At (Bi e)+1≤At e:=by
  have hp:=D5 e
  cases ha:e.args with
  | nil=>rw [ha] at h;simp at h
  | cons a r=>
    cases r with
    | nil=>rw [ha] at h;simp at h
    | cons b r=>
      have e0:Ao e=a:=by unfold Ao;rw [ha];rfl
      have e1:Bi e=b:=by unfold Bi;rw [ha];rfl
      rw [e0,e1,hp,ha];simp;omega

/-- the sum where between ends -/
def C8 (a b:Ex):Su:=if !(Bp a 1 Ks).2 then (Bp a 1 Ks).1 else (Bp b (-1) (Bp a 1 Ks).1).1
theorem zG {a b:Ex}(hG:Il [(!(Bp a 1 Ks).2,false)]):C8 a b=(Bp b (-1) (Bp a 1 Ks).1).1:=by
 have h2:(!(Bp a 1 Ks).2)=false:=hG _ (List.mem_singleton.2 rfl)
 unfold C8;rw [Ci h2]
theorem xK {f:FuncId}{m bs:Nat}{R:List HO}{a b:Ex}{args:List AV}{H:List HO}(hG:Il [(!(Bp a 1 Ks).2,false)])(hc:Du Tryz.prog f H args fun r H'=>r = .bool (Bp b (-1) (Bp a 1 Ks).1).2∧∃v,H'=N4 m bs v (Bp b (-1) (Bp a 1 Ks).1).1 R) :
  Du Tryz.prog f H args fun r H'=>r = .bool (Bp b (-1) (Bp a 1 Ks).1).2∧∃v,H'=N4 m bs v (C8 a b) R:=by
 rw [zG hG];exact hc
theorem btw_f {m bs:Nat}{R:List HO}{v:Value}{a b:Ex}(hG:¬Il [(!(Bp a 1 Ks).2,false)]):∃u,N4 m bs v (Bp a 1 Ks).1 R=N4 m bs u (C8 a b) R:=by
 have h2:(!(Bp a 1 Ks).2)=true:=by
  rw [←Bool.not_eq_false]
  intro hx
  exact hG fun p hp=>by rw [List.mem_singleton.1 hp];exact hx
 refine ⟨v,?_⟩
 unfold C8;rw [if_pos h2]
theorem btw_no {a b:Ex}(h:(!(Bp a 1 Ks).2 || !(Bp b (-1) (Bp a 1 Ks).1).2)=true):Ch a b=(tV,false):=by
 unfold Ch
 by_cases h1:(!(Bp a 1 Ks).2)=true
 · rw [if_pos h1]
 · rw [if_neg h1,if_pos (by simpa [Bool.eq_false_iff.2 h1] using h)]
theorem mW {a b:Ex}(h:(!(Bp a 1 Ks).2 || !(Bp b (-1) (Bp a 1 Ks).1).2)=false):Ch a b=S5 (C8 a b):=by
 have h1:(!(Bp a 1 Ks).2)=false:=by cases hx:(!(Bp a 1 Ks).2) <;> simp_all
 have h2:(!(Bp b (-1) (Bp a 1 Ks).1).2)=false:=by rw [h1] at h;simpa using h
 unfold Ch C8
 rw [Ci h1,Ci h2,Ci h1]
theorem gX {a b:Ex}(h:(!(Bp a 1 Ks).2 || !(Bp b (-1) (Bp a 1 Ks).1).2)=false)(hp:Dt (C8 a b).ts [] []=none):Ch a b=(tV,false):=by
 rw [mW h,S5,hp]
theorem zM {a b:Ex}{p m:List Tm}(h:(!(Bp a 1 Ks).2 || !(Bp b (-1) (Bp a 1 Ks).1).2)=false)(hp:Dt (C8 a b).ts [] []=some (p,m)):Ch a b=(⟨p,m,(C8 a b).rest⟩,decide ((p.length:Int)≤1)&&decide ((m.length:Int)≤1)):=by
 rw [mW h,S5,hp]
theorem kV:suOK 0 Ks:=⟨by simp [Ks],by simp [Ks],by simp [Ks]⟩
theorem aF {a b:Ex}(ha:C3 a=0)(hb:C3 b=0):suOK (At a+At b) (C8 a b):=by
 have h1:suOK (0+At a) (Bp a 1 Ks).1:=Ye a ha (.inl rfl) kV
 unfold C8
 split
 · exact h1.mono (by omega)
 · exact (Ye b hb (.inr rfl) h1).mono (by omega)
/-- the terms of a sum are different ones -/
theorem Xx {t:Tm}{b:Int}:∀{ts:List (Tm×Int)},(ts.map (·.1)).Nodup→((Io t b ts).map (·.1)).Nodup∧∀u,u∈(Io t b ts).map (·.1)→u=t∨u∈ts.map (·.1)
  | [],_=>by simp [Io]
  | q::r,h=>by
    rw [Io]
    rw [List.map_cons,List.nodup_cons] at h
    split
    · rename_i he
      refine ⟨by simpa using h,fun u hu=>.inr (by simpa using hu)⟩
    · rename_i hne
      obtain ⟨h1,h2⟩:=Xx (t:=t) (b:=b) h.2
      refine ⟨?_,fun u hu=>?_⟩
      · rw [List.map_cons,List.nodup_cons]
        refine ⟨fun hu=>?_,h1⟩
        rcases h2 _ hu with e | hm
        · exact hne e.symm
        · exact h.1 hm
      · rw [List.map_cons,List.mem_cons] at hu
        rcases hu with e | hu
        · right;rw [e];simp
        · rcases h2 _ hu with e | hm
          · exact .inl e
          · right;rw [List.map_cons];exact List.mem_cons_of_mem _ hm
theorem aK (e:Ex):C3 e=0→∀{b:Int} {s:Su},(s.ts.map (·.1)).Nodup→((Bp e b s).1.ts.map (·.1)).Nodup:=by
 refine Ex.Abu (P:=fun e=>C3 e=0→∀{b:Int} {s:Su},(s.ts.map (·.1)).Nodup→((Bp e b s).1.ts.map (·.1)).Nodup) (fun e ih hn b s hs=>?_) e
 have hz:=Be hn
 rw [Pq]
 unfold cM
 split
 · exact hs
 ·
  split
  · exact (Xx hs).1
  ·
   have two:(e.op=5∨e.op=6)→∀c,((if !((Qd (fun _ s=>(s,false)) (e.args.map Bp):M1) b s).2 then (((Qd (fun _ s=>(s,false)) (e.args.map Bp):M1) b s).1,false) else (Yb (fun _ s=>(s,false)) (e.args.map Bp):M1) c ((Qd (fun _ s=>(s,false)) (e.args.map Bp):M1) b s).1).1.ts.map (·.1)).Nodup:=by
    intro ho c
    have hl:=Dg hz.1 (by omega)
    rw [Ig Bp _ (by omega),Iv Bp _ hl]
    have m0:=A6 (show 0<e.args.length by omega)
    have m1:=Bl hl
    have i0:=ih _ m0 (hz.2 _ m0) (b:=b) hs
    split
    · exact i0
    · exact ih _ m1 (hz.2 _ m1) i0
   split
   · rename_i h5;exact two (.inl (by simpa using h5)) b
   ·
    split
    · rename_i h6;exact two (.inr (by simpa using h6)) (0-b)
    · exact hs
theorem dT {a b:Ex}(ha:C3 a=0)(hb:C3 b=0):((C8 a b).ts.map (·.1)).Nodup:=by
 have h1:=aK a ha (b:=1) (s:=Ks) (by simp [Ks])
 unfold C8
 split
 · exact h1
 · exact aK b hb h1
/-- the coefficient that the map holds at a term of the list -/
theorem Aaj {ts:List (Tm×Int)}{k:Nat}{q:Tm×Int}(hn:(ts.map (·.1)).Nodup)(h:ts[k]? = some q):F8 q.1 ts=q.2:=by
  induction ts generalizing k with
  | nil=>simp at h
  | cons p r ih=>
    rw [List.map_cons,List.nodup_cons] at hn
    unfold F8
    rw [List.find?_cons]
    cases k with
    | zero=>
      have:p=q:=by simpa using h
      subst this
      rw [Kz.2 rfl];rfl
    | succ k=>
      have hq:r[k]? = some q:=by simpa using h
      have hm:=List.mem_of_getElem? hq
      have hne:bP q.1 p.1=false:=by
        rw [Bool.eq_false_iff]
        intro he
        have:=Kz.1 he
        exact hn.1 (by rw [←this];exact List.mem_map_of_mem hm)
      rw [hne]
      exact ih hn.2 hq
theorem Aai {ts:List (Tm×Int)}{k:Nat}{q:Tm×Int}(hn:(ts.map (·.1)).Nodup)(h:ts[k]? = some q):match Hf (Hs q.1) (Gv ts) with | some y=>y = .int .i64 q.2 | none=>[AV.int .i64 0] = [.int .i64 q.2]:=by
 have h1:=Pi q.1 ts
 rw [Aaj hn h] at h1
 exact h1
theorem parts_0 {t:Tm×Int}{r:List (Tm×Int)}{p m:List Tm}(h:(t.2==0)=true):Dt (t::r) p m=Dt r p m:=by rw [Dt,if_pos h]
theorem parts_1 {t:Tm×Int}{r:List (Tm×Int)}{p m:List Tm}(h:(t.2==0)=false)(h1:(t.2==1)=true):Dt (t::r) p m=Dt r (p ++ [t.1]) m:=by rw [Dt,Ci h,if_pos h1]
theorem parts_2 {t:Tm×Int}{r:List (Tm×Int)}{p m:List Tm}(h:(t.2==0)=false)(h1:(t.2==1)=false)(h2:(t.2 == -1)=true):Dt (t::r) p m=Dt r p (m ++ [t.1]):=by rw [Dt,Ci h,Ci h1,if_pos h2]
theorem Aal {t:Tm×Int}{r:List (Tm×Int)}{p m:List Tm}(h:(t.2==0)=false)(h1:(t.2==1)=false)(h2:(t.2 == -1)=false):Dt (t::r) p m=none:=by rw [Dt,Ci h,Ci h1,Ci h2]

theorem Ky {T:List Sc}{V:List Va}{e:Ex}(hk:KOK T V e)(h:Hn e=true):1<e.args.length:=by
 unfold Hn at h
 have h':e.op=7∨e.op=8∨e.op=9:=by simp at h;omega
 exact Dg (Be hk.nodes).1 (by omega)
theorem zO {T:List Sc}{V:List Va}{e:Ex}(h:(e.op==1)=true):Cz T V e=true:=by rw [Cz,if_pos h]
theorem fX {T:List Sc}{V:List Va}{e:Ex}(h:(e.op==1)=false)(h2:(!comparesS e)=true):Cz T V e=false:=by rw [Cz,Ci h,if_pos h2]
theorem uH {T:List Sc}{V:List Va}{e:Ex}(h:(e.op==1)=false)(h2:(!comparesS e)=false)(h3:Dp T V e=true):Cz T V e=(R9 (Ao e)&&R9 (Bi e)):=by rw [Cz,Ci h,Ci h2,if_pos h3]
theorem wG {T:List Sc}{V:List Va}{e:Ex}(h:(e.op==1)=false)(h2:(!comparesS e)=false)(h3:Dp T V e=false):Cz T V e=(Ch (Ao e) (Bi e)).2:=by rw [Cz,Ci h,Ci h2,Ci h3]
theorem P3 {T:List Sc}{V:List Va}{e:Ex}(h:(Eb T V e != 0)=false):KOK T V e:=by
 have h0:Eb T V e=0:=by simpa using h
 unfold Eb at h0
 by_cases h1:((Db T V e).2 != 0)=true
 · rw [if_pos h1] at h0;rw [h0] at h1;cases h1
 · exact (Z3 (by simpa using h1)).1

theorem K6 {e:Ex}(h:By e=0)(ho:(e.op==1||e.op==2)=true):Ho (D0 e)=e:=by
 have ho':e.op=1∨e.op=2:=by simpa using ho
 have hn:=Xl h (by omega)
 unfold By at h
 split at h
 · cases h
 split at h
 · cases h
 split at h
 · cases h
 split at h
 · cases h
 rw [if_neg (by simp;omega)] at h
 unfold Bm at h
 have hu:(Dn e.op).1=true:=by rcases ho' with ho | ho <;> rw [ho] <;> rfl
 split at h
 · cases h
 rename_i hf
 cases e with | mk op args var field kind val=>
 simp only at ho' hn hf hu ⊢
 rw [hu] at hf
 simp only [Bool.not_true,Bool.false_and,Bool.false_or,Bool.or_eq_true,not_or,Bool.and_eq_true,not_and,Bool.not_eq_true',bne_iff_ne,ne_eq,Decidable.not_not,Bool.or_eq_false_iff,beq_eq_false_iff_ne] at hf
 have hk:kind=0:=hf.1.2 (by omega)
 have hv:val=v0:=by
  have:=hf.2 ⟨by omega,by omega⟩
  rw [←jG];simpa using this
 have hfd:op=2→field=0:=fun h2=>hf.1.1 (by rw [h2];rfl)
 unfold Ho D0
 subst hn;subst hk;subst hv
 rfl
abbrev lY:=Int→Su×Bool→Su×Bool
def colN (e:Ex)(fs:List lY):lY:=fun b s=>
 if e.op==0 then (⟨s.1.ts,s.1.rest+b*e.val.num⟩,s.2)
 else if e.op==1||e.op==2 then (⟨Io (D0 e) b s.1.ts,s.1.rest⟩,s.2)
 else if e.op==5 then (Yb (fun _ s=>(s.1,false)) fs:lY) b ((Qd (fun _ s=>(s.1,false)) fs:lY) b s)
 else if e.op==6 then (Yb (fun _ s=>(s.1,false)) fs:lY) (0-b) ((Qd (fun _ s=>(s.1,false)) fs:lY) b s)
 else (s.1,false)
def colS:Ex→lY:=Q2 colN
theorem Pc {e:Ex}(h:By e=0):(e.op==0)=true∨((e.op==0)=false∧(e.op==1||e.op==2)=true)∨((e.op=5∨e.op=6)∧1<e.args.length)∨((e.op==0)=false∧(e.op==1||e.op==2)=false∧(e.op==5)=false∧(e.op==6)=false):=by
 by_cases h0:e.op=0
 · left;simpa using h0
 by_cases h1:e.op=1∨e.op=2
 · right;left;exact ⟨by simpa using h0,by simpa using h1⟩
 by_cases h5:e.op=5∨e.op=6
 · right;right;left;exact ⟨h5,Dg h (by omega)⟩
 · right;right;right;refine ⟨by simpa using h0,by simp;omega,by simp;omega,by simp;omega⟩
/-- the sum where difference ends -/
def kI (a b:Ex):Su×Bool:=colS b (-1) (colS a 1 (Ks,true))
def differS (a b:Ex):Gp×Bool:=match Dt (kI a b).1.ts [] [] with
 | some (p,m)=>(⟨p,m,(kI a b).1.rest⟩,(kI a b).2&&(decide ((p.length:Int)≤1)&&decide ((m.length:Int)≤1)))
 | none=>(tV,false)
/-! ### the sum in the heap -/
abbrev rTm (ts:List (Tm×Int)):List (List AV):=ts.map fun p=>cE (Ho p.1)
abbrev rCo (ts:List (Tm×Int)):List (List AV):=ts.map fun p=>[AV.int .i64 p.2]
abbrev linH (v u:Value)(ts:List (Tm×Int))(R:List HO):List HO:=.row v (rTm ts).length 30 8 :: .buf u (rCo ts) 3 1::R
abbrev linR (v u:Value)(s:Su)(ok:Bool):AV:=.agg [.row v 8 (rTm s.ts),.val u,.int .i64 s.rest,.bool ok]
def cGpR (g:Gp):List AV:=[.sl 8 (g.plus.map fun t=>cE (Ho t)),.sl 8 (g.minus.map fun t=>cE (Ho t)),.int .i64 g.rest]

/-- a well-typed expression within the limits -/
structure KC (T:List Sc) (V:List Va) (e:Ex):Prop where
 kok:KOK T V e
 types:Ea T=0
 vars:Hz T V=0
 check:Bx e=0
theorem kG {e:Ex}(h:Bx e=0):At e≤64∧Ep e≤12∧C3 e=0:=by
 unfold Bx at h
 split at h
 · cases h
 rename_i h1
 split at h
 · cases h
 rename_i h2
 simp only [decide_eq_true_eq] at h1 h2
 exact ⟨by omega,by omega,h⟩
theorem Ir {T:List Sc}{V:List Va}{e:Ex}(h:KC T V e):At e≤64:=(kG h.check).1
theorem oH {T:List Sc}{V:List Va}{e:Ex}(h:KC T V e):Db T V e=Cb T V e:=by
 unfold Db
 rw [if_neg (by rw [h.types];decide),if_neg (by rw [h.vars];decide),if_neg (by rw [h.check];decide)]
theorem jC {T:List Sc}{V:List Va}{e:Ex}(h:KC T V e):(Db T V e).1=Am T V e:=by rw [oH h,F0 h.kok]
theorem iC {T:List Sc}{V:List Va}{e:Ex}(h:(Db T V e).2=0):KC T V e:=by
 have hk:=(Z3 h).1
 unfold Db at h
 by_cases h1:(Ea T != 0)=true
 · rw [if_pos h1] at h;simp only at h;rw [h] at h1;cases h1
 rw [if_neg h1] at h
 by_cases h2:(Hz T V != 0)=true
 · rw [if_pos h2] at h;simp only at h;rw [h] at h2;cases h2
 rw [if_neg h2] at h
 by_cases h3:(Bx e != 0)=true
 · rw [if_pos h3] at h;simp only at h;rw [h] at h3;cases h3
 exact ⟨hk,by simpa using h1,by simpa using h2,by simpa using h3⟩
theorem Sl {T:List Sc}{V:List Va}{e:Ex}(h:(Eb T V e != 0)=false):KC T V e∧Am T V e=1:=by
 have h0:Eb T V e=0:=by simpa using h
 unfold Eb at h0
 by_cases h1:((Db T V e).2 != 0)=true
 · rw [if_pos h1] at h0;rw [h0] at h1;cases h1
 ·
  rw [if_neg h1] at h0
  have hk:=iC (by simpa using h1)
  refine ⟨hk,?_⟩
  by_cases h2:((Db T V e).1 != 1)=true
  · rw [if_pos h2] at h0;cases h0
  · rw [←jC hk];simpa using h2
theorem kc_cond {T:List Sc}{V:List Va}{e:Ex}(h:KC T V e)(hk:Am T V e=1):Eb T V e=0:=by
 have h2:(Db T V e).2=0:=by rw [oH h];exact h.kok.kind
 unfold Eb
 rw [if_neg (by rw [h2];decide),if_neg (by rw [jC h,hk];decide)]
theorem Oy {T:List Sc}{V:List Va}{e a:Ex}(h:KOK T V e)(ha:a∈e.args):Mu e.op (Am T V a) (Am T V (Ao e))=true:=by
 have hp:e.args≠[]:=by intro hn;rw [hn] at ha;cases ha
 have h1:=(Pa h hp).2.1
 unfold Dj at h1
 have h2:=Ha h1 _ (List.mem_map_of_mem (f:=fun a=>(Cb T V a).1) ha)
 have h0:0<e.args.length:=List.length_pos_iff.2 hp
 have h3:((e.args.map fun a=>(Cb T V a).1).headD 0)=(Cb T V (Ao e)).1:=by
  cases hargs:e.args with
  | nil=>exact absurd hargs hp
  | cons x r=>unfold Ao;rw [hargs];rfl
 rw [h3] at h2
 rw [F0 (A3 h ha),F0 (A3 h (A6 h0))] at h2
 split at h2
 · assumption
 · cases h2
theorem In {T:List Sc}{V:List Va}{e a:Ex}(h:KOK T V e)(ho:e.op=9)(ha:a∈e.args):Am T V a=Am T V (Ao e):=by
 have h1:=Oy h ha
 unfold Mu at h1
 rw [if_neg (by simp;omega),if_neg (by simp;omega),if_pos (by simp;omega)] at h1
 simpa using h1
/-! ### The reference's -/
def rcmpS (e:Ex):Bool:=(e.op != 7&&e.op != 8)&&e.op != 9

theorem gK:∀g w u,Rep g w u (.sl 1 [[.val (.slice none 0 0)]])→Rep g w u (.sl 1 [[.sl 9 []]]):=fun g w u h=>by
  cases h with
  | sl b o n cap z es hn hc hm hz f hs hr=>
    refine .sl b o n cap 1 _ hn hc hm (fun e he=>by rw [List.mem_singleton.1 he];rfl) f (fun i e hi j x hj=>?_) (fun i e hi j x hj=>?_)
    · cases i with
      | succ i=>simp at hi
      | zero=>
        cases j with
        | succ j=>simp at hi;subst hi;simp at hj
        | zero=>exact hs 0 _ rfl 0 _ rfl
    · cases i with
      | succ i=>simp at hi
      | zero=>
        cases j with
        | succ j=>simp at hi;subst hi;simp at hj
        | zero=>
          simp at hi;subst hi;simp at hj;subst hj
          have:=(hr 0 _ rfl 0 _ rfl).inv_val
          rw [this];exact .sl0 _ _ _ (Nat.zero_le _)

/-! ### products -/
theorem pL {α:Type}{a b:List (List α)}(h:decide ((256:Int)<(a.length:Int)*(b.length:Int))=true):Mo a b=([],false):=by rw [Mo,if_pos h]
theorem fU {α:Type}{a b:List (List α)}(h:decide ((256:Int)<(a.length:Int)*(b.length:Int))=false):Mo a b=(a.flatMap fun x=>b.map fun y=>x++y,true):=by rw [Mo,Ci h]
theorem qL {α:Type}{a b:List (List α)}{k:Nat}{x:List α}(h:a[k]? = some x):((a.take (k+1)).flatMap fun x=>b.map fun y=>x++y)=((a.take k).flatMap fun x=>b.map fun y=>x++y)++b.map fun y=>x++y:=by
 rw [Cr h,List.flatMap_append];simp
theorem jD {α:Type}(a b:List (List α)):(a.flatMap fun x=>b.map fun y=>x++y).length=a.length*b.length:=by
 induction a with
 | nil=>simp
 | cons x r ih=>rw [List.flatMap_cons,List.length_append,ih,List.length_map,List.length_cons,Nat.succ_mul];omega
theorem prod_le {α:Type}{a b:List (List α)}{k j:Nat}(hk:k<a.length)(hj:j<b.length)(h:decide ((256:Int)<(a.length:Int)*(b.length:Int))=false):k*b.length+j<256:=by
 have h1:a.length*b.length≤256:=by
  have:¬(256:Int)<(a.length:Int)*(b.length:Int):=by simpa using h
  have h2:((a.length*b.length:Nat):Int)=(a.length:Int)*(b.length:Int):=by simp
  omega
 have h2:(k+1)*b.length≤a.length*b.length:=Nat.mul_le_mul_right _ hk
 rw [Nat.succ_mul] at h2
 omega
theorem fS {a b:Cs}(h:(!a.2 || !b.2)=true):Ek a b=([],false):=by rw [Ek,if_pos h]
theorem bL {a b:Cs}(h:(!a.2 || !b.2)=false):Ek a b=Mo a.1 b.1:=by rw [Ek,Ci h]
theorem oG {a b:Cs}(h:((!a.2 || !b.2)||decide ((256:Int)<(a.1.length:Int)+(b.1.length:Int)))=true):Jf a b=([],false):=by rw [Jf,if_pos h]
theorem gC {a b:Cs}(h:((!a.2 || !b.2)||decide ((256:Int)<(a.1.length:Int)+(b.1.length:Int)))=false):Jf a b=(a.1++b.1,true):=by rw [Jf,Ci h]

/-! ### how long they are -/
/-- at most 256 clauses, each at most so long -/
structure csOK (n:Nat) (c:Cs):Prop where
 len:c.1.length≤256
 lits:∀x∈c.1,x.length≤n
theorem csOK.mono {n m:Nat}{c:Cs}(h:csOK n c)(hm:n≤m):csOK m c:=⟨h.len,fun x hx=>Nat.le_trans (h.lits x hx) hm⟩
theorem dE {n:Nat}:csOK n ([],false):=⟨Nat.zero_le _,fun x hx=>by cases hx⟩
theorem Li {n m:Nat}{a b:Cs}(ha:csOK n a)(hb:csOK m b):csOK (n+m) (Ek a b):=by
 unfold Ek
 split
 · exact dE
 ·
  unfold Mo
  split
  · exact dE
  ·
   rename_i h
   refine ⟨?_,fun x hx=>?_⟩
   ·
    show (a.1.flatMap fun x=>b.1.map fun y=>x++y).length≤256
    rw [jD]
    have h1:¬(256:Int)<(a.1.length:Int)*(b.1.length:Int):=by simpa using h
    have h2:((a.1.length*b.1.length:Nat):Int)=(a.1.length:Int)*(b.1.length:Int):=by simp
    omega
   ·
    obtain ⟨y,hy,hm⟩:=List.mem_flatMap.1 hx
    obtain ⟨z,hz,rfl⟩:=List.mem_map.1 hm
    have:=ha.lits y hy
    have:=hb.lits z hz
    rw [List.length_append];omega
theorem nC {n:Nat}{a b:Cs}(ha:csOK n a)(hb:csOK n b):csOK n (Jf a b):=by
 unfold Jf
 split
 · exact dE
 ·
  rename_i h
  refine ⟨?_,fun x hx=>?_⟩
  ·
   show (a.1++b.1).length≤256
   simp at h
   rw [List.length_append];omega
  ·
   rcases List.mem_append.1 hx with h | h
   · exact ha.lits x h
   · exact hb.lits x h
section
variable {T:List Sc} {V:List Va}
abbrev zY:Hh:=fun _=>([],false)
theorem Gk {e:Ex}{s:Bool}(h:(e.op==0)=true)(h1:((e.val.num==1)==s)=true):Da T V e s=([[]],true):=by rw [Jg,Ol,if_pos h,if_pos h1]
theorem Gb {e:Ex}{s:Bool}(h:(e.op==0)=true)(h1:((e.val.num==1)==s)=false):Da T V e s=([],true):=by rw [Jg,Ol,if_pos h,Ci h1]
theorem Gn {e:Ex}{s:Bool}(hl:0<e.args.length)(h:(e.op==12)=true):Da T V e s=Da T V (Ao e) (!s):=by
 rw [Jg,Ol,Ci (by simp at h ⊢;omega),if_pos h,Ig _ _ hl]
theorem Gc {e:Ex}{s:Bool}(hl:1<e.args.length)(h:(e.op==10||e.op==11)=true)(h1:((e.op==10)==s)=true):Da T V e s=Ek (Da T V (Ao e) s) (Da T V (Bi e) s):=by
 rw [Jg,Ol,Ci (by simp at h ⊢;omega),Ci (by simp at h ⊢;omega),if_pos h,if_pos h1,Ig _ _ (by omega),Iv _ _ hl]
theorem Gi {e:Ex}{s:Bool}(hl:1<e.args.length)(h:(e.op==10||e.op==11)=true)(h1:((e.op==10)==s)=false):Da T V e s=Jf (Da T V (Ao e) s) (Da T V (Bi e) s):=by
 rw [Jg,Ol,Ci (by simp at h ⊢;omega),Ci (by simp at h ⊢;omega),if_pos h,Ci h1,Ig _ _ (by omega),Iv _ _ hl]
theorem Ge {e:Ex}{s:Bool}(hl:1<e.args.length)(h:(e.op==9)=true)(h1:(Am T V (Ao e)==1)=true) :
  Da T V e s=Jf (Ek (Da T V (Ao e) true) (Da T V (Bi e) s)) (Ek (Da T V (Ao e) false) (Da T V (Bi e) (!s))):=by
 rw [Jg,Ol,Ci (by simp at h ⊢;omega),Ci (by simp at h ⊢;omega),Ci (by simp at h ⊢;omega),if_pos (by rw [h,h1];rfl),Ig _ _ (by omega),Iv _ _ hl]
theorem Gg {e:Ex}{s:Bool}(h:(e.op==9)=true)(h1:(Am T V (Ao e)==1)=false)(h2:(Am T V (Ao e)==0 && !s)=true) :
  Da T V e s=Eg [⟨two 7 (Ao e) (Bi e),false⟩,⟨two 7 (Bi e) (Ao e),false⟩]:=by
 rw [Jg,Ol,Ci (by simp at h ⊢;omega),Ci (by simp at h ⊢;omega),Ci (by simp at h ⊢;omega),Ci (by rw [h1,Bool.and_false]),if_pos (by rw [h,h2];rfl)]
theorem It {e:Ex}{s:Bool}(h:(e.op==9)=true)(h1:(Am T V (Ao e)==1)=false)(h2:(Am T V (Ao e)==0 && !s)=false):Da T V e s=Eg [⟨e,!s⟩]:=by
 rw [Jg,Ol,Ci (by simp at h ⊢;omega),Ci (by simp at h ⊢;omega),Ci (by simp at h ⊢;omega),Ci (by rw [h1,Bool.and_false]),Ci (by rw [h2,Bool.and_false])]
theorem Kq {e:Ex}{s:Bool}(h0:(e.op==0)=false)(h12:(e.op==12)=false)(h10:(e.op==10||e.op==11)=false)(h:(e.op==9)=false):Da T V e s=Eg [⟨e,!s⟩]:=by
 rw [Jg,Ol,Ci h0,Ci h12,Ci h10,Ci (by rw [h];rfl),Ci (by rw [h];rfl)]
/-- how an expression may look to Da -/
theorem Lu {e:Ex}(s:Bool)(hk:KOK T V e) :
    (e.op==0)=true∨((e.op==12)=true∧0<e.args.length)∨((e.op==10||e.op==11)=true∧1<e.args.length)∨((e.op==9)=true∧1<e.args.length∧(Am T V (Ao e)==1)=true)∨
    ((e.op==9)=true∧1<e.args.length∧(Am T V (Ao e)==1)=false∧(Am T V (Ao e)==0 && !s)=true)∨((e.op==0)=false∧(e.op==12)=false∧(e.op==10||e.op==11)=false∧Da T V e s=Eg [⟨e,!s⟩]∧((e.op==9)=true→(Am T V (Ao e)==1)=false∧(Am T V (Ao e)==0 && !s)=false)):=by
  have hz:=Be hk.nodes
  cases h0:e.op==0 with
  | true=>exact .inl rfl
  | false=>
  cases h12:e.op==12 with
  | true=>exact .inr (.inl ⟨rfl,Wa hz.1 (eq_of_beq h12)⟩)
  | false=>
  cases h10:(e.op==10||e.op==11) with
  | true=>exact .inr (.inr (.inl ⟨rfl,Dg hz.1 (by simp at h10;omega)⟩))
  | false=>
  cases h9:e.op==9 with
  | true=>
    have hl:=Dg hz.1 (by simp at h9;omega)
    cases h1:Am T V (Ao e)==1 with
    | true=>exact .inr (.inr (.inr (.inl ⟨rfl,hl,rfl⟩)))
    | false=>
      cases h2:(Am T V (Ao e)==0 && !s) with
      | true=>exact .inr (.inr (.inr (.inr (.inl ⟨rfl,hl,rfl,rfl⟩))))
      | false=>exact .inr (.inr (.inr (.inr (.inr ⟨rfl,rfl,rfl,It h9 h1 h2,fun _=>⟨rfl,rfl⟩⟩))))
  | false=>exact .inr (.inr (.inr (.inr (.inr ⟨rfl,rfl,rfl,Kq h0 h12 h10 h9,fun h=>Bool.noConfusion h⟩))))
theorem Ga (e:Ex):KOK T V e→∀s,csOK (At e) (Da T V e s):=by
 refine Ex.Abu (P:=fun e=>KOK T V e→∀s,csOK (At e) (Da T V e s)) (fun e ih hk s=>?_) e
 have hsz:1≤At e:=by rw [D5];omega
 rcases Lu s hk with h | ⟨h,hl⟩ | ⟨h,hl⟩ | ⟨h,hl,h1⟩ | ⟨h,hl,h1,h2⟩ | ⟨_,_,_,h,_⟩
 ·
  cases h1:((e.val.num==1)==s) with
  | true=>rw [Gk h h1];exact ⟨by simp,by simp⟩
  | false=>rw [Gb h h1];exact ⟨by simp,by simp⟩
 ·
  rw [Gn hl h]
  exact (ih _ (A6 hl) (A3 hk (A6 hl)) _).mono (Nat.le_of_lt (wJ hl))
 ·
  have m0:=A6 (show 0<e.args.length by omega)
  have m1:=Bl hl
  have i0:=ih _ m0 (A3 hk m0) s
  have i1:=ih _ m1 (A3 hk m1) s
  have hs:=Dw hl
  cases h1:((e.op==10)==s) with
  | true=>rw [Gc hl h h1];exact (Li i0 i1).mono (by omega)
  | false=>rw [Gi hl h h1];exact nC (i0.mono (by omega)) (i1.mono (by omega))
 ·
  have m0:=A6 (show 0<e.args.length by omega)
  have m1:=Bl hl
  have i0:=ih _ m0 (A3 hk m0)
  have i1:=ih _ m1 (A3 hk m1)
  have hs:=Dw hl
  rw [Ge hl h h1]
  exact nC ((Li (i0 _) (i1 _)).mono (by omega)) ((Li (i0 _) (i1 _)).mono (by omega))
 · rw [Gg h h1 h2];exact ⟨by simp [Eg],by simp [Eg];omega⟩
 · rw [h];exact ⟨by simp [Eg],by simp [Eg];omega⟩
/-! ### The reference's -/
def pU (a b:List (List Lit)):Cs:=(a++b,decide (((a++b).length:Int)≤256))
def nU (a b:Cs)(times:Bool):Cs:=if !a.2 || !b.2 then ([],false) else if times then Mo a.1 b.1 else pU a.1 b.1
def Aau (a b:Cs):Cs:=if !a.2 || !b.2 then ([],false) else pU a.1 b.1
section
variable (T V)
def rnormN (e:Ex)(fs:List Hh):Hh:=fun sign=>
 if e.op==0 then (if (e.val.num==1)==sign then ([[]],true) else ([],true))
 else if e.op==12 then (Qd zY fs:Hh) (!sign)
 else if e.op==10 then nU ((Qd zY fs:Hh) sign) ((Yb zY fs:Hh) sign) sign
 else if e.op==11 then nU ((Qd zY fs:Hh) sign) ((Yb zY fs:Hh) sign) (!sign)
 else if e.op==9&&Am T V (Ao e)==1 then Aau (nU ((Qd zY fs:Hh) true) ((Yb zY fs:Hh) sign) true) (nU ((Qd zY fs:Hh) false) ((Yb zY fs:Hh) (!sign)) true)
 else if e.op==9&&(Am T V (Ao e)==0 && !sign) then Eg [⟨two 7 (Ao e) (Bi e),false⟩,⟨two 7 (Bi e) (Ao e),false⟩]
 else Eg [⟨e,!sign⟩]
def rnormS:Ex→Hh:=Q2 (rnormN T V)
end
/-- where the program's list is not ok the reference's is not, either; else they are the same -/
def csR (r p:Cs):Prop:=r.2=p.2∧(p.2=true→r=p)
/-- how long the reference's are -/
structure rcOK (n:Nat) (c:Cs):Prop where
 len:c.1.length≤512
 lits:∀x∈c.1,x.length≤n
end

theorem P5 {e:Ex}(h:0<e.args.length):e.args[0]? = some (Ao e):=by
 unfold Ao
 cases ha:e.args with
 | nil=>rw [ha] at h;cases h
 | cons a r=>rfl
theorem Ru {e:Ex}(h:1<e.args.length):e.args[1]? = some (Bi e):=by
  unfold Bi
  cases ha:e.args with
  | nil=>rw [ha] at h;cases h
  | cons a r=>
    cases r with
    | nil=>rw [ha] at h;simp at h
    | cons b r=>rfl
section
variable {T:List Sc} {V:List Va} {e:Ex}
theorem rW (h:(Eb T V e != 0)=true):Jb T V e=([],Eb T V e):=by rw [Jb,if_pos h]
theorem tB (h:(Eb T V e != 0)=false)(h2:(!(Da T V e true).2)=true):Jb T V e=([],17):=by rw [Jb,Ci h,if_pos h2]
theorem pY (h:(Eb T V e != 0)=false)(h2:(!(Da T V e true).2)=false):Jb T V e=((Da T V e true).1,0):=by rw [Jb,Ci h,Ci h2]
end
section
variable {T:List Sc} {V:List Va} {e:Ex}
theorem Wg {a b:Cs}(h:(!a.2 || !b.2)=false):a.2=true∧b.2=true:=by
 cases h1:a.2 <;> cases h2:b.2 <;> simp_all
end
/-! ### Comparing clauses -/
def Hi:List Lit→List Lit→Bool
 | [],[]=>true
 | a::r,b::q=>!(a.neg != b.neg || !sameS a.cond b.cond)&&Hi r q
 | _,_=>false
def J8:List (List Lit)→List (List Lit)→Bool
 | [],[]=>true
 | a::r,b::q=>Hi a b&&J8 r q
 | _,_=>false
theorem F4:∀a b:List Lit,Hi a b=true↔a=b
  | [],[]=>by simp [Hi]
  | [],b::q=>by simp [Hi]
  | a::r,[]=>by simp [Hi]
  | a::r,b::q=>by
    have ih:=F4 r q
    rw [Hi,Bool.and_eq_true,ih]
    cases a with | mk c n=>
    cases b with | mk d m=>
    have hs:=Ub c d
    cases hn:(n != m) with
    | true => have : n ≠ m := by simpa using hn
              simp [this]
    | false=>
      have:n=m:=by simpa using hn
      subst this
      cases hc:Td c d with
      | true=>simp [hs.1 hc]
      | false=>
        have:c≠d:=fun h=>by rw [hs.2 h] at hc;cases hc
        simp [this]
theorem Kg:∀a b:List (List Lit),J8 a b=true↔a=b
 | [],[]=>by simp [J8]
 | [],b::q=>by simp [J8]
 | a::r,[]=>by simp [J8]
 | a::r,b::q=>by rw [J8,Bool.and_eq_true,Kg r q,F4];simp
theorem bQ {a b:List Lit}(h:((a.length:Int) != (b.length:Int))=true):Hi a b=false:=by
 rw [Bool.eq_false_iff]
 intro h1
 rw [(F4 a b).1 h1] at h;simp at h
theorem iI {a b:List (List Lit)}(h:((a.length:Int) != (b.length:Int))=true):J8 a b=false:=by
 rw [Bool.eq_false_iff]
 intro h1
 rw [(Kg a b).1 h1] at h;simp at h
theorem dG {a b:List Lit}{k:Nat}{x y:Lit}(hx:a[k]? = some x)(hy:b[k]? = some y)(h:(x.neg != y.neg || !sameS x.cond y.cond)=true):Hi a b=false:=by
 rw [Bool.eq_false_iff]
 intro h1
 have:=(F4 a b).1 h1
 subst this
 rw [hx] at hy;cases hy
 rw [mD] at h;simp at h
theorem gJ {a b:List (List Lit)}{k:Nat}{x y:List Lit}(hx:a[k]? = some x)(hy:b[k]? = some y)(h:(!sameLits x y)=true):J8 a b=false:=by
 rw [Bool.eq_false_iff]
 intro h1
 have:=(Kg a b).1 h1
 subst this
 rw [hx] at hy;cases hy
 rw [(F4 x x).2 rfl] at h;cases h
theorem wI {x y:Lit}(h:(x.neg != y.neg || !sameS x.cond y.cond)=false):x=y:=by
 have:Hi [x] [y]=true:=by rw [Hi,h];rfl
 have:=(F4 _ _).1 this
 simpa using this
theorem uS {x y:List Lit}(h:(!sameLits x y)=false):x=y:=(F4 x y).1 (by simpa using h)

section
variable {T:List Sc} {V:List Va}
/-- the error of a literal -/
def Y0 (T:List Sc)(V:List Va)(c:Lit):Int:=if Eb T V c.cond != 0 then Eb T V c.cond else if E3 T V c.cond||(c.neg&&(c.cond.op==9&&Am T V (Ao c.cond)==0)) then 3 else 0
theorem xN {l:List Lit}(h:((Db T V (Em true)).2 != 0)=true):Gd T V l=(Db T V (Em true)).2:=by rw [Gd,if_pos h]
theorem vZ {l:List Lit}(h:((Db T V (Em true)).2 != 0)=false)(h2:decide ((256:Int)<(l.length:Int))=true):Gd T V l=5:=by rw [Gd,Ci h,if_pos h2]
theorem Ya {l:List Lit}(h:((Db T V (Em true)).2 != 0)=false)(h2:decide ((256:Int)<(l.length:Int))=false):Gd T V l=Aq (Y0 T V) l:=by rw [Gd,Ci h,Ci h2];rfl
theorem lit_1 {c:Lit}(h:(Eb T V c.cond != 0)=true):Y0 T V c=Eb T V c.cond:=by rw [Y0,if_pos h]
theorem lit_2 {c:Lit}(h:(Eb T V c.cond != 0)=false)(h2:(E3 T V c.cond||((c.neg&&c.cond.op==9)&&Am T V (Ao c.cond)==0))=true):Y0 T V c=3:=by
 rw [Y0,Ci h,if_pos (by rw [←Bool.and_assoc];exact h2)]
theorem lit_3 {c:Lit}(h:(Eb T V c.cond != 0)=false)(h2:(E3 T V c.cond||((c.neg&&c.cond.op==9)&&Am T V (Ao c.cond)==0))=false):Y0 T V c=0:=by
 rw [Y0,Ci h,Ci (by rw [←Bool.and_assoc];exact h2)]
theorem Nh {α:Type}{f:α→Int}{l:List α}{k:Nat}{a:α}(hk:Aq f (l.take k)=0)(ha:l[k]? = some a)(h:f a≠0):Aq f l=f a:=by
  induction l generalizing k with
  | nil=>simp at ha
  | cons x r ih=>
    cases k with
    | zero => have : x = a := by simpa using ha
              subst this
              rw [Aq,if_pos (by simpa using h)]
    | succ k=>
      rw [List.take_succ_cons,Aq] at hk
      by_cases hx:(f x != 0)=true
      · rw [if_pos hx] at hk;rw [hk] at hx;cases hx
      · rw [if_neg hx] at hk
        rw [Aq,if_neg hx]
        exact ih hk (by simpa using ha)
theorem Q8 {α:Type}{f:α→Int}{l:List α}{k:Nat}{a:α}(hk:Aq f (l.take k)=0)(ha:l[k]? = some a)(h:f a=0):Aq f (l.take (k+1))=0:=by
  rw [Cr ha]
  generalize l.take k=m at hk
  induction m with
  | nil=>simp [Aq,h]
  | cons x r ih=>
    rw [Aq] at hk
    by_cases hx:(f x != 0)=true
    · rw [if_pos hx] at hk;rw [hk] at hx;cases hx
    · rw [if_neg hx] at hk
      rw [List.cons_append,Aq,if_neg hx]
      exact ih hk
theorem g9c {e:Ex}(hk:KOK T V e){x b:Bool}(hG:Il [(x,false),(b&&e.op==9,true)]):1<e.args.length:=by
 have h:(b&&e.op==9)=true:=hG (b&&e.op==9,true) (by simp)
 have h9:e.op=9:=by simp at h;exact h.2
 exact Dg (Be hk.nodes).1 (by omega)
/-- well-typed literals within the limits -/
def U6 (T:List Sc)(V:List Va)(l:List Lit):Prop:=∀c∈l,KOK T V c.cond∧At c.cond≤64
theorem Aap {l:List Lit}(h:Aq (Y0 T V) l=0):U6 T V l:=fun c hc=>by
 have h1:=Ha h c hc
 unfold Y0 at h1
 by_cases h2:(Eb T V c.cond != 0)=true
 · rw [if_pos h2] at h1;rw [h1] at h2;cases h2
 ·
  have hk:=(Sl (by simpa using h2)).1
  exact ⟨hk.kok,Ir hk⟩
theorem rL {l:List Lit}(h:(Gd T V l != 0)=false):U6 T V l∧l.length≤256:=by
 have h0:Gd T V l=0:=by simpa using h
 unfold Gd at h0
 by_cases h1:((Db T V (Em true)).2 != 0)=true
 · rw [if_pos h1] at h0;rw [h0] at h1;cases h1
 ·
  rw [if_neg h1] at h0
  by_cases h2:decide ((256:Int)<(l.length:Int))=true
  · rw [if_pos h2] at h0;cases h0
  ·
   rw [if_neg h2] at h0
   exact ⟨Aap h0,by simp at h2;omega⟩
theorem aS {l:Lit}(h:(l.cond.op==1)=true):Aa T V l=(⟨[D0 l.cond],[],0⟩,true):=by rw [Aa,if_pos h]
theorem oK {l:Lit}(h:(l.cond.op==1)=false)(h2:(!comparesS l.cond||Dp T V l.cond)=true):Aa T V l=(tV,false):=by rw [Aa,Ci h,if_pos h2]
theorem Z6 {l:Lit}(h:(l.cond.op==1)=false)(h2:(!comparesS l.cond||Dp T V l.cond)=false):Aa T V l=Ch (Ao l.cond) (Bi l.cond):=by rw [Aa,Ci h,Ci h2]
theorem V3 {l:Lit}(h2:(!comparesS l.cond||Dp T V l.cond)=false):Hn l.cond=true:=by
 cases hq:Hn l.cond with
 | true=>rfl
 | false=>rw [hq] at h2;simp at h2
theorem uQ {t:Tm}(h:(t.op==2)=true):C0 T V t=(0,1099511627776):=by rw [C0,if_pos h]
theorem uA {t:Tm}(h:(t.op==2)=false)(h2:(Am T V (Ho t)==1)=true):C0 T V t=(0,1):=by rw [C0,Ci h,if_pos h2]
theorem xI {t:Tm}(h:(t.op==2)=false)(h2:(Am T V (Ho t)==1)=false):C0 T V t=(-1099511627776,1099511627776):=by rw [C0,Ci h,Ci h2]

/-! ### the terms of a well-typed sum -/
theorem bK (e:Ex):KOK T V e→∀{b:Int} {s:Su},(∀p∈s.ts,KOK T V (Ho p.1))→∀p∈(Bp e b s).1.ts,KOK T V (Ho p.1):=by
  refine Ex.Abu (P:=fun e=>KOK T V e→∀{b:Int} {s:Su},(∀p∈s.ts,KOK T V (Ho p.1))→∀p∈(Bp e b s).1.ts,KOK T V (Ho p.1)) (fun e ih hk b s hs=>?_) e
  have hz:=Be hk.nodes
  rcases Pc hz.1 with h | ⟨h,h1⟩ | ⟨h,hl⟩ | ⟨h,h1,h2,h3⟩
  · rw [Fv h];exact hs
  · rw [B7 h h1]
    intro p hp
    have key:∀{ts:List (Tm×Int)},(∀p∈ts,KOK T V (Ho p.1))→∀p∈Io (D0 e) b ts,KOK T V (Ho p.1):=by
      intro ts
      induction ts with
      | nil=>intro _ p hp;rw [Io,List.mem_singleton] at hp;rw [hp];rw [K6 hz.1 h1];exact hk
      | cons q r ihr=>
        intro hts p hp
        rw [Io] at hp
        split at hp
        · rcases List.mem_cons.1 hp with rfl | hp
          · exact hts q (List.mem_cons_self ..)
          · exact hts p (List.mem_cons_of_mem _ hp)
        · rcases List.mem_cons.1 hp with rfl | hp
          · exact hts p (List.mem_cons_self ..)
          · exact ihr (fun p hp=>hts p (List.mem_cons_of_mem _ hp)) p hp
    exact key hs p hp
  · have m0:=A6 (show 0<e.args.length by omega)
    have m1:=Bl hl
    have key:∀c,∀p∈(if !(Bp (Ao e) b s).2 then ((Bp (Ao e) b s).1,false) else Bp (Bi e) c (Bp (Ao e) b s).1).1.ts,KOK T V (Ho p.1):=fun c=>by
      have i0:=ih _ m0 (A3 hk m0) (b:=b) hs
      split
      · exact i0
      · exact ih _ m1 (A3 hk m1) i0
    rcases h with h | h
    · rw [J5 (c:=b) hl (.inl ⟨h,rfl⟩)];exact key b
    · rw [J5 (c:=0-b) hl (.inr ⟨h,rfl⟩)];exact key _
  · rw [Gy h h1 h2 h3];exact hs
theorem I5 {P:Tm→Prop}:∀{ts:List (Tm×Int)} {p m p' m':List Tm},(∀t∈ts,P t.1)→(∀t∈p,P t)→(∀t∈m,P t)→Dt ts p m=some (p',m')→(∀t∈p',P t)∧∀t∈m',P t
  | [],p,m,p',m',_,hp,hm,h=>by rw [Dt] at h;cases h;exact ⟨hp,hm⟩
  | t::r,p,m,p',m',ht,hp,hm,h=>by
    rw [Dt] at h
    have hr:∀t∈r,P t.1:=fun x hx=>ht x (List.mem_cons_of_mem _ hx)
    have h0:P t.1:=ht t (List.mem_cons_self ..)
    have snoc:∀{l:List Tm},(∀t∈l,P t)→∀x∈l ++ [t.1],P x:=fun hl x hx=>by
      rcases List.mem_append.1 hx with h | h
      · exact hl x h
      · rw [List.mem_singleton.1 h];exact h0
    split at h
    · exact I5 hr hp hm h
    · split at h
      · exact I5 hr (snoc hp) hm h
      · split at h
        · exact I5 hr hp (snoc hm) h
        · cases h
theorem cD {a b:Ex}(ha:KOK T V a)(hb:KOK T V b):∀p∈(C8 a b).ts,KOK T V (Ho p.1):=by
 have h1:=bK a ha (b:=1) (s:=Ks) (fun p hp=>by cases hp)
 unfold C8
 split
 · exact h1
 · exact bK b hb h1
/-- what a difference is made of -/
structure GOK (T:List Sc) (V:List Va) (g:Gp):Prop where
 plus:∀t∈g.plus,KOK T V (Ho t)
 minus:∀t∈g.minus,KOK T V (Ho t)
 rest : -140737488355328≤g.rest∧g.rest≤140737488355328
 lp:g.plus.length≤128
 lm:g.minus.length≤128
theorem dI:GOK T V tV:=⟨fun t h=>(by cases h),fun t h=>(by cases h),by simp [tV],by simp [tV],by simp [tV]⟩
theorem P8:∀{ts:List (Tm×Int)} {p m p' m':List Tm},Dt ts p m=some (p',m')→p'.length≤p.length+ts.length∧m'.length≤m.length+ts.length
  | [],p,m,p',m',h=>by rw [Dt] at h;cases h;simp
  | t::r,p,m,p',m',h=>by
    rw [Dt] at h
    split at h
    · have:=P8 h;simp only [List.length_cons];omega
    · split at h
      · have:=P8 h;simp only [List.length_cons,List.length_append,List.length_nil] at this ⊢;omega
      · split at h
        · have:=P8 h;simp only [List.length_cons,List.length_append,List.length_nil] at this ⊢;omega
        · cases h
theorem lI {a b:Ex}(ha:KOK T V a)(hb:KOK T V b)(hs:At a+At b≤128):GOK T V (Ch a b).1:=by
  unfold Ch
  split
  · exact dI
  rename_i h1
  split
  · exact dI
  rename_i h2
  have he:(Bp b (-1) (Bp a 1 Ks).1).1=C8 a b:=by unfold C8;rw [if_neg h1]
  rw [he]
  have ho:=aF ha.nodes hb.nodes
  unfold S5
  cases hp:Dt (C8 a b).ts [] [] with
  | none=>exact dI
  | some p=>
    obtain ⟨p,m⟩:=p
    obtain ⟨t1,t2⟩:=I5 (P:=fun t=>KOK T V (Ho t)) (cD ha hb) (fun t h=>by cases h) (fun t h=>by cases h) hp
    obtain ⟨l1,l2⟩:=P8 hp
    have hr:=ho.rest
    have hl:=ho.len
    simp only [List.length_nil,Nat.zero_add] at l1 l2
    exact ⟨t1,t2,by simp only;omega,by simp only;omega,by simp only;omega⟩
theorem Q1 {l:Lit}(hk:KOK T V l.cond)(hs:At l.cond≤64):GOK T V (Aa T V l).1:=by
  cases h:l.cond.op==1 with
  | true=>
    rw [aS h]
    refine ⟨fun t ht=>?_,fun t ht=>(by cases ht),by simp,by simp,by simp⟩
    rw [List.mem_singleton.1 ht,K6 (Be hk.nodes).1 (by rw [h];rfl)]
    exact hk
  | false=>
    cases h2:(!comparesS l.cond||Dp T V l.cond) with
    | true=>rw [oK h h2];exact dI
    | false=>
      rw [Z6 h h2]
      have hl:=Ky hk (V3 h2)
      have hs2:=Dw hl
      exact lI (A3 hk (A6 (by omega))) (A3 hk (Bl hl)) (by omega)
end

/-! ### the index of the terms -/
def yC:Nat→List Tm→List (List AV×AV)
 | _,[]=>[]
 | i,t::r=>(Ia t,.int .i64 ((i:Int)+1))::yC (i+1) r
def Ua (ts:List Tm):List (List AV×AV):=yC 0 ts
theorem yW (t:Tm):∀(ts:List Tm) (i:Nat),∀p∈yC i ts,G7 TL [(0,1,true,3),(1,1,true,3),(2,1,true,3)] (Ia t) p.1=some (Hs t p.1)
  | [],_,p,hp=>by cases hp
  | u::r,i,p,hp=>by
    rw [yC] at hp
    rcases List.mem_cons.1 hp with rfl | hp
    · show G7 TL _ (Ia t) (Ia u)=some (Hs t (Ia u));rw [bV,Sj]
    · exact yW t r (i+1) p hp
theorem cC (t:Tm)(ts:List Tm):∀p∈Ua ts,G7 TL [(0,1,true,3),(1,1,true,3),(2,1,true,3)] (Ia t) p.1=some (Hs t p.1):=yW t ts 0
theorem pO (t:Tm):∀(ts:List Tm) (i:Nat),Hf (Hs t) (yC i ts)=if ts.contains t then some (.int .i64 ((i:Int)+(ts.idxOf t:Nat)+1)) else none
  | [],_=>rfl
  | u::r,i=>by
    rw [yC,Hf,Sj,pO t r (i+1),List.contains_cons,List.idxOf_cons]
    cases hq:bP t u with
    | true=>
      have:=Kz.1 hq
      subst this
      simp
    | false=>
      have hne:t≠u:=fun h=>by rw [Kz.2 h] at hq;cases hq
      have h1:(t==u)=false:=by simpa using hne
      have h2:(u==t)=false:=by simpa using Ne.symm hne
      rw [h1,h2]
      simp only [Bool.false_or,cond_false,Bool.false_eq_true,if_false]
      split
      · congr 2;push_cast;omega
      · rfl
theorem Tc (t:Tm)(ts:List Tm):Hf (Hs t) (Ua ts)=if ts.contains t then some (.int .i64 (((ts.idxOf t:Nat):Int)+1)) else none:=by
 unfold Ua
 rw [pO]
 simp
theorem zJ (t:Tm)(ts:List Tm):(Hf (Hs t) (Ua ts)).isSome=ts.contains t:=by
 rw [Tc];cases ts.contains t <;> rfl
theorem rO {t:Tm}{ts:List Tm}(h:ts.contains t=false):Hf (Hs t) (Ua ts)=none:=by rw [Tc,h];rfl
theorem fT (t:Tm):∀(ts:List Tm) (i:Nat),yC i (ts ++ [t])=yC i ts ++ [(Ia t,.int .i64 ((i:Int)+ts.length+1))]
  | [],i=>by simp [yC]
  | u::r,i=>by
    rw [List.cons_append,yC,yC,fT t r (i+1)]
    simp only [List.cons_append,List.length_cons]
    rw [show ((i+1:Nat):Int)+(r.length:Int)+1=(i:Int)+((r.length+1:Nat):Int)+1 by omega]
theorem tH (t:Tm)(ts:List Tm):Ua (ts ++ [t])=Ua ts ++ [(Ia t,.int .i64 ((ts.length:Int)+1))]:=by
 unfold Ua;rw [fT];simp
/-- what the map holds at a term that is there -/
theorem look_y {t:Tm}{ts:List Tm}(h:ts.contains t=true):match Hf (Hs t) (Ua ts) with | some y=>y = .int .i64 (((ts.idxOf t:Nat):Int)+1) | none=>[AV.int .i64 0] = [.int .i64 (((ts.idxOf t:Nat):Int)+1)]:=by
 rw [Tc,if_pos h]
/-- at any -/
theorem Aay (t:Tm)(ts:List Tm):match Hf (Hs t) (Ua ts) with | some y=>y = .int .i64 (if ts.contains t then ((ts.idxOf t:Nat):Int)+1 else 0) | none=>[AV.int .i64 0] = [.int .i64 (if ts.contains t then ((ts.idxOf t:Nat):Int)+1 else 0)]:=by
 rw [Tc]
 cases ts.contains t <;> rfl
theorem Xp (t:Tm)(l ts:List Tm):(A4 ts (t::l)).contains t=true:=by
 unfold A4
 simp only
 split
 · assumption
 · simp
theorem tI {t:Tm}{l ts:List Tm}(h:ts.contains t=false):A4 ts (t::l)=ts ++ [t]:=by unfold A4;simp only;rw [h];rfl
theorem sP {t:Tm}{l ts:List Tm}(h:ts.contains t=true):A4 ts (t::l)=ts:=by unfold A4;simp only;rw [if_pos h]
theorem addTm_nil {ts:List Tm}:A4 ts []=ts:=rfl
theorem Tr (ts l:List Tm):(A4 ts l).length≤ts.length+1:=by
 cases l with
 | nil=>simp [A4]
 | cons t r=>unfold A4;simp only;split <;> simp
theorem Le {P:Tm→Prop}{ts l:List Tm}(h:∀t∈ts,P t)(hl:∀t∈l,P t):∀t∈A4 ts l,P t:=by
  cases l with
  | nil=>exact h
  | cons t r=>
    unfold A4
    simp only
    split
    · exact h
    · intro u hu
      rcases List.mem_append.1 hu with hu | hu
      · exact h u hu
      · rw [List.mem_singleton.1 hu];exact hl t (List.mem_cons_self ..)
/-! ### the system in the heap -/
abbrev gE (m yb:Nat)(v:Value)(c0 c1:AV)(ts:List Tm)(R:List HO):List HO:=.row v (ts.map Ia).length 143 3 :: .box yb 141 [c0,c1,.row v 3 (ts.map Ia),.val (.map (some m))] :: .kmap m (Ua ts)::R
theorem Abc {m yb:Nat}{v:Value}{c0 c1:AV}{ts l:List Tm}{t:Tm}{R:List HO}(h:ts.contains t=true):gE m yb v c0 c1 ts R=gE m yb v c0 c1 (A4 ts (t::l)) R:=by rw [sP h]
theorem unk_new {m yb:Nat}{v:Value}{c0 c1:AV}{ts l:List Tm}{t:Tm}{R:List HO}(h:ts.contains t=false) :
  (HO.row v (ts.map Ia ++ [Ia t]).length 143 3 :: .box yb 141 [c0,c1,.row v 3 (ts.map Ia ++ [Ia t]),.val (.map (some m))] :: .kmap m (Ua ts ++ [(Ia t,.int .i64 ((ts.length:Int)+1))])::R)=gE m yb v c0 c1 (A4 ts (t::l)) R:=by
 rw [tI h]
 simp only [gE]
 rw [tH,List.map_append];rfl
theorem num_old {t:Tm}{l ts:List Tm}:B6 (A4 ts (t::l)) (t::l)=(((A4 ts (t::l)).idxOf t:Nat):Int)+1:=rfl
/-! ### steps -/
section
variable {T:List Sc} {V:List Va}
theorem Lo {s:Sy}{c:Lit}(h:(!(Aa T V c).2)=true):Dd T V s c=s:=by rw [Dd,if_pos h]
theorem Lr {s:Sy}{c:Lit}(h:(!(Aa T V c).2)=false):Dd T V s c=⟨A4 (A4 s.ts (Aa T V c).1.plus) (Aa T V c).1.minus,
 s.bs++D6 c (B6 (A4 s.ts (Aa T V c).1.plus) (Aa T V c).1.plus) (B6 (A4 (A4 s.ts (Aa T V c).1.plus) (Aa T V c).1.minus) (Aa T V c).1.minus) (Aa T V c).1.rest⟩:=by rw [Dd,Ci h]
theorem iP {l:List Lit}{k:Nat}{c:Lit}(h:l[k]? = some c):Cg T V (l.take (k+1))=Dd T V (Cg T V (l.take k)) c:=by
 unfold Cg
 rw [Cr h,List.foldl_append];rfl
theorem lS (c:Lit)(x z rest:Int):(D6 c x z rest).length≤2:=by
 unfold D6
 repeat' split
 all_goals simp
/-- how large a system is, and that its terms are well-typed -/
structure syOK (T:List Sc) (V:List Va) (n:Nat) (s:Sy):Prop where
 len:s.ts.length≤2*n
 bnds:s.bs.length≤2*n
 terms:∀t∈s.ts,KOK T V (Ho t)
theorem yL:∀{l:List Lit},U6 T V l→∀{n:Nat} {s:Sy},syOK T V n s→syOK T V (n+l.length) (l.foldl (Dd T V) s)
  | [],_,n,s,hs=>hs
  | c::r,hl,n,s,hs=>by
    rw [List.foldl_cons,List.length_cons,show n+(r.length+1)=(n+1)+r.length by omega]
    refine yL (fun x hx=>hl x (List.mem_cons_of_mem _ hx)) ?_
    cases h : !(Aa T V c).2 with
    | true=>rw [Lo h];exact ⟨by have:=hs.len;omega,by have:=hs.bnds;omega,hs.terms⟩
    | false=>
      rw [Lr h]
      have hg:=Q1 (hl c (List.mem_cons_self ..)).1 (hl c (List.mem_cons_self ..)).2
      refine ⟨?_,?_,?_⟩
      · have h1:=Tr s.ts (Aa T V c).1.plus
        have h2:=Tr (A4 s.ts (Aa T V c).1.plus) (Aa T V c).1.minus
        have:=hs.len
        simp only;omega
      · simp only [List.length_append]
        have:=lS c (B6 (A4 s.ts (Aa T V c).1.plus) (Aa T V c).1.plus) (B6 (A4 (A4 s.ts (Aa T V c).1.plus) (Aa T V c).1.minus) (Aa T V c).1.minus) (Aa T V c).1.rest
        have:=hs.bnds
        omega
      · exact Le (Le hs.terms hg.plus) hg.minus
theorem Lw {l:List Lit}(h:U6 T V l):syOK T V l.length (Cg T V l):=by
 have:=yL h (n:=0) (s:=⟨[],[]⟩) ⟨by simp,by simp,fun t ht=>by cases ht⟩
 rw [Nat.zero_add] at this
 exact this
theorem wT {l:List Lit}(h:U6 T V l)(k:Nat):U6 T V (l.take k):=fun c hc=>h c (List.mem_of_mem_take hc)
theorem fE:∀(ts:List Tm) (i:Nat) (t:Tm),Hj T V i (ts ++ [t])=Hj T V i ts ++ [⟨(i:Int)+ts.length+1,0,(C0 T V t).2⟩,⟨0,(i:Int)+ts.length+1,0-(C0 T V t).1⟩]
  | [],i,t=>by simp [Hj]
  | u::r,i,t=>by
    rw [List.cons_append,Hj,Hj,fE r (i+1) t]
    simp only [List.cons_append,List.length_cons]
    rw [show ((i+1:Nat):Int)+(r.length:Int)+1=(i:Int)+((r.length+1:Nat):Int)+1 by omega]
theorem uG {ts:List Tm}{k:Nat}{t:Tm}(h:ts[k]? = some t):Hj T V 0 (ts.take (k+1))=Hj T V 0 (ts.take k) ++ [⟨(k:Int)+1,0,(C0 T V t).2⟩,⟨0,(k:Int)+1,0-(C0 T V t).1⟩]:=by
 have hl:=Bb h
 rw [Cr h,fE]
 simp [Nat.min_eq_left (Nat.le_of_lt hl)]
theorem dB:∀(ts:List Tm) (i:Nat),(Hj T V i ts).length=2*ts.length
 | [],i=>rfl
 | t::r,i=>by rw [Hj];simp only [List.length_cons,dB r (i+1)];omega
theorem Rv (t:Tm) : -1099511627776≤(C0 T V t).1∧(C0 T V t).1≤1099511627776∧-1099511627776≤(C0 T V t).2∧(C0 T V t).2≤1099511627776:=by
 unfold C0
 repeat' split
 all_goals simp
/-- the system behind its pointer -/
def sJ (T:List Sc)(V:List Va)(l:List Lit):List AV:=[.int .i64 (C7 T V l).n,.sl 3 ((C7 T V l).bs.map Rq),.sl 3 ((Cg T V l).ts.map Ia),.junk]
theorem zS {α:Type}{l:List α}(h:(((l.length:Nat):Int)==0)=false):∃t r,l=t::r:=by
 cases l with
 | nil=>cases h
 | cons t r=>exact ⟨t,r,rfl⟩
theorem nil_of {α:Type}{l:List α}(h:(((l.length:Nat):Int)==0)=true):l = []:=by
 cases l with
 | nil=>rfl
 | cons t r=>simp at h;omega
theorem sc_two {a b:List AV}(h1:Bh a=true)(h2:Bh b=true):∀c∈[a,b],Bh c=true:=fun c hc=>by
 rcases List.mem_cons.1 hc with rfl | hc
 · exact h1
 · rw [List.mem_singleton.1 hc];exact h2
theorem bd_1 {c:Lit}{x z r:Int}(h:(c.cond.op==1&&c.neg)=true):D6 c x z r = [⟨x,z,0-r⟩]:=by rw [D6,if_pos (by rw [h];rfl)]
theorem bd_2 {c:Lit}{x z r:Int}(h:(c.cond.op==8 && !c.neg)=true):D6 c x z r = [⟨x,z,0-r⟩]:=by rw [D6,if_pos (by rw [h];simp)]
theorem xG {c:Lit}{x z r:Int}(h:(c.cond.op==1&&c.neg)=false)(h2:(c.cond.op==8 && !c.neg)=false):D6 c x z r=if c.cond.op==1||c.cond.op==8 then [⟨z,x,r-1⟩] else if c.cond.op==7 && !c.neg then [⟨x,z,0-r-1⟩] else if c.cond.op==7 then [⟨z,x,r⟩] else [⟨x,z,0-r⟩,⟨z,x,r⟩]:=by
 rw [D6,Ci (by rw [h,h2];rfl)]
theorem bd_3 {c:Lit}{x z r:Int}(h:(c.cond.op==1&&c.neg)=false)(h2:(c.cond.op==8 && !c.neg)=false)(h3:(c.cond.op==1)=true):D6 c x z r = [⟨z,x,r-1⟩]:=by rw [xG h h2,if_pos (by rw [h3];rfl)]
theorem bd_4 {c:Lit}{x z r:Int}(h:(c.cond.op==1&&c.neg)=false)(h2:(c.cond.op==8 && !c.neg)=false)(h3:(c.cond.op==8)=true):D6 c x z r = [⟨z,x,r-1⟩]:=by rw [xG h h2,if_pos (by rw [h3];simp)]
theorem bd_5 {c:Lit}{x z r:Int}(h:(c.cond.op==1&&c.neg)=false)(h2:(c.cond.op==8 && !c.neg)=false)(h3:(c.cond.op==1)=false)(h4:(c.cond.op==8)=false)(h5:(c.cond.op==7 && !c.neg)=true):D6 c x z r = [⟨x,z,0-r-1⟩]:=by rw [xG h h2,Ci (by rw [h3,h4];rfl),if_pos h5]
theorem bd_6 {c:Lit}{x z r:Int}(h:(c.cond.op==1&&c.neg)=false)(h2:(c.cond.op==8 && !c.neg)=false)(h3:(c.cond.op==1)=false)(h4:(c.cond.op==8)=false)(h5:(c.cond.op==7 && !c.neg)=false)(h6:(c.cond.op==7)=true):D6 c x z r = [⟨z,x,r⟩]:=by rw [xG h h2,Ci (by rw [h3,h4];rfl),Ci h5,if_pos h6]
theorem bd_7 {c:Lit}{x z r:Int}(h:(c.cond.op==1&&c.neg)=false)(h2:(c.cond.op==8 && !c.neg)=false)(h3:(c.cond.op==1)=false)(h4:(c.cond.op==8)=false)(h5:(c.cond.op==7 && !c.neg)=false)(h6:(c.cond.op==7)=false):D6 c x z r = [⟨x,z,0-r⟩,⟨z,x,r⟩]:=by rw [xG h h2,Ci (by rw [h3,h4];rfl),Ci h5,Ci h6]
theorem cSy_eq {l:List Lit}{s:Sy}{eZ eB:List (List AV)}(h:s=Cg T V l)(hz:eZ=(Hj T V 0 s.ts).map Rq)(hb:eB=s.bs.map Rq):AV.ptr [.int .i64 ((s.ts.length:Int)+1),.sl 3 (eZ++eB),.sl 3 (s.ts.map Ia),.junk] = .ptr (sJ T V l):=by
 rw [hz,hb,←List.map_append,h];rfl
/-- one step of the loop -/
theorem Lk {l:List Lit}{k:Nat}{c:Lit}{s:Sy}{bs:List Bd}(h:l[k]? = some c)(hs:s=Cg T V (l.take k))(hn:(!(Aa T V c).2)=false)
  (hb:D6 c (B6 (A4 s.ts (Aa T V c).1.plus) (Aa T V c).1.plus) (B6 (A4 (A4 s.ts (Aa T V c).1.plus) (Aa T V c).1.minus) (Aa T V c).1.minus) (Aa T V c).1.rest=bs) :
  (⟨A4 (A4 s.ts (Aa T V c).1.plus) (Aa T V c).1.minus,s.bs++bs⟩:Sy)=Cg T V (l.take (k+1)):=by
 rw [iP h,←hs,Lr hn,hb]
theorem wM {l:List Lit}{k:Nat}{c:Lit}{s:Sy}(h:l[k]? = some c)(hs:s=Cg T V (l.take k))(hn:(!(Aa T V c).2)=true):s=Cg T V (l.take (k+1)):=by
 rw [iP h,←hs,Lo hn]
theorem Mk {s:List Bd}{e:List (List AV)}{b:Bd}(h:e=s.map Rq):e ++ [Rq b]=(s ++ [b]).map Rq:=by rw [h,List.map_append];rfl
theorem qI {s:List Bd}{e:List (List AV)}{b c:Bd}(h:e=s.map Rq):(e ++ [Rq b]) ++ [Rq c]=(s ++ [b,c]).map Rq:=by rw [h,List.map_append,List.append_assoc];rfl
theorem qQ {ts l:List Tm}{n:Nat}(h:ts.length≤n):0≤B6 ts l∧B6 ts l≤(n:Int)+1:=by
  unfold B6
  cases l with
  | nil=>simp only;omega
  | cons t r=>
    simp only
    have:ts.idxOf t≤ts.length:=List.idxOf_le_length
    omega
theorem Zone_1 {l:List Lit}(h:(Gd T V l != 0)=true):Qk T V l=⟨zn0,[],Gd T V l⟩:=by rw [Qk,if_pos h]
theorem Zone_2 {l:List Lit}(h:(Gd T V l != 0)=false)(h2:(!fitsS (C7 T V l))=true):Qk T V l=⟨zn0,[],17⟩:=by rw [Qk,Ci h,if_pos h2]
theorem Zone_3 {l:List Lit}(h:(Gd T V l != 0)=false)(h2:(!fitsS (C7 T V l))=false):Qk T V l=⟨C7 T V l,(Cg T V l).ts.map Ho,0⟩:=by rw [Qk,Ci h,Ci h2]
end
end Go.Proofs.YtkddpedfbicbeaaGreatDoor
