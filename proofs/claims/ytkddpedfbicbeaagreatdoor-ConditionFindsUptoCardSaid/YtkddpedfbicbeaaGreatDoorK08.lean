/-
  Several texts in one: S14, S15, S16, S17, S18, S19, S20, S21, S22. No condition.
-/
import Derived.Test.YtkddpedfbicbeaaGreatDoorK07
import Derived.Test.YtkddpedfbicbeaaGreatDoorK02
set_option linter.unusedVariables false
set_option linter.unusedSimpArgs false
namespace Go.Proofs.YtkddpedfbicbeaaGreatDoor
open Go Go.Aw

def GT:List (Nat×Nat×Bool×Nat):=[(0,1,true,3),(1,1,true,3),(2,1,true,3)]
def G4 (ts:List (Tm×Int)):List (List AV×AV):=ts.map fun p=>(Ib p.1,.int .i64 p.2)
def bT (t u:Tm):Bool:=t.op==u.op&&(t.v==u.v&&t.field==u.field)
theorem K5 {t u:Tm}:bT t u=true↔t=u:=by
 unfold bT
 cases t;cases u
 simp
def Ht (t:Tm)(k:List AV):Bool:=(Hb TL [(0,1,true,3),(1,1,true,3),(2,1,true,3)] (Ib t) k).getD false
theorem cH (t u:Tm):Hb TL [(0,1,true,3),(1,1,true,3),(2,1,true,3)] (Ib t) (Ib u)=some (bT t u):=by
 show some ((t.op==u.op)&&((t.v==u.v)&&((t.field==u.field)&&true)))=_
 rw [Bool.and_true];rfl
theorem Tg (t u:Tm):Ht t (Ib u)=bT t u:=by unfold Ht;rw [cH];rfl
theorem Ix (t:Tm)(ts:List (Tm×Int)):∀p∈G4 ts,Hb TL [(0,1,true,3),(1,1,true,3),(2,1,true,3)] (Ib t) p.1=some (Ht t p.1):=by
 intro p hp
 obtain ⟨x,_,rfl⟩:=List.mem_map.1 hp
 show Hb TL _ (Ib t) (Ib x.1)=some (Ht t (Ib x.1))
 rw [cH,Tg]
theorem uE (ts:List (Tm×Int)):(G4 ts).length=ts.length:=List.length_map ..
def tM (t:Tm):List (Tm×Int)→Option Nat
 | []=>none
 | q::r=>if bT t q.1 then some 0 else (tM t r).map (· + 1)
theorem mH (t:Tm):∀ts:List (Tm×Int),Lo (Ht t) (G4 ts)=tM t ts
  | []=>rfl
  | q::r=>by
    have ih:=mH t r
    unfold G4 at ih ⊢
    rw [List.map_cons,Lo,Tg,ih,tM]
theorem dT (t:Tm):∀ts:List (Tm×Int),Hk (Ht t) (G4 ts)=(ts.find? fun q=>bT t q.1).map fun q=>.int .i64 q.2
  | []=>rfl
  | q::r=>by
    have ih:=dT t r
    unfold G4 at ih ⊢
    rw [List.map_cons,Hk,Tg,ih,List.find?_cons]
    cases bT t q.1 <;> rfl
/-- the coefficient of a term -/
def F8 (t:Tm)(ts:List (Tm×Int)):Int:=((ts.find? fun q=>bT t q.1).map fun q=>q.2).getD 0
def Rf (t:Tm)(ts:List (Tm×Int)):Bool:=(ts.find? fun q=>bT t q.1).isSome
theorem On (t:Tm)(ts:List (Tm×Int)):match Hk (Ht t) (G4 ts) with | some y=>y = .int .i64 (F8 t ts) | none=>[AV.int .i64 0] = [.int .i64 (F8 t ts)]:=by
 rw [dT]
 unfold F8
 cases ts.find? fun q=>bT t q.1 <;> rfl
theorem has_t (t:Tm)(ts:List (Tm×Int)):(Hk (Ht t) (G4 ts)).isSome=Rf t ts:=by
 rw [dT]
 unfold Rf
 cases ts.find? fun q=>bT t q.1 <;> rfl
theorem jE {t:Tm}{ts:List (Tm×Int)}(h:Rf t ts=false):Hk (Ht t) (G4 ts)=none:=by
 rw [dT]
 unfold Rf at h
 cases hf:ts.find? fun q=>bT t q.1 with
 | none=>rfl
 | some q=>rw [hf] at h;cases h
theorem dV {t:Tm}{b:Int}:∀{ts:List (Tm×Int)},Rf t ts=false→Io t b ts=ts ++ [(t,b)]∧F8 t ts=0
  | [],_=>⟨rfl,rfl⟩
  | q::r,h=>by
    unfold Rf at h
    rw [List.find?_cons] at h
    cases hq:bT t q.1 with
    | true=>rw [hq] at h;cases h
    | false=>
      rw [hq] at h
      obtain ⟨h1,h2⟩:=dV (t:=t) (b:=b) (ts:=r) h
      have hne:¬t=q.1:=fun he=>by rw [K5.2 he] at hq;cases hq
      refine ⟨by rw [Io,if_neg hne,h1];rfl,?_⟩
      unfold F8 at h2 ⊢
      rw [List.find?_cons,hq];exact h2
theorem eC {t:Tm}{b:Int}:∀{ts:List (Tm×Int)},Rf t ts=true→∃j,tM t ts=some j∧ts[j]? = some (t,F8 t ts)∧Io t b ts=ts.modify j (fun p=>(p.1,F8 t ts+b))
  | [],h=>by cases h
  | q::r,h=>by
    unfold Rf at h
    rw [List.find?_cons] at h
    cases hq:bT t q.1 with
    | true=>
      have he:=K5.1 hq
      have hc:F8 t (q::r)=q.2:=by unfold F8;rw [List.find?_cons,hq];rfl
      rw [hc]
      exact ⟨0,by rw [tM,if_pos hq],by subst he;rfl,by rw [Io,if_pos he];subst he;rfl⟩
    | false=>
      rw [hq] at h
      obtain ⟨j,h1,h2,h3⟩:=eC (t:=t) (b:=b) (ts:=r) h
      have hne:¬t=q.1:=fun he=>by rw [K5.2 he] at hq;cases hq
      have hc:F8 t (q::r)=F8 t r:=by unfold F8;rw [List.find?_cons,hq]
      rw [hc]
      exact ⟨j+1,by rw [tM,if_neg (by rw [hq];decide),h1];rfl,by simpa using h2,by rw [Io,if_neg hne,h3];rfl⟩
theorem Vz {ts:List (Tm×Int)}{j:Nat}{t:Tm}{c:Int}(h:ts[j]? = some (t,c)):(G4 ts)[j]? = some (Ib t,.int .i64 c):=by
 unfold G4;rw [List.getElem?_map,h];rfl
theorem Xe {x:Int}:∀{ts:List (Tm×Int)} {j:Nat},Ob (G4 ts) j (.int .i64 x)=G4 (ts.modify j fun p=>(p.1,x))
  | [],j=>by cases j <;> rfl
  | p::r,0=>rfl
  | p::r,j+1=>by
    have ih:=Xe (x:=x) (ts:=r) (j:=j)
    unfold Ob G4 at ih ⊢
    simp only [List.map_cons,List.modify_succ_cons]
    rw [ih]
theorem iE {ts:List (Tm×Int)}{t:Tm}{c:Int}:(G4 ts ++ [(Ib t,.int .i64 c)])[(G4 ts).length]? = some (Ib t,.int .i64 c):=by
 rw [List.getElem?_append_right (Nat.le_refl _),Nat.sub_self];rfl
theorem eE {ts:List (Tm×Int)}{t:Tm}{c x:Int}:Ob (G4 ts ++ [(Ib t,.int .i64 c)]) (G4 ts).length (.int .i64 x)=G4 (ts ++ [(t,x)]):=by
 rw [show G4 ts ++ [(Ib t,AV.int .i64 c)]=G4 (ts ++ [(t,c)]) by unfold G4;rw [List.map_append];rfl,uE,Xe]
 congr 1
 induction ts with
 | nil=>rfl
 | cons a r ih=>simpa using ih

/-! ### how far a sum reaches -/
structure suOK (n:Nat) (s:Su):Prop where
 rest : -(n:Int)*1099511627776≤s.rest∧s.rest≤(n:Int)*1099511627776
 coef:∀p∈s.ts,-(n:Int)≤p.2∧p.2≤(n:Int)
 len:s.ts.length≤n
theorem Ti {e:Ex}(h:By e=0)(ho:e.op=0) : -1099511627776≤e.val.num∧e.val.num≤1099511627776:=by
 unfold By at h
 split at h
 · cases h
 split at h
 · cases h
 split at h
 · cases h
 split at h
 · cases h
 rw [if_pos (by rw [ho];rfl)] at h
 have hc:Fp e=0:=by
  by_cases hx:(Fp e != 0)=true
  · rw [if_pos hx] at h;exact h
  · simpa using hx
 have hv:Ap e.val=0:=by
  unfold Fp at hc
  by_cases hx:(Ap e.val != 0)=true
  · rw [if_pos hx] at hc;exact hc
  · simpa using hx
 have vs:e.val.kind=0∨e.val.kind=1→Ea e.val=0→-1099511627776≤e.val.num∧e.val.num≤1099511627776:=by
  intro hk hz
  unfold Ea at hz
  by_cases h1:(e.val.kind==0&&(decide (e.val.num < -1099511627776)||decide (1099511627776<e.val.num)))=true
  · rw [if_pos h1] at hz;cases hz
  ·
   rw [if_neg h1] at hz
   rcases hk with hk | hk
   · simp [hk] at h1;omega
   ·
    by_cases h2:(e.val.kind==1&&e.val.num != 0&&e.val.num != 1)=true
    · rw [if_pos h2] at hz;cases hz
    · simp [hk] at h2;omega
 unfold Ap at hv
 by_cases h1:(e.val.kind==0||e.val.kind==1)=true
 ·
  rw [if_pos h1] at hv
  split at hv
  · cases hv
  · exact vs (by simpa using h1) hv
 ·
  rw [if_neg h1] at hv
  by_cases h2:(e.val.kind==2)=true
  ·
   rw [if_pos h2] at hv
   by_cases h3:(e.val.num != 0)=true
   · rw [if_pos h3] at hv;cases hv
   ·
    have:e.val.num=0:=by simpa using h3
    omega
  · rw [if_neg h2] at hv;cases hv
theorem suOK.mono {n m:Nat}{s:Su}(h:suOK n s)(hm:n≤m):suOK m s:=
 ⟨by have:=h.rest;omega,fun p hp=>by have:=h.coef p hp;omega,Nat.le_trans h.len hm⟩
theorem nS {n:Nat}{t:Tm}{b:Int}(hb:b=1∨b = -1):∀{ts:List (Tm×Int)},(∀p∈ts,-(n:Int)≤p.2∧p.2≤(n:Int))→(∀p∈Io t b ts,-((n+1:Nat):Int)≤p.2∧p.2≤((n+1:Nat):Int))∧(Io t b ts).length≤ts.length+1
  | [],_=>by simp [Io];omega
  | q::r,h=>by
    rw [Io]
    split
    · refine ⟨fun p hp=>?_,by simp⟩
      rcases List.mem_cons.1 hp with rfl | hp
      · have:=h q (by simp);simp only;omega
      · have:=h p (by simp [hp]);omega
    · obtain ⟨h1,h2⟩:=nS hb (ts:=r) fun p hp=>h p (by simp [hp])
      refine ⟨fun p hp=>?_,by simp;omega⟩
      rcases List.mem_cons.1 hp with rfl | hp
      · have:=h p (by simp);omega
      · exact h1 p hp
theorem X0 (e:Ex):C5 e=0→∀{n:Nat} {b:Int} {s:Su},b=1∨b = -1→suOK n s→suOK (n+At e) (Bp e b s).1:=by
  refine Ex.Aao (P:=fun e=>C5 e=0→∀{n:Nat} {b:Int} {s:Su},b=1∨b = -1→suOK n s→suOK (n+At e) (Bp e b s).1) (fun e ih hn n b s hb hs=>?_) e
  have hz:=Be hn
  have hsz:1≤At e:=by rw [D7];omega
  have hsum2:∀h:1<e.args.length,At (Ao e)+At (Bi e)+1≤At e:=fun h=>by
    have hp:=D7 e
    cases ha:e.args with
    | nil=>rw [ha] at h;simp at h
    | cons a r=>
      cases r with
      | nil=>rw [ha] at h;simp at h
      | cons b r=>
        have e0:Ao e=a:=by unfold Ao;rw [ha];rfl
        have e1:Bi e=b:=by unfold Bi;rw [ha];rfl
        rw [e0,e1,hp,ha];simp;omega
  rw [Qd]
  unfold cL
  split
  · rename_i h0
    have hc:=Ti hz.1 (by simpa using h0)
    refine (show suOK (n+1) _ from ⟨?_,fun p hp=>by have:=hs.coef p hp;omega,by have:=hs.len;simp only;omega⟩).mono (by omega)
    have:=hs.rest
    rcases hb with rfl | rfl <;> simp only <;> omega
  · split
    · obtain ⟨h1,h2⟩:=nS (t:=D4 e) hb hs.coef
      exact (show suOK (n+1) _ from ⟨by have:=hs.rest;simp only;omega,h1,by have:=hs.len;simp only;omega⟩).mono (by omega)
    · have two:(e.op=5∨e.op=6)→∀c,(c=1∨c = -1)→suOK (n+At e) (if !((Ql (fun _ s=>(s,false)) (e.args.map Bp):Nv) b s).2 then (((Ql (fun _ s=>(s,false)) (e.args.map Bp):Nv) b s).1,false) else (Ye (fun _ s=>(s,false)) (e.args.map Bp):Nv) c ((Ql (fun _ s=>(s,false)) (e.args.map Bp):Nv) b s).1).1:=by
        intro ho c hc
        have hl:=Di hz.1 (by omega)
        have hs2:=hsum2 hl
        rw [Ic Bp _ (by omega),It Bp _ hl]
        have m0:=A6 (show 0<e.args.length by omega)
        have m1:=Bk hl
        have i0:=ih _ m0 (hz.2 _ m0) hb hs
        split
        · exact i0.mono (by omega)
        · exact (ih _ m1 (hz.2 _ m1) hc i0).mono (by omega)
      split
      · rename_i h5;exact two (.inl (by simpa using h5)) b hb
      · split
        · rename_i h6;exact two (.inr (by simpa using h6)) (0-b) (by omega)
        · exact hs.mono (by omega)

/-! ### the sum in the heap -/
abbrev N6 (m bs:Nat)(v:Value)(s:Su)(R:List HO):List HO:=.row v (s.ts.map fun p=>Ib p.1).length 143 3 :: .box bs 207 [.val (.map (some m)),.row v 3 (s.ts.map fun p=>Ib p.1),.int .i64 s.rest] :: .kmap m (G4 s.ts)::R
theorem Bo {m bs:Nat}{R:List HO}{e:Ex}{b:Int}{s:Su}{X:Su×Bool}{r:AV}{H:List HO}(h:Bp e b s=X)(k:r = .bool X.2∧∃v,H=N6 m bs v X.1 R):r = .bool (Bp e b s).2∧∃v,H=N6 m bs v (Bp e b s).1 R:=by rw [h];exact k
theorem Fx {e:Ex}{b:Int}{s:Su}(h:(e.op==0)=true):Bp e b s=(⟨s.ts,s.rest+b*e.val.num⟩,true):=by rw [Qd,cL,if_pos h]
theorem B8 {e:Ex}{b:Int}{s:Su}(h:(e.op==0)=false)(h1:(e.op==1||e.op==2)=true):Bp e b s=(⟨Io (D4 e) b s.ts,s.rest⟩,true):=by rw [Qd,cL,Ck h,if_pos h1]
theorem G3 {e:Ex}{b:Int}{s:Su}(h:(e.op==0)=false)(h1:(e.op==1||e.op==2)=false)(h2:(e.op==5)=false)(h3:(e.op==6)=false):Bp e b s=(s,false):=by rw [Qd,cL,Ck h,Ck h1,Ck h2,Ck h3]
theorem Ka {e:Ex}{b c:Int}{s:Su}(hl:1<e.args.length)(h:(e.op=5∧c=b)∨(e.op=6∧c=0-b)):Bp e b s=if !(Bp (Ao e) b s).2 then ((Bp (Ao e) b s).1,false) else Bp (Bi e) c (Bp (Ao e) b s).1:=by
 rw [Qd,cL]
 rcases h with ⟨h,rfl⟩ | ⟨h,rfl⟩
 · rw [Ck (by simp;omega),Ck (by simp;omega),if_pos (by simpa using h),Ic Bp _ (by omega),It Bp _ hl]
 · rw [Ck (by simp;omega),Ck (by simp;omega),Ck (by simp;omega),if_pos (by simpa using h),Ic Bp _ (by omega),It Bp _ hl]
theorem qC {e:Ex}{b c:Int}{s:Su}(hl:1<e.args.length)(h:(e.op=5∧c=b)∨(e.op=6∧c=0-b))(hG:In [((Bp (Ao e) b s).2,true)]):Bp e b s=Bp (Bi e) c (Bp (Ao e) b s).1:=by
 have h2:(Bp (Ao e) b s).2=true:=hG _ (List.mem_singleton.2 rfl)
 rw [Ka hl h,h2];rfl
theorem bO {m bs:Nat}{R:List HO}{v:Value}{e:Ex}{b c:Int}{s:Su}(hl:1<e.args.length)(h:(e.op=5∧c=b)∨(e.op=6∧c=0-b))(hG:¬In [((Bp (Ao e) b s).2,true)]):∃u,N6 m bs v (Bp (Ao e) b s).1 R=N6 m bs u (Bp e b s).1 R:=by
 have h2:(Bp (Ao e) b s).2=false:=by
  rw [Bool.eq_false_iff]
  intro hx
  exact hG fun p hp=>by rw [List.mem_singleton.1 hp];exact hx
 refine ⟨v,?_⟩
 rw [Ka hl h,h2];rfl
theorem Dg {e:Ex}{b c:Int}{s:Su}(hl:1<e.args.length)(h:(e.op=5∧c=b)∨(e.op=6∧c=0-b)):((Bp (Ao e) b s).2&&(Bp (Bi e) c (Bp (Ao e) b s).1).2)=(Bp e b s).2:=by
 rw [Ka hl h]
 cases hq:(Bp (Ao e) b s).2 <;> simp
theorem eT {f:FuncId}{m bs:Nat}{R:List HO}{e:Ex}{b c:Int}{s:Su}{args:List AV}{H:List HO}(hl:1<e.args.length)(h:(e.op=5∧c=b)∨(e.op=6∧c=0-b))(hG:In [((Bp (Ao e) b s).2,true)])(hc:Dw Tryz.prog f H args fun r H'=>r = .bool (Bp (Bi e) c (Bp (Ao e) b s).1).2∧∃v,H'=N6 m bs v (Bp (Bi e) c (Bp (Ao e) b s).1).1 R) :
  Dw Tryz.prog f H args fun r H'=>r = .bool (Bp (Bi e) c (Bp (Ao e) b s).1).2∧∃v,H'=N6 m bs v (Bp e b s).1 R:=by
 rw [qC hl h hG];exact hc
theorem Gj {m bs:Nat}{v:Value}{R:List HO}{t:Tm}{b:Int}{s:Su}(h:Rf t s.ts=false) :
  (HO.row v ((s.ts.map fun p=>Ib p.1) ++ [Ib t]).length 143 3 :: .box bs 207 [.val (.map (some m)),.row v 3 ((s.ts.map fun p=>Ib p.1) ++ [Ib t]),.int .i64 s.rest] :: .kmap m (Ob (G4 s.ts ++ [(Ib t,.int .i64 0)]) (G4 s.ts).length (.int .i64 (F8 t s.ts+b)))::R)=N6 m bs v ⟨Io t b s.ts,s.rest⟩ R:=by
 obtain ⟨h1,h2⟩:=dV (b:=b) h
 rw [eE,h1,h2,Int.zero_add]
 show _=HO.row v ((s.ts ++ [(t,b)]).map fun p=>Ib p.1).length 143 3::_
 rw [List.map_append];rfl
theorem pU {c:Int}:∀(l:List (Tm×Int)) (j:Nat),((l.modify j (fun p=>(p.1,c))).map fun p=>Ib p.1)=l.map fun p=>Ib p.1
 | [],j=>by cases j <;> rfl
 | a::r,0=>rfl
 | a::r,j+1=>by simp only [List.modify_succ_cons,List.map_cons];rw [pU r j]
theorem Gl {m bs j:Nat}{v:Value}{R:List HO}{t:Tm}{b:Int}{s:Su}(h3:Io t b s.ts=s.ts.modify j (fun p=>(p.1,F8 t s.ts+b))) :
  (HO.row v (s.ts.map fun p=>Ib p.1).length 143 3 :: .box bs 207 [.val (.map (some m)),.row v 3 (s.ts.map fun p=>Ib p.1),.int .i64 s.rest] :: .kmap m (Ob (G4 s.ts) j (.int .i64 (F8 t s.ts+b)))::R)=N6 m bs v ⟨Io t b s.ts,s.rest⟩ R:=by
 have hm:=pU (c:=F8 t s.ts+b) s.ts j
 rw [Xe,h3]
 show _=HO.row v ((s.ts.modify j (fun p=>(p.1,F8 t s.ts+b))).map fun p=>Ib p.1).length 143 3::HO.box bs 207 [.val (.map (some m)),.row v 3 ((s.ts.modify j (fun p=>(p.1,F8 t s.ts+b))).map fun p=>Ib p.1),.int .i64 s.rest]::_
 rw [hm]
theorem Zu {a b:Bool}(h:a=true):(a||b)=true:=by rw [h];rfl
theorem aG {a b:Bool}(h:b=true):(a||b)=true:=by rw [h];simp
theorem cW {a b:Bool}(h:a=false)(h':b=false):(a||b)=false:=by rw [h,h'];rfl
theorem V9 {n:Nat}{s:Su}(h:suOK n s)(t:Tm) : -(n:Int)≤F8 t s.ts∧F8 t s.ts≤(n:Int):=by
 unfold F8
 cases hf:s.ts.find? fun q=>bT t q.1 with
 | none=>simp only [Option.map_none,Option.getD_none];omega
 | some q=>exact h.coef q (List.mem_of_find?_eq_some hf)
theorem oK {P:Program}{o:Oper}{ρ:Operand→AV}{x:AV}{a b:HO}{K:List HO→Prop}(h1:∀k:Nat,Dk P o ρ (fun H=>H[k]? = some a) x)(h2:∀k:Nat,Dk P o ρ (fun H=>H[k]? = some b) x)(h:∀H,K H→a∈H∨b∈H):Dk P o ρ K x:=by
 intro g w c H next Q hr hH hk hn
 rcases h H hk with h | h
 ·
  obtain ⟨k,hk⟩:=List.getElem?_of_mem h
  exact h1 k g w c H next Q hr hH hk hn
 ·
  obtain ⟨k,hk⟩:=List.getElem?_of_mem h
  exact h2 k g w c H next Q hr hH hk hn
theorem gT (t:Tm)(ts:List (Tm×Int)):∀p∈G4 ts ++ [(Ib t,AV.int .i64 0)],Hb TL [(0,1,true,3),(1,1,true,3),(2,1,true,3)] (Ib t) p.1=some (Ht t p.1):=by
 have:G4 ts ++ [(Ib t,AV.int .i64 0)]=G4 (ts ++ [(t,0)]):=by unfold G4;rw [List.map_append];rfl
 rw [this];exact Ix t _
theorem oB {t:Tm}{ts:List (Tm×Int)}(h:Rf t ts=false):match Hk (Ht t) (G4 ts ++ [(Ib t,AV.int .i64 0)]) with | some y=>y = .int .i64 (F8 t ts) | none=>[AV.int .i64 0] = [.int .i64 (F8 t ts)]:=by
 have h1:G4 ts ++ [(Ib t,AV.int .i64 0)]=G4 (ts ++ [(t,0)]):=by unfold G4;rw [List.map_append];rfl
 have h2:F8 t (ts ++ [(t,0)])=F8 t ts:=by
  rw [(dV (b:=0) h).2]
  unfold F8
  unfold Rf at h
  rw [List.find?_append]
  cases hf:ts.find? fun q=>bT t q.1 with
  | some q=>rw [hf] at h;cases h
  | none=>rw [List.find?_cons,K5.2 rfl];rfl
 rw [h1,←h2];exact On t _
theorem Dy {e:Ex}(h:1<e.args.length):At (Ao e)+At (Bi e)+1≤At e:=by
  have hp:=D7 e
  cases ha:e.args with
  | nil=>rw [ha] at h;simp at h
  | cons a r=>
    cases r with
    | nil=>rw [ha] at h;simp at h
    | cons b r=>
      have e0:Ao e=a:=by unfold Ao;rw [ha];rfl
      have e1:Bi e=b:=by unfold Bi;rw [ha];rfl
      rw [e0,e1,hp,ha];simp;omega

/-- the sum where between ends -/
def Da (a b:Ex):Su:=if !(Bp a 1 Kx).2 then (Bp a 1 Kx).1 else (Bp b (-1) (Bp a 1 Kx).1).1
theorem vZ {a b:Ex}(hG:In [(!(Bp a 1 Kx).2,false)]):Da a b=(Bp b (-1) (Bp a 1 Kx).1).1:=by
 have h2:(!(Bp a 1 Kx).2)=false:=hG _ (List.mem_singleton.2 rfl)
 unfold Da;rw [Ck h2]
theorem zK {f:FuncId}{m bs:Nat}{R:List HO}{a b:Ex}{args:List AV}{H:List HO}(hG:In [(!(Bp a 1 Kx).2,false)])(hc:Dw Tryz.prog f H args fun r H'=>r = .bool (Bp b (-1) (Bp a 1 Kx).1).2∧∃v,H'=N6 m bs v (Bp b (-1) (Bp a 1 Kx).1).1 R) :
  Dw Tryz.prog f H args fun r H'=>r = .bool (Bp b (-1) (Bp a 1 Kx).1).2∧∃v,H'=N6 m bs v (Da a b) R:=by
 rw [vZ hG];exact hc
theorem btw_f {m bs:Nat}{R:List HO}{v:Value}{a b:Ex}(hG:¬In [(!(Bp a 1 Kx).2,false)]):∃u,N6 m bs v (Bp a 1 Kx).1 R=N6 m bs u (Da a b) R:=by
 have h2:(!(Bp a 1 Kx).2)=true:=by
  rw [←Bool.not_eq_false]
  intro hx
  exact hG fun p hp=>by rw [List.mem_singleton.1 hp];exact hx
 refine ⟨v,?_⟩
 unfold Da;rw [if_pos h2]
theorem btw_no {a b:Ex}(h:(!(Bp a 1 Kx).2 || !(Bp b (-1) (Bp a 1 Kx).1).2)=true):Ci a b=(tY,false):=by
 unfold Ci
 by_cases h1:(!(Bp a 1 Kx).2)=true
 · rw [if_pos h1]
 · rw [if_neg h1,if_pos (by simpa [Bool.eq_false_iff.2 h1] using h)]
theorem nX {a b:Ex}(h:(!(Bp a 1 Kx).2 || !(Bp b (-1) (Bp a 1 Kx).1).2)=false):Ci a b=Sj (Da a b):=by
 have h1:(!(Bp a 1 Kx).2)=false:=by cases hx:(!(Bp a 1 Kx).2) <;> simp_all
 have h2:(!(Bp b (-1) (Bp a 1 Kx).1).2)=false:=by rw [h1] at h;simpa using h
 unfold Ci Da
 rw [Ck h1,Ck h2,Ck h1]
theorem gX {a b:Ex}(h:(!(Bp a 1 Kx).2 || !(Bp b (-1) (Bp a 1 Kx).1).2)=false)(hp:Dv (Da a b).ts [] []=none):Ci a b=(tY,false):=by
 rw [nX h,Sj,hp]
theorem wG {a b:Ex}{p m:List Tm}(h:(!(Bp a 1 Kx).2 || !(Bp b (-1) (Bp a 1 Kx).1).2)=false)(hp:Dv (Da a b).ts [] []=some (p,m)):Ci a b=(⟨p,m,(Da a b).rest⟩,decide ((p.length:Int)≤1)&&decide ((m.length:Int)≤1)):=by
 rw [nX h,Sj,hp]
theorem mB:suOK 0 Kx:=⟨by simp [Kx],by simp [Kx],by simp [Kx]⟩
theorem aF {a b:Ex}(ha:C5 a=0)(hb:C5 b=0):suOK (At a+At b) (Da a b):=by
 have h1:suOK (0+At a) (Bp a 1 Kx).1:=X0 a ha (.inl rfl) mB
 unfold Da
 split
 · exact h1.mono (by omega)
 · exact (X0 b hb (.inr rfl) h1).mono (by omega)
/-- the terms of a sum are different ones -/
theorem X9 {t:Tm}{b:Int}:∀{ts:List (Tm×Int)},(ts.map (·.1)).Nodup→((Io t b ts).map (·.1)).Nodup∧∀u,u∈(Io t b ts).map (·.1)→u=t∨u∈ts.map (·.1)
  | [],_=>by simp [Io]
  | q::r,h=>by
    rw [Io]
    rw [List.map_cons,List.nodup_cons] at h
    split
    · rename_i he
      refine ⟨by simpa using h,fun u hu=>.inr (by simpa using hu)⟩
    · rename_i hne
      obtain ⟨h1,h2⟩:=X9 (t:=t) (b:=b) h.2
      refine ⟨?_,fun u hu=>?_⟩
      · rw [List.map_cons,List.nodup_cons]
        refine ⟨fun hu=>?_,h1⟩
        rcases h2 _ hu with e | hm
        · exact hne e.symm
        · exact h.1 hm
      · rw [List.map_cons,List.mem_cons] at hu
        rcases hu with e | hu
        · right;rw [e];simp
        · rcases h2 _ hu with e | hm
          · exact .inl e
          · right;rw [List.map_cons];exact List.mem_cons_of_mem _ hm
theorem aM (e:Ex):C5 e=0→∀{b:Int} {s:Su},(s.ts.map (·.1)).Nodup→((Bp e b s).1.ts.map (·.1)).Nodup:=by
 refine Ex.Aao (P:=fun e=>C5 e=0→∀{b:Int} {s:Su},(s.ts.map (·.1)).Nodup→((Bp e b s).1.ts.map (·.1)).Nodup) (fun e ih hn b s hs=>?_) e
 have hz:=Be hn
 rw [Qd]
 unfold cL
 split
 · exact hs
 ·
  split
  · exact (X9 hs).1
  ·
   have two:(e.op=5∨e.op=6)→∀c,((if !((Ql (fun _ s=>(s,false)) (e.args.map Bp):Nv) b s).2 then (((Ql (fun _ s=>(s,false)) (e.args.map Bp):Nv) b s).1,false) else (Ye (fun _ s=>(s,false)) (e.args.map Bp):Nv) c ((Ql (fun _ s=>(s,false)) (e.args.map Bp):Nv) b s).1).1.ts.map (·.1)).Nodup:=by
    intro ho c
    have hl:=Di hz.1 (by omega)
    rw [Ic Bp _ (by omega),It Bp _ hl]
    have m0:=A6 (show 0<e.args.length by omega)
    have m1:=Bk hl
    have i0:=ih _ m0 (hz.2 _ m0) (b:=b) hs
    split
    · exact i0
    · exact ih _ m1 (hz.2 _ m1) i0
   split
   · rename_i h5;exact two (.inl (by simpa using h5)) b
   ·
    split
    · rename_i h6;exact two (.inr (by simpa using h6)) (0-b)
    · exact hs
theorem dB {a b:Ex}(ha:C5 a=0)(hb:C5 b=0):((Da a b).ts.map (·.1)).Nodup:=by
 have h1:=aM a ha (b:=1) (s:=Kx) (by simp [Kx])
 unfold Da
 split
 · exact h1
 · exact aM b hb h1
/-- the coefficient that the map holds at a term of the list -/
theorem coef_at {ts:List (Tm×Int)}{k:Nat}{q:Tm×Int}(hn:(ts.map (·.1)).Nodup)(h:ts[k]? = some q):F8 q.1 ts=q.2:=by
  induction ts generalizing k with
  | nil=>simp at h
  | cons p r ih=>
    rw [List.map_cons,List.nodup_cons] at hn
    unfold F8
    rw [List.find?_cons]
    cases k with
    | zero=>
      have:p=q:=by simpa using h
      subst this
      rw [K5.2 rfl];rfl
    | succ k=>
      have hq:r[k]? = some q:=by simpa using h
      have hm:=List.mem_of_getElem? hq
      have hne:bT q.1 p.1=false:=by
        rw [Bool.eq_false_iff]
        intro he
        have:=K5.1 he
        exact hn.1 (by rw [←this];exact List.mem_map_of_mem hm)
      rw [hne]
      exact ih hn.2 hq
theorem look_at {ts:List (Tm×Int)}{k:Nat}{q:Tm×Int}(hn:(ts.map (·.1)).Nodup)(h:ts[k]? = some q):match Hk (Ht q.1) (G4 ts) with | some y=>y = .int .i64 q.2 | none=>[AV.int .i64 0] = [.int .i64 q.2]:=by
 have h1:=On q.1 ts
 rw [coef_at hn h] at h1
 exact h1
theorem parts_0 {t:Tm×Int}{r:List (Tm×Int)}{p m:List Tm}(h:(t.2==0)=true):Dv (t::r) p m=Dv r p m:=by rw [Dv,if_pos h]
theorem parts_1 {t:Tm×Int}{r:List (Tm×Int)}{p m:List Tm}(h:(t.2==0)=false)(h1:(t.2==1)=true):Dv (t::r) p m=Dv r (p ++ [t.1]) m:=by rw [Dv,Ck h,if_pos h1]
theorem parts_2 {t:Tm×Int}{r:List (Tm×Int)}{p m:List Tm}(h:(t.2==0)=false)(h1:(t.2==1)=false)(h2:(t.2 == -1)=true):Dv (t::r) p m=Dv r p (m ++ [t.1]):=by rw [Dv,Ck h,Ck h1,if_pos h2]
theorem parts_3 {t:Tm×Int}{r:List (Tm×Int)}{p m:List Tm}(h:(t.2==0)=false)(h1:(t.2==1)=false)(h2:(t.2 == -1)=false):Dv (t::r) p m=none:=by rw [Dv,Ck h,Ck h1,Ck h2]

theorem K1 {T:List Sc}{V:List Va}{e:Ex}(hk:KOK T V e)(h:Cw e=true):1<e.args.length:=by
 unfold Cw at h
 have h':e.op=7∨e.op=8∨e.op=9:=by simp at h;omega
 exact Di (Be hk.nodes).1 (by omega)
theorem uD {T:List Sc}{V:List Va}{e:Ex}(h:(e.op==1)=true):B7 T V e=true:=by rw [B7,if_pos h]
theorem iT {T:List Sc}{V:List Va}{e:Ex}(h:(e.op==1)=false)(h2:(!Cw e)=true):B7 T V e=false:=by rw [B7,Ck h,if_pos h2]
theorem vK {T:List Sc}{V:List Va}{e:Ex}(h:(e.op==1)=false)(h2:(!Cw e)=false)(h3:Cq T V e=true):B7 T V e=(Sb (Ao e)&&Sb (Bi e)):=by rw [B7,Ck h,Ck h2,if_pos h3]
theorem xN {T:List Sc}{V:List Va}{e:Ex}(h:(e.op==1)=false)(h2:(!Cw e)=false)(h3:Cq T V e=false):B7 T V e=(Ci (Ao e) (Bi e)).2:=by rw [B7,Ck h,Ck h2,Ck h3]
theorem Qi {T:List Sc}{V:List Va}{e:Ex}(h:(Ec T V e != 0)=false):KOK T V e:=by
 have h0:Ec T V e=0:=by simpa using h
 unfold Ec at h0
 by_cases h1:((Dd T V e).2 != 0)=true
 · rw [if_pos h1] at h0;rw [h0] at h1;cases h1
 · exact (aR (by simpa using h1)).1

theorem K7 {e:Ex}(h:By e=0)(ho:(e.op==1||e.op==2)=true):Hp (D4 e)=e:=by
 have ho':e.op=1∨e.op=2:=by simpa using ho
 have hn:=X8 h (by omega)
 unfold By at h
 split at h
 · cases h
 split at h
 · cases h
 split at h
 · cases h
 split at h
 · cases h
 rw [if_neg (by simp;omega)] at h
 unfold Bm at h
 have hu:(Dp e.op).1=true:=by rcases ho' with ho | ho <;> rw [ho] <;> rfl
 split at h
 · cases h
 rename_i hf
 cases e with | mk op args var field kind val=>
 simp only at ho' hn hf hu ⊢
 rw [hu] at hf
 simp only [Bool.not_true,Bool.false_and,Bool.false_or,Bool.or_eq_true,not_or,Bool.and_eq_true,not_and,Bool.not_eq_true',bne_iff_ne,ne_eq,Decidable.not_not,Bool.or_eq_false_iff,beq_eq_false_iff_ne] at hf
 have hk:kind=0:=hf.1.2 (by omega)
 have hv:val=v0:=by
  have:=hf.2 ⟨by omega,by omega⟩
  rw [←fP];simpa using this
 have hfd:op=2→field=0:=fun h2=>hf.1.1 (by rw [h2];rfl)
 unfold Hp D4
 subst hn;subst hk;subst hv
 rfl
abbrev kY:=Int→Su×Bool→Su×Bool
def colN (e:Ex)(fs:List kY):kY:=fun b s=>
 if e.op==0 then (⟨s.1.ts,s.1.rest+b*e.val.num⟩,s.2)
 else if e.op==1||e.op==2 then (⟨Io (D4 e) b s.1.ts,s.1.rest⟩,s.2)
 else if e.op==5 then (Ye (fun _ s=>(s.1,false)) fs:kY) b ((Ql (fun _ s=>(s.1,false)) fs:kY) b s)
 else if e.op==6 then (Ye (fun _ s=>(s.1,false)) fs:kY) (0-b) ((Ql (fun _ s=>(s.1,false)) fs:kY) b s)
 else (s.1,false)
def colS:Ex→kY:=Rt colN
theorem O7 {e:Ex}(h:By e=0):(e.op==0)=true∨((e.op==0)=false∧(e.op==1||e.op==2)=true)∨((e.op=5∨e.op=6)∧1<e.args.length)∨((e.op==0)=false∧(e.op==1||e.op==2)=false∧(e.op==5)=false∧(e.op==6)=false):=by
 by_cases h0:e.op=0
 · left;simpa using h0
 by_cases h1:e.op=1∨e.op=2
 · right;left;exact ⟨by simpa using h0,by simpa using h1⟩
 by_cases h5:e.op=5∨e.op=6
 · right;right;left;exact ⟨h5,Di h (by omega)⟩
 · right;right;right;refine ⟨by simpa using h0,by simp;omega,by simp;omega,by simp;omega⟩
/-- the sum where difference ends -/
def mL (a b:Ex):Su×Bool:=colS b (-1) (colS a 1 (Kx,true))
def differS (a b:Ex):Gp×Bool:=match Dv (mL a b).1.ts [] [] with
 | some (p,m)=>(⟨p,m,(mL a b).1.rest⟩,(mL a b).2&&(decide ((p.length:Int)≤1)&&decide ((m.length:Int)≤1)))
 | none=>(tY,false)
/-! ### the sum in the heap -/
abbrev rTm (ts:List (Tm×Int)):List (List AV):=ts.map fun p=>cE (Hp p.1)
abbrev rCo (ts:List (Tm×Int)):List (List AV):=ts.map fun p=>[AV.int .i64 p.2]
abbrev linH (v u:Value)(ts:List (Tm×Int))(R:List HO):List HO:=.row v (rTm ts).length 30 8 :: .buf u (rCo ts) 3 1::R
abbrev linR (v u:Value)(s:Su)(ok:Bool):AV:=.agg [.row v 8 (rTm s.ts),.val u,.int .i64 s.rest,.bool ok]
def cGpR (g:Gp):List AV:=[.sl 8 (g.plus.map fun t=>cE (Hp t)),.sl 8 (g.minus.map fun t=>cE (Hp t)),.int .i64 g.rest]

/-- a well-typed expression within the limits -/
structure KC (T:List Sc) (V:List Va) (e:Ex):Prop where
 kok:KOK T V e
 types:Ed T=0
 vars:H1 T V=0
 check:Bx e=0
theorem kL {e:Ex}(h:Bx e=0):At e≤64∧Ew e≤12∧C5 e=0:=by
 unfold Bx at h
 split at h
 · cases h
 rename_i h1
 split at h
 · cases h
 rename_i h2
 simp only [decide_eq_true_eq] at h1 h2
 exact ⟨by omega,by omega,h⟩
theorem Ir {T:List Sc}{V:List Va}{e:Ex}(h:KC T V e):At e≤64:=(kL h.check).1
theorem nW {T:List Sc}{V:List Va}{e:Ex}(h:KC T V e):Dd T V e=Cc T V e:=by
 unfold Dd
 rw [if_neg (by rw [h.types];decide),if_neg (by rw [h.vars];decide),if_neg (by rw [h.check];decide)]
theorem jB {T:List Sc}{V:List Va}{e:Ex}(h:KC T V e):(Dd T V e).1=Am T V e:=by rw [nW h,F2 h.kok]
theorem gB {T:List Sc}{V:List Va}{e:Ex}(h:(Dd T V e).2=0):KC T V e:=by
 have hk:=(aR h).1
 unfold Dd at h
 by_cases h1:(Ed T != 0)=true
 · rw [if_pos h1] at h;simp only at h;rw [h] at h1;cases h1
 rw [if_neg h1] at h
 by_cases h2:(H1 T V != 0)=true
 · rw [if_pos h2] at h;simp only at h;rw [h] at h2;cases h2
 rw [if_neg h2] at h
 by_cases h3:(Bx e != 0)=true
 · rw [if_pos h3] at h;simp only at h;rw [h] at h3;cases h3
 exact ⟨hk,by simpa using h1,by simpa using h2,by simpa using h3⟩
theorem R7 {T:List Sc}{V:List Va}{e:Ex}(h:(Ec T V e != 0)=false):KC T V e∧Am T V e=1:=by
 have h0:Ec T V e=0:=by simpa using h
 unfold Ec at h0
 by_cases h1:((Dd T V e).2 != 0)=true
 · rw [if_pos h1] at h0;rw [h0] at h1;cases h1
 ·
  rw [if_neg h1] at h0
  have hk:=gB (by simpa using h1)
  refine ⟨hk,?_⟩
  by_cases h2:((Dd T V e).1 != 1)=true
  · rw [if_pos h2] at h0;cases h0
  · rw [←jB hk];simpa using h2
theorem kc_cond {T:List Sc}{V:List Va}{e:Ex}(h:KC T V e)(hk:Am T V e=1):Ec T V e=0:=by
 have h2:(Dd T V e).2=0:=by rw [nW h];exact h.kok.kind
 unfold Ec
 rw [if_neg (by rw [h2];decide),if_neg (by rw [jB h,hk];decide)]
theorem Or {T:List Sc}{V:List Va}{e a:Ex}(h:KOK T V e)(ha:a∈e.args):Mn e.op (Am T V a) (Am T V (Ao e))=true:=by
 have hp:e.args≠[]:=by intro hn;rw [hn] at ha;cases ha
 have h1:=(Oq h hp).2.1
 unfold Dl at h1
 have h2:=He h1 _ (List.mem_map_of_mem (f:=fun a=>(Cc T V a).1) ha)
 have h0:0<e.args.length:=List.length_pos_iff.2 hp
 have h3:((e.args.map fun a=>(Cc T V a).1).headD 0)=(Cc T V (Ao e)).1:=by
  cases hargs:e.args with
  | nil=>exact absurd hargs hp
  | cons x r=>unfold Ao;rw [hargs];rfl
 rw [h3] at h2
 rw [F2 (A3 h ha),F2 (A3 h (A6 h0))] at h2
 split at h2
 · assumption
 · cases h2
theorem Im {T:List Sc}{V:List Va}{e a:Ex}(h:KOK T V e)(ho:e.op=9)(ha:a∈e.args):Am T V a=Am T V (Ao e):=by
 have h1:=Or h ha
 unfold Mn at h1
 rw [if_neg (by simp;omega),if_neg (by simp;omega),if_pos (by simp;omega)] at h1
 simpa using h1
/-! ### The reference's -/
def rcmpS (e:Ex):Bool:=(e.op != 7&&e.op != 8)&&e.op != 9

theorem gF:∀g w u,Rep g w u (.sl 1 [[.val (.slice none 0 0)]])→Rep g w u (.sl 1 [[.sl 9 []]]):=fun g w u h=>by
  cases h with
  | sl b o n cap z es hn hc hm hz f hs hr=>
    refine .sl b o n cap 1 _ hn hc hm (fun e he=>by rw [List.mem_singleton.1 he];rfl) f (fun i e hi j x hj=>?_) (fun i e hi j x hj=>?_)
    · cases i with
      | succ i=>simp at hi
      | zero=>
        cases j with
        | succ j=>simp at hi;subst hi;simp at hj
        | zero=>exact hs 0 _ rfl 0 _ rfl
    · cases i with
      | succ i=>simp at hi
      | zero=>
        cases j with
        | succ j=>simp at hi;subst hi;simp at hj
        | zero=>
          simp at hi;subst hi;simp at hj;subst hj
          have:=(hr 0 _ rfl 0 _ rfl).inv_val
          rw [this];exact .sl0 _ _ _ (Nat.zero_le _)

/-! ### products -/
theorem oE {α:Type}{a b:List (List α)}(h:decide ((256:Int)<(a.length:Int)*(b.length:Int))=true):Mk a b=([],false):=by rw [Mk,if_pos h]
theorem fK {α:Type}{a b:List (List α)}(h:decide ((256:Int)<(a.length:Int)*(b.length:Int))=false):Mk a b=(a.flatMap fun x=>b.map fun y=>x++y,true):=by rw [Mk,Ck h]
theorem sT {α:Type}{a b:List (List α)}{k:Nat}{x:List α}(h:a[k]? = some x):((a.take (k+1)).flatMap fun x=>b.map fun y=>x++y)=((a.take k).flatMap fun x=>b.map fun y=>x++y)++b.map fun y=>x++y:=by
 rw [Cu h,List.flatMap_append];simp
theorem iA {α:Type}(a b:List (List α)):(a.flatMap fun x=>b.map fun y=>x++y).length=a.length*b.length:=by
 induction a with
 | nil=>simp
 | cons x r ih=>rw [List.flatMap_cons,List.length_append,ih,List.length_map,List.length_cons,Nat.succ_mul];omega
theorem prod_le {α:Type}{a b:List (List α)}{k j:Nat}(hk:k<a.length)(hj:j<b.length)(h:decide ((256:Int)<(a.length:Int)*(b.length:Int))=false):k*b.length+j<256:=by
 have h1:a.length*b.length≤256:=by
  have:¬(256:Int)<(a.length:Int)*(b.length:Int):=by simpa using h
  have h2:((a.length*b.length:Nat):Int)=(a.length:Int)*(b.length:Int):=by simp
  omega
 have h2:(k+1)*b.length≤a.length*b.length:=Nat.mul_le_mul_right _ hk
 rw [Nat.succ_mul] at h2
 omega
theorem eU {a b:Cs}(h:(!a.2 || !b.2)=true):En a b=([],false):=by rw [En,if_pos h]
theorem bG {a b:Cs}(h:(!a.2 || !b.2)=false):En a b=Mk a.1 b.1:=by rw [En,Ck h]
theorem nN {a b:Cs}(h:((!a.2 || !b.2)||decide ((256:Int)<(a.1.length:Int)+(b.1.length:Int)))=true):Je a b=([],false):=by rw [Je,if_pos h]
theorem kA {a b:Cs}(h:((!a.2 || !b.2)||decide ((256:Int)<(a.1.length:Int)+(b.1.length:Int)))=false):Je a b=(a.1++b.1,true):=by rw [Je,Ck h]

/-! ### how long they are -/
/-- at most 256 clauses, each at most so long -/
structure csOK (n:Nat) (c:Cs):Prop where
 len:c.1.length≤256
 lits:∀x∈c.1,x.length≤n
theorem csOK.mono {n m:Nat}{c:Cs}(h:csOK n c)(hm:n≤m):csOK m c:=⟨h.len,fun x hx=>Nat.le_trans (h.lits x hx) hm⟩
theorem dL {n:Nat}:csOK n ([],false):=⟨Nat.zero_le _,fun x hx=>by cases hx⟩
theorem Lk {n m:Nat}{a b:Cs}(ha:csOK n a)(hb:csOK m b):csOK (n+m) (En a b):=by
 unfold En
 split
 · exact dL
 ·
  unfold Mk
  split
  · exact dL
  ·
   rename_i h
   refine ⟨?_,fun x hx=>?_⟩
   ·
    show (a.1.flatMap fun x=>b.1.map fun y=>x++y).length≤256
    rw [iA]
    have h1:¬(256:Int)<(a.1.length:Int)*(b.1.length:Int):=by simpa using h
    have h2:((a.1.length*b.1.length:Nat):Int)=(a.1.length:Int)*(b.1.length:Int):=by simp
    omega
   ·
    obtain ⟨y,hy,hm⟩:=List.mem_flatMap.1 hx
    obtain ⟨z,hz,rfl⟩:=List.mem_map.1 hm
    have:=ha.lits y hy
    have:=hb.lits z hz
    rw [List.length_append];omega
theorem pZ {n:Nat}{a b:Cs}(ha:csOK n a)(hb:csOK n b):csOK n (Je a b):=by
 unfold Je
 split
 · exact dL
 ·
  rename_i h
  refine ⟨?_,fun x hx=>?_⟩
  ·
   show (a.1++b.1).length≤256
   simp at h
   rw [List.length_append];omega
  ·
   rcases List.mem_append.1 hx with h | h
   · exact ha.lits x h
   · exact hb.lits x h
section
variable {T:List Sc} {V:List Va}
abbrev zY:Hm:=fun _=>([],false)
theorem Gg {e:Ex}{s:Bool}(h:(e.op==0)=true)(h1:((e.val.num==1)==s)=true):Db T V e s=([[]],true):=by rw [Jl,Oy,if_pos h,if_pos h1]
theorem Gc {e:Ex}{s:Bool}(h:(e.op==0)=true)(h1:((e.val.num==1)==s)=false):Db T V e s=([],true):=by rw [Jl,Oy,if_pos h,Ck h1]
theorem Gd {e:Ex}{s:Bool}(hl:0<e.args.length)(h:(e.op==12)=true):Db T V e s=Db T V (Ao e) (!s):=by
 rw [Jl,Oy,Ck (by simp at h ⊢;omega),if_pos h,Ic _ _ hl]
theorem Gr {e:Ex}{s:Bool}(hl:1<e.args.length)(h:(e.op==10||e.op==11)=true)(h1:((e.op==10)==s)=true):Db T V e s=En (Db T V (Ao e) s) (Db T V (Bi e) s):=by
 rw [Jl,Oy,Ck (by simp at h ⊢;omega),Ck (by simp at h ⊢;omega),if_pos h,if_pos h1,Ic _ _ (by omega),It _ _ hl]
theorem Gk {e:Ex}{s:Bool}(hl:1<e.args.length)(h:(e.op==10||e.op==11)=true)(h1:((e.op==10)==s)=false):Db T V e s=Je (Db T V (Ao e) s) (Db T V (Bi e) s):=by
 rw [Jl,Oy,Ck (by simp at h ⊢;omega),Ck (by simp at h ⊢;omega),if_pos h,Ck h1,Ic _ _ (by omega),It _ _ hl]
theorem Gf {e:Ex}{s:Bool}(hl:1<e.args.length)(h:(e.op==9)=true)(h1:(Am T V (Ao e)==1)=true) :
  Db T V e s=Je (En (Db T V (Ao e) true) (Db T V (Bi e) s)) (En (Db T V (Ao e) false) (Db T V (Bi e) (!s))):=by
 rw [Jl,Oy,Ck (by simp at h ⊢;omega),Ck (by simp at h ⊢;omega),Ck (by simp at h ⊢;omega),if_pos (by rw [h,h1];rfl),Ic _ _ (by omega),It _ _ hl]
theorem Gn {e:Ex}{s:Bool}(h:(e.op==9)=true)(h1:(Am T V (Ao e)==1)=false)(h2:(Am T V (Ao e)==0 && !s)=true) :
  Db T V e s=Ef [⟨two 7 (Ao e) (Bi e),false⟩,⟨two 7 (Bi e) (Ao e),false⟩]:=by
 rw [Jl,Oy,Ck (by simp at h ⊢;omega),Ck (by simp at h ⊢;omega),Ck (by simp at h ⊢;omega),Ck (by rw [h1,Bool.and_false]),if_pos (by rw [h,h2];rfl)]
theorem Is {e:Ex}{s:Bool}(h:(e.op==9)=true)(h1:(Am T V (Ao e)==1)=false)(h2:(Am T V (Ao e)==0 && !s)=false):Db T V e s=Ef [⟨e,!s⟩]:=by
 rw [Jl,Oy,Ck (by simp at h ⊢;omega),Ck (by simp at h ⊢;omega),Ck (by simp at h ⊢;omega),Ck (by rw [h1,Bool.and_false]),Ck (by rw [h2,Bool.and_false])]
theorem Kq {e:Ex}{s:Bool}(h0:(e.op==0)=false)(h12:(e.op==12)=false)(h10:(e.op==10||e.op==11)=false)(h:(e.op==9)=false):Db T V e s=Ef [⟨e,!s⟩]:=by
 rw [Jl,Oy,Ck h0,Ck h12,Ck h10,Ck (by rw [h];rfl),Ck (by rw [h];rfl)]
/-- how an expression may look to Db -/
theorem Ll {e:Ex}(s:Bool)(hk:KOK T V e) :
    (e.op==0)=true∨((e.op==12)=true∧0<e.args.length)∨((e.op==10||e.op==11)=true∧1<e.args.length)∨((e.op==9)=true∧1<e.args.length∧(Am T V (Ao e)==1)=true)∨
    ((e.op==9)=true∧1<e.args.length∧(Am T V (Ao e)==1)=false∧(Am T V (Ao e)==0 && !s)=true)∨((e.op==0)=false∧(e.op==12)=false∧(e.op==10||e.op==11)=false∧Db T V e s=Ef [⟨e,!s⟩]∧((e.op==9)=true→(Am T V (Ao e)==1)=false∧(Am T V (Ao e)==0 && !s)=false)):=by
  have hz:=Be hk.nodes
  cases h0:e.op==0 with
  | true=>exact .inl rfl
  | false=>
  cases h12:e.op==12 with
  | true=>exact .inr (.inl ⟨rfl,We hz.1 (eq_of_beq h12)⟩)
  | false=>
  cases h10:(e.op==10||e.op==11) with
  | true=>exact .inr (.inr (.inl ⟨rfl,Di hz.1 (by simp at h10;omega)⟩))
  | false=>
  cases h9:e.op==9 with
  | true=>
    have hl:=Di hz.1 (by simp at h9;omega)
    cases h1:Am T V (Ao e)==1 with
    | true=>exact .inr (.inr (.inr (.inl ⟨rfl,hl,rfl⟩)))
    | false=>
      cases h2:(Am T V (Ao e)==0 && !s) with
      | true=>exact .inr (.inr (.inr (.inr (.inl ⟨rfl,hl,rfl,rfl⟩))))
      | false=>exact .inr (.inr (.inr (.inr (.inr ⟨rfl,rfl,rfl,Is h9 h1 h2,fun _=>⟨rfl,rfl⟩⟩))))
  | false=>exact .inr (.inr (.inr (.inr (.inr ⟨rfl,rfl,rfl,Kq h0 h12 h10 h9,fun h=>Bool.noConfusion h⟩))))
theorem Gs (e:Ex):KOK T V e→∀s,csOK (At e) (Db T V e s):=by
 refine Ex.Aao (P:=fun e=>KOK T V e→∀s,csOK (At e) (Db T V e s)) (fun e ih hk s=>?_) e
 have hsz:1≤At e:=by rw [D7];omega
 rcases Ll s hk with h | ⟨h,hl⟩ | ⟨h,hl⟩ | ⟨h,hl,h1⟩ | ⟨h,hl,h1,h2⟩ | ⟨_,_,_,h,_⟩
 ·
  cases h1:((e.val.num==1)==s) with
  | true=>rw [Gg h h1];exact ⟨by simp,by simp⟩
  | false=>rw [Gc h h1];exact ⟨by simp,by simp⟩
 ·
  rw [Gd hl h]
  exact (ih _ (A6 hl) (A3 hk (A6 hl)) _).mono (Nat.le_of_lt (vV hl))
 ·
  have m0:=A6 (show 0<e.args.length by omega)
  have m1:=Bk hl
  have i0:=ih _ m0 (A3 hk m0) s
  have i1:=ih _ m1 (A3 hk m1) s
  have hs:=Dy hl
  cases h1:((e.op==10)==s) with
  | true=>rw [Gr hl h h1];exact (Lk i0 i1).mono (by omega)
  | false=>rw [Gk hl h h1];exact pZ (i0.mono (by omega)) (i1.mono (by omega))
 ·
  have m0:=A6 (show 0<e.args.length by omega)
  have m1:=Bk hl
  have i0:=ih _ m0 (A3 hk m0)
  have i1:=ih _ m1 (A3 hk m1)
  have hs:=Dy hl
  rw [Gf hl h h1]
  exact pZ ((Lk (i0 _) (i1 _)).mono (by omega)) ((Lk (i0 _) (i1 _)).mono (by omega))
 · rw [Gn h h1 h2];exact ⟨by simp [Ef],by simp [Ef];omega⟩
 · rw [h];exact ⟨by simp [Ef],by simp [Ef];omega⟩
/-! ### The reference's -/
def pQ (a b:List (List Lit)):Cs:=(a++b,decide (((a++b).length:Int)≤256))
def pM (a b:Cs)(times:Bool):Cs:=if !a.2 || !b.2 then ([],false) else if times then Mk a.1 b.1 else pQ a.1 b.1
def zW (a b:Cs):Cs:=if !a.2 || !b.2 then ([],false) else pQ a.1 b.1
section
variable (T V)
def rnormN (e:Ex)(fs:List Hm):Hm:=fun sign=>
 if e.op==0 then (if (e.val.num==1)==sign then ([[]],true) else ([],true))
 else if e.op==12 then (Ql zY fs:Hm) (!sign)
 else if e.op==10 then pM ((Ql zY fs:Hm) sign) ((Ye zY fs:Hm) sign) sign
 else if e.op==11 then pM ((Ql zY fs:Hm) sign) ((Ye zY fs:Hm) sign) (!sign)
 else if e.op==9&&Am T V (Ao e)==1 then zW (pM ((Ql zY fs:Hm) true) ((Ye zY fs:Hm) sign) true) (pM ((Ql zY fs:Hm) false) ((Ye zY fs:Hm) (!sign)) true)
 else if e.op==9&&(Am T V (Ao e)==0 && !sign) then Ef [⟨two 7 (Ao e) (Bi e),false⟩,⟨two 7 (Bi e) (Ao e),false⟩]
 else Ef [⟨e,!sign⟩]
def rnormS:Ex→Hm:=Rt (rnormN T V)
end
/-- where the program's list is not ok the reference's is not, either; else they are the same -/
def csR (r p:Cs):Prop:=r.2=p.2∧(p.2=true→r=p)
/-- how long the reference's are -/
structure rcOK (n:Nat) (c:Cs):Prop where
 len:c.1.length≤512
 lits:∀x∈c.1,x.length≤n
end

theorem Qh {e:Ex}(h:0<e.args.length):e.args[0]? = some (Ao e):=by
 unfold Ao
 cases ha:e.args with
 | nil=>rw [ha] at h;cases h
 | cons a r=>rfl
theorem R8 {e:Ex}(h:1<e.args.length):e.args[1]? = some (Bi e):=by
  unfold Bi
  cases ha:e.args with
  | nil=>rw [ha] at h;cases h
  | cons a r=>
    cases r with
    | nil=>rw [ha] at h;simp at h
    | cons b r=>rfl
section
variable {T:List Sc} {V:List Va} {e:Ex}
theorem rD (h:(Ec T V e != 0)=true):Jf T V e=([],Ec T V e):=by rw [Jf,if_pos h]
theorem qX (h:(Ec T V e != 0)=false)(h2:(!(Db T V e true).2)=true):Jf T V e=([],17):=by rw [Jf,Ck h,if_pos h2]
theorem tP (h:(Ec T V e != 0)=false)(h2:(!(Db T V e true).2)=false):Jf T V e=((Db T V e true).1,0):=by rw [Jf,Ck h,Ck h2]
end
section
variable {T:List Sc} {V:List Va} {e:Ex}
theorem Wo {a b:Cs}(h:(!a.2 || !b.2)=false):a.2=true∧b.2=true:=by
 cases h1:a.2 <;> cases h2:b.2 <;> simp_all
end
/-! ### Comparing clauses -/
def F6:List Lit→List Lit→Bool
 | [],[]=>true
 | a::r,b::q=>!(a.neg != b.neg || !Lh a.cond b.cond)&&F6 r q
 | _,_=>false
def J9:List (List Lit)→List (List Lit)→Bool
 | [],[]=>true
 | a::r,b::q=>F6 a b&&J9 r q
 | _,_=>false
theorem Fz:∀a b:List Lit,F6 a b=true↔a=b
  | [],[]=>by simp [F6]
  | [],b::q=>by simp [F6]
  | a::r,[]=>by simp [F6]
  | a::r,b::q=>by
    have ih:=Fz r q
    rw [F6,Bool.and_eq_true,ih]
    cases a with | mk c n=>
    cases b with | mk d m=>
    have hs:=Tz c d
    cases hn:(n != m) with
    | true => have : n ≠ m := by simpa using hn
              simp [this]
    | false=>
      have:n=m:=by simpa using hn
      subst this
      cases hc:Lh c d with
      | true=>simp [hs.1 hc]
      | false=>
        have:c≠d:=fun h=>by rw [hs.2 h] at hc;cases hc
        simp [this]
theorem Kl:∀a b:List (List Lit),J9 a b=true↔a=b
 | [],[]=>by simp [J9]
 | [],b::q=>by simp [J9]
 | a::r,[]=>by simp [J9]
 | a::r,b::q=>by rw [J9,Bool.and_eq_true,Kl r q,Fz];simp
theorem dU {a b:List Lit}(h:((a.length:Int) != (b.length:Int))=true):F6 a b=false:=by
 rw [Bool.eq_false_iff]
 intro h1
 rw [(Fz a b).1 h1] at h;simp at h
theorem iX {a b:List (List Lit)}(h:((a.length:Int) != (b.length:Int))=true):J9 a b=false:=by
 rw [Bool.eq_false_iff]
 intro h1
 rw [(Kl a b).1 h1] at h;simp at h
theorem eF {a b:List Lit}{k:Nat}{x y:Lit}(hx:a[k]? = some x)(hy:b[k]? = some y)(h:(x.neg != y.neg || !Lh x.cond y.cond)=true):F6 a b=false:=by
 rw [Bool.eq_false_iff]
 intro h1
 have:=(Fz a b).1 h1
 subst this
 rw [hx] at hy;cases hy
 rw [lG] at h;simp at h
theorem gV {a b:List (List Lit)}{k:Nat}{x y:List Lit}(hx:a[k]? = some x)(hy:b[k]? = some y)(h:(!F6 x y)=true):J9 a b=false:=by
 rw [Bool.eq_false_iff]
 intro h1
 have:=(Kl a b).1 h1
 subst this
 rw [hx] at hy;cases hy
 rw [(Fz x x).2 rfl] at h;cases h
theorem wC {x y:Lit}(h:(x.neg != y.neg || !Lh x.cond y.cond)=false):x=y:=by
 have:F6 [x] [y]=true:=by rw [F6,h];rfl
 have:=(Fz _ _).1 this
 simpa using this
theorem uX {x y:List Lit}(h:(!F6 x y)=false):x=y:=(Fz x y).1 (by simpa using h)

section
variable {T:List Sc} {V:List Va}
/-- the error of a literal -/
def Zd (T:List Sc)(V:List Va)(c:Lit):Int:=if Ec T V c.cond != 0 then Ec T V c.cond else if Ep T V c.cond||(c.neg&&(c.cond.op==9&&Am T V (Ao c.cond)==0)) then 3 else 0
theorem vE {l:List Lit}(h:((Dd T V (Er true)).2 != 0)=true):Gq T V l=(Dd T V (Er true)).2:=by rw [Gq,if_pos h]
theorem yY {l:List Lit}(h:((Dd T V (Er true)).2 != 0)=false)(h2:decide ((256:Int)<(l.length:Int))=true):Gq T V l=5:=by rw [Gq,Ck h,if_pos h2]
theorem Xf {l:List Lit}(h:((Dd T V (Er true)).2 != 0)=false)(h2:decide ((256:Int)<(l.length:Int))=false):Gq T V l=Aq (Zd T V) l:=by rw [Gq,Ck h,Ck h2];rfl
theorem lit_1 {c:Lit}(h:(Ec T V c.cond != 0)=true):Zd T V c=Ec T V c.cond:=by rw [Zd,if_pos h]
theorem lit_2 {c:Lit}(h:(Ec T V c.cond != 0)=false)(h2:(Ep T V c.cond||((c.neg&&c.cond.op==9)&&Am T V (Ao c.cond)==0))=true):Zd T V c=3:=by
 rw [Zd,Ck h,if_pos (by rw [←Bool.and_assoc];exact h2)]
theorem lit_3 {c:Lit}(h:(Ec T V c.cond != 0)=false)(h2:(Ep T V c.cond||((c.neg&&c.cond.op==9)&&Am T V (Ao c.cond)==0))=false):Zd T V c=0:=by
 rw [Zd,Ck h,Ck (by rw [←Bool.and_assoc];exact h2)]
theorem Nh {α:Type}{f:α→Int}{l:List α}{k:Nat}{a:α}(hk:Aq f (l.take k)=0)(ha:l[k]? = some a)(h:f a≠0):Aq f l=f a:=by
  induction l generalizing k with
  | nil=>simp at ha
  | cons x r ih=>
    cases k with
    | zero => have : x = a := by simpa using ha
              subst this
              rw [Aq,if_pos (by simpa using h)]
    | succ k=>
      rw [List.take_succ_cons,Aq] at hk
      by_cases hx:(f x != 0)=true
      · rw [if_pos hx] at hk;rw [hk] at hx;cases hx
      · rw [if_neg hx] at hk
        rw [Aq,if_neg hx]
        exact ih hk (by simpa using ha)
theorem Rq {α:Type}{f:α→Int}{l:List α}{k:Nat}{a:α}(hk:Aq f (l.take k)=0)(ha:l[k]? = some a)(h:f a=0):Aq f (l.take (k+1))=0:=by
  rw [Cu ha]
  generalize l.take k=m at hk
  induction m with
  | nil=>simp [Aq,h]
  | cons x r ih=>
    rw [Aq] at hk
    by_cases hx:(f x != 0)=true
    · rw [if_pos hx] at hk;rw [hk] at hx;cases hx
    · rw [if_neg hx] at hk
      rw [List.cons_append,Aq,if_neg hx]
      exact ih hk
theorem g9c {e:Ex}(hk:KOK T V e){x b:Bool}(hG:In [(x,false),(b&&e.op==9,true)]):1<e.args.length:=by
 have h:(b&&e.op==9)=true:=hG (b&&e.op==9,true) (by simp)
 have h9:e.op=9:=by simp at h;exact h.2
 exact Di (Be hk.nodes).1 (by omega)
/-- well-typed literals within the limits -/
def U4 (T:List Sc)(V:List Va)(l:List Lit):Prop:=∀c∈l,KOK T V c.cond∧At c.cond≤64
theorem lits_ok {l:List Lit}(h:Aq (Zd T V) l=0):U4 T V l:=fun c hc=>by
 have h1:=He h c hc
 unfold Zd at h1
 by_cases h2:(Ec T V c.cond != 0)=true
 · rw [if_pos h2] at h1;rw [h1] at h2;cases h2
 ·
  have hk:=(R7 (by simpa using h2)).1
  exact ⟨hk.kok,Ir hk⟩
theorem tH {l:List Lit}(h:(Gq T V l != 0)=false):U4 T V l∧l.length≤256:=by
 have h0:Gq T V l=0:=by simpa using h
 unfold Gq at h0
 by_cases h1:((Dd T V (Er true)).2 != 0)=true
 · rw [if_pos h1] at h0;rw [h0] at h1;cases h1
 ·
  rw [if_neg h1] at h0
  by_cases h2:decide ((256:Int)<(l.length:Int))=true
  · rw [if_pos h2] at h0;cases h0
  ·
   rw [if_neg h2] at h0
   exact ⟨lits_ok h0,by simp at h2;omega⟩
theorem bA {l:Lit}(h:(l.cond.op==1)=true):Aa T V l=(⟨[D4 l.cond],[],0⟩,true):=by rw [Aa,if_pos h]
theorem pT {l:Lit}(h:(l.cond.op==1)=false)(h2:(!Cw l.cond||Cq T V l.cond)=true):Aa T V l=(tY,false):=by rw [Aa,Ck h,if_pos h2]
theorem Zt {l:Lit}(h:(l.cond.op==1)=false)(h2:(!Cw l.cond||Cq T V l.cond)=false):Aa T V l=Ci (Ao l.cond) (Bi l.cond):=by rw [Aa,Ck h,Ck h2]
theorem Wc {l:Lit}(h2:(!Cw l.cond||Cq T V l.cond)=false):Cw l.cond=true:=by
 cases hq:Cw l.cond with
 | true=>rfl
 | false=>rw [hq] at h2;simp at h2
theorem wU {t:Tm}(h:(t.op==2)=true):C1 T V t=(0,1099511627776):=by rw [C1,if_pos h]
theorem vT {t:Tm}(h:(t.op==2)=false)(h2:(Am T V (Hp t)==1)=true):C1 T V t=(0,1):=by rw [C1,Ck h,if_pos h2]
theorem uW {t:Tm}(h:(t.op==2)=false)(h2:(Am T V (Hp t)==1)=false):C1 T V t=(-1099511627776,1099511627776):=by rw [C1,Ck h,Ck h2]

/-! ### the terms of a well-typed sum -/
theorem aS (e:Ex):KOK T V e→∀{b:Int} {s:Su},(∀p∈s.ts,KOK T V (Hp p.1))→∀p∈(Bp e b s).1.ts,KOK T V (Hp p.1):=by
  refine Ex.Aao (P:=fun e=>KOK T V e→∀{b:Int} {s:Su},(∀p∈s.ts,KOK T V (Hp p.1))→∀p∈(Bp e b s).1.ts,KOK T V (Hp p.1)) (fun e ih hk b s hs=>?_) e
  have hz:=Be hk.nodes
  rcases O7 hz.1 with h | ⟨h,h1⟩ | ⟨h,hl⟩ | ⟨h,h1,h2,h3⟩
  · rw [Fx h];exact hs
  · rw [B8 h h1]
    intro p hp
    have key:∀{ts:List (Tm×Int)},(∀p∈ts,KOK T V (Hp p.1))→∀p∈Io (D4 e) b ts,KOK T V (Hp p.1):=by
      intro ts
      induction ts with
      | nil=>intro _ p hp;rw [Io,List.mem_singleton] at hp;rw [hp];rw [K7 hz.1 h1];exact hk
      | cons q r ihr=>
        intro hts p hp
        rw [Io] at hp
        split at hp
        · rcases List.mem_cons.1 hp with rfl | hp
          · exact hts q (List.mem_cons_self ..)
          · exact hts p (List.mem_cons_of_mem _ hp)
        · rcases List.mem_cons.1 hp with rfl | hp
          · exact hts p (List.mem_cons_self ..)
          · exact ihr (fun p hp=>hts p (List.mem_cons_of_mem _ hp)) p hp
    exact key hs p hp
  · have m0:=A6 (show 0<e.args.length by omega)
    have m1:=Bk hl
    have key:∀c,∀p∈(if !(Bp (Ao e) b s).2 then ((Bp (Ao e) b s).1,false) else Bp (Bi e) c (Bp (Ao e) b s).1).1.ts,KOK T V (Hp p.1):=fun c=>by
      have i0:=ih _ m0 (A3 hk m0) (b:=b) hs
      split
      · exact i0
      · exact ih _ m1 (A3 hk m1) i0
    rcases h with h | h
    · rw [Ka (c:=b) hl (.inl ⟨h,rfl⟩)];exact key b
    · rw [Ka (c:=0-b) hl (.inr ⟨h,rfl⟩)];exact key _
  · rw [G3 h h1 h2 h3];exact hs
theorem I7 {P:Tm→Prop}:∀{ts:List (Tm×Int)} {p m p' m':List Tm},(∀t∈ts,P t.1)→(∀t∈p,P t)→(∀t∈m,P t)→Dv ts p m=some (p',m')→(∀t∈p',P t)∧∀t∈m',P t
  | [],p,m,p',m',_,hp,hm,h=>by rw [Dv] at h;cases h;exact ⟨hp,hm⟩
  | t::r,p,m,p',m',ht,hp,hm,h=>by
    rw [Dv] at h
    have hr:∀t∈r,P t.1:=fun x hx=>ht x (List.mem_cons_of_mem _ hx)
    have h0:P t.1:=ht t (List.mem_cons_self ..)
    have snoc:∀{l:List Tm},(∀t∈l,P t)→∀x∈l ++ [t.1],P x:=fun hl x hx=>by
      rcases List.mem_append.1 hx with h | h
      · exact hl x h
      · rw [List.mem_singleton.1 h];exact h0
    split at h
    · exact I7 hr hp hm h
    · split at h
      · exact I7 hr (snoc hp) hm h
      · split at h
        · exact I7 hr hp (snoc hm) h
        · cases h
theorem dD {a b:Ex}(ha:KOK T V a)(hb:KOK T V b):∀p∈(Da a b).ts,KOK T V (Hp p.1):=by
 have h1:=aS a ha (b:=1) (s:=Kx) (fun p hp=>by cases hp)
 unfold Da
 split
 · exact h1
 · exact aS b hb h1
/-- what a difference is made of -/
structure GOK (T:List Sc) (V:List Va) (g:Gp):Prop where
 plus:∀t∈g.plus,KOK T V (Hp t)
 minus:∀t∈g.minus,KOK T V (Hp t)
 rest : -140737488355328≤g.rest∧g.rest≤140737488355328
 lp:g.plus.length≤128
 lm:g.minus.length≤128
theorem dX:GOK T V tY:=⟨fun t h=>(by cases h),fun t h=>(by cases h),by simp [tY],by simp [tY],by simp [tY]⟩
theorem Pp:∀{ts:List (Tm×Int)} {p m p' m':List Tm},Dv ts p m=some (p',m')→p'.length≤p.length+ts.length∧m'.length≤m.length+ts.length
  | [],p,m,p',m',h=>by rw [Dv] at h;cases h;simp
  | t::r,p,m,p',m',h=>by
    rw [Dv] at h
    split at h
    · have:=Pp h;simp only [List.length_cons];omega
    · split at h
      · have:=Pp h;simp only [List.length_cons,List.length_append,List.length_nil] at this ⊢;omega
      · split at h
        · have:=Pp h;simp only [List.length_cons,List.length_append,List.length_nil] at this ⊢;omega
        · cases h
theorem lW {a b:Ex}(ha:KOK T V a)(hb:KOK T V b)(hs:At a+At b≤128):GOK T V (Ci a b).1:=by
  unfold Ci
  split
  · exact dX
  rename_i h1
  split
  · exact dX
  rename_i h2
  have he:(Bp b (-1) (Bp a 1 Kx).1).1=Da a b:=by unfold Da;rw [if_neg h1]
  rw [he]
  have ho:=aF ha.nodes hb.nodes
  unfold Sj
  cases hp:Dv (Da a b).ts [] [] with
  | none=>exact dX
  | some p=>
    obtain ⟨p,m⟩:=p
    obtain ⟨t1,t2⟩:=I7 (P:=fun t=>KOK T V (Hp t)) (dD ha hb) (fun t h=>by cases h) (fun t h=>by cases h) hp
    obtain ⟨l1,l2⟩:=Pp hp
    have hr:=ho.rest
    have hl:=ho.len
    simp only [List.length_nil,Nat.zero_add] at l1 l2
    exact ⟨t1,t2,by simp only;omega,by simp only;omega,by simp only;omega⟩
theorem Rp {l:Lit}(hk:KOK T V l.cond)(hs:At l.cond≤64):GOK T V (Aa T V l).1:=by
  cases h:l.cond.op==1 with
  | true=>
    rw [bA h]
    refine ⟨fun t ht=>?_,fun t ht=>(by cases ht),by simp,by simp,by simp⟩
    rw [List.mem_singleton.1 ht,K7 (Be hk.nodes).1 (by rw [h];rfl)]
    exact hk
  | false=>
    cases h2:(!Cw l.cond||Cq T V l.cond) with
    | true=>rw [pT h h2];exact dX
    | false=>
      rw [Zt h h2]
      have hl:=K1 hk (Wc h2)
      have hs2:=Dy hl
      exact lW (A3 hk (A6 (by omega))) (A3 hk (Bk hl)) (by omega)
end

/-! ### the index of the terms -/
def uU:Nat→List Tm→List (List AV×AV)
 | _,[]=>[]
 | i,t::r=>(Ib t,.int .i64 ((i:Int)+1))::uU (i+1) r
def T9 (ts:List Tm):List (List AV×AV):=uU 0 ts
theorem yZ (t:Tm):∀(ts:List Tm) (i:Nat),∀p∈uU i ts,Hb TL [(0,1,true,3),(1,1,true,3),(2,1,true,3)] (Ib t) p.1=some (Ht t p.1)
  | [],_,p,hp=>by cases hp
  | u::r,i,p,hp=>by
    rw [uU] at hp
    rcases List.mem_cons.1 hp with rfl | hp
    · show Hb TL _ (Ib t) (Ib u)=some (Ht t (Ib u));rw [cH,Tg]
    · exact yZ t r (i+1) p hp
theorem cB (t:Tm)(ts:List Tm):∀p∈T9 ts,Hb TL [(0,1,true,3),(1,1,true,3),(2,1,true,3)] (Ib t) p.1=some (Ht t p.1):=yZ t ts 0
theorem mY (t:Tm):∀(ts:List Tm) (i:Nat),Hk (Ht t) (uU i ts)=if ts.contains t then some (.int .i64 ((i:Int)+(ts.idxOf t:Nat)+1)) else none
  | [],_=>rfl
  | u::r,i=>by
    rw [uU,Hk,Tg,mY t r (i+1),List.contains_cons,List.idxOf_cons]
    cases hq:bT t u with
    | true=>
      have:=K5.1 hq
      subst this
      simp
    | false=>
      have hne:t≠u:=fun h=>by rw [K5.2 h] at hq;cases hq
      have h1:(t==u)=false:=by simpa using hne
      have h2:(u==t)=false:=by simpa using Ne.symm hne
      rw [h1,h2]
      simp only [Bool.false_or,cond_false,Bool.false_eq_true,if_false]
      split
      · congr 2;push_cast;omega
      · rfl
theorem Sm (t:Tm)(ts:List Tm):Hk (Ht t) (T9 ts)=if ts.contains t then some (.int .i64 (((ts.idxOf t:Nat):Int)+1)) else none:=by
 unfold T9
 rw [mY]
 simp
theorem xV (t:Tm)(ts:List Tm):(Hk (Ht t) (T9 ts)).isSome=ts.contains t:=by
 rw [Sm];cases ts.contains t <;> rfl
theorem qH {t:Tm}{ts:List Tm}(h:ts.contains t=false):Hk (Ht t) (T9 ts)=none:=by rw [Sm,h];rfl
theorem kC (t:Tm):∀(ts:List Tm) (i:Nat),uU i (ts ++ [t])=uU i ts ++ [(Ib t,.int .i64 ((i:Int)+ts.length+1))]
  | [],i=>by simp [uU]
  | u::r,i=>by
    rw [List.cons_append,uU,uU,kC t r (i+1)]
    simp only [List.cons_append,List.length_cons]
    rw [show ((i+1:Nat):Int)+(r.length:Int)+1=(i:Int)+((r.length+1:Nat):Int)+1 by omega]
theorem sL (t:Tm)(ts:List Tm):T9 (ts ++ [t])=T9 ts ++ [(Ib t,.int .i64 ((ts.length:Int)+1))]:=by
 unfold T9;rw [kC];simp
/-- what the map holds at a term that is there -/
theorem look_y {t:Tm}{ts:List Tm}(h:ts.contains t=true):match Hk (Ht t) (T9 ts) with | some y=>y = .int .i64 (((ts.idxOf t:Nat):Int)+1) | none=>[AV.int .i64 0] = [.int .i64 (((ts.idxOf t:Nat):Int)+1)]:=by
 rw [Sm,if_pos h]
/-- at any -/
theorem Aae (t:Tm)(ts:List Tm):match Hk (Ht t) (T9 ts) with | some y=>y = .int .i64 (if ts.contains t then ((ts.idxOf t:Nat):Int)+1 else 0) | none=>[AV.int .i64 0] = [.int .i64 (if ts.contains t then ((ts.idxOf t:Nat):Int)+1 else 0)]:=by
 rw [Sm]
 cases ts.contains t <;> rfl
theorem X5 (t:Tm)(l ts:List Tm):(A4 ts (t::l)).contains t=true:=by
 unfold A4
 simp only
 split
 · assumption
 · simp
theorem sF {t:Tm}{l ts:List Tm}(h:ts.contains t=false):A4 ts (t::l)=ts ++ [t]:=by unfold A4;simp only;rw [h];rfl
theorem qN {t:Tm}{l ts:List Tm}(h:ts.contains t=true):A4 ts (t::l)=ts:=by unfold A4;simp only;rw [if_pos h]
theorem addTm_nil {ts:List Tm}:A4 ts []=ts:=rfl
theorem Ul (ts l:List Tm):(A4 ts l).length≤ts.length+1:=by
 cases l with
 | nil=>simp [A4]
 | cons t r=>unfold A4;simp only;split <;> simp
theorem Lb {P:Tm→Prop}{ts l:List Tm}(h:∀t∈ts,P t)(hl:∀t∈l,P t):∀t∈A4 ts l,P t:=by
  cases l with
  | nil=>exact h
  | cons t r=>
    unfold A4
    simp only
    split
    · exact h
    · intro u hu
      rcases List.mem_append.1 hu with hu | hu
      · exact h u hu
      · rw [List.mem_singleton.1 hu];exact hl t (List.mem_cons_self ..)
/-! ### the system in the heap -/
abbrev jC (m yb:Nat)(v:Value)(c0 c1:AV)(ts:List Tm)(R:List HO):List HO:=.row v (ts.map Ib).length 143 3 :: .box yb 141 [c0,c1,.row v 3 (ts.map Ib),.val (.map (some m))] :: .kmap m (T9 ts)::R
theorem unk_old {m yb:Nat}{v:Value}{c0 c1:AV}{ts l:List Tm}{t:Tm}{R:List HO}(h:ts.contains t=true):jC m yb v c0 c1 ts R=jC m yb v c0 c1 (A4 ts (t::l)) R:=by rw [qN h]
theorem unk_new {m yb:Nat}{v:Value}{c0 c1:AV}{ts l:List Tm}{t:Tm}{R:List HO}(h:ts.contains t=false) :
  (HO.row v (ts.map Ib ++ [Ib t]).length 143 3 :: .box yb 141 [c0,c1,.row v 3 (ts.map Ib ++ [Ib t]),.val (.map (some m))] :: .kmap m (T9 ts ++ [(Ib t,.int .i64 ((ts.length:Int)+1))])::R)=jC m yb v c0 c1 (A4 ts (t::l)) R:=by
 rw [sF h]
 simp only [jC]
 rw [sL,List.map_append];rfl
theorem num_old {t:Tm}{l ts:List Tm}:B6 (A4 ts (t::l)) (t::l)=(((A4 ts (t::l)).idxOf t:Nat):Int)+1:=rfl
/-! ### steps -/
section
variable {T:List Sc} {V:List Va}
theorem Lv {s:Sy}{c:Lit}(h:(!(Aa T V c).2)=true):Df T V s c=s:=by rw [Df,if_pos h]
theorem Lg {s:Sy}{c:Lit}(h:(!(Aa T V c).2)=false):Df T V s c=⟨A4 (A4 s.ts (Aa T V c).1.plus) (Aa T V c).1.minus,
 s.bs++D9 c (B6 (A4 s.ts (Aa T V c).1.plus) (Aa T V c).1.plus) (B6 (A4 (A4 s.ts (Aa T V c).1.plus) (Aa T V c).1.minus) (Aa T V c).1.minus) (Aa T V c).1.rest⟩:=by rw [Df,Ck h]
theorem fV {l:List Lit}{k:Nat}{c:Lit}(h:l[k]? = some c):Cj T V (l.take (k+1))=Df T V (Cj T V (l.take k)) c:=by
 unfold Cj
 rw [Cu h,List.foldl_append];rfl
theorem kM (c:Lit)(x z rest:Int):(D9 c x z rest).length≤2:=by
 unfold D9
 repeat' split
 all_goals simp
/-- how large a system is, and that its terms are well-typed -/
structure syOK (T:List Sc) (V:List Va) (n:Nat) (s:Sy):Prop where
 len:s.ts.length≤2*n
 bnds:s.bs.length≤2*n
 terms:∀t∈s.ts,KOK T V (Hp t)
theorem uT:∀{l:List Lit},U4 T V l→∀{n:Nat} {s:Sy},syOK T V n s→syOK T V (n+l.length) (l.foldl (Df T V) s)
  | [],_,n,s,hs=>hs
  | c::r,hl,n,s,hs=>by
    rw [List.foldl_cons,List.length_cons,show n+(r.length+1)=(n+1)+r.length by omega]
    refine uT (fun x hx=>hl x (List.mem_cons_of_mem _ hx)) ?_
    cases h : !(Aa T V c).2 with
    | true=>rw [Lv h];exact ⟨by have:=hs.len;omega,by have:=hs.bnds;omega,hs.terms⟩
    | false=>
      rw [Lg h]
      have hg:=Rp (hl c (List.mem_cons_self ..)).1 (hl c (List.mem_cons_self ..)).2
      refine ⟨?_,?_,?_⟩
      · have h1:=Ul s.ts (Aa T V c).1.plus
        have h2:=Ul (A4 s.ts (Aa T V c).1.plus) (Aa T V c).1.minus
        have:=hs.len
        simp only;omega
      · simp only [List.length_append]
        have:=kM c (B6 (A4 s.ts (Aa T V c).1.plus) (Aa T V c).1.plus) (B6 (A4 (A4 s.ts (Aa T V c).1.plus) (Aa T V c).1.minus) (Aa T V c).1.minus) (Aa T V c).1.rest
        have:=hs.bnds
        omega
      · exact Lb (Lb hs.terms hg.plus) hg.minus
theorem Lx {l:List Lit}(h:U4 T V l):syOK T V l.length (Cj T V l):=by
 have:=uT h (n:=0) (s:=⟨[],[]⟩) ⟨by simp,by simp,fun t ht=>by cases ht⟩
 rw [Nat.zero_add] at this
 exact this
theorem xS {l:List Lit}(h:U4 T V l)(k:Nat):U4 T V (l.take k):=fun c hc=>h c (List.mem_of_mem_take hc)
theorem jY:∀(ts:List Tm) (i:Nat) (t:Tm),Hn T V i (ts ++ [t])=Hn T V i ts ++ [⟨(i:Int)+ts.length+1,0,(C1 T V t).2⟩,⟨0,(i:Int)+ts.length+1,0-(C1 T V t).1⟩]
  | [],i,t=>by simp [Hn]
  | u::r,i,t=>by
    rw [List.cons_append,Hn,Hn,jY r (i+1) t]
    simp only [List.cons_append,List.length_cons]
    rw [show ((i+1:Nat):Int)+(r.length:Int)+1=(i:Int)+((r.length+1:Nat):Int)+1 by omega]
theorem yA {ts:List Tm}{k:Nat}{t:Tm}(h:ts[k]? = some t):Hn T V 0 (ts.take (k+1))=Hn T V 0 (ts.take k) ++ [⟨(k:Int)+1,0,(C1 T V t).2⟩,⟨0,(k:Int)+1,0-(C1 T V t).1⟩]:=by
 have hl:=Bb h
 rw [Cu h,jY]
 simp [Nat.min_eq_left (Nat.le_of_lt hl)]
theorem dM:∀(ts:List Tm) (i:Nat),(Hn T V i ts).length=2*ts.length
 | [],i=>rfl
 | t::r,i=>by rw [Hn];simp only [List.length_cons,dM r (i+1)];omega
theorem Si (t:Tm) : -1099511627776≤(C1 T V t).1∧(C1 T V t).1≤1099511627776∧-1099511627776≤(C1 T V t).2∧(C1 T V t).2≤1099511627776:=by
 unfold C1
 repeat' split
 all_goals simp
/-- the system behind its pointer -/
def rO (T:List Sc)(V:List Va)(l:List Lit):List AV:=[.int .i64 (C8 T V l).n,.sl 3 ((C8 T V l).bs.map Rw),.sl 3 ((Cj T V l).ts.map Ib),.junk]
theorem zT {α:Type}{l:List α}(h:(((l.length:Nat):Int)==0)=false):∃t r,l=t::r:=by
 cases l with
 | nil=>cases h
 | cons t r=>exact ⟨t,r,rfl⟩
theorem nil_of {α:Type}{l:List α}(h:(((l.length:Nat):Int)==0)=true):l = []:=by
 cases l with
 | nil=>rfl
 | cons t r=>simp at h;omega
theorem sc_two {a b:List AV}(h1:Bh a=true)(h2:Bh b=true):∀c∈[a,b],Bh c=true:=fun c hc=>by
 rcases List.mem_cons.1 hc with rfl | hc
 · exact h1
 · rw [List.mem_singleton.1 hc];exact h2
theorem bd_1 {c:Lit}{x z r:Int}(h:(c.cond.op==1&&c.neg)=true):D9 c x z r = [⟨x,z,0-r⟩]:=by rw [D9,if_pos (by rw [h];rfl)]
theorem bd_2 {c:Lit}{x z r:Int}(h:(c.cond.op==8 && !c.neg)=true):D9 c x z r = [⟨x,z,0-r⟩]:=by rw [D9,if_pos (by rw [h];simp)]
theorem wK {c:Lit}{x z r:Int}(h:(c.cond.op==1&&c.neg)=false)(h2:(c.cond.op==8 && !c.neg)=false):D9 c x z r=if c.cond.op==1||c.cond.op==8 then [⟨z,x,r-1⟩] else if c.cond.op==7 && !c.neg then [⟨x,z,0-r-1⟩] else if c.cond.op==7 then [⟨z,x,r⟩] else [⟨x,z,0-r⟩,⟨z,x,r⟩]:=by
 rw [D9,Ck (by rw [h,h2];rfl)]
theorem bd_3 {c:Lit}{x z r:Int}(h:(c.cond.op==1&&c.neg)=false)(h2:(c.cond.op==8 && !c.neg)=false)(h3:(c.cond.op==1)=true):D9 c x z r = [⟨z,x,r-1⟩]:=by rw [wK h h2,if_pos (by rw [h3];rfl)]
theorem bd_4 {c:Lit}{x z r:Int}(h:(c.cond.op==1&&c.neg)=false)(h2:(c.cond.op==8 && !c.neg)=false)(h3:(c.cond.op==8)=true):D9 c x z r = [⟨z,x,r-1⟩]:=by rw [wK h h2,if_pos (by rw [h3];simp)]
theorem bd_5 {c:Lit}{x z r:Int}(h:(c.cond.op==1&&c.neg)=false)(h2:(c.cond.op==8 && !c.neg)=false)(h3:(c.cond.op==1)=false)(h4:(c.cond.op==8)=false)(h5:(c.cond.op==7 && !c.neg)=true):D9 c x z r = [⟨x,z,0-r-1⟩]:=by rw [wK h h2,Ck (by rw [h3,h4];rfl),if_pos h5]
theorem bd_6 {c:Lit}{x z r:Int}(h:(c.cond.op==1&&c.neg)=false)(h2:(c.cond.op==8 && !c.neg)=false)(h3:(c.cond.op==1)=false)(h4:(c.cond.op==8)=false)(h5:(c.cond.op==7 && !c.neg)=false)(h6:(c.cond.op==7)=true):D9 c x z r = [⟨z,x,r⟩]:=by rw [wK h h2,Ck (by rw [h3,h4];rfl),Ck h5,if_pos h6]
theorem bd_7 {c:Lit}{x z r:Int}(h:(c.cond.op==1&&c.neg)=false)(h2:(c.cond.op==8 && !c.neg)=false)(h3:(c.cond.op==1)=false)(h4:(c.cond.op==8)=false)(h5:(c.cond.op==7 && !c.neg)=false)(h6:(c.cond.op==7)=false):D9 c x z r = [⟨x,z,0-r⟩,⟨z,x,r⟩]:=by rw [wK h h2,Ck (by rw [h3,h4];rfl),Ck h5,Ck h6]
theorem cSy_eq {l:List Lit}{s:Sy}{eZ eB:List (List AV)}(h:s=Cj T V l)(hz:eZ=(Hn T V 0 s.ts).map Rw)(hb:eB=s.bs.map Rw):AV.ptr [.int .i64 ((s.ts.length:Int)+1),.sl 3 (eZ++eB),.sl 3 (s.ts.map Ib),.junk] = .ptr (rO T V l):=by
 rw [hz,hb,←List.map_append,h];rfl
/-- one step of the loop -/
theorem Lm {l:List Lit}{k:Nat}{c:Lit}{s:Sy}{bs:List Bd}(h:l[k]? = some c)(hs:s=Cj T V (l.take k))(hn:(!(Aa T V c).2)=false)
  (hb:D9 c (B6 (A4 s.ts (Aa T V c).1.plus) (Aa T V c).1.plus) (B6 (A4 (A4 s.ts (Aa T V c).1.plus) (Aa T V c).1.minus) (Aa T V c).1.minus) (Aa T V c).1.rest=bs) :
  (⟨A4 (A4 s.ts (Aa T V c).1.plus) (Aa T V c).1.minus,s.bs++bs⟩:Sy)=Cj T V (l.take (k+1)):=by
 rw [fV h,←hs,Lg hn,hb]
theorem uF {l:List Lit}{k:Nat}{c:Lit}{s:Sy}(h:l[k]? = some c)(hs:s=Cj T V (l.take k))(hn:(!(Aa T V c).2)=true):s=Cj T V (l.take (k+1)):=by
 rw [fV h,←hs,Lv hn]
theorem Ml {s:List Bd}{e:List (List AV)}{b:Bd}(h:e=s.map Rw):e ++ [Rw b]=(s ++ [b]).map Rw:=by rw [h,List.map_append];rfl
theorem sU {s:List Bd}{e:List (List AV)}{b c:Bd}(h:e=s.map Rw):(e ++ [Rw b]) ++ [Rw c]=(s ++ [b,c]).map Rw:=by rw [h,List.map_append,List.append_assoc];rfl
theorem tB {ts l:List Tm}{n:Nat}(h:ts.length≤n):0≤B6 ts l∧B6 ts l≤(n:Int)+1:=by
  unfold B6
  cases l with
  | nil=>simp only;omega
  | cons t r=>
    simp only
    have:ts.idxOf t≤ts.length:=List.idxOf_le_length
    omega
theorem Zone_1 {l:List Lit}(h:(Gq T V l != 0)=true):Q3 T V l=⟨zn0,[],Gq T V l⟩:=by rw [Q3,if_pos h]
theorem Zone_2 {l:List Lit}(h:(Gq T V l != 0)=false)(h2:(!I9 (C8 T V l))=true):Q3 T V l=⟨zn0,[],17⟩:=by rw [Q3,Ck h,if_pos h2]
theorem Zone_3 {l:List Lit}(h:(Gq T V l != 0)=false)(h2:(!I9 (C8 T V l))=false):Q3 T V l=⟨C8 T V l,(Cj T V l).ts.map Hp,0⟩:=by rw [Q3,Ck h,Ck h2]
end
end Go.Proofs.YtkddpedfbicbeaaGreatDoor
