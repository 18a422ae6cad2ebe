/-
  Several texts in one: S14, S15, S16, S17, S18, S19, S20, S21, S22. No condition.
-/
import Derived.Test.YtkddpedfbicbeaaGreatDoorK07
import Derived.Test.YtkddpedfbicbeaaGreatDoorK02
set_option linter.unusedVariables false
set_option linter.unusedSimpArgs false
namespace Go.Proofs.YtkddpedfbicbeaaGreatDoor
open Go Go.Aw

def GT:List (Nat×Nat×Bool×Nat):=[(0,1,true,3),(1,1,true,3),(2,1,true,3)]
def Gv (ts:List (Tm×Int)):List (List AV×AV):=ts.map fun p=>(Ib p.1,.int .i64 p.2)
def eF (t u:Tm):Bool:=t.op==u.op&&(t.v==u.v&&t.field==u.field)
theorem K2 {t u:Tm}:eF t u=true↔t=u:=by
 unfold eF
 cases t;cases u
 simp
def Ht (t:Tm)(k:List AV):Bool:=(He TL [(0,1,true,3),(1,1,true,3),(2,1,true,3)] (Ib t) k).getD false
theorem dT (t u:Tm):He TL [(0,1,true,3),(1,1,true,3),(2,1,true,3)] (Ib t) (Ib u)=some (eF t u):=by
 show some ((t.op==u.op)&&((t.v==u.v)&&((t.field==u.field)&&true)))=_
 rw [Bool.and_true];rfl
theorem Sp (t u:Tm):Ht t (Ib u)=eF t u:=by unfold Ht;rw [dT];rfl
theorem Iv (t:Tm)(ts:List (Tm×Int)):∀p∈Gv ts,He TL [(0,1,true,3),(1,1,true,3),(2,1,true,3)] (Ib t) p.1=some (Ht t p.1):=by
 intro p hp
 obtain ⟨x,_,rfl⟩:=List.mem_map.1 hp
 show He TL _ (Ib t) (Ib x.1)=some (Ht t (Ib x.1))
 rw [dT,Sp]
theorem xN (ts:List (Tm×Int)):(Gv ts).length=ts.length:=List.length_map ..
def rW (t:Tm):List (Tm×Int)→Option Nat
 | []=>none
 | q::r=>if eF t q.1 then some 0 else (rW t r).map (· + 1)
theorem lS (t:Tm):∀ts:List (Tm×Int),Ls (Ht t) (Gv ts)=rW t ts
  | []=>rfl
  | q::r=>by
    have ih:=lS t r
    unfold Gv at ih ⊢
    rw [List.map_cons,Ls,Sp,ih,rW]
theorem dJ (t:Tm):∀ts:List (Tm×Int),Hl (Ht t) (Gv ts)=(ts.find? fun q=>eF t q.1).map fun q=>.int .i64 q.2
  | []=>rfl
  | q::r=>by
    have ih:=dJ t r
    unfold Gv at ih ⊢
    rw [List.map_cons,Hl,Sp,ih,List.find?_cons]
    cases eF t q.1 <;> rfl
/-- the coefficient of a term -/
def F9 (t:Tm)(ts:List (Tm×Int)):Int:=((ts.find? fun q=>eF t q.1).map fun q=>q.2).getD 0
def Rc (t:Tm)(ts:List (Tm×Int)):Bool:=(ts.find? fun q=>eF t q.1).isSome
theorem Oy (t:Tm)(ts:List (Tm×Int)):match Hl (Ht t) (Gv ts) with | some y=>y = .int .i64 (F9 t ts) | none=>[AV.int .i64 0] = [.int .i64 (F9 t ts)]:=by
 rw [dJ]
 unfold F9
 cases ts.find? fun q=>eF t q.1 <;> rfl
theorem has_t (t:Tm)(ts:List (Tm×Int)):(Hl (Ht t) (Gv ts)).isSome=Rc t ts:=by
 rw [dJ]
 unfold Rc
 cases ts.find? fun q=>eF t q.1 <;> rfl
theorem jS {t:Tm}{ts:List (Tm×Int)}(h:Rc t ts=false):Hl (Ht t) (Gv ts)=none:=by
 rw [dJ]
 unfold Rc at h
 cases hf:ts.find? fun q=>eF t q.1 with
 | none=>rfl
 | some q=>rw [hf] at h;cases h
theorem cZ {t:Tm}{b:Int}:∀{ts:List (Tm×Int)},Rc t ts=false→Io t b ts=ts ++ [(t,b)]∧F9 t ts=0
  | [],_=>⟨rfl,rfl⟩
  | q::r,h=>by
    unfold Rc at h
    rw [List.find?_cons] at h
    cases hq:eF t q.1 with
    | true=>rw [hq] at h;cases h
    | false=>
      rw [hq] at h
      obtain ⟨h1,h2⟩:=cZ (t:=t) (b:=b) (ts:=r) h
      have hne:¬t=q.1:=fun he=>by rw [K2.2 he] at hq;cases hq
      refine ⟨by rw [Io,if_neg hne,h1];rfl,?_⟩
      unfold F9 at h2 ⊢
      rw [List.find?_cons,hq];exact h2
theorem bP {t:Tm}{b:Int}:∀{ts:List (Tm×Int)},Rc t ts=true→∃j,rW t ts=some j∧ts[j]? = some (t,F9 t ts)∧Io t b ts=ts.modify j (fun p=>(p.1,F9 t ts+b))
  | [],h=>by cases h
  | q::r,h=>by
    unfold Rc at h
    rw [List.find?_cons] at h
    cases hq:eF t q.1 with
    | true=>
      have he:=K2.1 hq
      have hc:F9 t (q::r)=q.2:=by unfold F9;rw [List.find?_cons,hq];rfl
      rw [hc]
      exact ⟨0,by rw [rW,if_pos hq],by subst he;rfl,by rw [Io,if_pos he];subst he;rfl⟩
    | false=>
      rw [hq] at h
      obtain ⟨j,h1,h2,h3⟩:=bP (t:=t) (b:=b) (ts:=r) h
      have hne:¬t=q.1:=fun he=>by rw [K2.2 he] at hq;cases hq
      have hc:F9 t (q::r)=F9 t r:=by unfold F9;rw [List.find?_cons,hq]
      rw [hc]
      exact ⟨j+1,by rw [rW,if_neg (by rw [hq];decide),h1];rfl,by simpa using h2,by rw [Io,if_neg hne,h3];rfl⟩
theorem V6 {ts:List (Tm×Int)}{j:Nat}{t:Tm}{c:Int}(h:ts[j]? = some (t,c)):(Gv ts)[j]? = some (Ib t,.int .i64 c):=by
 unfold Gv;rw [List.getElem?_map,h];rfl
theorem Yv {x:Int}:∀{ts:List (Tm×Int)} {j:Nat},Ob (Gv ts) j (.int .i64 x)=Gv (ts.modify j fun p=>(p.1,x))
  | [],j=>by cases j <;> rfl
  | p::r,0=>rfl
  | p::r,j+1=>by
    have ih:=Yv (x:=x) (ts:=r) (j:=j)
    unfold Ob Gv at ih ⊢
    simp only [List.map_cons,List.modify_succ_cons]
    rw [ih]
theorem gZ {ts:List (Tm×Int)}{t:Tm}{c:Int}:(Gv ts ++ [(Ib t,.int .i64 c)])[(Gv ts).length]? = some (Ib t,.int .i64 c):=by
 rw [List.getElem?_append_right (Nat.le_refl _),Nat.sub_self];rfl
theorem dO {ts:List (Tm×Int)}{t:Tm}{c x:Int}:Ob (Gv ts ++ [(Ib t,.int .i64 c)]) (Gv ts).length (.int .i64 x)=Gv (ts ++ [(t,x)]):=by
 rw [show Gv ts ++ [(Ib t,AV.int .i64 c)]=Gv (ts ++ [(t,c)]) by unfold Gv;rw [List.map_append];rfl,xN,Yv]
 congr 1
 induction ts with
 | nil=>rfl
 | cons a r ih=>simpa using ih

/-! ### how far a sum reaches -/
structure suOK (n:Nat) (s:Su):Prop where
 rest : -(n:Int)*1099511627776≤s.rest∧s.rest≤(n:Int)*1099511627776
 coef:∀p∈s.ts,-(n:Int)≤p.2∧p.2≤(n:Int)
 len:s.ts.length≤n
theorem Tx {e:Ex}(h:By e=0)(ho:e.op=0) : -1099511627776≤e.val.num∧e.val.num≤1099511627776:=by
 unfold By at h
 split at h
 · cases h
 split at h
 · cases h
 split at h
 · cases h
 split at h
 · cases h
 rw [if_pos (by rw [ho];rfl)] at h
 have hc:Fm e=0:=by
  by_cases hx:(Fm e != 0)=true
  · rw [if_pos hx] at h;exact h
  · simpa using hx
 have hv:Ap e.val=0:=by
  unfold Fm at hc
  by_cases hx:(Ap e.val != 0)=true
  · rw [if_pos hx] at hc;exact hc
  · simpa using hx
 have vs:e.val.kind=0∨e.val.kind=1→Ea e.val=0→-1099511627776≤e.val.num∧e.val.num≤1099511627776:=by
  intro hk hz
  unfold Ea at hz
  by_cases h1:(e.val.kind==0&&(decide (e.val.num < -1099511627776)||decide (1099511627776<e.val.num)))=true
  · rw [if_pos h1] at hz;cases hz
  ·
   rw [if_neg h1] at hz
   rcases hk with hk | hk
   · simp [hk] at h1;omega
   ·
    by_cases h2:(e.val.kind==1&&e.val.num != 0&&e.val.num != 1)=true
    · rw [if_pos h2] at hz;cases hz
    · simp [hk] at h2;omega
 unfold Ap at hv
 by_cases h1:(e.val.kind==0||e.val.kind==1)=true
 ·
  rw [if_pos h1] at hv
  split at hv
  · cases hv
  · exact vs (by simpa using h1) hv
 ·
  rw [if_neg h1] at hv
  by_cases h2:(e.val.kind==2)=true
  ·
   rw [if_pos h2] at hv
   by_cases h3:(e.val.num != 0)=true
   · rw [if_pos h3] at hv;cases hv
   ·
    have:e.val.num=0:=by simpa using h3
    omega
  · rw [if_neg h2] at hv;cases hv
theorem suOK.mono {n m:Nat}{s:Su}(h:suOK n s)(hm:n≤m):suOK m s:=
 ⟨by have:=h.rest;omega,fun p hp=>by have:=h.coef p hp;omega,Nat.le_trans h.len hm⟩
theorem oR {n:Nat}{t:Tm}{b:Int}(hb:b=1∨b = -1):∀{ts:List (Tm×Int)},(∀p∈ts,-(n:Int)≤p.2∧p.2≤(n:Int))→(∀p∈Io t b ts,-((n+1:Nat):Int)≤p.2∧p.2≤((n+1:Nat):Int))∧(Io t b ts).length≤ts.length+1
  | [],_=>by simp [Io];omega
  | q::r,h=>by
    rw [Io]
    split
    · refine ⟨fun p hp=>?_,by simp⟩
      rcases List.mem_cons.1 hp with rfl | hp
      · have:=h q (by simp);simp only;omega
      · have:=h p (by simp [hp]);omega
    · obtain ⟨h1,h2⟩:=oR hb (ts:=r) fun p hp=>h p (by simp [hp])
      refine ⟨fun p hp=>?_,by simp;omega⟩
      rcases List.mem_cons.1 hp with rfl | hp
      · have:=h p (by simp);omega
      · exact h1 p hp
theorem Xb (e:Ex):C4 e=0→∀{n:Nat} {b:Int} {s:Su},b=1∨b = -1→suOK n s→suOK (n+At e) (Bp e b s).1:=by
  refine Ex.Abb (P:=fun e=>C4 e=0→∀{n:Nat} {b:Int} {s:Su},b=1∨b = -1→suOK n s→suOK (n+At e) (Bp e b s).1) (fun e ih hn n b s hb hs=>?_) e
  have hz:=Be hn
  have hsz:1≤At e:=by rw [D7];omega
  have hsum2:∀h:1<e.args.length,At (Ao e)+At (Bi e)+1≤At e:=fun h=>by
    have hp:=D7 e
    cases ha:e.args with
    | nil=>rw [ha] at h;simp at h
    | cons a r=>
      cases r with
      | nil=>rw [ha] at h;simp at h
      | cons b r=>
        have e0:Ao e=a:=by unfold Ao;rw [ha];rfl
        have e1:Bi e=b:=by unfold Bi;rw [ha];rfl
        rw [e0,e1,hp,ha];simp;omega
  rw [P4]
  unfold cB
  split
  · rename_i h0
    have hc:=Tx hz.1 (by simpa using h0)
    refine (show suOK (n+1) _ from ⟨?_,fun p hp=>by have:=hs.coef p hp;omega,by have:=hs.len;simp only;omega⟩).mono (by omega)
    have:=hs.rest
    rcases hb with rfl | rfl <;> simp only <;> omega
  · split
    · obtain ⟨h1,h2⟩:=oR (t:=D3 e) hb hs.coef
      exact (show suOK (n+1) _ from ⟨by have:=hs.rest;simp only;omega,h1,by have:=hs.len;simp only;omega⟩).mono (by omega)
    · have two:(e.op=5∨e.op=6)→∀c,(c=1∨c = -1)→suOK (n+At e) (if !((Qm (fun _ s=>(s,false)) (e.args.map Bp):Nb) b s).2 then (((Qm (fun _ s=>(s,false)) (e.args.map Bp):Nb) b s).1,false) else (Yo (fun _ s=>(s,false)) (e.args.map Bp):Nb) c ((Qm (fun _ s=>(s,false)) (e.args.map Bp):Nb) b s).1).1:=by
        intro ho c hc
        have hl:=Dj hz.1 (by omega)
        have hs2:=hsum2 hl
        rw [Ik Bp _ (by omega),Ix Bp _ hl]
        have m0:=A6 (show 0<e.args.length by omega)
        have m1:=Bk hl
        have i0:=ih _ m0 (hz.2 _ m0) hb hs
        split
        · exact i0.mono (by omega)
        · exact (ih _ m1 (hz.2 _ m1) hc i0).mono (by omega)
      split
      · rename_i h5;exact two (.inl (by simpa using h5)) b hb
      · split
        · rename_i h6;exact two (.inr (by simpa using h6)) (0-b) (by omega)
        · exact hs.mono (by omega)

/-! ### the sum in the heap -/
abbrev Oa (m bs:Nat)(v:Value)(s:Su)(R:List HO):List HO:=.row v (s.ts.map fun p=>Ib p.1).length 143 3 :: .box bs 207 [.val (.map (some m)),.row v 3 (s.ts.map fun p=>Ib p.1),.int .i64 s.rest] :: .kmap m (Gv s.ts)::R
theorem Bo {m bs:Nat}{R:List HO}{e:Ex}{b:Int}{s:Su}{X:Su×Bool}{r:AV}{H:List HO}(h:Bp e b s=X)(k:r = .bool X.2∧∃v,H=Oa m bs v X.1 R):r = .bool (Bp e b s).2∧∃v,H=Oa m bs v (Bp e b s).1 R:=by rw [h];exact k
theorem Fy {e:Ex}{b:Int}{s:Su}(h:(e.op==0)=true):Bp e b s=(⟨s.ts,s.rest+b*e.val.num⟩,true):=by rw [P4,cB,if_pos h]
theorem B8 {e:Ex}{b:Int}{s:Su}(h:(e.op==0)=false)(h1:(e.op==1||e.op==2)=true):Bp e b s=(⟨Io (D3 e) b s.ts,s.rest⟩,true):=by rw [P4,cB,Ck h,if_pos h1]
theorem Gx {e:Ex}{b:Int}{s:Su}(h:(e.op==0)=false)(h1:(e.op==1||e.op==2)=false)(h2:(e.op==5)=false)(h3:(e.op==6)=false):Bp e b s=(s,false):=by rw [P4,cB,Ck h,Ck h1,Ck h2,Ck h3]
theorem J9 {e:Ex}{b c:Int}{s:Su}(hl:1<e.args.length)(h:(e.op=5∧c=b)∨(e.op=6∧c=0-b)):Bp e b s=if !(Bp (Ao e) b s).2 then ((Bp (Ao e) b s).1,false) else Bp (Bi e) c (Bp (Ao e) b s).1:=by
 rw [P4,cB]
 rcases h with ⟨h,rfl⟩ | ⟨h,rfl⟩
 · rw [Ck (by simp;omega),Ck (by simp;omega),if_pos (by simpa using h),Ik Bp _ (by omega),Ix Bp _ hl]
 · rw [Ck (by simp;omega),Ck (by simp;omega),Ck (by simp;omega),if_pos (by simpa using h),Ik Bp _ (by omega),Ix Bp _ hl]
theorem sQ {e:Ex}{b c:Int}{s:Su}(hl:1<e.args.length)(h:(e.op=5∧c=b)∨(e.op=6∧c=0-b))(hG:Ip [((Bp (Ao e) b s).2,true)]):Bp e b s=Bp (Bi e) c (Bp (Ao e) b s).1:=by
 have h2:(Bp (Ao e) b s).2=true:=hG _ (List.mem_singleton.2 rfl)
 rw [J9 hl h,h2];rfl
theorem Z5 {m bs:Nat}{R:List HO}{v:Value}{e:Ex}{b c:Int}{s:Su}(hl:1<e.args.length)(h:(e.op=5∧c=b)∨(e.op=6∧c=0-b))(hG:¬Ip [((Bp (Ao e) b s).2,true)]):∃u,Oa m bs v (Bp (Ao e) b s).1 R=Oa m bs u (Bp e b s).1 R:=by
 have h2:(Bp (Ao e) b s).2=false:=by
  rw [Bool.eq_false_iff]
  intro hx
  exact hG fun p hp=>by rw [List.mem_singleton.1 hp];exact hx
 refine ⟨v,?_⟩
 rw [J9 hl h,h2];rfl
theorem Dg {e:Ex}{b c:Int}{s:Su}(hl:1<e.args.length)(h:(e.op=5∧c=b)∨(e.op=6∧c=0-b)):((Bp (Ao e) b s).2&&(Bp (Bi e) c (Bp (Ao e) b s).1).2)=(Bp e b s).2:=by
 rw [J9 hl h]
 cases hq:(Bp (Ao e) b s).2 <;> simp
theorem jX {f:FuncId}{m bs:Nat}{R:List HO}{e:Ex}{b c:Int}{s:Su}{args:List AV}{H:List HO}(hl:1<e.args.length)(h:(e.op=5∧c=b)∨(e.op=6∧c=0-b))(hG:Ip [((Bp (Ao e) b s).2,true)])(hc:Dx Tryz.prog f H args fun r H'=>r = .bool (Bp (Bi e) c (Bp (Ao e) b s).1).2∧∃v,H'=Oa m bs v (Bp (Bi e) c (Bp (Ao e) b s).1).1 R) :
  Dx Tryz.prog f H args fun r H'=>r = .bool (Bp (Bi e) c (Bp (Ao e) b s).1).2∧∃v,H'=Oa m bs v (Bp e b s).1 R:=by
 rw [sQ hl h hG];exact hc
theorem Gk {m bs:Nat}{v:Value}{R:List HO}{t:Tm}{b:Int}{s:Su}(h:Rc t s.ts=false) :
  (HO.row v ((s.ts.map fun p=>Ib p.1) ++ [Ib t]).length 143 3 :: .box bs 207 [.val (.map (some m)),.row v 3 ((s.ts.map fun p=>Ib p.1) ++ [Ib t]),.int .i64 s.rest] :: .kmap m (Ob (Gv s.ts ++ [(Ib t,.int .i64 0)]) (Gv s.ts).length (.int .i64 (F9 t s.ts+b)))::R)=Oa m bs v ⟨Io t b s.ts,s.rest⟩ R:=by
 obtain ⟨h1,h2⟩:=cZ (b:=b) h
 rw [dO,h1,h2,Int.zero_add]
 show _=HO.row v ((s.ts ++ [(t,b)]).map fun p=>Ib p.1).length 143 3::_
 rw [List.map_append];rfl
theorem nH {c:Int}:∀(l:List (Tm×Int)) (j:Nat),((l.modify j (fun p=>(p.1,c))).map fun p=>Ib p.1)=l.map fun p=>Ib p.1
 | [],j=>by cases j <;> rfl
 | a::r,0=>rfl
 | a::r,j+1=>by simp only [List.modify_succ_cons,List.map_cons];rw [nH r j]
theorem Gn {m bs j:Nat}{v:Value}{R:List HO}{t:Tm}{b:Int}{s:Su}(h3:Io t b s.ts=s.ts.modify j (fun p=>(p.1,F9 t s.ts+b))) :
  (HO.row v (s.ts.map fun p=>Ib p.1).length 143 3 :: .box bs 207 [.val (.map (some m)),.row v 3 (s.ts.map fun p=>Ib p.1),.int .i64 s.rest] :: .kmap m (Ob (Gv s.ts) j (.int .i64 (F9 t s.ts+b)))::R)=Oa m bs v ⟨Io t b s.ts,s.rest⟩ R:=by
 have hm:=nH (c:=F9 t s.ts+b) s.ts j
 rw [Yv,h3]
 show _=HO.row v ((s.ts.modify j (fun p=>(p.1,F9 t s.ts+b))).map fun p=>Ib p.1).length 143 3::HO.box bs 207 [.val (.map (some m)),.row v 3 ((s.ts.modify j (fun p=>(p.1,F9 t s.ts+b))).map fun p=>Ib p.1),.int .i64 s.rest]::_
 rw [hm]
theorem aV {a b:Bool}(h:a=true):(a||b)=true:=by rw [h];rfl
theorem Z4 {a b:Bool}(h:b=true):(a||b)=true:=by rw [h];simp
theorem cF {a b:Bool}(h:a=false)(h':b=false):(a||b)=false:=by rw [h,h'];rfl
theorem Vz {n:Nat}{s:Su}(h:suOK n s)(t:Tm) : -(n:Int)≤F9 t s.ts∧F9 t s.ts≤(n:Int):=by
 unfold F9
 cases hf:s.ts.find? fun q=>eF t q.1 with
 | none=>simp only [Option.map_none,Option.getD_none];omega
 | some q=>exact h.coef q (List.mem_of_find?_eq_some hf)
theorem oN {P:Program}{o:Oper}{ρ:Operand→AV}{x:AV}{a b:HO}{K:List HO→Prop}(h1:∀k:Nat,Dl P o ρ (fun H=>H[k]? = some a) x)(h2:∀k:Nat,Dl P o ρ (fun H=>H[k]? = some b) x)(h:∀H,K H→a∈H∨b∈H):Dl P o ρ K x:=by
 intro g w c H next Q hr hH hk hn
 rcases h H hk with h | h
 ·
  obtain ⟨k,hk⟩:=List.getElem?_of_mem h
  exact h1 k g w c H next Q hr hH hk hn
 ·
  obtain ⟨k,hk⟩:=List.getElem?_of_mem h
  exact h2 k g w c H next Q hr hH hk hn
theorem jO (t:Tm)(ts:List (Tm×Int)):∀p∈Gv ts ++ [(Ib t,AV.int .i64 0)],He TL [(0,1,true,3),(1,1,true,3),(2,1,true,3)] (Ib t) p.1=some (Ht t p.1):=by
 have:Gv ts ++ [(Ib t,AV.int .i64 0)]=Gv (ts ++ [(t,0)]):=by unfold Gv;rw [List.map_append];rfl
 rw [this];exact Iv t _
theorem mY {t:Tm}{ts:List (Tm×Int)}(h:Rc t ts=false):match Hl (Ht t) (Gv ts ++ [(Ib t,AV.int .i64 0)]) with | some y=>y = .int .i64 (F9 t ts) | none=>[AV.int .i64 0] = [.int .i64 (F9 t ts)]:=by
 have h1:Gv ts ++ [(Ib t,AV.int .i64 0)]=Gv (ts ++ [(t,0)]):=by unfold Gv;rw [List.map_append];rfl
 have h2:F9 t (ts ++ [(t,0)])=F9 t ts:=by
  rw [(cZ (b:=0) h).2]
  unfold F9
  unfold Rc at h
  rw [List.find?_append]
  cases hf:ts.find? fun q=>eF t q.1 with
  | some q=>rw [hf] at h;cases h
  | none=>rw [List.find?_cons,K2.2 rfl];rfl
 rw [h1,←h2];exact Oy t _
theorem Dy {e:Ex}(h:1<e.args.length):At (Ao e)+At (Bi e)+1≤At e:=by
  have hp:=D7 e
  cases ha:e.args with
  | nil=>rw [ha] at h;simp at h
  | cons a r=>
    cases r with
    | nil=>rw [ha] at h;simp at h
    | cons b r=>
      have e0:Ao e=a:=by unfold Ao;rw [ha];rfl
      have e1:Bi e=b:=by unfold Bi;rw [ha];rfl
      rw [e0,e1,hp,ha];simp;omega

/-- the sum where between ends -/
def Da (a b:Ex):Su:=if !(Bp a 1 Kx).2 then (Bp a 1 Kx).1 else (Bp b (-1) (Bp a 1 Kx).1).1
theorem wH {a b:Ex}(hG:Ip [(!(Bp a 1 Kx).2,false)]):Da a b=(Bp b (-1) (Bp a 1 Kx).1).1:=by
 have h2:(!(Bp a 1 Kx).2)=false:=hG _ (List.mem_singleton.2 rfl)
 unfold Da;rw [Ck h2]
theorem zC {f:FuncId}{m bs:Nat}{R:List HO}{a b:Ex}{args:List AV}{H:List HO}(hG:Ip [(!(Bp a 1 Kx).2,false)])(hc:Dx Tryz.prog f H args fun r H'=>r = .bool (Bp b (-1) (Bp a 1 Kx).1).2∧∃v,H'=Oa m bs v (Bp b (-1) (Bp a 1 Kx).1).1 R) :
  Dx Tryz.prog f H args fun r H'=>r = .bool (Bp b (-1) (Bp a 1 Kx).1).2∧∃v,H'=Oa m bs v (Da a b) R:=by
 rw [wH hG];exact hc
theorem btw_f {m bs:Nat}{R:List HO}{v:Value}{a b:Ex}(hG:¬Ip [(!(Bp a 1 Kx).2,false)]):∃u,Oa m bs v (Bp a 1 Kx).1 R=Oa m bs u (Da a b) R:=by
 have h2:(!(Bp a 1 Kx).2)=true:=by
  rw [←Bool.not_eq_false]
  intro hx
  exact hG fun p hp=>by rw [List.mem_singleton.1 hp];exact hx
 refine ⟨v,?_⟩
 unfold Da;rw [if_pos h2]
theorem btw_no {a b:Ex}(h:(!(Bp a 1 Kx).2 || !(Bp b (-1) (Bp a 1 Kx).1).2)=true):Cj a b=(tY,false):=by
 unfold Cj
 by_cases h1:(!(Bp a 1 Kx).2)=true
 · rw [if_pos h1]
 · rw [if_neg h1,if_pos (by simpa [Bool.eq_false_iff.2 h1] using h)]
theorem nX {a b:Ex}(h:(!(Bp a 1 Kx).2 || !(Bp b (-1) (Bp a 1 Kx).1).2)=false):Cj a b=Rx (Da a b):=by
 have h1:(!(Bp a 1 Kx).2)=false:=by cases hx:(!(Bp a 1 Kx).2) <;> simp_all
 have h2:(!(Bp b (-1) (Bp a 1 Kx).1).2)=false:=by rw [h1] at h;simpa using h
 unfold Cj Da
 rw [Ck h1,Ck h2,Ck h1]
theorem iP {a b:Ex}(h:(!(Bp a 1 Kx).2 || !(Bp b (-1) (Bp a 1 Kx).1).2)=false)(hp:Dv (Da a b).ts [] []=none):Cj a b=(tY,false):=by
 rw [nX h,Rx,hp]
theorem vX {a b:Ex}{p m:List Tm}(h:(!(Bp a 1 Kx).2 || !(Bp b (-1) (Bp a 1 Kx).1).2)=false)(hp:Dv (Da a b).ts [] []=some (p,m)):Cj a b=(⟨p,m,(Da a b).rest⟩,decide ((p.length:Int)≤1)&&decide ((m.length:Int)≤1)):=by
 rw [nX h,Rx,hp]
theorem mC:suOK 0 Kx:=⟨by simp [Kx],by simp [Kx],by simp [Kx]⟩
theorem bN {a b:Ex}(ha:C4 a=0)(hb:C4 b=0):suOK (At a+At b) (Da a b):=by
 have h1:suOK (0+At a) (Bp a 1 Kx).1:=Xb a ha (.inl rfl) mC
 unfold Da
 split
 · exact h1.mono (by omega)
 · exact (Xb b hb (.inr rfl) h1).mono (by omega)
/-- the terms of a sum are different ones -/
theorem Xk {t:Tm}{b:Int}:∀{ts:List (Tm×Int)},(ts.map (·.1)).Nodup→((Io t b ts).map (·.1)).Nodup∧∀u,u∈(Io t b ts).map (·.1)→u=t∨u∈ts.map (·.1)
  | [],_=>by simp [Io]
  | q::r,h=>by
    rw [Io]
    rw [List.map_cons,List.nodup_cons] at h
    split
    · rename_i he
      refine ⟨by simpa using h,fun u hu=>.inr (by simpa using hu)⟩
    · rename_i hne
      obtain ⟨h1,h2⟩:=Xk (t:=t) (b:=b) h.2
      refine ⟨?_,fun u hu=>?_⟩
      · rw [List.map_cons,List.nodup_cons]
        refine ⟨fun hu=>?_,h1⟩
        rcases h2 _ hu with e | hm
        · exact hne e.symm
        · exact h.1 hm
      · rw [List.map_cons,List.mem_cons] at hu
        rcases hu with e | hu
        · right;rw [e];simp
        · rcases h2 _ hu with e | hm
          · exact .inl e
          · right;rw [List.map_cons];exact List.mem_cons_of_mem _ hm
theorem Zy (e:Ex):C4 e=0→∀{b:Int} {s:Su},(s.ts.map (·.1)).Nodup→((Bp e b s).1.ts.map (·.1)).Nodup:=by
 refine Ex.Abb (P:=fun e=>C4 e=0→∀{b:Int} {s:Su},(s.ts.map (·.1)).Nodup→((Bp e b s).1.ts.map (·.1)).Nodup) (fun e ih hn b s hs=>?_) e
 have hz:=Be hn
 rw [P4]
 unfold cB
 split
 · exact hs
 ·
  split
  · exact (Xk hs).1
  ·
   have two:(e.op=5∨e.op=6)→∀c,((if !((Qm (fun _ s=>(s,false)) (e.args.map Bp):Nb) b s).2 then (((Qm (fun _ s=>(s,false)) (e.args.map Bp):Nb) b s).1,false) else (Yo (fun _ s=>(s,false)) (e.args.map Bp):Nb) c ((Qm (fun _ s=>(s,false)) (e.args.map Bp):Nb) b s).1).1.ts.map (·.1)).Nodup:=by
    intro ho c
    have hl:=Dj hz.1 (by omega)
    rw [Ik Bp _ (by omega),Ix Bp _ hl]
    have m0:=A6 (show 0<e.args.length by omega)
    have m1:=Bk hl
    have i0:=ih _ m0 (hz.2 _ m0) (b:=b) hs
    split
    · exact i0
    · exact ih _ m1 (hz.2 _ m1) i0
   split
   · rename_i h5;exact two (.inl (by simpa using h5)) b
   ·
    split
    · rename_i h6;exact two (.inr (by simpa using h6)) (0-b)
    · exact hs
theorem dF {a b:Ex}(ha:C4 a=0)(hb:C4 b=0):((Da a b).ts.map (·.1)).Nodup:=by
 have h1:=Zy a ha (b:=1) (s:=Kx) (by simp [Kx])
 unfold Da
 split
 · exact h1
 · exact Zy b hb h1
/-- the coefficient that the map holds at a term of the list -/
theorem coef_at {ts:List (Tm×Int)}{k:Nat}{q:Tm×Int}(hn:(ts.map (·.1)).Nodup)(h:ts[k]? = some q):F9 q.1 ts=q.2:=by
  induction ts generalizing k with
  | nil=>simp at h
  | cons p r ih=>
    rw [List.map_cons,List.nodup_cons] at hn
    unfold F9
    rw [List.find?_cons]
    cases k with
    | zero=>
      have:p=q:=by simpa using h
      subst this
      rw [K2.2 rfl];rfl
    | succ k=>
      have hq:r[k]? = some q:=by simpa using h
      have hm:=List.mem_of_getElem? hq
      have hne:eF q.1 p.1=false:=by
        rw [Bool.eq_false_iff]
        intro he
        have:=K2.1 he
        exact hn.1 (by rw [←this];exact List.mem_map_of_mem hm)
      rw [hne]
      exact ih hn.2 hq
theorem look_at {ts:List (Tm×Int)}{k:Nat}{q:Tm×Int}(hn:(ts.map (·.1)).Nodup)(h:ts[k]? = some q):match Hl (Ht q.1) (Gv ts) with | some y=>y = .int .i64 q.2 | none=>[AV.int .i64 0] = [.int .i64 q.2]:=by
 have h1:=Oy q.1 ts
 rw [coef_at hn h] at h1
 exact h1
theorem parts_0 {t:Tm×Int}{r:List (Tm×Int)}{p m:List Tm}(h:(t.2==0)=true):Dv (t::r) p m=Dv r p m:=by rw [Dv,if_pos h]
theorem parts_1 {t:Tm×Int}{r:List (Tm×Int)}{p m:List Tm}(h:(t.2==0)=false)(h1:(t.2==1)=true):Dv (t::r) p m=Dv r (p ++ [t.1]) m:=by rw [Dv,Ck h,if_pos h1]
theorem parts_2 {t:Tm×Int}{r:List (Tm×Int)}{p m:List Tm}(h:(t.2==0)=false)(h1:(t.2==1)=false)(h2:(t.2 == -1)=true):Dv (t::r) p m=Dv r p (m ++ [t.1]):=by rw [Dv,Ck h,Ck h1,if_pos h2]
theorem parts_3 {t:Tm×Int}{r:List (Tm×Int)}{p m:List Tm}(h:(t.2==0)=false)(h1:(t.2==1)=false)(h2:(t.2 == -1)=false):Dv (t::r) p m=none:=by rw [Dv,Ck h,Ck h1,Ck h2]

theorem K3 {T:List Sc}{V:List Va}{e:Ex}(hk:KOK T V e)(h:Cv e=true):1<e.args.length:=by
 unfold Cv at h
 have h':e.op=7∨e.op=8∨e.op=9:=by simp at h;omega
 exact Dj (Be hk.nodes).1 (by omega)
theorem vI {T:List Sc}{V:List Va}{e:Ex}(h:(e.op==1)=true):B7 T V e=true:=by rw [B7,if_pos h]
theorem gT {T:List Sc}{V:List Va}{e:Ex}(h:(e.op==1)=false)(h2:(!Cv e)=true):B7 T V e=false:=by rw [B7,Ck h,if_pos h2]
theorem yP {T:List Sc}{V:List Va}{e:Ex}(h:(e.op==1)=false)(h2:(!Cv e)=false)(h3:Cr T V e=true):B7 T V e=(Sg (Ao e)&&Sg (Bi e)):=by rw [B7,Ck h,Ck h2,if_pos h3]
theorem zD {T:List Sc}{V:List Va}{e:Ex}(h:(e.op==1)=false)(h2:(!Cv e)=false)(h3:Cr T V e=false):B7 T V e=(Cj (Ao e) (Bi e)).2:=by rw [B7,Ck h,Ck h2,Ck h3]
theorem P0 {T:List Sc}{V:List Va}{e:Ex}(h:(Ec T V e != 0)=false):KOK T V e:=by
 have h0:Ec T V e=0:=by simpa using h
 unfold Ec at h0
 by_cases h1:((Dd T V e).2 != 0)=true
 · rw [if_pos h1] at h0;rw [h0] at h1;cases h1
 · exact (aC (by simpa using h1)).1

theorem K1 {e:Ex}(h:By e=0)(ho:(e.op==1||e.op==2)=true):Hq (D3 e)=e:=by
 have ho':e.op=1∨e.op=2:=by simpa using ho
 have hn:=Wq h (by omega)
 unfold By at h
 split at h
 · cases h
 split at h
 · cases h
 split at h
 · cases h
 split at h
 · cases h
 rw [if_neg (by simp;omega)] at h
 unfold Bm at h
 have hu:(Dp e.op).1=true:=by rcases ho' with ho | ho <;> rw [ho] <;> rfl
 split at h
 · cases h
 rename_i hf
 cases e with | mk op args var field kind val=>
 simp only at ho' hn hf hu ⊢
 rw [hu] at hf
 simp only [Bool.not_true,Bool.false_and,Bool.false_or,Bool.or_eq_true,not_or,Bool.and_eq_true,not_and,Bool.not_eq_true',bne_iff_ne,ne_eq,Decidable.not_not,Bool.or_eq_false_iff,beq_eq_false_iff_ne] at hf
 have hk:kind=0:=hf.1.2 (by omega)
 have hv:val=v0:=by
  have:=hf.2 ⟨by omega,by omega⟩
  rw [←eP];simpa using this
 have hfd:op=2→field=0:=fun h2=>hf.1.1 (by rw [h2];rfl)
 unfold Hq D3
 subst hn;subst hk;subst hv
 rfl
abbrev lV:=Int→Su×Bool→Su×Bool
def colN (e:Ex)(fs:List lV):lV:=fun b s=>
 if e.op==0 then (⟨s.1.ts,s.1.rest+b*e.val.num⟩,s.2)
 else if e.op==1||e.op==2 then (⟨Io (D3 e) b s.1.ts,s.1.rest⟩,s.2)
 else if e.op==5 then (Yo (fun _ s=>(s.1,false)) fs:lV) b ((Qm (fun _ s=>(s.1,false)) fs:lV) b s)
 else if e.op==6 then (Yo (fun _ s=>(s.1,false)) fs:lV) (0-b) ((Qm (fun _ s=>(s.1,false)) fs:lV) b s)
 else (s.1,false)
def colS:Ex→lV:=Rs colN
theorem Ox {e:Ex}(h:By e=0):(e.op==0)=true∨((e.op==0)=false∧(e.op==1||e.op==2)=true)∨((e.op=5∨e.op=6)∧1<e.args.length)∨((e.op==0)=false∧(e.op==1||e.op==2)=false∧(e.op==5)=false∧(e.op==6)=false):=by
 by_cases h0:e.op=0
 · left;simpa using h0
 by_cases h1:e.op=1∨e.op=2
 · right;left;exact ⟨by simpa using h0,by simpa using h1⟩
 by_cases h5:e.op=5∨e.op=6
 · right;right;left;exact ⟨h5,Dj h (by omega)⟩
 · right;right;right;refine ⟨by simpa using h0,by simp;omega,by simp;omega,by simp;omega⟩
/-- the sum where difference ends -/
def lR (a b:Ex):Su×Bool:=colS b (-1) (colS a 1 (Kx,true))
def differS (a b:Ex):Gp×Bool:=match Dv (lR a b).1.ts [] [] with
 | some (p,m)=>(⟨p,m,(lR a b).1.rest⟩,(lR a b).2&&(decide ((p.length:Int)≤1)&&decide ((m.length:Int)≤1)))
 | none=>(tY,false)
/-! ### the sum in the heap -/
abbrev rTm (ts:List (Tm×Int)):List (List AV):=ts.map fun p=>cE (Hq p.1)
abbrev rCo (ts:List (Tm×Int)):List (List AV):=ts.map fun p=>[AV.int .i64 p.2]
abbrev linH (v u:Value)(ts:List (Tm×Int))(R:List HO):List HO:=.row v (rTm ts).length 30 8 :: .buf u (rCo ts) 3 1::R
abbrev linR (v u:Value)(s:Su)(ok:Bool):AV:=.agg [.row v 8 (rTm s.ts),.val u,.int .i64 s.rest,.bool ok]
def cGpR (g:Gp):List AV:=[.sl 8 (g.plus.map fun t=>cE (Hq t)),.sl 8 (g.minus.map fun t=>cE (Hq t)),.int .i64 g.rest]

/-- a well-typed expression within the limits -/
structure KC (T:List Sc) (V:List Va) (e:Ex):Prop where
 kok:KOK T V e
 types:Ed T=0
 vars:Hy T V=0
 check:Bx e=0
theorem mU {e:Ex}(h:Bx e=0):At e≤64∧E0 e≤12∧C4 e=0:=by
 unfold Bx at h
 split at h
 · cases h
 rename_i h1
 split at h
 · cases h
 rename_i h2
 simp only [decide_eq_true_eq] at h1 h2
 exact ⟨by omega,by omega,h⟩
theorem It {T:List Sc}{V:List Va}{e:Ex}(h:KC T V e):At e≤64:=(mU h.check).1
theorem pM {T:List Sc}{V:List Va}{e:Ex}(h:KC T V e):Dd T V e=Cc T V e:=by
 unfold Dd
 rw [if_neg (by rw [h.types];decide),if_neg (by rw [h.vars];decide),if_neg (by rw [h.check];decide)]
theorem eQ {T:List Sc}{V:List Va}{e:Ex}(h:KC T V e):(Dd T V e).1=Am T V e:=by rw [pM h,F4 h.kok]
theorem jD {T:List Sc}{V:List Va}{e:Ex}(h:(Dd T V e).2=0):KC T V e:=by
 have hk:=(aC h).1
 unfold Dd at h
 by_cases h1:(Ed T != 0)=true
 · rw [if_pos h1] at h;simp only at h;rw [h] at h1;cases h1
 rw [if_neg h1] at h
 by_cases h2:(Hy T V != 0)=true
 · rw [if_pos h2] at h;simp only at h;rw [h] at h2;cases h2
 rw [if_neg h2] at h
 by_cases h3:(Bx e != 0)=true
 · rw [if_pos h3] at h;simp only at h;rw [h] at h3;cases h3
 exact ⟨hk,by simpa using h1,by simpa using h2,by simpa using h3⟩
theorem S7 {T:List Sc}{V:List Va}{e:Ex}(h:(Ec T V e != 0)=false):KC T V e∧Am T V e=1:=by
 have h0:Ec T V e=0:=by simpa using h
 unfold Ec at h0
 by_cases h1:((Dd T V e).2 != 0)=true
 · rw [if_pos h1] at h0;rw [h0] at h1;cases h1
 ·
  rw [if_neg h1] at h0
  have hk:=jD (by simpa using h1)
  refine ⟨hk,?_⟩
  by_cases h2:((Dd T V e).1 != 1)=true
  · rw [if_pos h2] at h0;cases h0
  · rw [←eQ hk];simpa using h2
theorem kc_cond {T:List Sc}{V:List Va}{e:Ex}(h:KC T V e)(hk:Am T V e=1):Ec T V e=0:=by
 have h2:(Dd T V e).2=0:=by rw [pM h];exact h.kok.kind
 unfold Ec
 rw [if_neg (by rw [h2];decide),if_neg (by rw [eQ h,hk];decide)]
theorem Pa {T:List Sc}{V:List Va}{e a:Ex}(h:KOK T V e)(ha:a∈e.args):Mo e.op (Am T V a) (Am T V (Ao e))=true:=by
 have hp:e.args≠[]:=by intro hn;rw [hn] at ha;cases ha
 have h1:=(O6 h hp).2.1
 unfold Dk at h1
 have h2:=Hf h1 _ (List.mem_map_of_mem (f:=fun a=>(Cc T V a).1) ha)
 have h0:0<e.args.length:=List.length_pos_iff.2 hp
 have h3:((e.args.map fun a=>(Cc T V a).1).headD 0)=(Cc T V (Ao e)).1:=by
  cases hargs:e.args with
  | nil=>exact absurd hargs hp
  | cons x r=>unfold Ao;rw [hargs];rfl
 rw [h3] at h2
 rw [F4 (A3 h ha),F4 (A3 h (A6 h0))] at h2
 split at h2
 · assumption
 · cases h2
theorem Im {T:List Sc}{V:List Va}{e a:Ex}(h:KOK T V e)(ho:e.op=9)(ha:a∈e.args):Am T V a=Am T V (Ao e):=by
 have h1:=Pa h ha
 unfold Mo at h1
 rw [if_neg (by simp;omega),if_neg (by simp;omega),if_pos (by simp;omega)] at h1
 simpa using h1
/-! ### The reference's -/
def rcmpS (e:Ex):Bool:=(e.op != 7&&e.op != 8)&&e.op != 9

theorem jK:∀g w u,Rep g w u (.sl 1 [[.val (.slice none 0 0)]])→Rep g w u (.sl 1 [[.sl 9 []]]):=fun g w u h=>by
  cases h with
  | sl b o n cap z es hn hc hm hz f hs hr=>
    refine .sl b o n cap 1 _ hn hc hm (fun e he=>by rw [List.mem_singleton.1 he];rfl) f (fun i e hi j x hj=>?_) (fun i e hi j x hj=>?_)
    · cases i with
      | succ i=>simp at hi
      | zero=>
        cases j with
        | succ j=>simp at hi;subst hi;simp at hj
        | zero=>exact hs 0 _ rfl 0 _ rfl
    · cases i with
      | succ i=>simp at hi
      | zero=>
        cases j with
        | succ j=>simp at hi;subst hi;simp at hj
        | zero=>
          simp at hi;subst hi;simp at hj;subst hj
          have:=(hr 0 _ rfl 0 _ rfl).inv_val
          rw [this];exact .sl0 _ _ _ (Nat.zero_le _)

/-! ### products -/
theorem oX {α:Type}{a b:List (List α)}(h:decide ((256:Int)<(a.length:Int)*(b.length:Int))=true):Ma a b=([],false):=by rw [Ma,if_pos h]
theorem eV {α:Type}{a b:List (List α)}(h:decide ((256:Int)<(a.length:Int)*(b.length:Int))=false):Ma a b=(a.flatMap fun x=>b.map fun y=>x++y,true):=by rw [Ma,Ck h]
theorem qV {α:Type}{a b:List (List α)}{k:Nat}{x:List α}(h:a[k]? = some x):((a.take (k+1)).flatMap fun x=>b.map fun y=>x++y)=((a.take k).flatMap fun x=>b.map fun y=>x++y)++b.map fun y=>x++y:=by
 rw [Cu h,List.flatMap_append];simp
theorem kB {α:Type}(a b:List (List α)):(a.flatMap fun x=>b.map fun y=>x++y).length=a.length*b.length:=by
 induction a with
 | nil=>simp
 | cons x r ih=>rw [List.flatMap_cons,List.length_append,ih,List.length_map,List.length_cons,Nat.succ_mul];omega
theorem prod_le {α:Type}{a b:List (List α)}{k j:Nat}(hk:k<a.length)(hj:j<b.length)(h:decide ((256:Int)<(a.length:Int)*(b.length:Int))=false):k*b.length+j<256:=by
 have h1:a.length*b.length≤256:=by
  have:¬(256:Int)<(a.length:Int)*(b.length:Int):=by simpa using h
  have h2:((a.length*b.length:Nat):Int)=(a.length:Int)*(b.length:Int):=by simp
  omega
 have h2:(k+1)*b.length≤a.length*b.length:=Nat.mul_le_mul_right _ hk
 rw [Nat.succ_mul] at h2
 omega
theorem eX {a b:Cs}(h:(!a.2 || !b.2)=true):En a b=([],false):=by rw [En,if_pos h]
theorem aM {a b:Cs}(h:(!a.2 || !b.2)=false):En a b=Ma a.1 b.1:=by rw [En,Ck h]
theorem pN {a b:Cs}(h:((!a.2 || !b.2)||decide ((256:Int)<(a.1.length:Int)+(b.1.length:Int)))=true):Jh a b=([],false):=by rw [Jh,if_pos h]
theorem iX {a b:Cs}(h:((!a.2 || !b.2)||decide ((256:Int)<(a.1.length:Int)+(b.1.length:Int)))=false):Jh a b=(a.1++b.1,true):=by rw [Jh,Ck h]

/-! ### how long they are -/
/-- at most 256 clauses, each at most so long -/
structure csOK (n:Nat) (c:Cs):Prop where
 len:c.1.length≤256
 lits:∀x∈c.1,x.length≤n
theorem csOK.mono {n m:Nat}{c:Cs}(h:csOK n c)(hm:n≤m):csOK m c:=⟨h.len,fun x hx=>Nat.le_trans (h.lits x hx) hm⟩
theorem cK {n:Nat}:csOK n ([],false):=⟨Nat.zero_le _,fun x hx=>by cases hx⟩
theorem Lt {n m:Nat}{a b:Cs}(ha:csOK n a)(hb:csOK m b):csOK (n+m) (En a b):=by
 unfold En
 split
 · exact cK
 ·
  unfold Ma
  split
  · exact cK
  ·
   rename_i h
   refine ⟨?_,fun x hx=>?_⟩
   ·
    show (a.1.flatMap fun x=>b.1.map fun y=>x++y).length≤256
    rw [kB]
    have h1:¬(256:Int)<(a.1.length:Int)*(b.1.length:Int):=by simpa using h
    have h2:((a.1.length*b.1.length:Nat):Int)=(a.1.length:Int)*(b.1.length:Int):=by simp
    omega
   ·
    obtain ⟨y,hy,hm⟩:=List.mem_flatMap.1 hx
    obtain ⟨z,hz,rfl⟩:=List.mem_map.1 hm
    have:=ha.lits y hy
    have:=hb.lits z hz
    rw [List.length_append];omega
theorem pS {n:Nat}{a b:Cs}(ha:csOK n a)(hb:csOK n b):csOK n (Jh a b):=by
 unfold Jh
 split
 · exact cK
 ·
  rename_i h
  refine ⟨?_,fun x hx=>?_⟩
  ·
   show (a.1++b.1).length≤256
   simp at h
   rw [List.length_append];omega
  ·
   rcases List.mem_append.1 hx with h | h
   · exact ha.lits x h
   · exact hb.lits x h
section
variable {T:List Sc} {V:List Va}
abbrev zX:Hm:=fun _=>([],false)
theorem Gg {e:Ex}{s:Bool}(h:(e.op==0)=true)(h1:((e.val.num==1)==s)=true):Dc T V e s=([[]],true):=by rw [Jc,Pb,if_pos h,if_pos h1]
theorem Ge {e:Ex}{s:Bool}(h:(e.op==0)=true)(h1:((e.val.num==1)==s)=false):Dc T V e s=([],true):=by rw [Jc,Pb,if_pos h,Ck h1]
theorem Gl {e:Ex}{s:Bool}(hl:0<e.args.length)(h:(e.op==12)=true):Dc T V e s=Dc T V (Ao e) (!s):=by
 rw [Jc,Pb,Ck (by simp at h ⊢;omega),if_pos h,Ik _ _ hl]
theorem Gf {e:Ex}{s:Bool}(hl:1<e.args.length)(h:(e.op==10||e.op==11)=true)(h1:((e.op==10)==s)=true):Dc T V e s=En (Dc T V (Ao e) s) (Dc T V (Bi e) s):=by
 rw [Jc,Pb,Ck (by simp at h ⊢;omega),Ck (by simp at h ⊢;omega),if_pos h,if_pos h1,Ik _ _ (by omega),Ix _ _ hl]
theorem Gd {e:Ex}{s:Bool}(hl:1<e.args.length)(h:(e.op==10||e.op==11)=true)(h1:((e.op==10)==s)=false):Dc T V e s=Jh (Dc T V (Ao e) s) (Dc T V (Bi e) s):=by
 rw [Jc,Pb,Ck (by simp at h ⊢;omega),Ck (by simp at h ⊢;omega),if_pos h,Ck h1,Ik _ _ (by omega),Ix _ _ hl]
theorem Gc {e:Ex}{s:Bool}(hl:1<e.args.length)(h:(e.op==9)=true)(h1:(Am T V (Ao e)==1)=true) :
  Dc T V e s=Jh (En (Dc T V (Ao e) true) (Dc T V (Bi e) s)) (En (Dc T V (Ao e) false) (Dc T V (Bi e) (!s))):=by
 rw [Jc,Pb,Ck (by simp at h ⊢;omega),Ck (by simp at h ⊢;omega),Ck (by simp at h ⊢;omega),if_pos (by rw [h,h1];rfl),Ik _ _ (by omega),Ix _ _ hl]
theorem Gj {e:Ex}{s:Bool}(h:(e.op==9)=true)(h1:(Am T V (Ao e)==1)=false)(h2:(Am T V (Ao e)==0 && !s)=true) :
  Dc T V e s=Eg [⟨two 7 (Ao e) (Bi e),false⟩,⟨two 7 (Bi e) (Ao e),false⟩]:=by
 rw [Jc,Pb,Ck (by simp at h ⊢;omega),Ck (by simp at h ⊢;omega),Ck (by simp at h ⊢;omega),Ck (by rw [h1,Bool.and_false]),if_pos (by rw [h,h2];rfl)]
theorem Iu {e:Ex}{s:Bool}(h:(e.op==9)=true)(h1:(Am T V (Ao e)==1)=false)(h2:(Am T V (Ao e)==0 && !s)=false):Dc T V e s=Eg [⟨e,!s⟩]:=by
 rw [Jc,Pb,Ck (by simp at h ⊢;omega),Ck (by simp at h ⊢;omega),Ck (by simp at h ⊢;omega),Ck (by rw [h1,Bool.and_false]),Ck (by rw [h2,Bool.and_false])]
theorem Kq {e:Ex}{s:Bool}(h0:(e.op==0)=false)(h12:(e.op==12)=false)(h10:(e.op==10||e.op==11)=false)(h:(e.op==9)=false):Dc T V e s=Eg [⟨e,!s⟩]:=by
 rw [Jc,Pb,Ck h0,Ck h12,Ck h10,Ck (by rw [h];rfl),Ck (by rw [h];rfl)]
/-- how an expression may look to Dc -/
theorem Lo {e:Ex}(s:Bool)(hk:KOK T V e) :
    (e.op==0)=true∨((e.op==12)=true∧0<e.args.length)∨((e.op==10||e.op==11)=true∧1<e.args.length)∨((e.op==9)=true∧1<e.args.length∧(Am T V (Ao e)==1)=true)∨
    ((e.op==9)=true∧1<e.args.length∧(Am T V (Ao e)==1)=false∧(Am T V (Ao e)==0 && !s)=true)∨((e.op==0)=false∧(e.op==12)=false∧(e.op==10||e.op==11)=false∧Dc T V e s=Eg [⟨e,!s⟩]∧((e.op==9)=true→(Am T V (Ao e)==1)=false∧(Am T V (Ao e)==0 && !s)=false)):=by
  have hz:=Be hk.nodes
  cases h0:e.op==0 with
  | true=>exact .inl rfl
  | false=>
  cases h12:e.op==12 with
  | true=>exact .inr (.inl ⟨rfl,Wh hz.1 (eq_of_beq h12)⟩)
  | false=>
  cases h10:(e.op==10||e.op==11) with
  | true=>exact .inr (.inr (.inl ⟨rfl,Dj hz.1 (by simp at h10;omega)⟩))
  | false=>
  cases h9:e.op==9 with
  | true=>
    have hl:=Dj hz.1 (by simp at h9;omega)
    cases h1:Am T V (Ao e)==1 with
    | true=>exact .inr (.inr (.inr (.inl ⟨rfl,hl,rfl⟩)))
    | false=>
      cases h2:(Am T V (Ao e)==0 && !s) with
      | true=>exact .inr (.inr (.inr (.inr (.inl ⟨rfl,hl,rfl,rfl⟩))))
      | false=>exact .inr (.inr (.inr (.inr (.inr ⟨rfl,rfl,rfl,Iu h9 h1 h2,fun _=>⟨rfl,rfl⟩⟩))))
  | false=>exact .inr (.inr (.inr (.inr (.inr ⟨rfl,rfl,rfl,Kq h0 h12 h10 h9,fun h=>Bool.noConfusion h⟩))))
theorem Gi (e:Ex):KOK T V e→∀s,csOK (At e) (Dc T V e s):=by
 refine Ex.Abb (P:=fun e=>KOK T V e→∀s,csOK (At e) (Dc T V e s)) (fun e ih hk s=>?_) e
 have hsz:1≤At e:=by rw [D7];omega
 rcases Lo s hk with h | ⟨h,hl⟩ | ⟨h,hl⟩ | ⟨h,hl,h1⟩ | ⟨h,hl,h1,h2⟩ | ⟨_,_,_,h,_⟩
 ·
  cases h1:((e.val.num==1)==s) with
  | true=>rw [Gg h h1];exact ⟨by simp,by simp⟩
  | false=>rw [Ge h h1];exact ⟨by simp,by simp⟩
 ·
  rw [Gl hl h]
  exact (ih _ (A6 hl) (A3 hk (A6 hl)) _).mono (Nat.le_of_lt (uY hl))
 ·
  have m0:=A6 (show 0<e.args.length by omega)
  have m1:=Bk hl
  have i0:=ih _ m0 (A3 hk m0) s
  have i1:=ih _ m1 (A3 hk m1) s
  have hs:=Dy hl
  cases h1:((e.op==10)==s) with
  | true=>rw [Gf hl h h1];exact (Lt i0 i1).mono (by omega)
  | false=>rw [Gd hl h h1];exact pS (i0.mono (by omega)) (i1.mono (by omega))
 ·
  have m0:=A6 (show 0<e.args.length by omega)
  have m1:=Bk hl
  have i0:=ih _ m0 (A3 hk m0)
  have i1:=ih _ m1 (A3 hk m1)
  have hs:=Dy hl
  rw [Gc hl h h1]
  exact pS ((Lt (i0 _) (i1 _)).mono (by omega)) ((Lt (i0 _) (i1 _)).mono (by omega))
 · rw [Gj h h1 h2];exact ⟨by simp [Eg],by simp [Eg];omega⟩
 · rw [h];exact ⟨by simp [Eg],by simp [Eg];omega⟩
/-! ### The reference's -/
def nF (a b:List (List Lit)):Cs:=(a++b,decide (((a++b).length:Int)≤256))
def nL (a b:Cs)(times:Bool):Cs:=if !a.2 || !b.2 then ([],false) else if times then Ma a.1 b.1 else nF a.1 b.1
def Aal (a b:Cs):Cs:=if !a.2 || !b.2 then ([],false) else nF a.1 b.1
section
variable (T V)
def rnormN (e:Ex)(fs:List Hm):Hm:=fun sign=>
 if e.op==0 then (if (e.val.num==1)==sign then ([[]],true) else ([],true))
 else if e.op==12 then (Qm zX fs:Hm) (!sign)
 else if e.op==10 then nL ((Qm zX fs:Hm) sign) ((Yo zX fs:Hm) sign) sign
 else if e.op==11 then nL ((Qm zX fs:Hm) sign) ((Yo zX fs:Hm) sign) (!sign)
 else if e.op==9&&Am T V (Ao e)==1 then Aal (nL ((Qm zX fs:Hm) true) ((Yo zX fs:Hm) sign) true) (nL ((Qm zX fs:Hm) false) ((Yo zX fs:Hm) (!sign)) true)
 else if e.op==9&&(Am T V (Ao e)==0 && !sign) then Eg [⟨two 7 (Ao e) (Bi e),false⟩,⟨two 7 (Bi e) (Ao e),false⟩]
 else Eg [⟨e,!sign⟩]
def rnormS:Ex→Hm:=Rs (rnormN T V)
end
/-- where the program's list is not ok the reference's is not, either; else they are the same -/
def csR (r p:Cs):Prop:=r.2=p.2∧(p.2=true→r=p)
/-- how long the reference's are -/
structure rcOK (n:Nat) (c:Cs):Prop where
 len:c.1.length≤512
 lits:∀x∈c.1,x.length≤n
end

theorem Qa {e:Ex}(h:0<e.args.length):e.args[0]? = some (Ao e):=by
 unfold Ao
 cases ha:e.args with
 | nil=>rw [ha] at h;cases h
 | cons a r=>rfl
theorem Sm {e:Ex}(h:1<e.args.length):e.args[1]? = some (Bi e):=by
  unfold Bi
  cases ha:e.args with
  | nil=>rw [ha] at h;cases h
  | cons a r=>
    cases r with
    | nil=>rw [ha] at h;simp at h
    | cons b r=>rfl
section
variable {T:List Sc} {V:List Va} {e:Ex}
theorem sD (h:(Ec T V e != 0)=true):Jo T V e=([],Ec T V e):=by rw [Jo,if_pos h]
theorem qZ (h:(Ec T V e != 0)=false)(h2:(!(Dc T V e true).2)=true):Jo T V e=([],17):=by rw [Jo,Ck h,if_pos h2]
theorem qW (h:(Ec T V e != 0)=false)(h2:(!(Dc T V e true).2)=false):Jo T V e=((Dc T V e true).1,0):=by rw [Jo,Ck h,Ck h2]
end
section
variable {T:List Sc} {V:List Va} {e:Ex}
theorem Wi {a b:Cs}(h:(!a.2 || !b.2)=false):a.2=true∧b.2=true:=by
 cases h1:a.2 <;> cases h2:b.2 <;> simp_all
end
/-! ### Comparing clauses -/
def F6:List Lit→List Lit→Bool
 | [],[]=>true
 | a::r,b::q=>!(a.neg != b.neg || !Li a.cond b.cond)&&F6 r q
 | _,_=>false
def J6:List (List Lit)→List (List Lit)→Bool
 | [],[]=>true
 | a::r,b::q=>F6 a b&&J6 r q
 | _,_=>false
theorem F1:∀a b:List Lit,F6 a b=true↔a=b
  | [],[]=>by simp [F6]
  | [],b::q=>by simp [F6]
  | a::r,[]=>by simp [F6]
  | a::r,b::q=>by
    have ih:=F1 r q
    rw [F6,Bool.and_eq_true,ih]
    cases a with | mk c n=>
    cases b with | mk d m=>
    have hs:=Ub c d
    cases hn:(n != m) with
    | true => have : n ≠ m := by simpa using hn
              simp [this]
    | false=>
      have:n=m:=by simpa using hn
      subst this
      cases hc:Li c d with
      | true=>simp [hs.1 hc]
      | false=>
        have:c≠d:=fun h=>by rw [hs.2 h] at hc;cases hc
        simp [this]
theorem Ke:∀a b:List (List Lit),J6 a b=true↔a=b
 | [],[]=>by simp [J6]
 | [],b::q=>by simp [J6]
 | a::r,[]=>by simp [J6]
 | a::r,b::q=>by rw [J6,Bool.and_eq_true,Ke r q,F1];simp
theorem dB {a b:List Lit}(h:((a.length:Int) != (b.length:Int))=true):F6 a b=false:=by
 rw [Bool.eq_false_iff]
 intro h1
 rw [(F1 a b).1 h1] at h;simp at h
theorem gX {a b:List (List Lit)}(h:((a.length:Int) != (b.length:Int))=true):J6 a b=false:=by
 rw [Bool.eq_false_iff]
 intro h1
 rw [(Ke a b).1 h1] at h;simp at h
theorem dR {a b:List Lit}{k:Nat}{x y:Lit}(hx:a[k]? = some x)(hy:b[k]? = some y)(h:(x.neg != y.neg || !Li x.cond y.cond)=true):F6 a b=false:=by
 rw [Bool.eq_false_iff]
 intro h1
 have:=(F1 a b).1 h1
 subst this
 rw [hx] at hy;cases hy
 rw [kJ] at h;simp at h
theorem fR {a b:List (List Lit)}{k:Nat}{x y:List Lit}(hx:a[k]? = some x)(hy:b[k]? = some y)(h:(!F6 x y)=true):J6 a b=false:=by
 rw [Bool.eq_false_iff]
 intro h1
 have:=(Ke a b).1 h1
 subst this
 rw [hx] at hy;cases hy
 rw [(F1 x x).2 rfl] at h;cases h
theorem yM {x y:Lit}(h:(x.neg != y.neg || !Li x.cond y.cond)=false):x=y:=by
 have:F6 [x] [y]=true:=by rw [F6,h];rfl
 have:=(F1 _ _).1 this
 simpa using this
theorem vY {x y:List Lit}(h:(!F6 x y)=false):x=y:=(F1 x y).1 (by simpa using h)

section
variable {T:List Sc} {V:List Va}
/-- the error of a literal -/
def Zj (T:List Sc)(V:List Va)(c:Lit):Int:=if Ec T V c.cond != 0 then Ec T V c.cond else if Ep T V c.cond||(c.neg&&(c.cond.op==9&&Am T V (Ao c.cond)==0)) then 3 else 0
theorem xW {l:List Lit}(h:((Dd T V (Er true)).2 != 0)=true):Gs T V l=(Dd T V (Er true)).2:=by rw [Gs,if_pos h]
theorem uZ {l:List Lit}(h:((Dd T V (Er true)).2 != 0)=false)(h2:decide ((256:Int)<(l.length:Int))=true):Gs T V l=5:=by rw [Gs,Ck h,if_pos h2]
theorem Xy {l:List Lit}(h:((Dd T V (Er true)).2 != 0)=false)(h2:decide ((256:Int)<(l.length:Int))=false):Gs T V l=Aq (Zj T V) l:=by rw [Gs,Ck h,Ck h2];rfl
theorem lit_1 {c:Lit}(h:(Ec T V c.cond != 0)=true):Zj T V c=Ec T V c.cond:=by rw [Zj,if_pos h]
theorem lit_2 {c:Lit}(h:(Ec T V c.cond != 0)=false)(h2:(Ep T V c.cond||((c.neg&&c.cond.op==9)&&Am T V (Ao c.cond)==0))=true):Zj T V c=3:=by
 rw [Zj,Ck h,if_pos (by rw [←Bool.and_assoc];exact h2)]
theorem lit_3 {c:Lit}(h:(Ec T V c.cond != 0)=false)(h2:(Ep T V c.cond||((c.neg&&c.cond.op==9)&&Am T V (Ao c.cond)==0))=false):Zj T V c=0:=by
 rw [Zj,Ck h,Ck (by rw [←Bool.and_assoc];exact h2)]
theorem M0 {α:Type}{f:α→Int}{l:List α}{k:Nat}{a:α}(hk:Aq f (l.take k)=0)(ha:l[k]? = some a)(h:f a≠0):Aq f l=f a:=by
  induction l generalizing k with
  | nil=>simp at ha
  | cons x r ih=>
    cases k with
    | zero => have : x = a := by simpa using ha
              subst this
              rw [Aq,if_pos (by simpa using h)]
    | succ k=>
      rw [List.take_succ_cons,Aq] at hk
      by_cases hx:(f x != 0)=true
      · rw [if_pos hx] at hk;rw [hk] at hx;cases hx
      · rw [if_neg hx] at hk
        rw [Aq,if_neg hx]
        exact ih hk (by simpa using ha)
theorem Rk {α:Type}{f:α→Int}{l:List α}{k:Nat}{a:α}(hk:Aq f (l.take k)=0)(ha:l[k]? = some a)(h:f a=0):Aq f (l.take (k+1))=0:=by
  rw [Cu ha]
  generalize l.take k=m at hk
  induction m with
  | nil=>simp [Aq,h]
  | cons x r ih=>
    rw [Aq] at hk
    by_cases hx:(f x != 0)=true
    · rw [if_pos hx] at hk;rw [hk] at hx;cases hx
    · rw [if_neg hx] at hk
      rw [List.cons_append,Aq,if_neg hx]
      exact ih hk
theorem g9c {e:Ex}(hk:KOK T V e){x b:Bool}(hG:Ip [(x,false),(b&&e.op==9,true)]):1<e.args.length:=by
 have h:(b&&e.op==9)=true:=hG (b&&e.op==9,true) (by simp)
 have h9:e.op=9:=by simp at h;exact h.2
 exact Dj (Be hk.nodes).1 (by omega)
/-- well-typed literals within the limits -/
def Vk (T:List Sc)(V:List Va)(l:List Lit):Prop:=∀c∈l,KOK T V c.cond∧At c.cond≤64
theorem Aaq {l:List Lit}(h:Aq (Zj T V) l=0):Vk T V l:=fun c hc=>by
 have h1:=Hf h c hc
 unfold Zj at h1
 by_cases h2:(Ec T V c.cond != 0)=true
 · rw [if_pos h2] at h1;rw [h1] at h2;cases h2
 ·
  have hk:=(S7 (by simpa using h2)).1
  exact ⟨hk.kok,It hk⟩
theorem rF {l:List Lit}(h:(Gs T V l != 0)=false):Vk T V l∧l.length≤256:=by
 have h0:Gs T V l=0:=by simpa using h
 unfold Gs at h0
 by_cases h1:((Dd T V (Er true)).2 != 0)=true
 · rw [if_pos h1] at h0;rw [h0] at h1;cases h1
 ·
  rw [if_neg h1] at h0
  by_cases h2:decide ((256:Int)<(l.length:Int))=true
  · rw [if_pos h2] at h0;cases h0
  ·
   rw [if_neg h2] at h0
   exact ⟨Aaq h0,by simp at h2;omega⟩
theorem aD {l:Lit}(h:(l.cond.op==1)=true):Aa T V l=(⟨[D3 l.cond],[],0⟩,true):=by rw [Aa,if_pos h]
theorem nA {l:Lit}(h:(l.cond.op==1)=false)(h2:(!Cv l.cond||Cr T V l.cond)=true):Aa T V l=(tY,false):=by rw [Aa,Ck h,if_pos h2]
theorem bH {l:Lit}(h:(l.cond.op==1)=false)(h2:(!Cv l.cond||Cr T V l.cond)=false):Aa T V l=Cj (Ao l.cond) (Bi l.cond):=by rw [Aa,Ck h,Ck h2]
theorem V0 {l:Lit}(h2:(!Cv l.cond||Cr T V l.cond)=false):Cv l.cond=true:=by
 cases hq:Cv l.cond with
 | true=>rfl
 | false=>rw [hq] at h2;simp at h2
theorem zF {t:Tm}(h:(t.op==2)=true):C1 T V t=(0,1099511627776):=by rw [C1,if_pos h]
theorem yZ {t:Tm}(h:(t.op==2)=false)(h2:(Am T V (Hq t)==1)=true):C1 T V t=(0,1):=by rw [C1,Ck h,if_pos h2]
theorem uD {t:Tm}(h:(t.op==2)=false)(h2:(Am T V (Hq t)==1)=false):C1 T V t=(-1099511627776,1099511627776):=by rw [C1,Ck h,Ck h2]

/-! ### the terms of a well-typed sum -/
theorem bK (e:Ex):KOK T V e→∀{b:Int} {s:Su},(∀p∈s.ts,KOK T V (Hq p.1))→∀p∈(Bp e b s).1.ts,KOK T V (Hq p.1):=by
  refine Ex.Abb (P:=fun e=>KOK T V e→∀{b:Int} {s:Su},(∀p∈s.ts,KOK T V (Hq p.1))→∀p∈(Bp e b s).1.ts,KOK T V (Hq p.1)) (fun e ih hk b s hs=>?_) e
  have hz:=Be hk.nodes
  rcases Ox hz.1 with h | ⟨h,h1⟩ | ⟨h,hl⟩ | ⟨h,h1,h2,h3⟩
  · rw [Fy h];exact hs
  · rw [B8 h h1]
    intro p hp
    have key:∀{ts:List (Tm×Int)},(∀p∈ts,KOK T V (Hq p.1))→∀p∈Io (D3 e) b ts,KOK T V (Hq p.1):=by
      intro ts
      induction ts with
      | nil=>intro _ p hp;rw [Io,List.mem_singleton] at hp;rw [hp];rw [K1 hz.1 h1];exact hk
      | cons q r ihr=>
        intro hts p hp
        rw [Io] at hp
        split at hp
        · rcases List.mem_cons.1 hp with rfl | hp
          · exact hts q (List.mem_cons_self ..)
          · exact hts p (List.mem_cons_of_mem _ hp)
        · rcases List.mem_cons.1 hp with rfl | hp
          · exact hts p (List.mem_cons_self ..)
          · exact ihr (fun p hp=>hts p (List.mem_cons_of_mem _ hp)) p hp
    exact key hs p hp
  · have m0:=A6 (show 0<e.args.length by omega)
    have m1:=Bk hl
    have key:∀c,∀p∈(if !(Bp (Ao e) b s).2 then ((Bp (Ao e) b s).1,false) else Bp (Bi e) c (Bp (Ao e) b s).1).1.ts,KOK T V (Hq p.1):=fun c=>by
      have i0:=ih _ m0 (A3 hk m0) (b:=b) hs
      split
      · exact i0
      · exact ih _ m1 (A3 hk m1) i0
    rcases h with h | h
    · rw [J9 (c:=b) hl (.inl ⟨h,rfl⟩)];exact key b
    · rw [J9 (c:=0-b) hl (.inr ⟨h,rfl⟩)];exact key _
  · rw [Gx h h1 h2 h3];exact hs
theorem I9 {P:Tm→Prop}:∀{ts:List (Tm×Int)} {p m p' m':List Tm},(∀t∈ts,P t.1)→(∀t∈p,P t)→(∀t∈m,P t)→Dv ts p m=some (p',m')→(∀t∈p',P t)∧∀t∈m',P t
  | [],p,m,p',m',_,hp,hm,h=>by rw [Dv] at h;cases h;exact ⟨hp,hm⟩
  | t::r,p,m,p',m',ht,hp,hm,h=>by
    rw [Dv] at h
    have hr:∀t∈r,P t.1:=fun x hx=>ht x (List.mem_cons_of_mem _ hx)
    have h0:P t.1:=ht t (List.mem_cons_self ..)
    have snoc:∀{l:List Tm},(∀t∈l,P t)→∀x∈l ++ [t.1],P x:=fun hl x hx=>by
      rcases List.mem_append.1 hx with h | h
      · exact hl x h
      · rw [List.mem_singleton.1 h];exact h0
    split at h
    · exact I9 hr hp hm h
    · split at h
      · exact I9 hr (snoc hp) hm h
      · split at h
        · exact I9 hr hp (snoc hm) h
        · cases h
theorem cD {a b:Ex}(ha:KOK T V a)(hb:KOK T V b):∀p∈(Da a b).ts,KOK T V (Hq p.1):=by
 have h1:=bK a ha (b:=1) (s:=Kx) (fun p hp=>by cases hp)
 unfold Da
 split
 · exact h1
 · exact bK b hb h1
/-- what a difference is made of -/
structure GOK (T:List Sc) (V:List Va) (g:Gp):Prop where
 plus:∀t∈g.plus,KOK T V (Hq t)
 minus:∀t∈g.minus,KOK T V (Hq t)
 rest : -140737488355328≤g.rest∧g.rest≤140737488355328
 lp:g.plus.length≤128
 lm:g.minus.length≤128
theorem cN:GOK T V tY:=⟨fun t h=>(by cases h),fun t h=>(by cases h),by simp [tY],by simp [tY],by simp [tY]⟩
theorem Ps:∀{ts:List (Tm×Int)} {p m p' m':List Tm},Dv ts p m=some (p',m')→p'.length≤p.length+ts.length∧m'.length≤m.length+ts.length
  | [],p,m,p',m',h=>by rw [Dv] at h;cases h;simp
  | t::r,p,m,p',m',h=>by
    rw [Dv] at h
    split at h
    · have:=Ps h;simp only [List.length_cons];omega
    · split at h
      · have:=Ps h;simp only [List.length_cons,List.length_append,List.length_nil] at this ⊢;omega
      · split at h
        · have:=Ps h;simp only [List.length_cons,List.length_append,List.length_nil] at this ⊢;omega
        · cases h
theorem lH {a b:Ex}(ha:KOK T V a)(hb:KOK T V b)(hs:At a+At b≤128):GOK T V (Cj a b).1:=by
  unfold Cj
  split
  · exact cN
  rename_i h1
  split
  · exact cN
  rename_i h2
  have he:(Bp b (-1) (Bp a 1 Kx).1).1=Da a b:=by unfold Da;rw [if_neg h1]
  rw [he]
  have ho:=bN ha.nodes hb.nodes
  unfold Rx
  cases hp:Dv (Da a b).ts [] [] with
  | none=>exact cN
  | some p=>
    obtain ⟨p,m⟩:=p
    obtain ⟨t1,t2⟩:=I9 (P:=fun t=>KOK T V (Hq t)) (cD ha hb) (fun t h=>by cases h) (fun t h=>by cases h) hp
    obtain ⟨l1,l2⟩:=Ps hp
    have hr:=ho.rest
    have hl:=ho.len
    simp only [List.length_nil,Nat.zero_add] at l1 l2
    exact ⟨t1,t2,by simp only;omega,by simp only;omega,by simp only;omega⟩
theorem Re {l:Lit}(hk:KOK T V l.cond)(hs:At l.cond≤64):GOK T V (Aa T V l).1:=by
  cases h:l.cond.op==1 with
  | true=>
    rw [aD h]
    refine ⟨fun t ht=>?_,fun t ht=>(by cases ht),by simp,by simp,by simp⟩
    rw [List.mem_singleton.1 ht,K1 (Be hk.nodes).1 (by rw [h];rfl)]
    exact hk
  | false=>
    cases h2:(!Cv l.cond||Cr T V l.cond) with
    | true=>rw [nA h h2];exact cN
    | false=>
      rw [bH h h2]
      have hl:=K3 hk (V0 h2)
      have hs2:=Dy hl
      exact lH (A3 hk (A6 (by omega))) (A3 hk (Bk hl)) (by omega)
end

/-! ### the index of the terms -/
def xF:Nat→List Tm→List (List AV×AV)
 | _,[]=>[]
 | i,t::r=>(Ib t,.int .i64 ((i:Int)+1))::xF (i+1) r
def Uh (ts:List Tm):List (List AV×AV):=xF 0 ts
theorem uQ (t:Tm):∀(ts:List Tm) (i:Nat),∀p∈xF i ts,He TL [(0,1,true,3),(1,1,true,3),(2,1,true,3)] (Ib t) p.1=some (Ht t p.1)
  | [],_,p,hp=>by cases hp
  | u::r,i,p,hp=>by
    rw [xF] at hp
    rcases List.mem_cons.1 hp with rfl | hp
    · show He TL _ (Ib t) (Ib u)=some (Ht t (Ib u));rw [dT,Sp]
    · exact uQ t r (i+1) p hp
theorem cC (t:Tm)(ts:List Tm):∀p∈Uh ts,He TL [(0,1,true,3),(1,1,true,3),(2,1,true,3)] (Ib t) p.1=some (Ht t p.1):=uQ t ts 0
theorem nY (t:Tm):∀(ts:List Tm) (i:Nat),Hl (Ht t) (xF i ts)=if ts.contains t then some (.int .i64 ((i:Int)+(ts.idxOf t:Nat)+1)) else none
  | [],_=>rfl
  | u::r,i=>by
    rw [xF,Hl,Sp,nY t r (i+1),List.contains_cons,List.idxOf_cons]
    cases hq:eF t u with
    | true=>
      have:=K2.1 hq
      subst this
      simp
    | false=>
      have hne:t≠u:=fun h=>by rw [K2.2 h] at hq;cases hq
      have h1:(t==u)=false:=by simpa using hne
      have h2:(u==t)=false:=by simpa using Ne.symm hne
      rw [h1,h2]
      simp only [Bool.false_or,cond_false,Bool.false_eq_true,if_false]
      split
      · congr 2;push_cast;omega
      · rfl
theorem Sh (t:Tm)(ts:List Tm):Hl (Ht t) (Uh ts)=if ts.contains t then some (.int .i64 (((ts.idxOf t:Nat):Int)+1)) else none:=by
 unfold Uh
 rw [nY]
 simp
theorem yK (t:Tm)(ts:List Tm):(Hl (Ht t) (Uh ts)).isSome=ts.contains t:=by
 rw [Sh];cases ts.contains t <;> rfl
theorem qS {t:Tm}{ts:List Tm}(h:ts.contains t=false):Hl (Ht t) (Uh ts)=none:=by rw [Sh,h];rfl
theorem gK (t:Tm):∀(ts:List Tm) (i:Nat),xF i (ts ++ [t])=xF i ts ++ [(Ib t,.int .i64 ((i:Int)+ts.length+1))]
  | [],i=>by simp [xF]
  | u::r,i=>by
    rw [List.cons_append,xF,xF,gK t r (i+1)]
    simp only [List.cons_append,List.length_cons]
    rw [show ((i+1:Nat):Int)+(r.length:Int)+1=(i:Int)+((r.length+1:Nat):Int)+1 by omega]
theorem qB (t:Tm)(ts:List Tm):Uh (ts ++ [t])=Uh ts ++ [(Ib t,.int .i64 ((ts.length:Int)+1))]:=by
 unfold Uh;rw [gK];simp
/-- what the map holds at a term that is there -/
theorem look_y {t:Tm}{ts:List Tm}(h:ts.contains t=true):match Hl (Ht t) (Uh ts) with | some y=>y = .int .i64 (((ts.idxOf t:Nat):Int)+1) | none=>[AV.int .i64 0] = [.int .i64 (((ts.idxOf t:Nat):Int)+1)]:=by
 rw [Sh,if_pos h]
/-- at any -/
theorem zT (t:Tm)(ts:List Tm):match Hl (Ht t) (Uh ts) with | some y=>y = .int .i64 (if ts.contains t then ((ts.idxOf t:Nat):Int)+1 else 0) | none=>[AV.int .i64 0] = [.int .i64 (if ts.contains t then ((ts.idxOf t:Nat):Int)+1 else 0)]:=by
 rw [Sh]
 cases ts.contains t <;> rfl
theorem Yb (t:Tm)(l ts:List Tm):(A4 ts (t::l)).contains t=true:=by
 unfold A4
 simp only
 split
 · assumption
 · simp
theorem sH {t:Tm}{l ts:List Tm}(h:ts.contains t=false):A4 ts (t::l)=ts ++ [t]:=by unfold A4;simp only;rw [h];rfl
theorem sA {t:Tm}{l ts:List Tm}(h:ts.contains t=true):A4 ts (t::l)=ts:=by unfold A4;simp only;rw [if_pos h]
theorem addTm_nil {ts:List Tm}:A4 ts []=ts:=rfl
theorem T5 (ts l:List Tm):(A4 ts l).length≤ts.length+1:=by
 cases l with
 | nil=>simp [A4]
 | cons t r=>unfold A4;simp only;split <;> simp
theorem Lb {P:Tm→Prop}{ts l:List Tm}(h:∀t∈ts,P t)(hl:∀t∈l,P t):∀t∈A4 ts l,P t:=by
  cases l with
  | nil=>exact h
  | cons t r=>
    unfold A4
    simp only
    split
    · exact h
    · intro u hu
      rcases List.mem_append.1 hu with hu | hu
      · exact h u hu
      · rw [List.mem_singleton.1 hu];exact hl t (List.mem_cons_self ..)
/-! ### the system in the heap -/
abbrev fJ (m yb:Nat)(v:Value)(c0 c1:AV)(ts:List Tm)(R:List HO):List HO:=.row v (ts.map Ib).length 143 3 :: .box yb 141 [c0,c1,.row v 3 (ts.map Ib),.val (.map (some m))] :: .kmap m (Uh ts)::R
theorem unk_old {m yb:Nat}{v:Value}{c0 c1:AV}{ts l:List Tm}{t:Tm}{R:List HO}(h:ts.contains t=true):fJ m yb v c0 c1 ts R=fJ m yb v c0 c1 (A4 ts (t::l)) R:=by rw [sA h]
theorem unk_new {m yb:Nat}{v:Value}{c0 c1:AV}{ts l:List Tm}{t:Tm}{R:List HO}(h:ts.contains t=false) :
  (HO.row v (ts.map Ib ++ [Ib t]).length 143 3 :: .box yb 141 [c0,c1,.row v 3 (ts.map Ib ++ [Ib t]),.val (.map (some m))] :: .kmap m (Uh ts ++ [(Ib t,.int .i64 ((ts.length:Int)+1))])::R)=fJ m yb v c0 c1 (A4 ts (t::l)) R:=by
 rw [sH h]
 simp only [fJ]
 rw [qB,List.map_append];rfl
theorem num_old {t:Tm}{l ts:List Tm}:B6 (A4 ts (t::l)) (t::l)=(((A4 ts (t::l)).idxOf t:Nat):Int)+1:=rfl
/-! ### steps -/
section
variable {T:List Sc} {V:List Va}
theorem Ly {s:Sy}{c:Lit}(h:(!(Aa T V c).2)=true):Df T V s c=s:=by rw [Df,if_pos h]
theorem Lq {s:Sy}{c:Lit}(h:(!(Aa T V c).2)=false):Df T V s c=⟨A4 (A4 s.ts (Aa T V c).1.plus) (Aa T V c).1.minus,
 s.bs++D8 c (B6 (A4 s.ts (Aa T V c).1.plus) (Aa T V c).1.plus) (B6 (A4 (A4 s.ts (Aa T V c).1.plus) (Aa T V c).1.minus) (Aa T V c).1.minus) (Aa T V c).1.rest⟩:=by rw [Df,Ck h]
theorem jG {l:List Lit}{k:Nat}{c:Lit}(h:l[k]? = some c):Ci T V (l.take (k+1))=Df T V (Ci T V (l.take k)) c:=by
 unfold Ci
 rw [Cu h,List.foldl_append];rfl
theorem kX (c:Lit)(x z rest:Int):(D8 c x z rest).length≤2:=by
 unfold D8
 repeat' split
 all_goals simp
/-- how large a system is, and that its terms are well-typed -/
structure syOK (T:List Sc) (V:List Va) (n:Nat) (s:Sy):Prop where
 len:s.ts.length≤2*n
 bnds:s.bs.length≤2*n
 terms:∀t∈s.ts,KOK T V (Hq t)
theorem wK:∀{l:List Lit},Vk T V l→∀{n:Nat} {s:Sy},syOK T V n s→syOK T V (n+l.length) (l.foldl (Df T V) s)
  | [],_,n,s,hs=>hs
  | c::r,hl,n,s,hs=>by
    rw [List.foldl_cons,List.length_cons,show n+(r.length+1)=(n+1)+r.length by omega]
    refine wK (fun x hx=>hl x (List.mem_cons_of_mem _ hx)) ?_
    cases h : !(Aa T V c).2 with
    | true=>rw [Ly h];exact ⟨by have:=hs.len;omega,by have:=hs.bnds;omega,hs.terms⟩
    | false=>
      rw [Lq h]
      have hg:=Re (hl c (List.mem_cons_self ..)).1 (hl c (List.mem_cons_self ..)).2
      refine ⟨?_,?_,?_⟩
      · have h1:=T5 s.ts (Aa T V c).1.plus
        have h2:=T5 (A4 s.ts (Aa T V c).1.plus) (Aa T V c).1.minus
        have:=hs.len
        simp only;omega
      · simp only [List.length_append]
        have:=kX c (B6 (A4 s.ts (Aa T V c).1.plus) (Aa T V c).1.plus) (B6 (A4 (A4 s.ts (Aa T V c).1.plus) (Aa T V c).1.minus) (Aa T V c).1.minus) (Aa T V c).1.rest
        have:=hs.bnds
        omega
      · exact Lb (Lb hs.terms hg.plus) hg.minus
theorem Lp {l:List Lit}(h:Vk T V l):syOK T V l.length (Ci T V l):=by
 have:=wK h (n:=0) (s:=⟨[],[]⟩) ⟨by simp,by simp,fun t ht=>by cases ht⟩
 rw [Nat.zero_add] at this
 exact this
theorem vR {l:List Lit}(h:Vk T V l)(k:Nat):Vk T V (l.take k):=fun c hc=>h c (List.mem_of_mem_take hc)
theorem iV:∀(ts:List Tm) (i:Nat) (t:Tm),Hn T V i (ts ++ [t])=Hn T V i ts ++ [⟨(i:Int)+ts.length+1,0,(C1 T V t).2⟩,⟨0,(i:Int)+ts.length+1,0-(C1 T V t).1⟩]
  | [],i,t=>by simp [Hn]
  | u::r,i,t=>by
    rw [List.cons_append,Hn,Hn,iV r (i+1) t]
    simp only [List.cons_append,List.length_cons]
    rw [show ((i+1:Nat):Int)+(r.length:Int)+1=(i:Int)+((r.length+1:Nat):Int)+1 by omega]
theorem zA {ts:List Tm}{k:Nat}{t:Tm}(h:ts[k]? = some t):Hn T V 0 (ts.take (k+1))=Hn T V 0 (ts.take k) ++ [⟨(k:Int)+1,0,(C1 T V t).2⟩,⟨0,(k:Int)+1,0-(C1 T V t).1⟩]:=by
 have hl:=Bb h
 rw [Cu h,iV]
 simp [Nat.min_eq_left (Nat.le_of_lt hl)]
theorem dC:∀(ts:List Tm) (i:Nat),(Hn T V i ts).length=2*ts.length
 | [],i=>rfl
 | t::r,i=>by rw [Hn];simp only [List.length_cons,dC r (i+1)];omega
theorem Sj (t:Tm) : -1099511627776≤(C1 T V t).1∧(C1 T V t).1≤1099511627776∧-1099511627776≤(C1 T V t).2∧(C1 T V t).2≤1099511627776:=by
 unfold C1
 repeat' split
 all_goals simp
/-- the system behind its pointer -/
def tE (T:List Sc)(V:List Va)(l:List Lit):List AV:=[.int .i64 (C9 T V l).n,.sl 3 ((C9 T V l).bs.map Rw),.sl 3 ((Ci T V l).ts.map Ib),.junk]
theorem ne_cons {α:Type}{l:List α}(h:(((l.length:Nat):Int)==0)=false):∃t r,l=t::r:=by
 cases l with
 | nil=>cases h
 | cons t r=>exact ⟨t,r,rfl⟩
theorem nil_of {α:Type}{l:List α}(h:(((l.length:Nat):Int)==0)=true):l = []:=by
 cases l with
 | nil=>rfl
 | cons t r=>simp at h;omega
theorem sc_two {a b:List AV}(h1:Bh a=true)(h2:Bh b=true):∀c∈[a,b],Bh c=true:=fun c hc=>by
 rcases List.mem_cons.1 hc with rfl | hc
 · exact h1
 · rw [List.mem_singleton.1 hc];exact h2
theorem bd_1 {c:Lit}{x z r:Int}(h:(c.cond.op==1&&c.neg)=true):D8 c x z r = [⟨x,z,0-r⟩]:=by rw [D8,if_pos (by rw [h];rfl)]
theorem bd_2 {c:Lit}{x z r:Int}(h:(c.cond.op==8 && !c.neg)=true):D8 c x z r = [⟨x,z,0-r⟩]:=by rw [D8,if_pos (by rw [h];simp)]
theorem yD {c:Lit}{x z r:Int}(h:(c.cond.op==1&&c.neg)=false)(h2:(c.cond.op==8 && !c.neg)=false):D8 c x z r=if c.cond.op==1||c.cond.op==8 then [⟨z,x,r-1⟩] else if c.cond.op==7 && !c.neg then [⟨x,z,0-r-1⟩] else if c.cond.op==7 then [⟨z,x,r⟩] else [⟨x,z,0-r⟩,⟨z,x,r⟩]:=by
 rw [D8,Ck (by rw [h,h2];rfl)]
theorem bd_3 {c:Lit}{x z r:Int}(h:(c.cond.op==1&&c.neg)=false)(h2:(c.cond.op==8 && !c.neg)=false)(h3:(c.cond.op==1)=true):D8 c x z r = [⟨z,x,r-1⟩]:=by rw [yD h h2,if_pos (by rw [h3];rfl)]
theorem bd_4 {c:Lit}{x z r:Int}(h:(c.cond.op==1&&c.neg)=false)(h2:(c.cond.op==8 && !c.neg)=false)(h3:(c.cond.op==8)=true):D8 c x z r = [⟨z,x,r-1⟩]:=by rw [yD h h2,if_pos (by rw [h3];simp)]
theorem bd_5 {c:Lit}{x z r:Int}(h:(c.cond.op==1&&c.neg)=false)(h2:(c.cond.op==8 && !c.neg)=false)(h3:(c.cond.op==1)=false)(h4:(c.cond.op==8)=false)(h5:(c.cond.op==7 && !c.neg)=true):D8 c x z r = [⟨x,z,0-r-1⟩]:=by rw [yD h h2,Ck (by rw [h3,h4];rfl),if_pos h5]
theorem bd_6 {c:Lit}{x z r:Int}(h:(c.cond.op==1&&c.neg)=false)(h2:(c.cond.op==8 && !c.neg)=false)(h3:(c.cond.op==1)=false)(h4:(c.cond.op==8)=false)(h5:(c.cond.op==7 && !c.neg)=false)(h6:(c.cond.op==7)=true):D8 c x z r = [⟨z,x,r⟩]:=by rw [yD h h2,Ck (by rw [h3,h4];rfl),Ck h5,if_pos h6]
theorem bd_7 {c:Lit}{x z r:Int}(h:(c.cond.op==1&&c.neg)=false)(h2:(c.cond.op==8 && !c.neg)=false)(h3:(c.cond.op==1)=false)(h4:(c.cond.op==8)=false)(h5:(c.cond.op==7 && !c.neg)=false)(h6:(c.cond.op==7)=false):D8 c x z r = [⟨x,z,0-r⟩,⟨z,x,r⟩]:=by rw [yD h h2,Ck (by rw [h3,h4];rfl),Ck h5,Ck h6]
theorem cSy_eq {l:List Lit}{s:Sy}{eZ eB:List (List AV)}(h:s=Ci T V l)(hz:eZ=(Hn T V 0 s.ts).map Rw)(hb:eB=s.bs.map Rw):AV.ptr [.int .i64 ((s.ts.length:Int)+1),.sl 3 (eZ++eB),.sl 3 (s.ts.map Ib),.junk] = .ptr (tE T V l):=by
 rw [hz,hb,←List.map_append,h];rfl
/-- one step of the loop -/
theorem Lg {l:List Lit}{k:Nat}{c:Lit}{s:Sy}{bs:List Bd}(h:l[k]? = some c)(hs:s=Ci T V (l.take k))(hn:(!(Aa T V c).2)=false)
  (hb:D8 c (B6 (A4 s.ts (Aa T V c).1.plus) (Aa T V c).1.plus) (B6 (A4 (A4 s.ts (Aa T V c).1.plus) (Aa T V c).1.minus) (Aa T V c).1.minus) (Aa T V c).1.rest=bs) :
  (⟨A4 (A4 s.ts (Aa T V c).1.plus) (Aa T V c).1.minus,s.bs++bs⟩:Sy)=Ci T V (l.take (k+1)):=by
 rw [jG h,←hs,Lq hn,hb]
theorem vS {l:List Lit}{k:Nat}{c:Lit}{s:Sy}(h:l[k]? = some c)(hs:s=Ci T V (l.take k))(hn:(!(Aa T V c).2)=true):s=Ci T V (l.take (k+1)):=by
 rw [jG h,←hs,Ly hn]
theorem Me {s:List Bd}{e:List (List AV)}{b:Bd}(h:e=s.map Rw):e ++ [Rw b]=(s ++ [b]).map Rw:=by rw [h,List.map_append];rfl
theorem sK {s:List Bd}{e:List (List AV)}{b c:Bd}(h:e=s.map Rw):(e ++ [Rw b]) ++ [Rw c]=(s ++ [b,c]).map Rw:=by rw [h,List.map_append,List.append_assoc];rfl
theorem tP {ts l:List Tm}{n:Nat}(h:ts.length≤n):0≤B6 ts l∧B6 ts l≤(n:Int)+1:=by
  unfold B6
  cases l with
  | nil=>simp only;omega
  | cons t r=>
    simp only
    have:ts.idxOf t≤ts.length:=List.idxOf_le_length
    omega
theorem Zone_1 {l:List Lit}(h:(Gs T V l != 0)=true):Q3 T V l=⟨zn0,[],Gs T V l⟩:=by rw [Q3,if_pos h]
theorem Zone_2 {l:List Lit}(h:(Gs T V l != 0)=false)(h2:(!Ja (C9 T V l))=true):Q3 T V l=⟨zn0,[],17⟩:=by rw [Q3,Ck h,if_pos h2]
theorem Zone_3 {l:List Lit}(h:(Gs T V l != 0)=false)(h2:(!Ja (C9 T V l))=false):Q3 T V l=⟨C9 T V l,(Ci T V l).ts.map Hq,0⟩:=by rw [Q3,Ck h,Ck h2]
end
end Go.Proofs.YtkddpedfbicbeaaGreatDoor
