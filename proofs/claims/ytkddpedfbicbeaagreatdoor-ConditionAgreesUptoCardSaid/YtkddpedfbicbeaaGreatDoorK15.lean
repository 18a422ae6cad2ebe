/-
  Several texts in one: S14, S15, S16, S17, S18. No condition.
-/
import Derived.Test.YtkddpedfbicbeaaGreatDoorK14
set_option linter.unusedVariables false
set_option linter.unusedSimpArgs false
namespace Go.Proofs.YtkddpedfbicbeaaGreatDoor
open Go Go.Aw

def GT:List (Nat×Nat×Bool×Nat):=[(0,1,true,3),(1,1,true,3),(2,1,true,3)]
def Gr (ts:List (Tm×Int)):List (List AV×AV):=ts.map fun p=>(Hz p.1,.int .i64 p.2)
def dZ (t u:Tm):Bool:=t.op==u.op&&(t.v==u.v&&t.field==u.field)
theorem Kz {t u:Tm}:dZ t u=true↔t=u:=by
 unfold dZ
 cases t;cases u
 simp
def Hi (t:Tm)(k:List AV):Bool:=(G6 TL [(0,1,true,3),(1,1,true,3),(2,1,true,3)] (Hz t) k).getD false
theorem dE (t u:Tm):G6 TL [(0,1,true,3),(1,1,true,3),(2,1,true,3)] (Hz t) (Hz u)=some (dZ t u):=by
 show some ((t.op==u.op)&&((t.v==u.v)&&((t.field==u.field)&&true)))=_
 rw [Bool.and_true];rfl
theorem R4 (t u:Tm):Hi t (Hz u)=dZ t u:=by unfold Hi;rw [dE];rfl
theorem Ir (t:Tm)(ts:List (Tm×Int)):∀p∈Gr ts,G6 TL [(0,1,true,3),(1,1,true,3),(2,1,true,3)] (Hz t) p.1=some (Hi t p.1):=by
 intro p hp
 obtain ⟨x,_,rfl⟩:=List.mem_map.1 hp
 show G6 TL _ (Hz t) (Hz x.1)=some (Hi t (Hz x.1))
 rw [dE,R4]
theorem uA (ts:List (Tm×Int)):(Gr ts).length=ts.length:=List.length_map ..
def sA (t:Tm):List (Tm×Int)→Option Nat
 | []=>none
 | q::r=>if dZ t q.1 then some 0 else (sA t r).map (· + 1)
theorem lD (t:Tm):∀ts:List (Tm×Int),Lk (Hi t) (Gr ts)=sA t ts
  | []=>rfl
  | q::r=>by
    have ih:=lD t r
    unfold Gr at ih ⊢
    rw [List.map_cons,Lk,R4,ih,sA]
theorem cH (t:Tm):∀ts:List (Tm×Int),Hc (Hi t) (Gr ts)=(ts.find? fun q=>dZ t q.1).map fun q=>.int .i64 q.2
  | []=>rfl
  | q::r=>by
    have ih:=cH t r
    unfold Gr at ih ⊢
    rw [List.map_cons,Hc,R4,ih,List.find?_cons]
    cases dZ t q.1 <;> rfl
def F9 (t:Tm)(ts:List (Tm×Int)):Int:=((ts.find? fun q=>dZ t q.1).map fun q=>q.2).getD 0
def Qy (t:Tm)(ts:List (Tm×Int)):Bool:=(ts.find? fun q=>dZ t q.1).isSome
theorem Ow (t:Tm)(ts:List (Tm×Int)):match Hc (Hi t) (Gr ts) with | some y=>y = .int .i64 (F9 t ts) | none=>[AV.int .i64 0] = [.int .i64 (F9 t ts)]:=by
 rw [cH]
 unfold F9
 cases ts.find? fun q=>dZ t q.1 <;> rfl
theorem has_t (t:Tm)(ts:List (Tm×Int)):(Hc (Hi t) (Gr ts)).isSome=Qy t ts:=by
 rw [cH]
 unfold Qy
 cases ts.find? fun q=>dZ t q.1 <;> rfl
theorem fV {t:Tm}{ts:List (Tm×Int)}(h:Qy t ts=false):Hc (Hi t) (Gr ts)=none:=by
 rw [cH]
 unfold Qy at h
 cases hf:ts.find? fun q=>dZ t q.1 with
 | none=>rfl
 | some q=>rw [hf] at h;cases h
theorem dM {t:Tm}{b:Int}:∀{ts:List (Tm×Int)},Qy t ts=false→Ij t b ts=ts ++ [(t,b)]∧F9 t ts=0
  | [],_=>⟨rfl,rfl⟩
  | q::r,h=>by
    unfold Qy at h
    rw [List.find?_cons] at h
    cases hq:dZ t q.1 with
    | true=>rw [hq] at h;cases h
    | false=>
      rw [hq] at h
      obtain ⟨h1,h2⟩:=dM (t:=t) (b:=b) (ts:=r) h
      have hne:¬t=q.1:=fun he=>by rw [Kz.2 he] at hq;cases hq
      refine ⟨by rw [Ij,if_neg hne,h1];rfl,?_⟩
      unfold F9 at h2 ⊢
      rw [List.find?_cons,hq];exact h2
theorem cW {t:Tm}{b:Int}:∀{ts:List (Tm×Int)},Qy t ts=true→∃j,sA t ts=some j∧ts[j]? = some (t,F9 t ts)∧Ij t b ts=ts.modify j (fun p=>(p.1,F9 t ts+b))
  | [],h=>by cases h
  | q::r,h=>by
    unfold Qy at h
    rw [List.find?_cons] at h
    cases hq:dZ t q.1 with
    | true=>
      have he:=Kz.1 hq
      have hc:F9 t (q::r)=q.2:=by unfold F9;rw [List.find?_cons,hq];rfl
      rw [hc]
      exact ⟨0,by rw [sA,if_pos hq],by subst he;rfl,by rw [Ij,if_pos he];subst he;rfl⟩
    | false=>
      rw [hq] at h
      obtain ⟨j,h1,h2,h3⟩:=cW (t:=t) (b:=b) (ts:=r) h
      have hne:¬t=q.1:=fun he=>by rw [Kz.2 he] at hq;cases hq
      have hc:F9 t (q::r)=F9 t r:=by unfold F9;rw [List.find?_cons,hq]
      rw [hc]
      exact ⟨j+1,by rw [sA,if_neg (by rw [hq];decide),h1];rfl,by simpa using h2,by rw [Ij,if_neg hne,h3];rfl⟩
theorem Vw {ts:List (Tm×Int)}{j:Nat}{t:Tm}{c:Int}(h:ts[j]? = some (t,c)):(Gr ts)[j]? = some (Hz t,.int .i64 c):=by
 unfold Gr;rw [List.getElem?_map,h];rfl
theorem Xf {x:Int}:∀{ts:List (Tm×Int)} {j:Nat},Of (Gr ts) j (.int .i64 x)=Gr (ts.modify j fun p=>(p.1,x))
  | [],j=>by cases j <;> rfl
  | p::r,0=>rfl
  | p::r,j+1=>by
    have ih:=Xf (x:=x) (ts:=r) (j:=j)
    unfold Of Gr at ih ⊢
    simp only [List.map_cons,List.modify_succ_cons]
    rw [ih]
theorem eR {ts:List (Tm×Int)}{t:Tm}{c:Int}:(Gr ts ++ [(Hz t,.int .i64 c)])[(Gr ts).length]? = some (Hz t,.int .i64 c):=by
 rw [List.getElem?_append_right (Nat.le_refl _),Nat.sub_self];rfl
theorem dR {ts:List (Tm×Int)}{t:Tm}{c x:Int}:Of (Gr ts ++ [(Hz t,.int .i64 c)]) (Gr ts).length (.int .i64 x)=Gr (ts ++ [(t,x)]):=by
 rw [show Gr ts ++ [(Hz t,AV.int .i64 c)]=Gr (ts ++ [(t,c)]) by unfold Gr;rw [List.map_append];rfl,uA,Xf]
 congr 1
 induction ts with
 | nil=>rfl
 | cons a r ih=>simpa using ih

structure suOK (n:Nat) (s:Su):Prop where
 rest : -(n:Int)*1099511627776≤s.rest∧s.rest≤(n:Int)*1099511627776
 coef:∀p∈s.ts,-(n:Int)≤p.2∧p.2≤(n:Int)
 len:s.ts.length≤n
theorem To {e:Ex}(h:Bx e=0)(ho:e.op=0) : -1099511627776≤e.val.num∧e.val.num≤1099511627776:=by
 unfold Bx at h
 split at h
 · cases h
 split at h
 · cases h
 split at h
 · cases h
 split at h
 · cases h
 rw [if_pos (by rw [ho];rfl)] at h
 have hc:Fb e=0:=by
  by_cases hx:(Fb e != 0)=true
  · rw [if_pos hx] at h;exact h
  · simpa using hx
 have hv:An e.val=0:=by
  unfold Fb at hc
  by_cases hx:(An e.val != 0)=true
  · rw [if_pos hx] at hc;exact hc
  · simpa using hx
 have vs:e.val.kind=0∨e.val.kind=1→D5 e.val=0→-1099511627776≤e.val.num∧e.val.num≤1099511627776:=by
  intro hk hz
  unfold D5 at hz
  by_cases h1:(e.val.kind==0&&(decide (e.val.num < -1099511627776)||decide (1099511627776<e.val.num)))=true
  · rw [if_pos h1] at hz;cases hz
  ·
   rw [if_neg h1] at hz
   rcases hk with hk | hk
   · simp [hk] at h1;omega
   ·
    by_cases h2:(e.val.kind==1&&e.val.num != 0&&e.val.num != 1)=true
    · rw [if_pos h2] at hz;cases hz
    · simp [hk] at h2;omega
 unfold An at hv
 by_cases h1:(e.val.kind==0||e.val.kind==1)=true
 ·
  rw [if_pos h1] at hv
  split at hv
  · cases hv
  · exact vs (by simpa using h1) hv
 ·
  rw [if_neg h1] at hv
  by_cases h2:(e.val.kind==2)=true
  ·
   rw [if_pos h2] at hv
   by_cases h3:(e.val.num != 0)=true
   · rw [if_pos h3] at hv;cases hv
   ·
    have:e.val.num=0:=by simpa using h3
    omega
  · rw [if_neg h2] at hv;cases hv
theorem suOK.mono {n m:Nat}{s:Su}(h:suOK n s)(hm:n≤m):suOK m s:=
 ⟨by have:=h.rest;omega,fun p hp=>by have:=h.coef p hp;omega,Nat.le_trans h.len hm⟩
theorem oB {n:Nat}{t:Tm}{b:Int}(hb:b=1∨b = -1):∀{ts:List (Tm×Int)},(∀p∈ts,-(n:Int)≤p.2∧p.2≤(n:Int))→(∀p∈Ij t b ts,-((n+1:Nat):Int)≤p.2∧p.2≤((n+1:Nat):Int))∧(Ij t b ts).length≤ts.length+1
  | [],_=>by simp [Ij];omega
  | q::r,h=>by
    rw [Ij]
    split
    · refine ⟨fun p hp=>?_,by simp⟩
      rcases List.mem_cons.1 hp with rfl | hp
      · have:=h q (by simp);simp only;omega
      · have:=h p (by simp [hp]);omega
    · obtain ⟨h1,h2⟩:=oB hb (ts:=r) fun p hp=>h p (by simp [hp])
      refine ⟨fun p hp=>?_,by simp;omega⟩
      rcases List.mem_cons.1 hp with rfl | hp
      · have:=h p (by simp);omega
      · exact h1 p hp
theorem Yp (e:Ex):C0 e=0→∀{n:Nat} {b:Int} {s:Su},b=1∨b = -1→suOK n s→suOK (n+Av e) (Bb e b s).1:=by
  refine Ex.Aa0 (P:=fun e=>C0 e=0→∀{n:Nat} {b:Int} {s:Su},b=1∨b = -1→suOK n s→suOK (n+Av e) (Bb e b s).1) (fun e ih hn n b s hb hs=>?_) e
  have hz:=Ba hn
  have hsz:1≤Av e:=by rw [Ef];omega
  have hsum2:∀h:1<e.args.length,Av (Ao e)+Av (Bj e)+1≤Av e:=fun h=>by
    have hp:=Ef e
    cases ha:e.args with
    | nil=>rw [ha] at h;simp at h
    | cons a r=>
      cases r with
      | nil=>rw [ha] at h;simp at h
      | cons b r=>
        have e0:Ao e=a:=by unfold Ao;rw [ha];rfl
        have e1:Bj e=b:=by unfold Bj;rw [ha];rfl
        rw [e0,e1,hp,ha];simp;omega
  rw [Py]
  unfold bO
  split
  · rename_i h0
    have hc:=To hz.1 (by simpa using h0)
    refine (show suOK (n+1) _ from ⟨?_,fun p hp=>by have:=hs.coef p hp;omega,by have:=hs.len;simp only;omega⟩).mono (by omega)
    have:=hs.rest
    rcases hb with rfl | rfl <;> simp only <;> omega
  · split
    · obtain ⟨h1,h2⟩:=oB (t:=Dy e) hb hs.coef
      exact (show suOK (n+1) _ from ⟨by have:=hs.rest;simp only;omega,h1,by have:=hs.len;simp only;omega⟩).mono (by omega)
    · have two:(e.op=5∨e.op=6)→∀c,(c=1∨c = -1)→suOK (n+Av e) (if !((Ro (fun _ s=>(s,false)) (e.args.map Bb):Np) b s).2 then (((Ro (fun _ s=>(s,false)) (e.args.map Bb):Np) b s).1,false) else (aY (fun _ s=>(s,false)) (e.args.map Bb):Np) c ((Ro (fun _ s=>(s,false)) (e.args.map Bb):Np) b s).1).1:=by
        intro ho c hc
        have hl:=E1 hz.1 (by omega)
        have hs2:=hsum2 hl
        rw [K7 Bb _ (by omega),L1 Bb _ hl]
        have m0:=A4 (show 0<e.args.length by omega)
        have m1:=Bn hl
        have i0:=ih _ m0 (hz.2 _ m0) hb hs
        split
        · exact i0.mono (by omega)
        · exact (ih _ m1 (hz.2 _ m1) hc i0).mono (by omega)
      split
      · rename_i h5;exact two (.inl (by simpa using h5)) b hb
      · split
        · rename_i h6;exact two (.inr (by simpa using h6)) (0-b) (by omega)
        · exact hs.mono (by omega)

abbrev Oh (m bs:Nat)(v:Value)(s:Su)(R:List HO):List HO:=.row v (s.ts.map fun p=>Hz p.1).length 143 3 :: .box bs 207 [.val (.map (some m)),.row v 3 (s.ts.map fun p=>Hz p.1),.int .i64 s.rest] :: .kmap m (Gr s.ts)::R
theorem Bi {m bs:Nat}{R:List HO}{e:Ex}{b:Int}{s:Su}{X:Su×Bool}{r:AV}{H:List HO}(h:Bb e b s=X)(k:r = .bool X.2∧∃v,H=Oh m bs v X.1 R):r = .bool (Bb e b s).2∧∃v,H=Oh m bs v (Bb e b s).1 R:=by rw [h];exact k
theorem Ei {e:Ex}{b:Int}{s:Su}(h:(e.op==0)=true):Bb e b s=(⟨s.ts,s.rest+b*e.val.num⟩,true):=by rw [Py,bO,if_pos h]
theorem B0 {e:Ex}{b:Int}{s:Su}(h:(e.op==0)=false)(h1:(e.op==1||e.op==2)=true):Bb e b s=(⟨Ij (Dy e) b s.ts,s.rest⟩,true):=by rw [Py,bO,Cz h,if_pos h1]
theorem E2 {e:Ex}{b:Int}{s:Su}(h:(e.op==0)=false)(h1:(e.op==1||e.op==2)=false)(h2:(e.op==5)=false)(h3:(e.op==6)=false):Bb e b s=(s,false):=by rw [Py,bO,Cz h,Cz h1,Cz h2,Cz h3]
theorem H4 {e:Ex}{b c:Int}{s:Su}(hl:1<e.args.length)(h:(e.op=5∧c=b)∨(e.op=6∧c=0-b)):Bb e b s=if !(Bb (Ao e) b s).2 then ((Bb (Ao e) b s).1,false) else Bb (Bj e) c (Bb (Ao e) b s).1:=by
 rw [Py,bO]
 rcases h with ⟨h,rfl⟩ | ⟨h,rfl⟩
 · rw [Cz (by simp;omega),Cz (by simp;omega),if_pos (by simpa using h),K7 Bb _ (by omega),L1 Bb _ hl]
 · rw [Cz (by simp;omega),Cz (by simp;omega),Cz (by simp;omega),if_pos (by simpa using h),K7 Bb _ (by omega),L1 Bb _ hl]
theorem qY {e:Ex}{b c:Int}{s:Su}(hl:1<e.args.length)(h:(e.op=5∧c=b)∨(e.op=6∧c=0-b))(hG:Il [((Bb (Ao e) b s).2,true)]):Bb e b s=Bb (Bj e) c (Bb (Ao e) b s).1:=by
 have h2:(Bb (Ao e) b s).2=true:=hG _ (List.mem_singleton.2 rfl)
 rw [H4 hl h,h2];rfl
theorem Zu {m bs:Nat}{R:List HO}{v:Value}{e:Ex}{b c:Int}{s:Su}(hl:1<e.args.length)(h:(e.op=5∧c=b)∨(e.op=6∧c=0-b))(hG:¬Il [((Bb (Ao e) b s).2,true)]):∃u,Oh m bs v (Bb (Ao e) b s).1 R=Oh m bs u (Bb e b s).1 R:=by
 have h2:(Bb (Ao e) b s).2=false:=by
  rw [Bool.eq_false_iff]
  intro hx
  exact hG fun p hp=>by rw [List.mem_singleton.1 hp];exact hx
 refine ⟨v,?_⟩
 rw [H4 hl h,h2];rfl
theorem De {e:Ex}{b c:Int}{s:Su}(hl:1<e.args.length)(h:(e.op=5∧c=b)∨(e.op=6∧c=0-b)):((Bb (Ao e) b s).2&&(Bb (Bj e) c (Bb (Ao e) b s).1).2)=(Bb e b s).2:=by
 rw [H4 hl h]
 cases hq:(Bb (Ao e) b s).2 <;> simp
theorem gF {f:FuncId}{m bs:Nat}{R:List HO}{e:Ex}{b c:Int}{s:Su}{args:List AV}{H:List HO}(hl:1<e.args.length)(h:(e.op=5∧c=b)∨(e.op=6∧c=0-b))(hG:Il [((Bb (Ao e) b s).2,true)])(hc:Dr Tryz.prog f H args fun r H'=>r = .bool (Bb (Bj e) c (Bb (Ao e) b s).1).2∧∃v,H'=Oh m bs v (Bb (Bj e) c (Bb (Ao e) b s).1).1 R) :
  Dr Tryz.prog f H args fun r H'=>r = .bool (Bb (Bj e) c (Bb (Ao e) b s).1).2∧∃v,H'=Oh m bs v (Bb e b s).1 R:=by
 rw [qY hl h hG];exact hc
theorem Gd {m bs:Nat}{v:Value}{R:List HO}{t:Tm}{b:Int}{s:Su}(h:Qy t s.ts=false) :
  (HO.row v ((s.ts.map fun p=>Hz p.1) ++ [Hz t]).length 143 3 :: .box bs 207 [.val (.map (some m)),.row v 3 ((s.ts.map fun p=>Hz p.1) ++ [Hz t]),.int .i64 s.rest] :: .kmap m (Of (Gr s.ts ++ [(Hz t,.int .i64 0)]) (Gr s.ts).length (.int .i64 (F9 t s.ts+b)))::R)=Oh m bs v ⟨Ij t b s.ts,s.rest⟩ R:=by
 obtain ⟨h1,h2⟩:=dM (b:=b) h
 rw [dR,h1,h2,Int.zero_add]
 show _=HO.row v ((s.ts ++ [(t,b)]).map fun p=>Hz p.1).length 143 3::_
 rw [List.map_append];rfl
theorem nG {c:Int}:∀(l:List (Tm×Int)) (j:Nat),((l.modify j (fun p=>(p.1,c))).map fun p=>Hz p.1)=l.map fun p=>Hz p.1
 | [],j=>by cases j <;> rfl
 | a::r,0=>rfl
 | a::r,j+1=>by simp only [List.modify_succ_cons,List.map_cons];rw [nG r j]
theorem Gf {m bs j:Nat}{v:Value}{R:List HO}{t:Tm}{b:Int}{s:Su}(h3:Ij t b s.ts=s.ts.modify j (fun p=>(p.1,F9 t s.ts+b))) :
  (HO.row v (s.ts.map fun p=>Hz p.1).length 143 3 :: .box bs 207 [.val (.map (some m)),.row v 3 (s.ts.map fun p=>Hz p.1),.int .i64 s.rest] :: .kmap m (Of (Gr s.ts) j (.int .i64 (F9 t s.ts+b)))::R)=Oh m bs v ⟨Ij t b s.ts,s.rest⟩ R:=by
 have hm:=nG (c:=F9 t s.ts+b) s.ts j
 rw [Xf,h3]
 show _=HO.row v ((s.ts.modify j (fun p=>(p.1,F9 t s.ts+b))).map fun p=>Hz p.1).length 143 3::HO.box bs 207 [.val (.map (some m)),.row v 3 ((s.ts.modify j (fun p=>(p.1,F9 t s.ts+b))).map fun p=>Hz p.1),.int .i64 s.rest]::_
 rw [hm]
theorem bB {a b:Bool}(h:a=true):(a||b)=true:=by rw [h];rfl
theorem aT {a b:Bool}(h:b=true):(a||b)=true:=by rw [h];simp
theorem bT {a b:Bool}(h:a=false)(h':b=false):(a||b)=false:=by rw [h,h'];rfl
theorem Wj {n:Nat}{s:Su}(h:suOK n s)(t:Tm) : -(n:Int)≤F9 t s.ts∧F9 t s.ts≤(n:Int):=by
 unfold F9
 cases hf:s.ts.find? fun q=>dZ t q.1 with
 | none=>simp only [Option.map_none,Option.getD_none];omega
 | some q=>exact h.coef q (List.mem_of_find?_eq_some hf)
theorem nZ {P:Program}{o:Oper}{ρ:Operand→AV}{x:AV}{a b:HO}{K:List HO→Prop}(h1:∀k:Nat,Di P o ρ (fun H=>H[k]? = some a) x)(h2:∀k:Nat,Di P o ρ (fun H=>H[k]? = some b) x)(h:∀H,K H→a∈H∨b∈H):Di P o ρ K x:=by
 intro g w c H next Q hr hH hk hn
 rcases h H hk with h | h
 ·
  obtain ⟨k,hk⟩:=List.getElem?_of_mem h
  exact h1 k g w c H next Q hr hH hk hn
 ·
  obtain ⟨k,hk⟩:=List.getElem?_of_mem h
  exact h2 k g w c H next Q hr hH hk hn
theorem fL (t:Tm)(ts:List (Tm×Int)):∀p∈Gr ts ++ [(Hz t,AV.int .i64 0)],G6 TL [(0,1,true,3),(1,1,true,3),(2,1,true,3)] (Hz t) p.1=some (Hi t p.1):=by
 have:Gr ts ++ [(Hz t,AV.int .i64 0)]=Gr (ts ++ [(t,0)]):=by unfold Gr;rw [List.map_append];rfl
 rw [this];exact Ir t _
theorem oW {t:Tm}{ts:List (Tm×Int)}(h:Qy t ts=false):match Hc (Hi t) (Gr ts ++ [(Hz t,AV.int .i64 0)]) with | some y=>y = .int .i64 (F9 t ts) | none=>[AV.int .i64 0] = [.int .i64 (F9 t ts)]:=by
 have h1:Gr ts ++ [(Hz t,AV.int .i64 0)]=Gr (ts ++ [(t,0)]):=by unfold Gr;rw [List.map_append];rfl
 have h2:F9 t (ts ++ [(t,0)])=F9 t ts:=by
  rw [(dM (b:=0) h).2]
  unfold F9
  unfold Qy at h
  rw [List.find?_append]
  cases hf:ts.find? fun q=>dZ t q.1 with
  | some q=>rw [hf] at h;cases h
  | none=>rw [List.find?_cons,Kz.2 rfl];rfl
 rw [h1,←h2];exact Ow t _
theorem Dd {e:Ex}(h:1<e.args.length):Av (Ao e)+Av (Bj e)+1≤Av e:=by
  have hp:=Ef e
  cases ha:e.args with
  | nil=>rw [ha] at h;simp at h
  | cons a r=>
    cases r with
    | nil=>rw [ha] at h;simp at h
    | cons b r=>
      have e0:Ao e=a:=by unfold Ao;rw [ha];rfl
      have e1:Bj e=b:=by unfold Bj;rw [ha];rfl
      rw [e0,e1,hp,ha];simp;omega

def C7 (a b:Ex):Su:=if !(Bb a 1 Jc).2 then (Bb a 1 Jc).1 else (Bb b (-1) (Bb a 1 Jc).1).1
theorem xK {a b:Ex}(hG:Il [(!(Bb a 1 Jc).2,false)]):C7 a b=(Bb b (-1) (Bb a 1 Jc).1).1:=by
 have h2:(!(Bb a 1 Jc).2)=false:=hG _ (List.mem_singleton.2 rfl)
 unfold C7;rw [Cz h2]
theorem yP {f:FuncId}{m bs:Nat}{R:List HO}{a b:Ex}{args:List AV}{H:List HO}(hG:Il [(!(Bb a 1 Jc).2,false)])(hc:Dr Tryz.prog f H args fun r H'=>r = .bool (Bb b (-1) (Bb a 1 Jc).1).2∧∃v,H'=Oh m bs v (Bb b (-1) (Bb a 1 Jc).1).1 R) :
  Dr Tryz.prog f H args fun r H'=>r = .bool (Bb b (-1) (Bb a 1 Jc).1).2∧∃v,H'=Oh m bs v (C7 a b) R:=by
 rw [xK hG];exact hc
theorem btw_f {m bs:Nat}{R:List HO}{v:Value}{a b:Ex}(hG:¬Il [(!(Bb a 1 Jc).2,false)]):∃u,Oh m bs v (Bb a 1 Jc).1 R=Oh m bs u (C7 a b) R:=by
 have h2:(!(Bb a 1 Jc).2)=true:=by
  rw [←Bool.not_eq_false]
  intro hx
  exact hG fun p hp=>by rw [List.mem_singleton.1 hp];exact hx
 refine ⟨v,?_⟩
 unfold C7;rw [if_pos h2]
theorem btw_no {a b:Ex}(h:(!(Bb a 1 Jc).2 || !(Bb b (-1) (Bb a 1 Jc).1).2)=true):B2 a b=(tL,false):=by
 unfold B2
 by_cases h1:(!(Bb a 1 Jc).2)=true
 · rw [if_pos h1]
 · rw [if_neg h1,if_pos (by simpa [Bool.eq_false_iff.2 h1] using h)]
theorem oD {a b:Ex}(h:(!(Bb a 1 Jc).2 || !(Bb b (-1) (Bb a 1 Jc).1).2)=false):B2 a b=N7 (C7 a b):=by
 have h1:(!(Bb a 1 Jc).2)=false:=by cases hx:(!(Bb a 1 Jc).2) <;> simp_all
 have h2:(!(Bb b (-1) (Bb a 1 Jc).1).2)=false:=by rw [h1] at h;simpa using h
 unfold B2 C7
 rw [Cz h1,Cz h2,Cz h1]
theorem gR {a b:Ex}(h:(!(Bb a 1 Jc).2 || !(Bb b (-1) (Bb a 1 Jc).1).2)=false)(hp:Dl (C7 a b).ts [] []=none):B2 a b=(tL,false):=by
 rw [oD h,N7,hp]
theorem yF {a b:Ex}{p m:List Tm}(h:(!(Bb a 1 Jc).2 || !(Bb b (-1) (Bb a 1 Jc).1).2)=false)(hp:Dl (C7 a b).ts [] []=some (p,m)):B2 a b=(⟨p,m,(C7 a b).rest⟩,decide ((p.length:Int)≤1)&&decide ((m.length:Int)≤1)):=by
 rw [oD h,N7,hp]
theorem mK:suOK 0 Jc:=⟨by simp [Jc],by simp [Jc],by simp [Jc]⟩
theorem Z2 {a b:Ex}(ha:C0 a=0)(hb:C0 b=0):suOK (Av a+Av b) (C7 a b):=by
 have h1:suOK (0+Av a) (Bb a 1 Jc).1:=Yp a ha (.inl rfl) mK
 unfold C7
 split
 · exact h1.mono (by omega)
 · exact (Yp b hb (.inr rfl) h1).mono (by omega)
theorem Xw {t:Tm}{b:Int}:∀{ts:List (Tm×Int)},(ts.map (·.1)).Nodup→((Ij t b ts).map (·.1)).Nodup∧∀u,u∈(Ij t b ts).map (·.1)→u=t∨u∈ts.map (·.1)
  | [],_=>by simp [Ij]
  | q::r,h=>by
    rw [Ij]
    rw [List.map_cons,List.nodup_cons] at h
    split
    · rename_i he
      refine ⟨by simpa using h,fun u hu=>.inr (by simpa using hu)⟩
    · rename_i hne
      obtain ⟨h1,h2⟩:=Xw (t:=t) (b:=b) h.2
      refine ⟨?_,fun u hu=>?_⟩
      · rw [List.map_cons,List.nodup_cons]
        refine ⟨fun hu=>?_,h1⟩
        rcases h2 _ hu with e | hm
        · exact hne e.symm
        · exact h.1 hm
      · rw [List.map_cons,List.mem_cons] at hu
        rcases hu with e | hu
        · right;rw [e];simp
        · rcases h2 _ hu with e | hm
          · exact .inl e
          · right;rw [List.map_cons];exact List.mem_cons_of_mem _ hm
theorem Lb (e:Ex):C0 e=0→∀{b:Int} {s:Su},(s.ts.map (·.1)).Nodup→((Bb e b s).1.ts.map (·.1)).Nodup:=by
 refine Ex.Aa0 (P:=fun e=>C0 e=0→∀{b:Int} {s:Su},(s.ts.map (·.1)).Nodup→((Bb e b s).1.ts.map (·.1)).Nodup) (fun e ih hn b s hs=>?_) e
 have hz:=Ba hn
 rw [Py]
 unfold bO
 split
 · exact hs
 ·
  split
  · exact (Xw hs).1
  ·
   have two:(e.op=5∨e.op=6)→∀c,((if !((Ro (fun _ s=>(s,false)) (e.args.map Bb):Np) b s).2 then (((Ro (fun _ s=>(s,false)) (e.args.map Bb):Np) b s).1,false) else (aY (fun _ s=>(s,false)) (e.args.map Bb):Np) c ((Ro (fun _ s=>(s,false)) (e.args.map Bb):Np) b s).1).1.ts.map (·.1)).Nodup:=by
    intro ho c
    have hl:=E1 hz.1 (by omega)
    rw [K7 Bb _ (by omega),L1 Bb _ hl]
    have m0:=A4 (show 0<e.args.length by omega)
    have m1:=Bn hl
    have i0:=ih _ m0 (hz.2 _ m0) (b:=b) hs
    split
    · exact i0
    · exact ih _ m1 (hz.2 _ m1) i0
   split
   · rename_i h5;exact two (.inl (by simpa using h5)) b
   ·
    split
    · rename_i h6;exact two (.inr (by simpa using h6)) (0-b)
    · exact hs
theorem dW {a b:Ex}(ha:C0 a=0)(hb:C0 b=0):((C7 a b).ts.map (·.1)).Nodup:=by
 have h1:=Lb a ha (b:=1) (s:=Jc) (by simp [Jc])
 unfold C7
 split
 · exact h1
 · exact Lb b hb h1
theorem zS {ts:List (Tm×Int)}{k:Nat}{q:Tm×Int}(hn:(ts.map (·.1)).Nodup)(h:ts[k]? = some q):F9 q.1 ts=q.2:=by
  induction ts generalizing k with
  | nil=>simp at h
  | cons p r ih=>
    rw [List.map_cons,List.nodup_cons] at hn
    unfold F9
    rw [List.find?_cons]
    cases k with
    | zero=>
      have:p=q:=by simpa using h
      subst this
      rw [Kz.2 rfl];rfl
    | succ k=>
      have hq:r[k]? = some q:=by simpa using h
      have hm:=List.mem_of_getElem? hq
      have hne:dZ q.1 p.1=false:=by
        rw [Bool.eq_false_iff]
        intro he
        have:=Kz.1 he
        exact hn.1 (by rw [←this];exact List.mem_map_of_mem hm)
      rw [hne]
      exact ih hn.2 hq
theorem Aai {ts:List (Tm×Int)}{k:Nat}{q:Tm×Int}(hn:(ts.map (·.1)).Nodup)(h:ts[k]? = some q):match Hc (Hi q.1) (Gr ts) with | some y=>y = .int .i64 q.2 | none=>[AV.int .i64 0] = [.int .i64 q.2]:=by
 have h1:=Ow q.1 ts
 rw [zS hn h] at h1
 exact h1
theorem oT {t:Tm×Int}{r:List (Tm×Int)}{p m:List Tm}(h:(t.2==0)=true):Dl (t::r) p m=Dl r p m:=by rw [Dl,if_pos h]
theorem nC {t:Tm×Int}{r:List (Tm×Int)}{p m:List Tm}(h:(t.2==0)=false)(h1:(t.2==1)=true):Dl (t::r) p m=Dl r (p ++ [t.1]) m:=by rw [Dl,Cz h,if_pos h1]
theorem oN {t:Tm×Int}{r:List (Tm×Int)}{p m:List Tm}(h:(t.2==0)=false)(h1:(t.2==1)=false)(h2:(t.2 == -1)=true):Dl (t::r) p m=Dl r p (m ++ [t.1]):=by rw [Dl,Cz h,Cz h1,if_pos h2]
theorem mS {t:Tm×Int}{r:List (Tm×Int)}{p m:List Tm}(h:(t.2==0)=false)(h1:(t.2==1)=false)(h2:(t.2 == -1)=false):Dl (t::r) p m=none:=by rw [Dl,Cz h,Cz h1,Cz h2]

theorem K6 {T:List Sc}{V:List Va}{e:Ex}(hk:KOK T V e)(h:Cr e=true):1<e.args.length:=by
 unfold Cr at h
 have h':e.op=7∨e.op=8∨e.op=9:=by simp at h;omega
 exact E1 (Ba hk.nodes).1 (by omega)
theorem zE {T:List Sc}{V:List Va}{e:Ex}(h:(e.op==1)=true):Bt T V e=true:=by rw [Bt,if_pos h]
theorem gJ {T:List Sc}{V:List Va}{e:Ex}(h:(e.op==1)=false)(h2:(!Cr e)=true):Bt T V e=false:=by rw [Bt,Cz h,if_pos h2]
theorem uD {T:List Sc}{V:List Va}{e:Ex}(h:(e.op==1)=false)(h2:(!Cr e)=false)(h3:Cl T V e=true):Bt T V e=(Sq (Ao e)&&Sq (Bj e)):=by rw [Bt,Cz h,Cz h2,if_pos h3]
theorem W2 {T:List Sc}{V:List Va}{e:Ex}(h:(e.op==1)=false)(h2:(!Cr e)=false)(h3:Cl T V e=false):Bt T V e=(B2 (Ao e) (Bj e)).2:=by rw [Bt,Cz h,Cz h2,Cz h3]
theorem Mh {T:List Sc}{V:List Va}{e:Ex}(h:(Dx T V e != 0)=false):KOK T V e:=by
 have h0:Dx T V e=0:=by simpa using h
 unfold Dx at h0
 by_cases h1:((C9 T V e).2 != 0)=true
 · rw [if_pos h1] at h0;rw [h0] at h1;cases h1
 · exact (Zk (by simpa using h1)).1
theorem yT {T:List Sc}{V:List Va}{e:Ex}(h:(Dx T V e != 0)=true):Nw T V e=(false,Dx T V e):=by rw [Nw,if_pos h]
theorem iA {T:List Sc}{V:List Va}{e:Ex}(h:(Dx T V e != 0)=false):Nw T V e=(Hk T V e,0):=by rw [Nw,Cz h]

theorem K8 {e:Ex}(h:Bx e=0)(ho:(e.op==1||e.op==2)=true):Hf (Dy e)=e:=by
 have ho':e.op=1∨e.op=2:=by simpa using ho
 have hn:=Y4 h (by omega)
 unfold Bx at h
 split at h
 · cases h
 split at h
 · cases h
 split at h
 · cases h
 split at h
 · cases h
 rw [if_neg (by simp;omega)] at h
 unfold Bl at h
 have hu:(Dt e.op).1=true:=by rcases ho' with ho | ho <;> rw [ho] <;> rfl
 split at h
 · cases h
 rename_i hf
 cases e with | mk op args var field kind val=>
 simp only at ho' hn hf hu ⊢
 rw [hu] at hf
 simp only [Bool.not_true,Bool.false_and,Bool.false_or,Bool.or_eq_true,not_or,Bool.and_eq_true,not_and,Bool.not_eq_true',bne_iff_ne,ne_eq,Decidable.not_not,Bool.or_eq_false_iff,beq_eq_false_iff_ne] at hf
 have hk:kind=0:=hf.1.2 (by omega)
 have hv:val=v0:=by
  have:=hf.2 ⟨by omega,by omega⟩
  rw [←fE];simpa using this
 have hfd:op=2→field=0:=fun h2=>hf.1.1 (by rw [h2];rfl)
 unfold Hf Dy
 subst hn;subst hk;subst hv
 rfl
abbrev lE:=Int→Su×Bool→Su×Bool
def colN (e:Ex)(fs:List lE):lE:=fun b s=>
 if e.op==0 then (⟨s.1.ts,s.1.rest+b*e.val.num⟩,s.2)
 else if e.op==1||e.op==2 then (⟨Ij (Dy e) b s.1.ts,s.1.rest⟩,s.2)
 else if e.op==5 then (aY (fun _ s=>(s.1,false)) fs:lE) b ((Ro (fun _ s=>(s.1,false)) fs:lE) b s)
 else if e.op==6 then (aY (fun _ s=>(s.1,false)) fs:lE) (0-b) ((Ro (fun _ s=>(s.1,false)) fs:lE) b s)
 else (s.1,false)
def colS:Ex→lE:=Re colN
theorem Lt {e:Ex}(h:Bx e=0):(e.op==0)=true∨((e.op==0)=false∧(e.op==1||e.op==2)=true)∨((e.op=5∨e.op=6)∧1<e.args.length)∨((e.op==0)=false∧(e.op==1||e.op==2)=false∧(e.op==5)=false∧(e.op==6)=false):=by
 by_cases h0:e.op=0
 · left;simpa using h0
 by_cases h1:e.op=1∨e.op=2
 · right;left;exact ⟨by simpa using h0,by simpa using h1⟩
 by_cases h5:e.op=5∨e.op=6
 · right;right;left;exact ⟨h5,E1 h (by omega)⟩
 · right;right;right;refine ⟨by simpa using h0,by simp;omega,by simp;omega,by simp;omega⟩
def lX (a b:Ex):Su×Bool:=colS b (-1) (colS a 1 (Jc,true))
def differS (a b:Ex):Gp×Bool:=match Dl (lX a b).1.ts [] [] with
 | some (p,m)=>(⟨p,m,(lX a b).1.rest⟩,(lX a b).2&&(decide ((p.length:Int)≤1)&&decide ((m.length:Int)≤1)))
 | none=>(tL,false)
abbrev rTm (ts:List (Tm×Int)):List (List AV):=ts.map fun p=>cE (Hf p.1)
abbrev rCo (ts:List (Tm×Int)):List (List AV):=ts.map fun p=>[AV.int .i64 p.2]
abbrev linH (v u:Value)(ts:List (Tm×Int))(R:List HO):List HO:=.row v (rTm ts).length 30 8 :: .buf u (rCo ts) 3 1::R
abbrev linR (v u:Value)(s:Su)(ok:Bool):AV:=.agg [.row v 8 (rTm s.ts),.val u,.int .i64 s.rest,.bool ok]
def cGpR (g:Gp):List AV:=[.sl 8 (g.plus.map fun t=>cE (Hf t)),.sl 8 (g.minus.map fun t=>cE (Hf t)),.int .i64 g.rest]

structure KC (T:List Sc) (V:List Va) (e:Ex):Prop where
 kok:KOK T V e
 types:Eb T=0
 vars:Ie T V=0
 check:B5 e=0
theorem lH {e:Ex}(h:B5 e=0):Av e≤64∧Et e≤12∧C0 e=0:=by
 unfold B5 at h
 split at h
 · cases h
 rename_i h1
 split at h
 · cases h
 rename_i h2
 simp only [decide_eq_true_eq] at h1 h2
 exact ⟨by omega,by omega,h⟩
theorem Ip {T:List Sc}{V:List Va}{e:Ex}(h:KC T V e):Av e≤64:=(lH h.check).1
theorem pA {T:List Sc}{V:List Va}{e:Ex}(h:KC T V e):C9 T V e=Ce T V e:=by
 unfold C9
 rw [if_neg (by rw [h.types];decide),if_neg (by rw [h.vars];decide),if_neg (by rw [h.check];decide)]
theorem gD {T:List Sc}{V:List Va}{e:Ex}(h:KC T V e):(C9 T V e).1=Am T V e:=by rw [pA h,Hv h.kok]
theorem fM {T:List Sc}{V:List Va}{e:Ex}(h:(C9 T V e).2=0):KC T V e:=by
 have hk:=(Zk h).1
 unfold C9 at h
 by_cases h1:(Eb T != 0)=true
 · rw [if_pos h1] at h;simp only at h;rw [h] at h1;cases h1
 rw [if_neg h1] at h
 by_cases h2:(Ie T V != 0)=true
 · rw [if_pos h2] at h;simp only at h;rw [h] at h2;cases h2
 rw [if_neg h2] at h
 by_cases h3:(B5 e != 0)=true
 · rw [if_pos h3] at h;simp only at h;rw [h] at h3;cases h3
 exact ⟨hk,by simpa using h1,by simpa using h2,by simpa using h3⟩
theorem Sr {T:List Sc}{V:List Va}{e:Ex}(h:(Dx T V e != 0)=false):KC T V e∧Am T V e=1:=by
 have h0:Dx T V e=0:=by simpa using h
 unfold Dx at h0
 by_cases h1:((C9 T V e).2 != 0)=true
 · rw [if_pos h1] at h0;rw [h0] at h1;cases h1
 ·
  rw [if_neg h1] at h0
  have hk:=fM (by simpa using h1)
  refine ⟨hk,?_⟩
  by_cases h2:((C9 T V e).1 != 1)=true
  · rw [if_pos h2] at h0;cases h0
  · rw [←gD hk];simpa using h2
theorem kc_cond {T:List Sc}{V:List Va}{e:Ex}(h:KC T V e)(hk:Am T V e=1):Dx T V e=0:=by
 have h2:(C9 T V e).2=0:=by rw [pA h];exact h.kok.kind
 unfold Dx
 rw [if_neg (by rw [h2];decide),if_neg (by rw [gD h,hk];decide)]
theorem Rl {T:List Sc}{V:List Va}{e a:Ex}(h:KOK T V e)(ha:a∈e.args):N6 e.op (Am T V a) (Am T V (Ao e))=true:=by
 have hp:e.args≠[]:=by intro hn;rw [hn] at ha;cases ha
 have h1:=(S1 h hp).2.1
 unfold Dp at h1
 have h2:=G3 h1 _ (List.mem_map_of_mem (f:=fun a=>(Ce T V a).1) ha)
 have h0:0<e.args.length:=List.length_pos_iff.2 hp
 have h3:((e.args.map fun a=>(Ce T V a).1).headD 0)=(Ce T V (Ao e)).1:=by
  cases hargs:e.args with
  | nil=>exact absurd hargs hp
  | cons x r=>unfold Ao;rw [hargs];rfl
 rw [h3] at h2
 rw [Hv (Ax h ha),Hv (Ax h (A4 h0))] at h2
 split at h2
 · assumption
 · cases h2
theorem Ht {T:List Sc}{V:List Va}{e a:Ex}(h:KOK T V e)(ho:e.op=9)(ha:a∈e.args):Am T V a=Am T V (Ao e):=by
 have h1:=Rl h ha
 unfold N6 at h1
 rw [if_neg (by simp;omega),if_neg (by simp;omega),if_pos (by simp;omega)] at h1
 simpa using h1
def rcmpS (e:Ex):Bool:=(e.op != 7&&e.op != 8)&&e.op != 9
theorem jU {T:List Sc}{V:List Va}{e:Ex}(h:(e.op==9)=true):Cg T V e=(Am T V (Ao e)==1):=by rw [Cg,if_pos h]
theorem jY {T:List Sc}{V:List Va}{e:Ex}(h:(e.op==9)=false):Cg T V e=(((e.op==10||e.op==11)||e.op==12)||e.op==0):=by rw [Cg,Cz h]
end Go.Proofs.YtkddpedfbicbeaaGreatDoor
