/-
  Several texts in one: S14, S15, S16. No condition.
-/
import Derived.Test.YtjedflcpjlgokaaGreatDoorK14
set_option linter.unusedVariables false
set_option linter.unusedSimpArgs false
namespace Go.Proofs.YtjedflcpjlgokaaGreatDoor
open Go Go.Aw

def GT:List (Nat×Nat×Bool×Nat):=[(0,1,true,3),(1,1,true,3),(2,1,true,3)]
def Gl (ts:List (Tm×Int)):List (List AV×AV):=ts.map fun p=>(Hw p.1,.int .i64 p.2)
def Pq (t u:Tm):Bool:=t.op==u.op&&(t.v==u.v&&t.field==u.field)
theorem Ft {t u:Tm}:Pq t u=true↔t=u:=by
 unfold Pq
 cases t;cases u
 simp
def Hf (t:Tm)(k:List AV):Bool:=(G1 TL [(0,1,true,3),(1,1,true,3),(2,1,true,3)] (Hw t) k).getD false
theorem aW (t u:Tm):G1 TL [(0,1,true,3),(1,1,true,3),(2,1,true,3)] (Hw t) (Hw u)=some (Pq t u):=by
 show some ((t.op==u.op)&&((t.v==u.v)&&((t.field==u.field)&&true)))=_
 rw [Bool.and_true];rfl
theorem R9 (t u:Tm):Hf t (Hw u)=Pq t u:=by unfold Hf;rw [aW];rfl
theorem Im (t:Tm)(ts:List (Tm×Int)):∀p∈Gl ts,G1 TL [(0,1,true,3),(1,1,true,3),(2,1,true,3)] (Hw t) p.1=some (Hf t p.1):=by
 intro p hp
 obtain ⟨x,_,rfl⟩:=List.mem_map.1 hp
 show G1 TL _ (Hw t) (Hw x.1)=some (Hf t (Hw x.1))
 rw [aW,R9]
theorem vA (ts:List (Tm×Int)):(Gl ts).length=ts.length:=List.length_map ..
def qI (t:Tm):List (Tm×Int)→Option Nat
 | []=>none
 | q::r=>if Pq t q.1 then some 0 else (qI t r).map (· + 1)
theorem iY (t:Tm):∀ts:List (Tm×Int),Lm (Hf t) (Gl ts)=qI t ts
  | []=>rfl
  | q::r=>by
    have ih:=iY t r
    unfold Gl at ih ⊢
    rw [List.map_cons,Lm,R9,ih,qI]
theorem bP (t:Tm):∀ts:List (Tm×Int),G4 (Hf t) (Gl ts)=(ts.find? fun q=>Pq t q.1).map fun q=>.int .i64 q.2
  | []=>rfl
  | q::r=>by
    have ih:=bP t r
    unfold Gl at ih ⊢
    rw [List.map_cons,G4,R9,ih,List.find?_cons]
    cases Pq t q.1 <;> rfl
def F9 (t:Tm)(ts:List (Tm×Int)):Int:=((ts.find? fun q=>Pq t q.1).map fun q=>q.2).getD 0
def Qu (t:Tm)(ts:List (Tm×Int)):Bool:=(ts.find? fun q=>Pq t q.1).isSome
theorem Oe (t:Tm)(ts:List (Tm×Int)):match G4 (Hf t) (Gl ts) with | some y=>y = .int .i64 (F9 t ts) | none=>[AV.int .i64 0] = [.int .i64 (F9 t ts)]:=by
 rw [bP]
 unfold F9
 cases ts.find? fun q=>Pq t q.1 <;> rfl
theorem has_t (t:Tm)(ts:List (Tm×Int)):(G4 (Hf t) (Gl ts)).isSome=Qu t ts:=by
 rw [bP]
 unfold Qu
 cases ts.find? fun q=>Pq t q.1 <;> rfl
theorem fR {t:Tm}{ts:List (Tm×Int)}(h:Qu t ts=false):G4 (Hf t) (Gl ts)=none:=by
 rw [bP]
 unfold Qu at h
 cases hf:ts.find? fun q=>Pq t q.1 with
 | none=>rfl
 | some q=>rw [hf] at h;cases h
theorem cC {t:Tm}{b:Int}:∀{ts:List (Tm×Int)},Qu t ts=false→Fv t b ts=ts ++ [(t,b)]∧F9 t ts=0
  | [],_=>⟨rfl,rfl⟩
  | q::r,h=>by
    unfold Qu at h
    rw [List.find?_cons] at h
    cases hq:Pq t q.1 with
    | true=>rw [hq] at h;cases h
    | false=>
      rw [hq] at h
      obtain ⟨h1,h2⟩:=cC (t:=t) (b:=b) (ts:=r) h
      have hne:¬t=q.1:=fun he=>by rw [Ft.2 he] at hq;cases hq
      refine ⟨by rw [Fv,if_neg hne,h1];rfl,?_⟩
      unfold F9 at h2 ⊢
      rw [List.find?_cons,hq];exact h2
theorem bY {t:Tm}{b:Int}:∀{ts:List (Tm×Int)},Qu t ts=true→∃j,qI t ts=some j∧ts[j]? = some (t,F9 t ts)∧Fv t b ts=ts.modify j (fun p=>(p.1,F9 t ts+b))
  | [],h=>by cases h
  | q::r,h=>by
    unfold Qu at h
    rw [List.find?_cons] at h
    cases hq:Pq t q.1 with
    | true=>
      have he:=Ft.1 hq
      have hc:F9 t (q::r)=q.2:=by unfold F9;rw [List.find?_cons,hq];rfl
      rw [hc]
      exact ⟨0,by rw [qI,if_pos hq],by subst he;rfl,by rw [Fv,if_pos he];subst he;rfl⟩
    | false=>
      rw [hq] at h
      obtain ⟨j,h1,h2,h3⟩:=bY (t:=t) (b:=b) (ts:=r) h
      have hne:¬t=q.1:=fun he=>by rw [Ft.2 he] at hq;cases hq
      have hc:F9 t (q::r)=F9 t r:=by unfold F9;rw [List.find?_cons,hq]
      rw [hc]
      exact ⟨j+1,by rw [qI,if_neg (by rw [hq];decide),h1];rfl,by simpa using h2,by rw [Fv,if_neg hne,h3];rfl⟩
theorem U8 {ts:List (Tm×Int)}{j:Nat}{t:Tm}{c:Int}(h:ts[j]? = some (t,c)):(Gl ts)[j]? = some (Hw t,.int .i64 c):=by
 unfold Gl;rw [List.getElem?_map,h];rfl
theorem Wl {x:Int}:∀{ts:List (Tm×Int)} {j:Nat},N9 (Gl ts) j (.int .i64 x)=Gl (ts.modify j fun p=>(p.1,x))
  | [],j=>by cases j <;> rfl
  | p::r,0=>rfl
  | p::r,j+1=>by
    have ih:=Wl (x:=x) (ts:=r) (j:=j)
    unfold N9 Gl at ih ⊢
    simp only [List.map_cons,List.modify_succ_cons]
    rw [ih]
theorem cW {ts:List (Tm×Int)}{t:Tm}{c:Int}:(Gl ts ++ [(Hw t,.int .i64 c)])[(Gl ts).length]? = some (Hw t,.int .i64 c):=by
 rw [List.getElem?_append_right (Nat.le_refl _),Nat.sub_self];rfl
theorem aI {ts:List (Tm×Int)}{t:Tm}{c x:Int}:N9 (Gl ts ++ [(Hw t,.int .i64 c)]) (Gl ts).length (.int .i64 x)=Gl (ts ++ [(t,x)]):=by
 rw [show Gl ts ++ [(Hw t,AV.int .i64 c)]=Gl (ts ++ [(t,c)]) by unfold Gl;rw [List.map_append];rfl,vA,Wl]
 congr 1
 induction ts with
 | nil=>rfl
 | cons a r ih=>simpa using ih

structure suOK (n:Nat) (s:Su):Prop where
 rest : -(n:Int)*1099511627776≤s.rest∧s.rest≤(n:Int)*1099511627776
 coef:∀p∈s.ts,-(n:Int)≤p.2∧p.2≤(n:Int)
 len:s.ts.length≤n
theorem L7 {e:Ex}(h:B3 e=0)(ho:e.op=0) : -1099511627776≤e.val.num∧e.val.num≤1099511627776:=by
 unfold B3 at h
 split at h
 · cases h
 split at h
 · cases h
 split at h
 · cases h
 split at h
 · cases h
 rw [if_pos (by rw [ho];rfl)] at h
 have hc:Fb e=0:=by
  by_cases hx:(Fb e != 0)=true
  · rw [if_pos hx] at h;exact h
  · simpa using hx
 have hv:Aq e.val=0:=by
  unfold Fb at hc
  by_cases hx:(Aq e.val != 0)=true
  · rw [if_pos hx] at hc;exact hc
  · simpa using hx
 have vs:e.val.kind=0∨e.val.kind=1→Ef e.val=0→-1099511627776≤e.val.num∧e.val.num≤1099511627776:=by
  intro hk hz
  unfold Ef at hz
  by_cases h1:(e.val.kind==0&&(decide (e.val.num < -1099511627776)||decide (1099511627776<e.val.num)))=true
  · rw [if_pos h1] at hz;cases hz
  ·
   rw [if_neg h1] at hz
   rcases hk with hk | hk
   · simp [hk] at h1;omega
   ·
    by_cases h2:(e.val.kind==1&&e.val.num != 0&&e.val.num != 1)=true
    · rw [if_pos h2] at hz;cases hz
    · simp [hk] at h2;omega
 unfold Aq at hv
 by_cases h1:(e.val.kind==0||e.val.kind==1)=true
 ·
  rw [if_pos h1] at hv
  split at hv
  · cases hv
  · exact vs (by simpa using h1) hv
 ·
  rw [if_neg h1] at hv
  by_cases h2:(e.val.kind==2)=true
  ·
   rw [if_pos h2] at hv
   by_cases h3:(e.val.num != 0)=true
   · rw [if_pos h3] at hv;cases hv
   ·
    have:e.val.num=0:=by simpa using h3
    omega
  · rw [if_neg h2] at hv;cases hv
theorem suOK.mono {n m:Nat}{s:Su}(h:suOK n s)(hm:n≤m):suOK m s:=
 ⟨by have:=h.rest;omega,fun p hp=>by have:=h.coef p hp;omega,Nat.le_trans h.len hm⟩
theorem aQ {n:Nat}{t:Tm}{b:Int}(hb:b=1∨b = -1):∀{ts:List (Tm×Int)},(∀p∈ts,-(n:Int)≤p.2∧p.2≤(n:Int))→(∀p∈Fv t b ts,-((n+1:Nat):Int)≤p.2∧p.2≤((n+1:Nat):Int))∧(Fv t b ts).length≤ts.length+1
  | [],_=>by simp [Fv];omega
  | q::r,h=>by
    rw [Fv]
    split
    · refine ⟨fun p hp=>?_,by simp⟩
      rcases List.mem_cons.1 hp with rfl | hp
      · have:=h q (by simp);simp only;omega
      · have:=h p (by simp [hp]);omega
    · obtain ⟨h1,h2⟩:=aQ hb (ts:=r) fun p hp=>h p (by simp [hp])
      refine ⟨fun p hp=>?_,by simp;omega⟩
      rcases List.mem_cons.1 hp with rfl | hp
      · have:=h p (by simp);omega
      · exact h1 p hp
theorem Wj (e:Ex):Ca e=0→∀{n:Nat} {b:Int} {s:Su},b=1∨b = -1→suOK n s→suOK (n+Ar e) (Bg e b s).1:=by
  refine Ex.Aav (P:=fun e=>Ca e=0→∀{n:Nat} {b:Int} {s:Su},b=1∨b = -1→suOK n s→suOK (n+Ar e) (Bg e b s).1) (fun e ih hn n b s hb hs=>?_) e
  have hz:=Bc hn
  have hsz:1≤Ar e:=by rw [Dp];omega
  have hsum2:∀h:1<e.args.length,Ar (Av e)+Ar (Cc e)+1≤Ar e:=fun h=>by
    have hp:=Dp e
    cases ha:e.args with
    | nil=>rw [ha] at h;simp at h
    | cons a r=>
      cases r with
      | nil=>rw [ha] at h;simp at h
      | cons b r=>
        have e0:Av e=a:=by unfold Av;rw [ha];rfl
        have e1:Cc e=b:=by unfold Cc;rw [ha];rfl
        rw [e0,e1,hp,ha];simp;omega
  rw [Po]
  unfold aL
  split
  · rename_i h0
    have hc:=L7 hz.1 (by simpa using h0)
    refine (show suOK (n+1) _ from ⟨?_,fun p hp=>by have:=hs.coef p hp;omega,by have:=hs.len;simp only;omega⟩).mono (by omega)
    have:=hs.rest
    rcases hb with rfl | rfl <;> simp only <;> omega
  · split
    · obtain ⟨h1,h2⟩:=aQ (t:=Dv e) hb hs.coef
      exact (show suOK (n+1) _ from ⟨by have:=hs.rest;simp only;omega,h1,by have:=hs.len;simp only;omega⟩).mono (by omega)
    · have two:(e.op=5∨e.op=6)→∀c,(c=1∨c = -1)→suOK (n+Ar e) (if !((Q8 (fun _ s=>(s,false)) (e.args.map Bg):Nz) b s).2 then (((Q8 (fun _ s=>(s,false)) (e.args.map Bg):Nz) b s).1,false) else (Ys (fun _ s=>(s,false)) (e.args.map Bg):Nz) c ((Q8 (fun _ s=>(s,false)) (e.args.map Bg):Nz) b s).1).1:=by
        intro ho c hc
        have hl:=Ei hz.1 (by omega)
        have hs2:=hsum2 hl
        rw [Jx Bg _ (by omega),K1 Bg _ hl]
        have m0:=A0 (show 0<e.args.length by omega)
        have m1:=Bk hl
        have i0:=ih _ m0 (hz.2 _ m0) hb hs
        split
        · exact i0.mono (by omega)
        · exact (ih _ m1 (hz.2 _ m1) hc i0).mono (by omega)
      split
      · rename_i h5;exact two (.inl (by simpa using h5)) b hb
      · split
        · rename_i h6;exact two (.inr (by simpa using h6)) (0-b) (by omega)
        · exact hs.mono (by omega)

abbrev N7 (m bs:Nat)(v:Value)(s:Su)(R:List HO):List HO:=.row v (s.ts.map fun p=>Hw p.1).length 103 3 :: .box bs 196 [.val (.map (some m)),.row v 3 (s.ts.map fun p=>Hw p.1),.int .i64 s.rest] :: .kmap m (Gl s.ts)::R
theorem Bo {m bs:Nat}{R:List HO}{e:Ex}{b:Int}{s:Su}{X:Su×Bool}{r:AV}{H:List HO}(h:Bg e b s=X)(k:r = .bool X.2∧∃v,H=N7 m bs v X.1 R):r = .bool (Bg e b s).2∧∃v,H=N7 m bs v (Bg e b s).1 R:=by rw [h];exact k
theorem Fa {e:Ex}{b:Int}{s:Su}(h:(e.op==0)=true):Bg e b s=(⟨s.ts,s.rest+b*e.val.num⟩,true):=by rw [Po,aL,if_pos h]
theorem B8 {e:Ex}{b:Int}{s:Su}(h:(e.op==0)=false)(h1:(e.op==1||e.op==2)=true):Bg e b s=(⟨Fv (Dv e) b s.ts,s.rest⟩,true):=by rw [Po,aL,C8 h,if_pos h1]
theorem F4 {e:Ex}{b:Int}{s:Su}(h:(e.op==0)=false)(h1:(e.op==1||e.op==2)=false)(h2:(e.op==5)=false)(h3:(e.op==6)=false):Bg e b s=(s,false):=by rw [Po,aL,C8 h,C8 h1,C8 h2,C8 h3]
theorem Ik {e:Ex}{b c:Int}{s:Su}(hl:1<e.args.length)(h:(e.op=5∧c=b)∨(e.op=6∧c=0-b)):Bg e b s=if !(Bg (Av e) b s).2 then ((Bg (Av e) b s).1,false) else Bg (Cc e) c (Bg (Av e) b s).1:=by
 rw [Po,aL]
 rcases h with ⟨h,rfl⟩ | ⟨h,rfl⟩
 · rw [C8 (by simp;omega),C8 (by simp;omega),if_pos (by simpa using h),Jx Bg _ (by omega),K1 Bg _ hl]
 · rw [C8 (by simp;omega),C8 (by simp;omega),C8 (by simp;omega),if_pos (by simpa using h),Jx Bg _ (by omega),K1 Bg _ hl]
theorem qK {e:Ex}{b c:Int}{s:Su}(hl:1<e.args.length)(h:(e.op=5∧c=b)∨(e.op=6∧c=0-b))(hG:Ij [((Bg (Av e) b s).2,true)]):Bg e b s=Bg (Cc e) c (Bg (Av e) b s).1:=by
 have h2:(Bg (Av e) b s).2=true:=hG _ (List.mem_singleton.2 rfl)
 rw [Ik hl h,h2];rfl
theorem Ze {m bs:Nat}{R:List HO}{v:Value}{e:Ex}{b c:Int}{s:Su}(hl:1<e.args.length)(h:(e.op=5∧c=b)∨(e.op=6∧c=0-b))(hG:¬Ij [((Bg (Av e) b s).2,true)]):∃u,N7 m bs v (Bg (Av e) b s).1 R=N7 m bs u (Bg e b s).1 R:=by
 have h2:(Bg (Av e) b s).2=false:=by
  rw [Bool.eq_false_iff]
  intro hx
  exact hG fun p hp=>by rw [List.mem_singleton.1 hp];exact hx
 refine ⟨v,?_⟩
 rw [Ik hl h,h2];rfl
theorem De {e:Ex}{b c:Int}{s:Su}(hl:1<e.args.length)(h:(e.op=5∧c=b)∨(e.op=6∧c=0-b)):((Bg (Av e) b s).2&&(Bg (Cc e) c (Bg (Av e) b s).1).2)=(Bg e b s).2:=by
 rw [Ik hl h]
 cases hq:(Bg (Av e) b s).2 <;> simp
theorem fT {f:FuncId}{m bs:Nat}{R:List HO}{e:Ex}{b c:Int}{s:Su}{args:List AV}{H:List HO}(hl:1<e.args.length)(h:(e.op=5∧c=b)∨(e.op=6∧c=0-b))(hG:Ij [((Bg (Av e) b s).2,true)])(hc:Dk Tryz.prog f H args fun r H'=>r = .bool (Bg (Cc e) c (Bg (Av e) b s).1).2∧∃v,H'=N7 m bs v (Bg (Cc e) c (Bg (Av e) b s).1).1 R) :
  Dk Tryz.prog f H args fun r H'=>r = .bool (Bg (Cc e) c (Bg (Av e) b s).1).2∧∃v,H'=N7 m bs v (Bg e b s).1 R:=by
 rw [qK hl h hG];exact hc
theorem Gg {m bs:Nat}{v:Value}{R:List HO}{t:Tm}{b:Int}{s:Su}(h:Qu t s.ts=false) :
  (HO.row v ((s.ts.map fun p=>Hw p.1) ++ [Hw t]).length 103 3 :: .box bs 196 [.val (.map (some m)),.row v 3 ((s.ts.map fun p=>Hw p.1) ++ [Hw t]),.int .i64 s.rest] :: .kmap m (N9 (Gl s.ts ++ [(Hw t,.int .i64 0)]) (Gl s.ts).length (.int .i64 (F9 t s.ts+b)))::R)=N7 m bs v ⟨Fv t b s.ts,s.rest⟩ R:=by
 obtain ⟨h1,h2⟩:=cC (b:=b) h
 rw [aI,h1,h2,Int.zero_add]
 show _=HO.row v ((s.ts ++ [(t,b)]).map fun p=>Hw p.1).length 103 3::_
 rw [List.map_append];rfl
theorem mI {c:Int}:∀(l:List (Tm×Int)) (j:Nat),((l.modify j (fun p=>(p.1,c))).map fun p=>Hw p.1)=l.map fun p=>Hw p.1
 | [],j=>by cases j <;> rfl
 | a::r,0=>rfl
 | a::r,j+1=>by simp only [List.modify_succ_cons,List.map_cons];rw [mI r j]
theorem Gb {m bs j:Nat}{v:Value}{R:List HO}{t:Tm}{b:Int}{s:Su}(h3:Fv t b s.ts=s.ts.modify j (fun p=>(p.1,F9 t s.ts+b))) :
  (HO.row v (s.ts.map fun p=>Hw p.1).length 103 3 :: .box bs 196 [.val (.map (some m)),.row v 3 (s.ts.map fun p=>Hw p.1),.int .i64 s.rest] :: .kmap m (N9 (Gl s.ts) j (.int .i64 (F9 t s.ts+b)))::R)=N7 m bs v ⟨Fv t b s.ts,s.rest⟩ R:=by
 have hm:=mI (c:=F9 t s.ts+b) s.ts j
 rw [Wl,h3]
 show _=HO.row v ((s.ts.modify j (fun p=>(p.1,F9 t s.ts+b))).map fun p=>Hw p.1).length 103 3::HO.box bs 196 [.val (.map (some m)),.row v 3 ((s.ts.modify j (fun p=>(p.1,F9 t s.ts+b))).map fun p=>Hw p.1),.int .i64 s.rest]::_
 rw [hm]
theorem Xu {a b:Bool}(h:a=true):(a||b)=true:=by rw [h];rfl
theorem Xt {a b:Bool}(h:b=true):(a||b)=true:=by rw [h];simp
theorem Ur {a b:Bool}(h:a=false)(h':b=false):(a||b)=false:=by rw [h,h'];rfl
theorem U4 {n:Nat}{s:Su}(h:suOK n s)(t:Tm) : -(n:Int)≤F9 t s.ts∧F9 t s.ts≤(n:Int):=by
 unfold F9
 cases hf:s.ts.find? fun q=>Pq t q.1 with
 | none=>simp only [Option.map_none,Option.getD_none];omega
 | some q=>exact h.coef q (List.mem_of_find?_eq_some hf)
theorem lS {P:Program}{o:Oper}{ρ:Operand→AV}{x:AV}{a b:HO}{K:List HO→Prop}(h1:∀k:Nat,Dn P o ρ (fun H=>H[k]? = some a) x)(h2:∀k:Nat,Dn P o ρ (fun H=>H[k]? = some b) x)(h:∀H,K H→a∈H∨b∈H):Dn P o ρ K x:=by
 intro g w c H next Q hr hH hk hn
 rcases h H hk with h | h
 ·
  obtain ⟨k,hk⟩:=List.getElem?_of_mem h
  exact h1 k g w c H next Q hr hH hk hn
 ·
  obtain ⟨k,hk⟩:=List.getElem?_of_mem h
  exact h2 k g w c H next Q hr hH hk hn
theorem gM (t:Tm)(ts:List (Tm×Int)):∀p∈Gl ts ++ [(Hw t,AV.int .i64 0)],G1 TL [(0,1,true,3),(1,1,true,3),(2,1,true,3)] (Hw t) p.1=some (Hf t p.1):=by
 have:Gl ts ++ [(Hw t,AV.int .i64 0)]=Gl (ts ++ [(t,0)]):=by unfold Gl;rw [List.map_append];rfl
 rw [this];exact Im t _
theorem mC {t:Tm}{ts:List (Tm×Int)}(h:Qu t ts=false):match G4 (Hf t) (Gl ts ++ [(Hw t,AV.int .i64 0)]) with | some y=>y = .int .i64 (F9 t ts) | none=>[AV.int .i64 0] = [.int .i64 (F9 t ts)]:=by
 have h1:Gl ts ++ [(Hw t,AV.int .i64 0)]=Gl (ts ++ [(t,0)]):=by unfold Gl;rw [List.map_append];rfl
 have h2:F9 t (ts ++ [(t,0)])=F9 t ts:=by
  rw [(cC (b:=0) h).2]
  unfold F9
  unfold Qu at h
  rw [List.find?_append]
  cases hf:ts.find? fun q=>Pq t q.1 with
  | some q=>rw [hf] at h;cases h
  | none=>rw [List.find?_cons,Ft.2 rfl];rfl
 rw [h1,←h2];exact Oe t _
theorem Db {e:Ex}(h:1<e.args.length):Ar (Av e)+Ar (Cc e)+1≤Ar e:=by
  have hp:=Dp e
  cases ha:e.args with
  | nil=>rw [ha] at h;simp at h
  | cons a r=>
    cases r with
    | nil=>rw [ha] at h;simp at h
    | cons b r=>
      have e0:Av e=a:=by unfold Av;rw [ha];rfl
      have e1:Cc e=b:=by unfold Cc;rw [ha];rfl
      rw [e0,e1,hp,ha];simp;omega

def C9 (a b:Ex):Su:=if !(Bg a 1 Ir).2 then (Bg a 1 Ir).1 else (Bg b (-1) (Bg a 1 Ir).1).1
theorem rO {a b:Ex}(hG:Ij [(!(Bg a 1 Ir).2,false)]):C9 a b=(Bg b (-1) (Bg a 1 Ir).1).1:=by
 have h2:(!(Bg a 1 Ir).2)=false:=hG _ (List.mem_singleton.2 rfl)
 unfold C9;rw [C8 h2]
theorem uM {f:FuncId}{m bs:Nat}{R:List HO}{a b:Ex}{args:List AV}{H:List HO}(hG:Ij [(!(Bg a 1 Ir).2,false)])(hc:Dk Tryz.prog f H args fun r H'=>r = .bool (Bg b (-1) (Bg a 1 Ir).1).2∧∃v,H'=N7 m bs v (Bg b (-1) (Bg a 1 Ir).1).1 R) :
  Dk Tryz.prog f H args fun r H'=>r = .bool (Bg b (-1) (Bg a 1 Ir).1).2∧∃v,H'=N7 m bs v (C9 a b) R:=by
 rw [rO hG];exact hc
theorem btw_f {m bs:Nat}{R:List HO}{v:Value}{a b:Ex}(hG:¬Ij [(!(Bg a 1 Ir).2,false)]):∃u,N7 m bs v (Bg a 1 Ir).1 R=N7 m bs u (C9 a b) R:=by
 have h2:(!(Bg a 1 Ir).2)=true:=by
  rw [←Bool.not_eq_false]
  intro hx
  exact hG fun p hp=>by rw [List.mem_singleton.1 hp];exact hx
 refine ⟨v,?_⟩
 unfold C9;rw [if_pos h2]
theorem btw_no {a b:Ex}(h:(!(Bg a 1 Ir).2 || !(Bg b (-1) (Bg a 1 Ir).1).2)=true):B7 a b=(nV,false):=by
 unfold B7
 by_cases h1:(!(Bg a 1 Ir).2)=true
 · rw [if_pos h1]
 · rw [if_neg h1,if_pos (by simpa [Bool.eq_false_iff.2 h1] using h)]
theorem lT {a b:Ex}(h:(!(Bg a 1 Ir).2 || !(Bg b (-1) (Bg a 1 Ir).1).2)=false):B7 a b=Or (C9 a b):=by
 have h1:(!(Bg a 1 Ir).2)=false:=by cases hx:(!(Bg a 1 Ir).2) <;> simp_all
 have h2:(!(Bg b (-1) (Bg a 1 Ir).1).2)=false:=by rw [h1] at h;simpa using h
 unfold B7 C9
 rw [C8 h1,C8 h2,C8 h1]
theorem dL {a b:Ex}(h:(!(Bg a 1 Ir).2 || !(Bg b (-1) (Bg a 1 Ir).1).2)=false)(hp:C5 (C9 a b).ts [] []=none):B7 a b=(nV,false):=by
 rw [lT h,Or,hp]
theorem qV {a b:Ex}{p m:List Tm}(h:(!(Bg a 1 Ir).2 || !(Bg b (-1) (Bg a 1 Ir).1).2)=false)(hp:C5 (C9 a b).ts [] []=some (p,m)):B7 a b=(⟨p,m,(C9 a b).rest⟩,decide ((p.length:Int)≤1)&&decide ((m.length:Int)≤1)):=by
 rw [lT h,Or,hp]
theorem Nl:suOK 0 Ir:=⟨by simp [Ir],by simp [Ir],by simp [Ir]⟩
theorem Zh {a b:Ex}(ha:Ca a=0)(hb:Ca b=0):suOK (Ar a+Ar b) (C9 a b):=by
 have h1:suOK (0+Ar a) (Bg a 1 Ir).1:=Wj a ha (.inl rfl) Nl
 unfold C9
 split
 · exact h1.mono (by omega)
 · exact (Wj b hb (.inr rfl) h1).mono (by omega)
theorem V4 {t:Tm}{b:Int}:∀{ts:List (Tm×Int)},(ts.map (·.1)).Nodup→((Fv t b ts).map (·.1)).Nodup∧∀u,u∈(Fv t b ts).map (·.1)→u=t∨u∈ts.map (·.1)
  | [],_=>by simp [Fv]
  | q::r,h=>by
    rw [Fv]
    rw [List.map_cons,List.nodup_cons] at h
    split
    · rename_i he
      refine ⟨by simpa using h,fun u hu=>.inr (by simpa using hu)⟩
    · rename_i hne
      obtain ⟨h1,h2⟩:=V4 (t:=t) (b:=b) h.2
      refine ⟨?_,fun u hu=>?_⟩
      · rw [List.map_cons,List.nodup_cons]
        refine ⟨fun hu=>?_,h1⟩
        rcases h2 _ hu with e | hm
        · exact hne e.symm
        · exact h.1 hm
      · rw [List.map_cons,List.mem_cons] at hu
        rcases hu with e | hu
        · right;rw [e];simp
        · rcases h2 _ hu with e | hm
          · exact .inl e
          · right;rw [List.map_cons];exact List.mem_cons_of_mem _ hm
theorem Yu (e:Ex):Ca e=0→∀{b:Int} {s:Su},(s.ts.map (·.1)).Nodup→((Bg e b s).1.ts.map (·.1)).Nodup:=by
 refine Ex.Aav (P:=fun e=>Ca e=0→∀{b:Int} {s:Su},(s.ts.map (·.1)).Nodup→((Bg e b s).1.ts.map (·.1)).Nodup) (fun e ih hn b s hs=>?_) e
 have hz:=Bc hn
 rw [Po]
 unfold aL
 split
 · exact hs
 ·
  split
  · exact (V4 hs).1
  ·
   have two:(e.op=5∨e.op=6)→∀c,((if !((Q8 (fun _ s=>(s,false)) (e.args.map Bg):Nz) b s).2 then (((Q8 (fun _ s=>(s,false)) (e.args.map Bg):Nz) b s).1,false) else (Ys (fun _ s=>(s,false)) (e.args.map Bg):Nz) c ((Q8 (fun _ s=>(s,false)) (e.args.map Bg):Nz) b s).1).1.ts.map (·.1)).Nodup:=by
    intro ho c
    have hl:=Ei hz.1 (by omega)
    rw [Jx Bg _ (by omega),K1 Bg _ hl]
    have m0:=A0 (show 0<e.args.length by omega)
    have m1:=Bk hl
    have i0:=ih _ m0 (hz.2 _ m0) (b:=b) hs
    split
    · exact i0
    · exact ih _ m1 (hz.2 _ m1) i0
   split
   · rename_i h5;exact two (.inl (by simpa using h5)) b
   ·
    split
    · rename_i h6;exact two (.inr (by simpa using h6)) (0-b)
    · exact hs
theorem bZ {a b:Ex}(ha:Ca a=0)(hb:Ca b=0):((C9 a b).ts.map (·.1)).Nodup:=by
 have h1:=Yu a ha (b:=1) (s:=Ir) (by simp [Ir])
 unfold C9
 split
 · exact h1
 · exact Yu b hb h1
theorem wD {ts:List (Tm×Int)}{k:Nat}{q:Tm×Int}(hn:(ts.map (·.1)).Nodup)(h:ts[k]? = some q):F9 q.1 ts=q.2:=by
  induction ts generalizing k with
  | nil=>simp at h
  | cons p r ih=>
    rw [List.map_cons,List.nodup_cons] at hn
    unfold F9
    rw [List.find?_cons]
    cases k with
    | zero=>
      have:p=q:=by simpa using h
      subst this
      rw [Ft.2 rfl];rfl
    | succ k=>
      have hq:r[k]? = some q:=by simpa using h
      have hm:=List.mem_of_getElem? hq
      have hne:Pq q.1 p.1=false:=by
        rw [Bool.eq_false_iff]
        intro he
        have:=Ft.1 he
        exact hn.1 (by rw [←this];exact List.mem_map_of_mem hm)
      rw [hne]
      exact ih hn.2 hq
theorem zX {ts:List (Tm×Int)}{k:Nat}{q:Tm×Int}(hn:(ts.map (·.1)).Nodup)(h:ts[k]? = some q):match G4 (Hf q.1) (Gl ts) with | some y=>y = .int .i64 q.2 | none=>[AV.int .i64 0] = [.int .i64 q.2]:=by
 have h1:=Oe q.1 ts
 rw [wD hn h] at h1
 exact h1
theorem mD {t:Tm×Int}{r:List (Tm×Int)}{p m:List Tm}(h:(t.2==0)=true):C5 (t::r) p m=C5 r p m:=by rw [C5,if_pos h]
theorem lF {t:Tm×Int}{r:List (Tm×Int)}{p m:List Tm}(h:(t.2==0)=false)(h1:(t.2==1)=true):C5 (t::r) p m=C5 r (p ++ [t.1]) m:=by rw [C5,C8 h,if_pos h1]
theorem kY {t:Tm×Int}{r:List (Tm×Int)}{p m:List Tm}(h:(t.2==0)=false)(h1:(t.2==1)=false)(h2:(t.2 == -1)=true):C5 (t::r) p m=C5 r p (m ++ [t.1]):=by rw [C5,C8 h,C8 h1,if_pos h2]
theorem kZ {t:Tm×Int}{r:List (Tm×Int)}{p m:List Tm}(h:(t.2==0)=false)(h1:(t.2==1)=false)(h2:(t.2 == -1)=false):C5 (t::r) p m=none:=by rw [C5,C8 h,C8 h1,C8 h2]

theorem Je {T:List Sc}{V:List Va}{e:Ex}(hk:KOK T V e)(h:Cb e=true):1<e.args.length:=by
 unfold Cb at h
 have h':e.op=7∨e.op=8∨e.op=9:=by simp at h;omega
 exact Ei (Bc hk.nodes).1 (by omega)
theorem dD {T:List Sc}{V:List Va}{e:Ex}(h:(e.op==1)=true):Ck T V e=true:=by rw [Ck,if_pos h]
theorem Vh {T:List Sc}{V:List Va}{e:Ex}(h:(e.op==1)=false)(h2:(!Cb e)=true):Ck T V e=false:=by rw [Ck,C8 h,if_pos h2]
theorem eO {T:List Sc}{V:List Va}{e:Ex}(h:(e.op==1)=false)(h2:(!Cb e)=false)(h3:Dl T V e=true):Ck T V e=(Lq (Av e)&&Lq (Cc e)):=by rw [Ck,C8 h,C8 h2,if_pos h3]
theorem gA {T:List Sc}{V:List Va}{e:Ex}(h:(e.op==1)=false)(h2:(!Cb e)=false)(h3:Dl T V e=false):Ck T V e=(B7 (Av e) (Cc e)).2:=by rw [Ck,C8 h,C8 h2,C8 h3]
theorem Pz {T:List Sc}{V:List Va}{e:Ex}(h:(D1 T V e != 0)=false):KOK T V e:=by
 have h0:D1 T V e=0:=by simpa using h
 unfold D1 at h0
 by_cases h1:((Cn T V e).2 != 0)=true
 · rw [if_pos h1] at h0;rw [h0] at h1;cases h1
 · exact (X8 (by simpa using h1)).1
end Go.Proofs.YtjedflcpjlgokaaGreatDoor
