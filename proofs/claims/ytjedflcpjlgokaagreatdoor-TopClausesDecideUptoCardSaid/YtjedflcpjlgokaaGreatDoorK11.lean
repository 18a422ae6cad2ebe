/-
  Several texts in one: S14, S15, S16, S17, S18. No condition.
-/
import Derived.Test.YtjedflcpjlgokaaGreatDoorK10
set_option linter.unusedVariables false
set_option linter.unusedSimpArgs false
namespace Go.Proofs.YtjedflcpjlgokaaGreatDoor
open Go Go.Aw

def GT:List (Nat×Nat×Bool×Nat):=[(0,1,true,3),(1,1,true,3),(2,1,true,3)]
def Fr (ts:List (Tm×Int)):List (List AV×AV):=ts.map fun p=>(G2 p.1,.int .i64 p.2)
def Zi (t u:Tm):Bool:=t.op==u.op&&(t.v==u.v&&t.field==u.field)
theorem Jy {t u:Tm}:Zi t u=true↔t=u:=by
 unfold Zi
 cases t;cases u
 simp
def Gc (t:Tm)(k:List AV):Bool:=(F0 TL [(0,1,true,3),(1,1,true,3),(2,1,true,3)] (G2 t) k).getD false
theorem Za (t u:Tm):F0 TL [(0,1,true,3),(1,1,true,3),(2,1,true,3)] (G2 t) (G2 u)=some (Zi t u):=by
 show some ((t.op==u.op)&&((t.v==u.v)&&((t.field==u.field)&&true)))=_
 rw [Bool.and_true];rfl
theorem Qd (t u:Tm):Gc t (G2 u)=Zi t u:=by unfold Gc;rw [Za];rfl
theorem Ho (t:Tm)(ts:List (Tm×Int)):∀p∈Fr ts,F0 TL [(0,1,true,3),(1,1,true,3),(2,1,true,3)] (G2 t) p.1=some (Gc t p.1):=by
 intro p hp
 obtain ⟨x,_,rfl⟩:=List.mem_map.1 hp
 show F0 TL _ (G2 t) (G2 x.1)=some (Gc t (G2 x.1))
 rw [Za,Qd]
theorem qP (ts:List (Tm×Int)):(Fr ts).length=ts.length:=List.length_map ..
def mO (t:Tm):List (Tm×Int)→Option Nat
 | []=>none
 | q::r=>if Zi t q.1 then some 0 else (mO t r).map (· + 1)
theorem hM (t:Tm):∀ts:List (Tm×Int),Kb (Gc t) (Fr ts)=mO t ts
  | []=>rfl
  | q::r=>by
    have ih:=hM t r
    unfold Fr at ih ⊢
    rw [List.map_cons,Kb,Qd,ih,mO]
theorem aK (t:Tm):∀ts:List (Tm×Int),F5 (Gc t) (Fr ts)=(ts.find? fun q=>Zi t q.1).map fun q=>.int .i64 q.2
  | []=>rfl
  | q::r=>by
    have ih:=aK t r
    unfold Fr at ih ⊢
    rw [List.map_cons,F5,Qd,ih,List.find?_cons]
    cases Zi t q.1 <;> rfl
def Fe (t:Tm)(ts:List (Tm×Int)):Int:=((ts.find? fun q=>Zi t q.1).map fun q=>q.2).getD 0
def Pe (t:Tm)(ts:List (Tm×Int)):Bool:=(ts.find? fun q=>Zi t q.1).isSome
theorem Nt (t:Tm)(ts:List (Tm×Int)):match F5 (Gc t) (Fr ts) with | some y=>y = .int .i64 (Fe t ts) | none=>[AV.int .i64 0] = [.int .i64 (Fe t ts)]:=by
 rw [aK]
 unfold Fe
 cases ts.find? fun q=>Zi t q.1 <;> rfl
theorem yL (t:Tm)(ts:List (Tm×Int)):(F5 (Gc t) (Fr ts)).isSome=Pe t ts:=by
 rw [aK]
 unfold Pe
 cases ts.find? fun q=>Zi t q.1 <;> rfl
theorem dN {t:Tm}{ts:List (Tm×Int)}(h:Pe t ts=false):F5 (Gc t) (Fr ts)=none:=by
 rw [aK]
 unfold Pe at h
 cases hf:ts.find? fun q=>Zi t q.1 with
 | none=>rfl
 | some q=>rw [hf] at h;cases h
theorem Zc {t:Tm}{b:Int}:∀{ts:List (Tm×Int)},Pe t ts=false→He t b ts=ts ++ [(t,b)]∧Fe t ts=0
  | [],_=>⟨rfl,rfl⟩
  | q::r,h=>by
    unfold Pe at h
    rw [List.find?_cons] at h
    cases hq:Zi t q.1 with
    | true=>rw [hq] at h;cases h
    | false=>
      rw [hq] at h
      obtain ⟨h1,h2⟩:=Zc (t:=t) (b:=b) (ts:=r) h
      have hne:¬t=q.1:=fun he=>by rw [Jy.2 he] at hq;cases hq
      refine ⟨by rw [He,if_neg hne,h1];rfl,?_⟩
      unfold Fe at h2 ⊢
      rw [List.find?_cons,hq];exact h2
theorem Z7 {t:Tm}{b:Int}:∀{ts:List (Tm×Int)},Pe t ts=true→∃j,mO t ts=some j∧ts[j]? = some (t,Fe t ts)∧He t b ts=ts.modify j (fun p=>(p.1,Fe t ts+b))
  | [],h=>by cases h
  | q::r,h=>by
    unfold Pe at h
    rw [List.find?_cons] at h
    cases hq:Zi t q.1 with
    | true=>
      have he:=Jy.1 hq
      have hc:Fe t (q::r)=q.2:=by unfold Fe;rw [List.find?_cons,hq];rfl
      rw [hc]
      exact ⟨0,by rw [mO,if_pos hq],by subst he;rfl,by rw [He,if_pos he];subst he;rfl⟩
    | false=>
      rw [hq] at h
      obtain ⟨j,h1,h2,h3⟩:=Z7 (t:=t) (b:=b) (ts:=r) h
      have hne:¬t=q.1:=fun he=>by rw [Jy.2 he] at hq;cases hq
      have hc:Fe t (q::r)=Fe t r:=by unfold Fe;rw [List.find?_cons,hq]
      rw [hc]
      exact ⟨j+1,by rw [mO,if_neg (by rw [hq];decide),h1];rfl,by simpa using h2,by rw [He,if_neg hne,h3];rfl⟩
theorem Tw {ts:List (Tm×Int)}{j:Nat}{t:Tm}{c:Int}(h:ts[j]? = some (t,c)):(Fr ts)[j]? = some (G2 t,.int .i64 c):=by
 unfold Fr;rw [List.getElem?_map,h];rfl
theorem Vs {x:Int}:∀{ts:List (Tm×Int)} {j:Nat},Mo (Fr ts) j (.int .i64 x)=Fr (ts.modify j fun p=>(p.1,x))
  | [],j=>by cases j <;> rfl
  | p::r,0=>rfl
  | p::r,j+1=>by
    have ih:=Vs (x:=x) (ts:=r) (j:=j)
    unfold Mo Fr at ih ⊢
    simp only [List.map_cons,List.modify_succ_cons]
    rw [ih]
theorem bT {ts:List (Tm×Int)}{t:Tm}{c:Int}:(Fr ts ++ [(G2 t,.int .i64 c)])[(Fr ts).length]? = some (G2 t,.int .i64 c):=by
 rw [List.getElem?_append_right (Nat.le_refl _),Nat.sub_self];rfl
theorem Y0 {ts:List (Tm×Int)}{t:Tm}{c x:Int}:Mo (Fr ts ++ [(G2 t,.int .i64 c)]) (Fr ts).length (.int .i64 x)=Fr (ts ++ [(t,x)]):=by
 rw [show Fr ts ++ [(G2 t,AV.int .i64 c)]=Fr (ts ++ [(t,c)]) by unfold Fr;rw [List.map_append];rfl,qP,Vs]
 congr 1
 induction ts with
 | nil=>rfl
 | cons a r ih=>simpa using ih

structure suOK (n:Nat) (s:Su):Prop where
 rest : -(n:Int)*1099511627776≤s.rest∧s.rest≤(n:Int)*1099511627776
 coef:∀p∈s.ts,-(n:Int)≤p.2∧p.2≤(n:Int)
 len:s.ts.length≤n
theorem Rt {e:Ex}(h:Bq e=0)(ho:e.op=0) : -1099511627776≤e.val.num∧e.val.num≤1099511627776:=by
 unfold Bq at h
 split at h
 · cases h
 split at h
 · cases h
 split at h
 · cases h
 split at h
 · cases h
 rw [if_pos (by rw [ho];rfl)] at h
 have hc:Et e=0:=by
  by_cases hx:(Et e != 0)=true
  · rw [if_pos hx] at h;exact h
  · simpa using hx
 have hv:Ao e.val=0:=by
  unfold Et at hc
  by_cases hx:(Ao e.val != 0)=true
  · rw [if_pos hx] at hc;exact hc
  · simpa using hx
 have vs:e.val.kind=0∨e.val.kind=1→Dz e.val=0→-1099511627776≤e.val.num∧e.val.num≤1099511627776:=by
  intro hk hz
  unfold Dz at hz
  by_cases h1:(e.val.kind==0&&(decide (e.val.num < -1099511627776)||decide (1099511627776<e.val.num)))=true
  · rw [if_pos h1] at hz;cases hz
  ·
   rw [if_neg h1] at hz
   rcases hk with hk | hk
   · simp [hk] at h1;omega
   ·
    by_cases h2:(e.val.kind==1&&e.val.num != 0&&e.val.num != 1)=true
    · rw [if_pos h2] at hz;cases hz
    · simp [hk] at h2;omega
 unfold Ao at hv
 by_cases h1:(e.val.kind==0||e.val.kind==1)=true
 ·
  rw [if_pos h1] at hv
  split at hv
  · cases hv
  · exact vs (by simpa using h1) hv
 ·
  rw [if_neg h1] at hv
  by_cases h2:(e.val.kind==2)=true
  ·
   rw [if_pos h2] at hv
   by_cases h3:(e.val.num != 0)=true
   · rw [if_pos h3] at hv;cases hv
   ·
    have:e.val.num=0:=by simpa using h3
    omega
  · rw [if_neg h2] at hv;cases hv
theorem suOK.mono {n m:Nat}{s:Su}(h:suOK n s)(hm:n≤m):suOK m s:=
 ⟨by have:=h.rest;omega,fun p hp=>by have:=h.coef p hp;omega,Nat.le_trans h.len hm⟩
theorem jJ {n:Nat}{t:Tm}{b:Int}(hb:b=1∨b = -1):∀{ts:List (Tm×Int)},(∀p∈ts,-(n:Int)≤p.2∧p.2≤(n:Int))→(∀p∈He t b ts,-((n+1:Nat):Int)≤p.2∧p.2≤((n+1:Nat):Int))∧(He t b ts).length≤ts.length+1
  | [],_=>by simp [He];omega
  | q::r,h=>by
    rw [He]
    split
    · refine ⟨fun p hp=>?_,by simp⟩
      rcases List.mem_cons.1 hp with rfl | hp
      · have:=h q (by simp);simp only;omega
      · have:=h p (by simp [hp]);omega
    · obtain ⟨h1,h2⟩:=jJ hb (ts:=r) fun p hp=>h p (by simp [hp])
      refine ⟨fun p hp=>?_,by simp;omega⟩
      rcases List.mem_cons.1 hp with rfl | hp
      · have:=h p (by simp);omega
      · exact h1 p hp
theorem Uy (e:Ex):Ci e=0→∀{n:Nat} {b:Int} {s:Su},b=1∨b = -1→suOK n s→suOK (n+Av e) (A5 e b s).1:=by
  refine Ex.Aa8 (P:=fun e=>Ci e=0→∀{n:Nat} {b:Int} {s:Su},b=1∨b = -1→suOK n s→suOK (n+Av e) (A5 e b s).1) (fun e ih hn n b s hb hs=>?_) e
  have hz:=A9 hn
  have hsz:1≤Av e:=by rw [Dj];omega
  have hsum2:∀h:1<e.args.length,Av (Ap e)+Av (B3 e)+1≤Av e:=fun h=>by
    have hp:=Dj e
    cases ha:e.args with
    | nil=>rw [ha] at h;simp at h
    | cons a r=>
      cases r with
      | nil=>rw [ha] at h;simp at h
      | cons b r=>
        have e0:Ap e=a:=by unfold Ap;rw [ha];rfl
        have e1:B3 e=b:=by unfold B3;rw [ha];rfl
        rw [e0,e1,hp,ha];simp;omega
  rw [Oj]
  unfold Zt
  split
  · rename_i h0
    have hc:=Rt hz.1 (by simpa using h0)
    refine (show suOK (n+1) _ from ⟨?_,fun p hp=>by have:=hs.coef p hp;omega,by have:=hs.len;simp only;omega⟩).mono (by omega)
    have:=hs.rest
    rcases hb with rfl | rfl <;> simp only <;> omega
  · split
    · obtain ⟨h1,h2⟩:=jJ (t:=Dh e) hb hs.coef
      exact (show suOK (n+1) _ from ⟨by have:=hs.rest;simp only;omega,h1,by have:=hs.len;simp only;omega⟩).mono (by omega)
    · have two:(e.op=5∨e.op=6)→∀c,(c=1∨c = -1)→suOK (n+Av e) (if !((Ps (fun _ s=>(s,false)) (e.args.map A5):Ma) b s).2 then (((Ps (fun _ s=>(s,false)) (e.args.map A5):Ma) b s).1,false) else (Xo (fun _ s=>(s,false)) (e.args.map A5):Ma) c ((Ps (fun _ s=>(s,false)) (e.args.map A5):Ma) b s).1).1:=by
        intro ho c hc
        have hl:=Ea hz.1 (by omega)
        have hs2:=hsum2 hl
        rw [Ju A5 _ (by omega),Kr A5 _ hl]
        have m0:=Ax (show 0<e.args.length by omega)
        have m1:=Bf hl
        have i0:=ih _ m0 (hz.2 _ m0) hb hs
        split
        · exact i0.mono (by omega)
        · exact (ih _ m1 (hz.2 _ m1) hc i0).mono (by omega)
      split
      · rename_i h5;exact two (.inl (by simpa using h5)) b hb
      · split
        · rename_i h6;exact two (.inr (by simpa using h6)) (0-b) (by omega)
        · exact hs.mono (by omega)

abbrev Mr (m bs:Nat)(v:Value)(s:Su)(R:List HO):List HO:=.row v (s.ts.map fun p=>G2 p.1).length 103 3 :: .box bs 196 [.val (.map (some m)),.row v 3 (s.ts.map fun p=>G2 p.1),.int .i64 s.rest] :: .kmap m (Fr s.ts)::R
theorem Be {m bs:Nat}{R:List HO}{e:Ex}{b:Int}{s:Su}{X:Su×Bool}{r:AV}{H:List HO}(h:A5 e b s=X)(k:r = .bool X.2∧∃v,H=Mr m bs v X.1 R):r = .bool (A5 e b s).2∧∃v,H=Mr m bs v (A5 e b s).1 R:=by rw [h];exact k
theorem D2 {e:Ex}{b:Int}{s:Su}(h:(e.op==0)=true):A5 e b s=(⟨s.ts,s.rest+b*e.val.num⟩,true):=by rw [Oj,Zt,if_pos h]
theorem Bs {e:Ex}{b:Int}{s:Su}(h:(e.op==0)=false)(h1:(e.op==1||e.op==2)=true):A5 e b s=(⟨He (Dh e) b s.ts,s.rest⟩,true):=by rw [Oj,Zt,Cu h,if_pos h1]
theorem Eb {e:Ex}{b:Int}{s:Su}(h:(e.op==0)=false)(h1:(e.op==1||e.op==2)=false)(h2:(e.op==5)=false)(h3:(e.op==6)=false):A5 e b s=(s,false):=by rw [Oj,Zt,Cu h,Cu h1,Cu h2,Cu h3]
theorem G6 {e:Ex}{b c:Int}{s:Su}(hl:1<e.args.length)(h:(e.op=5∧c=b)∨(e.op=6∧c=0-b)):A5 e b s=if !(A5 (Ap e) b s).2 then ((A5 (Ap e) b s).1,false) else A5 (B3 e) c (A5 (Ap e) b s).1:=by
 rw [Oj,Zt]
 rcases h with ⟨h,rfl⟩ | ⟨h,rfl⟩
 · rw [Cu (by simp;omega),Cu (by simp;omega),if_pos (by simpa using h),Ju A5 _ (by omega),Kr A5 _ hl]
 · rw [Cu (by simp;omega),Cu (by simp;omega),Cu (by simp;omega),if_pos (by simpa using h),Ju A5 _ (by omega),Kr A5 _ hl]
theorem lO {e:Ex}{b c:Int}{s:Su}(hl:1<e.args.length)(h:(e.op=5∧c=b)∨(e.op=6∧c=0-b))(hG:Hl [((A5 (Ap e) b s).2,true)]):A5 e b s=A5 (B3 e) c (A5 (Ap e) b s).1:=by
 have h2:(A5 (Ap e) b s).2=true:=hG _ (List.mem_singleton.2 rfl)
 rw [G6 hl h,h2];rfl
theorem Yf {m bs:Nat}{R:List HO}{v:Value}{e:Ex}{b c:Int}{s:Su}(hl:1<e.args.length)(h:(e.op=5∧c=b)∨(e.op=6∧c=0-b))(hG:¬Hl [((A5 (Ap e) b s).2,true)]):∃u,Mr m bs v (A5 (Ap e) b s).1 R=Mr m bs u (A5 e b s).1 R:=by
 have h2:(A5 (Ap e) b s).2=false:=by
  rw [Bool.eq_false_iff]
  intro hx
  exact hG fun p hp=>by rw [List.mem_singleton.1 hp];exact hx
 refine ⟨v,?_⟩
 rw [G6 hl h,h2];rfl
theorem Cv {e:Ex}{b c:Int}{s:Su}(hl:1<e.args.length)(h:(e.op=5∧c=b)∨(e.op=6∧c=0-b)):((A5 (Ap e) b s).2&&(A5 (B3 e) c (A5 (Ap e) b s).1).2)=(A5 e b s).2:=by
 rw [G6 hl h]
 cases hq:(A5 (Ap e) b s).2 <;> simp
theorem cS {f:FuncId}{m bs:Nat}{R:List HO}{e:Ex}{b c:Int}{s:Su}{args:List AV}{H:List HO}(hl:1<e.args.length)(h:(e.op=5∧c=b)∨(e.op=6∧c=0-b))(hG:Hl [((A5 (Ap e) b s).2,true)])(hc:C7 Tryz.prog f H args fun r H'=>r = .bool (A5 (B3 e) c (A5 (Ap e) b s).1).2∧∃v,H'=Mr m bs v (A5 (B3 e) c (A5 (Ap e) b s).1).1 R) :
  C7 Tryz.prog f H args fun r H'=>r = .bool (A5 (B3 e) c (A5 (Ap e) b s).1).2∧∃v,H'=Mr m bs v (A5 e b s).1 R:=by
 rw [lO hl h hG];exact hc
theorem Fj {m bs:Nat}{v:Value}{R:List HO}{t:Tm}{b:Int}{s:Su}(h:Pe t s.ts=false) :
  (HO.row v ((s.ts.map fun p=>G2 p.1) ++ [G2 t]).length 103 3 :: .box bs 196 [.val (.map (some m)),.row v 3 ((s.ts.map fun p=>G2 p.1) ++ [G2 t]),.int .i64 s.rest] :: .kmap m (Mo (Fr s.ts ++ [(G2 t,.int .i64 0)]) (Fr s.ts).length (.int .i64 (Fe t s.ts+b)))::R)=Mr m bs v ⟨He t b s.ts,s.rest⟩ R:=by
 obtain ⟨h1,h2⟩:=Zc (b:=b) h
 rw [Y0,h1,h2,Int.zero_add]
 show _=HO.row v ((s.ts ++ [(t,b)]).map fun p=>G2 p.1).length 103 3::_
 rw [List.map_append];rfl
theorem iV {c:Int}:∀(l:List (Tm×Int)) (j:Nat),((l.modify j (fun p=>(p.1,c))).map fun p=>G2 p.1)=l.map fun p=>G2 p.1
 | [],j=>by cases j <;> rfl
 | a::r,0=>rfl
 | a::r,j+1=>by simp only [List.modify_succ_cons,List.map_cons];rw [iV r j]
theorem Fm {m bs j:Nat}{v:Value}{R:List HO}{t:Tm}{b:Int}{s:Su}(h3:He t b s.ts=s.ts.modify j (fun p=>(p.1,Fe t s.ts+b))) :
  (HO.row v (s.ts.map fun p=>G2 p.1).length 103 3 :: .box bs 196 [.val (.map (some m)),.row v 3 (s.ts.map fun p=>G2 p.1),.int .i64 s.rest] :: .kmap m (Mo (Fr s.ts) j (.int .i64 (Fe t s.ts+b)))::R)=Mr m bs v ⟨He t b s.ts,s.rest⟩ R:=by
 have hm:=iV (c:=Fe t s.ts+b) s.ts j
 rw [Vs,h3]
 show _=HO.row v ((s.ts.modify j (fun p=>(p.1,Fe t s.ts+b))).map fun p=>G2 p.1).length 103 3::HO.box bs 196 [.val (.map (some m)),.row v 3 ((s.ts.modify j (fun p=>(p.1,Fe t s.ts+b))).map fun p=>G2 p.1),.int .i64 s.rest]::_
 rw [hm]
theorem Yk {a b:Bool}(h:a=true):(a||b)=true:=by rw [h];rfl
theorem Yo {a b:Bool}(h:b=true):(a||b)=true:=by rw [h];simp
theorem Zo {a b:Bool}(h:a=false)(h':b=false):(a||b)=false:=by rw [h,h'];rfl
theorem Tq {n:Nat}{s:Su}(h:suOK n s)(t:Tm) : -(n:Int)≤Fe t s.ts∧Fe t s.ts≤(n:Int):=by
 unfold Fe
 cases hf:s.ts.find? fun q=>Zi t q.1 with
 | none=>simp only [Option.map_none,Option.getD_none];omega
 | some q=>exact h.coef q (List.mem_of_find?_eq_some hf)
theorem iO {P:Program}{o:Oper}{ρ:Operand→AV}{x:AV}{a b:HO}{K:List HO→Prop}(h1:∀k:Nat,C3 P o ρ (fun H=>H[k]? = some a) x)(h2:∀k:Nat,C3 P o ρ (fun H=>H[k]? = some b) x)(h:∀H,K H→a∈H∨b∈H):C3 P o ρ K x:=by
 intro g w c H next Q hr hH hk hn
 rcases h H hk with h | h
 ·
  obtain ⟨k,hk⟩:=List.getElem?_of_mem h
  exact h1 k g w c H next Q hr hH hk hn
 ·
  obtain ⟨k,hk⟩:=List.getElem?_of_mem h
  exact h2 k g w c H next Q hr hH hk hn
theorem eX (t:Tm)(ts:List (Tm×Int)):∀p∈Fr ts ++ [(G2 t,AV.int .i64 0)],F0 TL [(0,1,true,3),(1,1,true,3),(2,1,true,3)] (G2 t) p.1=some (Gc t p.1):=by
 have:Fr ts ++ [(G2 t,AV.int .i64 0)]=Fr (ts ++ [(t,0)]):=by unfold Fr;rw [List.map_append];rfl
 rw [this];exact Ho t _
theorem jS {t:Tm}{ts:List (Tm×Int)}(h:Pe t ts=false):match F5 (Gc t) (Fr ts ++ [(G2 t,AV.int .i64 0)]) with | some y=>y = .int .i64 (Fe t ts) | none=>[AV.int .i64 0] = [.int .i64 (Fe t ts)]:=by
 have h1:Fr ts ++ [(G2 t,AV.int .i64 0)]=Fr (ts ++ [(t,0)]):=by unfold Fr;rw [List.map_append];rfl
 have h2:Fe t (ts ++ [(t,0)])=Fe t ts:=by
  rw [(Zc (b:=0) h).2]
  unfold Fe
  unfold Pe at h
  rw [List.find?_append]
  cases hf:ts.find? fun q=>Zi t q.1 with
  | some q=>rw [hf] at h;cases h
  | none=>rw [List.find?_cons,Jy.2 rfl];rfl
 rw [h1,←h2];exact Nt t _
theorem Da {e:Ex}(h:1<e.args.length):Av (Ap e)+Av (B3 e)+1≤Av e:=by
  have hp:=Dj e
  cases ha:e.args with
  | nil=>rw [ha] at h;simp at h
  | cons a r=>
    cases r with
    | nil=>rw [ha] at h;simp at h
    | cons b r=>
      have e0:Ap e=a:=by unfold Ap;rw [ha];rfl
      have e1:B3 e=b:=by unfold B3;rw [ha];rfl
      rw [e0,e1,hp,ha];simp;omega

def Cr (a b:Ex):Su:=if !(A5 a 1 H9).2 then (A5 a 1 H9).1 else (A5 b (-1) (A5 a 1 H9).1).1
theorem qS {a b:Ex}(hG:Hl [(!(A5 a 1 H9).2,false)]):Cr a b=(A5 b (-1) (A5 a 1 H9).1).1:=by
 have h2:(!(A5 a 1 H9).2)=false:=hG _ (List.mem_singleton.2 rfl)
 unfold Cr;rw [Cu h2]
theorem sB {f:FuncId}{m bs:Nat}{R:List HO}{a b:Ex}{args:List AV}{H:List HO}(hG:Hl [(!(A5 a 1 H9).2,false)])(hc:C7 Tryz.prog f H args fun r H'=>r = .bool (A5 b (-1) (A5 a 1 H9).1).2∧∃v,H'=Mr m bs v (A5 b (-1) (A5 a 1 H9).1).1 R) :
  C7 Tryz.prog f H args fun r H'=>r = .bool (A5 b (-1) (A5 a 1 H9).1).2∧∃v,H'=Mr m bs v (Cr a b) R:=by
 rw [qS hG];exact hc
theorem btw_f {m bs:Nat}{R:List HO}{v:Value}{a b:Ex}(hG:¬Hl [(!(A5 a 1 H9).2,false)]):∃u,Mr m bs v (A5 a 1 H9).1 R=Mr m bs u (Cr a b) R:=by
 have h2:(!(A5 a 1 H9).2)=true:=by
  rw [←Bool.not_eq_false]
  intro hx
  exact hG fun p hp=>by rw [List.mem_singleton.1 hp];exact hx
 refine ⟨v,?_⟩
 unfold Cr;rw [if_pos h2]
theorem zK {a b:Ex}(h:(!(A5 a 1 H9).2 || !(A5 b (-1) (A5 a 1 H9).1).2)=true):Bu a b=(oI,false):=by
 unfold Bu
 by_cases h1:(!(A5 a 1 H9).2)=true
 · rw [if_pos h1]
 · rw [if_neg h1,if_pos (by simpa [Bool.eq_false_iff.2 h1] using h)]
theorem jC {a b:Ex}(h:(!(A5 a 1 H9).2 || !(A5 b (-1) (A5 a 1 H9).1).2)=false):Bu a b=Mk (Cr a b):=by
 have h1:(!(A5 a 1 H9).2)=false:=by cases hx:(!(A5 a 1 H9).2) <;> simp_all
 have h2:(!(A5 b (-1) (A5 a 1 H9).1).2)=false:=by rw [h1] at h;simpa using h
 unfold Bu Cr
 rw [Cu h1,Cu h2,Cu h1]
theorem dO {a b:Ex}(h:(!(A5 a 1 H9).2 || !(A5 b (-1) (A5 a 1 H9).1).2)=false)(hp:C2 (Cr a b).ts [] []=none):Bu a b=(oI,false):=by
 rw [jC h,Mk,hp]
theorem oL {a b:Ex}{p m:List Tm}(h:(!(A5 a 1 H9).2 || !(A5 b (-1) (A5 a 1 H9).1).2)=false)(hp:C2 (Cr a b).ts [] []=some (p,m)):Bu a b=(⟨p,m,(Cr a b).rest⟩,decide ((p.length:Int)≤1)&&decide ((m.length:Int)≤1)):=by
 rw [jC h,Mk,hp]
theorem gG:suOK 0 H9:=⟨by simp [H9],by simp [H9],by simp [H9]⟩
theorem Xw {a b:Ex}(ha:Ci a=0)(hb:Ci b=0):suOK (Av a+Av b) (Cr a b):=by
 have h1:suOK (0+Av a) (A5 a 1 H9).1:=Uy a ha (.inl rfl) gG
 unfold Cr
 split
 · exact h1.mono (by omega)
 · exact (Uy b hb (.inr rfl) h1).mono (by omega)
theorem Vf {t:Tm}{b:Int}:∀{ts:List (Tm×Int)},(ts.map (·.1)).Nodup→((He t b ts).map (·.1)).Nodup∧∀u,u∈(He t b ts).map (·.1)→u=t∨u∈ts.map (·.1)
  | [],_=>by simp [He]
  | q::r,h=>by
    rw [He]
    rw [List.map_cons,List.nodup_cons] at h
    split
    · rename_i he
      refine ⟨by simpa using h,fun u hu=>.inr (by simpa using hu)⟩
    · rename_i hne
      obtain ⟨h1,h2⟩:=Vf (t:=t) (b:=b) h.2
      refine ⟨?_,fun u hu=>?_⟩
      · rw [List.map_cons,List.nodup_cons]
        refine ⟨fun hu=>?_,h1⟩
        rcases h2 _ hu with e | hm
        · exact hne e.symm
        · exact h.1 hm
      · rw [List.map_cons,List.mem_cons] at hu
        rcases hu with e | hu
        · right;rw [e];simp
        · rcases h2 _ hu with e | hm
          · exact .inl e
          · right;rw [List.map_cons];exact List.mem_cons_of_mem _ hm
theorem J2 (e:Ex):Ci e=0→∀{b:Int} {s:Su},(s.ts.map (·.1)).Nodup→((A5 e b s).1.ts.map (·.1)).Nodup:=by
 refine Ex.Aa8 (P:=fun e=>Ci e=0→∀{b:Int} {s:Su},(s.ts.map (·.1)).Nodup→((A5 e b s).1.ts.map (·.1)).Nodup) (fun e ih hn b s hs=>?_) e
 have hz:=A9 hn
 rw [Oj]
 unfold Zt
 split
 · exact hs
 ·
  split
  · exact (Vf hs).1
  ·
   have two:(e.op=5∨e.op=6)→∀c,((if !((Ps (fun _ s=>(s,false)) (e.args.map A5):Ma) b s).2 then (((Ps (fun _ s=>(s,false)) (e.args.map A5):Ma) b s).1,false) else (Xo (fun _ s=>(s,false)) (e.args.map A5):Ma) c ((Ps (fun _ s=>(s,false)) (e.args.map A5):Ma) b s).1).1.ts.map (·.1)).Nodup:=by
    intro ho c
    have hl:=Ea hz.1 (by omega)
    rw [Ju A5 _ (by omega),Kr A5 _ hl]
    have m0:=Ax (show 0<e.args.length by omega)
    have m1:=Bf hl
    have i0:=ih _ m0 (hz.2 _ m0) (b:=b) hs
    split
    · exact i0
    · exact ih _ m1 (hz.2 _ m1) i0
   split
   · rename_i h5;exact two (.inl (by simpa using h5)) b
   ·
    split
    · rename_i h6;exact two (.inr (by simpa using h6)) (0-b)
    · exact hs
theorem aL {a b:Ex}(ha:Ci a=0)(hb:Ci b=0):((Cr a b).ts.map (·.1)).Nodup:=by
 have h1:=J2 a ha (b:=1) (s:=H9) (by simp [H9])
 unfold Cr
 split
 · exact h1
 · exact J2 b hb h1
theorem vQ {ts:List (Tm×Int)}{k:Nat}{q:Tm×Int}(hn:(ts.map (·.1)).Nodup)(h:ts[k]? = some q):Fe q.1 ts=q.2:=by
  induction ts generalizing k with
  | nil=>simp at h
  | cons p r ih=>
    rw [List.map_cons,List.nodup_cons] at hn
    unfold Fe
    rw [List.find?_cons]
    cases k with
    | zero=>
      have:p=q:=by simpa using h
      subst this
      rw [Jy.2 rfl];rfl
    | succ k=>
      have hq:r[k]? = some q:=by simpa using h
      have hm:=List.mem_of_getElem? hq
      have hne:Zi q.1 p.1=false:=by
        rw [Bool.eq_false_iff]
        intro he
        have:=Jy.1 he
        exact hn.1 (by rw [←this];exact List.mem_map_of_mem hm)
      rw [hne]
      exact ih hn.2 hq
theorem tU {ts:List (Tm×Int)}{k:Nat}{q:Tm×Int}(hn:(ts.map (·.1)).Nodup)(h:ts[k]? = some q):match F5 (Gc q.1) (Fr ts) with | some y=>y = .int .i64 q.2 | none=>[AV.int .i64 0] = [.int .i64 q.2]:=by
 have h1:=Nt q.1 ts
 rw [vQ hn h] at h1
 exact h1
theorem jX {t:Tm×Int}{r:List (Tm×Int)}{p m:List Tm}(h:(t.2==0)=true):C2 (t::r) p m=C2 r p m:=by rw [C2,if_pos h]
theorem kW {t:Tm×Int}{r:List (Tm×Int)}{p m:List Tm}(h:(t.2==0)=false)(h1:(t.2==1)=true):C2 (t::r) p m=C2 r (p ++ [t.1]) m:=by rw [C2,Cu h,if_pos h1]
theorem kL {t:Tm×Int}{r:List (Tm×Int)}{p m:List Tm}(h:(t.2==0)=false)(h1:(t.2==1)=false)(h2:(t.2 == -1)=true):C2 (t::r) p m=C2 r p (m ++ [t.1]):=by rw [C2,Cu h,Cu h1,if_pos h2]
theorem kI {t:Tm×Int}{r:List (Tm×Int)}{p m:List Tm}(h:(t.2==0)=false)(h1:(t.2==1)=false)(h2:(t.2 == -1)=false):C2 (t::r) p m=none:=by rw [C2,Cu h,Cu h1,Cu h2]

theorem Jt {T:List Sc}{V:List Va}{e:Ex}(hk:KOK T V e)(h:Cc e=true):1<e.args.length:=by
 unfold Cc at h
 have h':e.op=7∨e.op=8∨e.op=9:=by simp at h;omega
 exact Ea (A9 hk.nodes).1 (by omega)
theorem pE {T:List Sc}{V:List Va}{e:Ex}(h:(e.op==1)=true):Cm T V e=true:=by rw [Cm,if_pos h]
theorem oP {T:List Sc}{V:List Va}{e:Ex}(h:(e.op==1)=false)(h2:(!Cc e)=true):Cm T V e=false:=by rw [Cm,Cu h,if_pos h2]
theorem pD {T:List Sc}{V:List Va}{e:Ex}(h:(e.op==1)=false)(h2:(!Cc e)=false)(h3:C0 T V e=true):Cm T V e=(Pz (Ap e)&&Pz (B3 e)):=by rw [Cm,Cu h,Cu h2,if_pos h3]
theorem Ur {T:List Sc}{V:List Va}{e:Ex}(h:(e.op==1)=false)(h2:(!Cc e)=false)(h3:C0 T V e=false):Cm T V e=(Bu (Ap e) (B3 e)).2:=by rw [Cm,Cu h,Cu h2,Cu h3]
theorem K2 {T:List Sc}{V:List Va}{e:Ex}(h:(C4 T V e != 0)=false):KOK T V e:=by
 have h0:C4 T V e=0:=by simpa using h
 unfold C4 at h0
 by_cases h1:((Cf T V e).2 != 0)=true
 · rw [if_pos h1] at h0;rw [h0] at h1;cases h1
 · exact (Yr (by simpa using h1)).1
theorem tF {T:List Sc}{V:List Va}{e:Ex}(h:(C4 T V e != 0)=true):L8 T V e=(false,C4 T V e):=by rw [L8,if_pos h]
theorem pF {T:List Sc}{V:List Va}{e:Ex}(h:(C4 T V e != 0)=false):L8 T V e=(Fx T V e,0):=by rw [L8,Cu h]

theorem Lw {e:Ex}(h:Bq e=0)(ho:(e.op==1||e.op==2)=true):Hs (Dh e)=e:=by
 have ho':e.op=1∨e.op=2:=by simpa using ho
 have hn:=Ud h (by omega)
 unfold Bq at h
 split at h
 · cases h
 split at h
 · cases h
 split at h
 · cases h
 split at h
 · cases h
 rw [if_neg (by simp;omega)] at h
 unfold Bj at h
 have hu:(Dd e.op).1=true:=by rcases ho' with ho | ho <;> rw [ho] <;> rfl
 split at h
 · cases h
 rename_i hf
 cases e with | mk op args var field kind val=>
 simp only at ho' hn hf hu ⊢
 rw [hu] at hf
 simp only [Bool.not_true,Bool.false_and,Bool.false_or,Bool.or_eq_true,not_or,Bool.and_eq_true,not_and,Bool.not_eq_true',bne_iff_ne,ne_eq,Decidable.not_not,Bool.or_eq_false_iff,beq_eq_false_iff_ne] at hf
 have hk:kind=0:=hf.1.2 (by omega)
 have hv:val=v0:=by
  have:=hf.2 ⟨by omega,by omega⟩
  rw [←qX];simpa using this
 have hfd:op=2→field=0:=fun h2=>hf.1.1 (by rw [h2];rfl)
 unfold Hs Dh
 subst hn;subst hk;subst hv
 rfl
abbrev gN:=Int→Su×Bool→Su×Bool
def colN (e:Ex)(fs:List gN):gN:=fun b s=>
 if e.op==0 then (⟨s.1.ts,s.1.rest+b*e.val.num⟩,s.2)
 else if e.op==1||e.op==2 then (⟨He (Dh e) b s.1.ts,s.1.rest⟩,s.2)
 else if e.op==5 then (Xo (fun _ s=>(s.1,false)) fs:gN) b ((Ps (fun _ s=>(s.1,false)) fs:gN) b s)
 else if e.op==6 then (Xo (fun _ s=>(s.1,false)) fs:gN) (0-b) ((Ps (fun _ s=>(s.1,false)) fs:gN) b s)
 else (s.1,false)
def colS:Ex→gN:=Or colN
theorem Ka {e:Ex}(h:Bq e=0):(e.op==0)=true∨((e.op==0)=false∧(e.op==1||e.op==2)=true)∨((e.op=5∨e.op=6)∧1<e.args.length)∨((e.op==0)=false∧(e.op==1||e.op==2)=false∧(e.op==5)=false∧(e.op==6)=false):=by
 by_cases h0:e.op=0
 · left;simpa using h0
 by_cases h1:e.op=1∨e.op=2
 · right;left;exact ⟨by simpa using h0,by simpa using h1⟩
 by_cases h5:e.op=5∨e.op=6
 · right;right;left;exact ⟨h5,Ea h (by omega)⟩
 · right;right;right;refine ⟨by simpa using h0,by simp;omega,by simp;omega,by simp;omega⟩
def hN (a b:Ex):Su×Bool:=colS b (-1) (colS a 1 (H9,true))
def differS (a b:Ex):Gp×Bool:=match C2 (hN a b).1.ts [] [] with
 | some (p,m)=>(⟨p,m,(hN a b).1.rest⟩,(hN a b).2&&(decide ((p.length:Int)≤1)&&decide ((m.length:Int)≤1)))
 | none=>(oI,false)
abbrev rTm (ts:List (Tm×Int)):List (List AV):=ts.map fun p=>cE (Hs p.1)
abbrev rCo (ts:List (Tm×Int)):List (List AV):=ts.map fun p=>[AV.int .i64 p.2]
abbrev linH (v u:Value)(ts:List (Tm×Int))(R:List HO):List HO:=.row v (rTm ts).length 30 8 :: .buf u (rCo ts) 3 1::R
abbrev linR (v u:Value)(s:Su)(ok:Bool):AV:=.agg [.row v 8 (rTm s.ts),.val u,.int .i64 s.rest,.bool ok]
def cGpR (g:Gp):List AV:=[.sl 8 (g.plus.map fun t=>cE (Hs t)),.sl 8 (g.minus.map fun t=>cE (Hs t)),.int .i64 g.rest]

structure KC (T:List Sc) (V:List Va) (e:Ex):Prop where
 kok:KOK T V e
 types:D9 T=0
 vars:Ic T V=0
 check:Bp e=0
theorem Uf {e:Ex}(h:Bp e=0):Av e≤64∧Ch e≤12∧Ci e=0:=by
 unfold Bp at h
 split at h
 · cases h
 rename_i h1
 split at h
 · cases h
 rename_i h2
 simp only [decide_eq_true_eq] at h1 h2
 exact ⟨by omega,by omega,h⟩
theorem pT {e:Ex}(h1:Av e≤64)(h2:Ch e≤12)(h3:Ci e=0):Bp e=0:=by
 unfold Bp
 rw [if_neg (by simp;omega),if_neg (by simp;omega)]
 exact h3
theorem nK {e a:Ex}(h:Bp e=0)(ha:a∈e.args):Bp a=0:=by
 obtain ⟨h1,h2,h3⟩:=Uf h
 have:=E9 ha
 have:=mD ha
 exact pT (by omega) (by omega) ((A9 h3).2 a ha)
theorem kc_arg {T:List Sc}{V:List Va}{e a:Ex}(h:KC T V e)(ha:a∈e.args):KC T V a:=⟨An h.kok ha,h.types,h.vars,nK h.check ha⟩
theorem Kv {T:List Sc}{V:List Va}{e:Ex}(h:KC T V e):Av e≤64:=(Uf h.check).1
theorem iY {T:List Sc}{V:List Va}{e:Ex}(h:KC T V e):Cf T V e=Ca T V e:=by
 unfold Cf
 rw [if_neg (by rw [h.types];decide),if_neg (by rw [h.vars];decide),if_neg (by rw [h.check];decide)]
theorem T6 {T:List Sc}{V:List Va}{e:Ex}(h:KC T V e):(Cf T V e).1=Ak T V e:=by rw [iY h,Jg h.kok]
theorem eT {T:List Sc}{V:List Va}{e:Ex}(h:(Cf T V e).2=0):KC T V e:=by
 have hk:=(Yr h).1
 unfold Cf at h
 by_cases h1:(D9 T != 0)=true
 · rw [if_pos h1] at h;simp only at h;rw [h] at h1;cases h1
 rw [if_neg h1] at h
 by_cases h2:(Ic T V != 0)=true
 · rw [if_pos h2] at h;simp only at h;rw [h] at h2;cases h2
 rw [if_neg h2] at h
 by_cases h3:(Bp e != 0)=true
 · rw [if_pos h3] at h;simp only at h;rw [h] at h3;cases h3
 exact ⟨hk,by simpa using h1,by simpa using h2,by simpa using h3⟩
theorem Nh {T:List Sc}{V:List Va}{e:Ex}(h:(C4 T V e != 0)=false):KC T V e∧Ak T V e=1:=by
 have h0:C4 T V e=0:=by simpa using h
 unfold C4 at h0
 by_cases h1:((Cf T V e).2 != 0)=true
 · rw [if_pos h1] at h0;rw [h0] at h1;cases h1
 ·
  rw [if_neg h1] at h0
  have hk:=eT (by simpa using h1)
  refine ⟨hk,?_⟩
  by_cases h2:((Cf T V e).1 != 1)=true
  · rw [if_pos h2] at h0;cases h0
  · rw [←T6 hk];simpa using h2
theorem jI {T:List Sc}{V:List Va}{e:Ex}(h:KC T V e)(hk:Ak T V e=1):C4 T V e=0:=by
 have h2:(Cf T V e).2=0:=by rw [iY h];exact h.kok.kind
 unfold C4
 rw [if_neg (by rw [h2];decide),if_neg (by rw [T6 h,hk];decide)]
theorem Pq {T:List Sc}{V:List Va}{e a:Ex}(h:KOK T V e)(ha:a∈e.args):Mp e.op (Ak T V a) (Ak T V (Ap e))=true:=by
 have hp:e.args≠[]:=by intro hn;rw [hn] at ha;cases ha
 have h1:=(Q5 h hp).2.1
 unfold Du at h1
 have h2:=Hx h1 _ (List.mem_map_of_mem (f:=fun a=>(Ca T V a).1) ha)
 have h0:0<e.args.length:=List.length_pos_iff.2 hp
 have h3:((e.args.map fun a=>(Ca T V a).1).headD 0)=(Ca T V (Ap e)).1:=by
  cases hargs:e.args with
  | nil=>exact absurd hargs hp
  | cons x r=>unfold Ap;rw [hargs];rfl
 rw [h3] at h2
 rw [Jg (An h ha),Jg (An h (Ax h0))] at h2
 split at h2
 · assumption
 · cases h2
theorem Lf {T:List Sc}{V:List Va}{e a:Ex}(h:KOK T V e)(ho:e.op=9)(ha:a∈e.args):Ak T V a=Ak T V (Ap e):=by
 have h1:=Pq h ha
 unfold Mp at h1
 rw [if_neg (by simp;omega),if_neg (by simp;omega),if_pos (by simp;omega)] at h1
 simpa using h1
def rcmpS (e:Ex):Bool:=(e.op != 7&&e.op != 8)&&e.op != 9
theorem aU {T:List Sc}{V:List Va}{e:Ex}(h:(e.op==9)=true):By T V e=(Ak T V (Ap e)==1):=by rw [By,if_pos h]
theorem Vx {T:List Sc}{V:List Va}{e:Ex}(h:(e.op==9)=false):By T V e=(((e.op==10||e.op==11)||e.op==12)||e.op==0):=by rw [By,Cu h]
end Go.Proofs.YtjedflcpjlgokaaGreatDoor
