/-
  Several texts in one: S14, S15, S16, S17, S18, S19. No condition.
-/
import Derived.Test.YtkddpedfbicbeaaGreatDoorK05
namespace Go.Proofs.YtkddpedfbicbeaaGreatDoor
open Go Go.Aw
set_option linter.unusedVariables false
set_option linter.unusedSimpArgs false

def GT:List (Nat×Nat×Bool×Nat):=[(0,1,true,3),(1,1,true,3),(2,1,true,3)]
def sMap (ts:List (Tm×Int)):List (List AV×AV):=ts.map fun p=>(cTm p.1,.int .i64 p.2)
def eqT (t u:Tm):Bool:=t.op == u.op&&(t.v == u.v&&t.field == u.field)
theorem eqT_iff {t u:Tm}:eqT t u=true↔t=u:=by
  unfold eqT
  cases t;cases u
  simp
def eqTm (t:Tm)(k:List AV):Bool:=(aeqs TL [(0,1,true,3),(1,1,true,3),(2,1,true,3)] (cTm t) k).getD false
theorem eqTm_is (t u:Tm):aeqs TL [(0,1,true,3),(1,1,true,3),(2,1,true,3)] (cTm t) (cTm u)=some (eqT t u):=by
  show some ((t.op == u.op)&&((t.v == u.v)&&((t.field == u.field)&&true)))=_
  rw [Bool.and_true];rfl
theorem eqTm_tm (t u:Tm):eqTm t (cTm u)=eqT t u:=by unfold eqTm;rw [eqTm_is];rfl
theorem sMap_eq (t:Tm)(ts:List (Tm×Int)):∀p∈sMap ts,aeqs TL [(0,1,true,3),(1,1,true,3),(2,1,true,3)] (cTm t) p.1=some (eqTm t p.1):=by
  intro p hp
  obtain ⟨x,_,rfl⟩:=List.mem_map.1 hp
  show aeqs TL _ (cTm t) (cTm x.1)=some (eqTm t (cTm x.1))
  rw [eqTm_is,eqTm_tm]
theorem sMap_len (ts:List (Tm×Int)):(sMap ts).length=ts.length:=List.length_map ..
def tIdx (t:Tm):List (Tm×Int)→Option Nat
  | []=>none
  | q::r=>if eqT t q.1 then some 0 else (tIdx t r).map (· + 1)
theorem kidx_t (t:Tm):∀ts:List (Tm×Int),kidx (eqTm t) (sMap ts)=tIdx t ts
  | []=>rfl
  | q::r=>by
    have ih:=kidx_t t r
    unfold sMap at ih ⊢
    rw [List.map_cons,kidx,eqTm_tm,ih,tIdx]
theorem kget_t (t:Tm):∀ts:List (Tm×Int),kget (eqTm t) (sMap ts)=(ts.find? fun q=>eqT t q.1).map fun q=>.int .i64 q.2
  | []=>rfl
  | q::r=>by
    have ih:=kget_t t r
    unfold sMap at ih ⊢
    rw [List.map_cons,kget,eqTm_tm,ih,List.find?_cons]
    cases eqT t q.1 <;> rfl
/-- the coefficient of a term -/
def coefS (t:Tm)(ts:List (Tm×Int)):Int:=((ts.find? fun q=>eqT t q.1).map fun q=>q.2).getD 0
def hasT (t:Tm)(ts:List (Tm×Int)):Bool:=(ts.find? fun q=>eqT t q.1).isSome
theorem look_t (t:Tm)(ts:List (Tm×Int)):match kget (eqTm t) (sMap ts) with | some y=>y = .int .i64 (coefS t ts) | none=>[AV.int .i64 0]=[.int .i64 (coefS t ts)]:=by
  rw [kget_t]
  unfold coefS
  cases ts.find? fun q=>eqT t q.1 <;> rfl
theorem has_t (t:Tm)(ts:List (Tm×Int)):(kget (eqTm t) (sMap ts)).isSome=hasT t ts:=by
  rw [kget_t]
  unfold hasT
  cases ts.find? fun q=>eqT t q.1 <;> rfl
theorem has_none {t:Tm}{ts:List (Tm×Int)}(h:hasT t ts=false):kget (eqTm t) (sMap ts)=none:=by
  rw [kget_t]
  unfold hasT at h
  cases hf:ts.find? fun q=>eqT t q.1 with
  | none=>rfl
  | some q=>rw [hf] at h;cases h
theorem add_new {t:Tm}{b:Int}:∀{ts:List (Tm×Int)},hasT t ts=false→addT t b ts=ts++[(t,b)]∧coefS t ts=0
  | [],_=>⟨rfl,rfl⟩
  | q::r,h=>by
    unfold hasT at h
    rw [List.find?_cons] at h
    cases hq:eqT t q.1 with
    | true=>rw [hq] at h;cases h
    | false=>
      rw [hq] at h
      obtain ⟨h1,h2⟩:=add_new (t:=t) (b:=b) (ts:=r) h
      have hne:¬t=q.1:=fun he=>by rw [eqT_iff.2 he] at hq;cases hq
      refine ⟨by rw [addT,if_neg hne,h1];rfl,?_⟩
      unfold coefS at h2 ⊢
      rw [List.find?_cons,hq];exact h2
theorem add_old {t:Tm}{b:Int}:∀{ts:List (Tm×Int)},hasT t ts=true→∃j,tIdx t ts=some j∧ts[j]? = some (t,coefS t ts)∧addT t b ts=ts.modify j (fun p=>(p.1,coefS t ts+b))
  | [],h=>by cases h
  | q::r,h=>by
    unfold hasT at h
    rw [List.find?_cons] at h
    cases hq:eqT t q.1 with
    | true=>
      have he:=eqT_iff.1 hq
      have hc:coefS t (q::r)=q.2:=by unfold coefS;rw [List.find?_cons,hq];rfl
      rw [hc]
      exact ⟨0,by rw [tIdx,if_pos hq],by subst he;rfl,by rw [addT,if_pos he];subst he;rfl⟩
    | false=>
      rw [hq] at h
      obtain ⟨j,h1,h2,h3⟩:=add_old (t:=t) (b:=b) (ts:=r) h
      have hne:¬t=q.1:=fun he=>by rw [eqT_iff.2 he] at hq;cases hq
      have hc:coefS t (q::r)=coefS t r:=by unfold coefS;rw [List.find?_cons,hq]
      rw [hc]
      exact ⟨j+1,by rw [tIdx,if_neg (by rw [hq];decide),h1];rfl,by simpa using h2,by rw [addT,if_neg hne,h3];rfl⟩
theorem sMap_at {ts:List (Tm×Int)}{j:Nat}{t:Tm}{c:Int}(h:ts[j]? = some (t,c)):(sMap ts)[j]? = some (cTm t,.int .i64 c):=by
  unfold sMap;rw [List.getElem?_map,h];rfl
theorem sMap_put {x:Int}:∀{ts:List (Tm×Int)} {j:Nat},kput (sMap ts) j (.int .i64 x)=sMap (ts.modify j fun p=>(p.1,x))
  | [],j=>by cases j <;> rfl
  | p::r,0=>rfl
  | p::r,j+1=>by
    have ih:=sMap_put (x:=x) (ts:=r) (j:=j)
    unfold kput sMap at ih ⊢
    simp only [List.map_cons,List.modify_succ_cons]
    rw [ih]
theorem sMap_end {ts:List (Tm×Int)}{t:Tm}{c:Int}:(sMap ts++[(cTm t,.int .i64 c)])[(sMap ts).length]? = some (cTm t,.int .i64 c):=by
  rw [List.getElem?_append_right (Nat.le_refl _),Nat.sub_self];rfl
theorem sMap_put_end {ts:List (Tm×Int)}{t:Tm}{c x:Int}:kput (sMap ts++[(cTm t,.int .i64 c)]) (sMap ts).length (.int .i64 x)=sMap (ts++[(t,x)]):=by
  rw [show sMap ts++[(cTm t,AV.int .i64 c)]=sMap (ts++[(t,c)]) by unfold sMap;rw [List.map_append];rfl,sMap_len,sMap_put]
  congr 1
  induction ts with
  | nil=>rfl
  | cons a r ih=>simpa using ih

/-! ### how far a sum reaches -/
structure suOK (n:Nat) (s:Su):Prop where
  rest : -(n:Int)*1099511627776≤s.rest∧s.rest≤(n:Int)*1099511627776
  coef:∀p∈s.ts,-(n:Int)≤p.2∧p.2≤(n:Int)
  len:s.ts.length≤n
theorem const_num {e:Ex}(h:nodeS e=0)(ho:e.op=0) : -1099511627776≤e.val.num∧e.val.num≤1099511627776:=by
  unfold nodeS at h
  split at h
  · cases h
  split at h
  · cases h
  split at h
  · cases h
  split at h
  · cases h
  rw [if_pos (by rw [ho];rfl)] at h
  have hc:constS e=0:=by
    by_cases hx:(constS e != 0)=true
    · rw [if_pos hx] at h;exact h
    · simpa using hx
  have hv:vcheckS e.val=0:=by
    unfold constS at hc
    by_cases hx:(vcheckS e.val != 0)=true
    · rw [if_pos hx] at hc;exact hc
    · simpa using hx
  have vs:e.val.kind=0∨e.val.kind=1→vsizeS e.val=0→-1099511627776≤e.val.num∧e.val.num≤1099511627776:=by
    intro hk hz
    unfold vsizeS at hz
    by_cases h1:(e.val.kind == 0&&(decide (e.val.num < -1099511627776)||decide (1099511627776 < e.val.num)))=true
    · rw [if_pos h1] at hz;cases hz
    · rw [if_neg h1] at hz
      rcases hk with hk | hk
      · simp [hk] at h1;omega
      · by_cases h2:(e.val.kind == 1&&e.val.num != 0&&e.val.num != 1)=true
        · rw [if_pos h2] at hz;cases hz
        · simp [hk] at h2;omega
  unfold vcheckS at hv
  by_cases h1:(e.val.kind == 0||e.val.kind == 1)=true
  · rw [if_pos h1] at hv
    split at hv
    · cases hv
    · exact vs (by simpa using h1) hv
  · rw [if_neg h1] at hv
    by_cases h2:(e.val.kind == 2)=true
    · rw [if_pos h2] at hv
      by_cases h3:(e.val.num != 0)=true
      · rw [if_pos h3] at hv;cases hv
      · have:e.val.num=0:=by simpa using h3
        omega
    · rw [if_neg h2] at hv;cases hv
theorem suOK.mono {n m:Nat}{s:Su}(h:suOK n s)(hm:n≤m):suOK m s:=
  ⟨by have:=h.rest;omega,fun p hp=>by have:=h.coef p hp;omega,Nat.le_trans h.len hm⟩
theorem addT_ok {n:Nat}{t:Tm}{b:Int}(hb:b=1∨b = -1):∀{ts:List (Tm×Int)},(∀p∈ts,-(n:Int)≤p.2∧p.2≤(n:Int))→(∀p∈addT t b ts,-((n+1:Nat):Int)≤p.2∧p.2≤((n+1:Nat):Int))∧(addT t b ts).length≤ts.length+1
  | [],_=>by simp [addT];omega
  | q::r,h=>by
    rw [addT]
    split
    · refine ⟨fun p hp=>?_,by simp⟩
      rcases List.mem_cons.1 hp with rfl | hp
      · have:=h q (by simp);simp only;omega
      · have:=h p (by simp [hp]);omega
    · obtain ⟨h1,h2⟩:=addT_ok hb (ts:=r) fun p hp=>h p (by simp [hp])
      refine ⟨fun p hp=>?_,by simp;omega⟩
      rcases List.mem_cons.1 hp with rfl | hp
      · have:=h p (by simp);omega
      · exact h1 p hp
theorem lin_ok (e:Ex):nodesS e=0→∀{n:Nat} {b:Int} {s:Su},b=1∨b = -1→suOK n s→suOK (n+sizeN e) (linS e b s).1:=by
  refine Ex.ind (P:=fun e=>nodesS e=0→∀{n:Nat} {b:Int} {s:Su},b=1∨b = -1→suOK n s→suOK (n+sizeN e) (linS e b s).1) (fun e ih hn n b s hb hs=>?_) e
  have hz:=nodes_zero hn
  have hsz:1≤sizeN e:=by rw [sizeN_eq];omega
  have hsum2:∀h:1 < e.args.length,sizeN (arg0 e)+sizeN (arg1 e)+1≤sizeN e:=fun h=>by
    have hp:=sizeN_eq e
    cases ha:e.args with
    | nil=>rw [ha] at h;simp at h
    | cons a r=>
      cases r with
      | nil=>rw [ha] at h;simp at h
      | cons b r=>
        have e0:arg0 e=a:=by unfold arg0;rw [ha];rfl
        have e1:arg1 e=b:=by unfold arg1;rw [ha];rfl
        rw [e0,e1,hp,ha];simp;omega
  rw [linS_eq]
  unfold linN
  split
  · rename_i h0
    have hc:=const_num hz.1 (by simpa using h0)
    refine (show suOK (n+1) _ from ⟨?_,fun p hp=>by have:=hs.coef p hp;omega,by have:=hs.len;simp only;omega⟩).mono (by omega)
    have:=hs.rest
    rcases hb with rfl | rfl <;> simp only <;> omega
  · split
    · obtain ⟨h1,h2⟩:=addT_ok (t:=tmOf e) hb hs.coef
      exact (show suOK (n+1) _ from ⟨by have:=hs.rest;simp only;omega,h1,by have:=hs.len;simp only;omega⟩).mono (by omega)
    · have two:(e.op=5∨e.op=6)→∀c,(c=1∨c = -1)→suOK (n+sizeN e) (if !((hd0 (fun _ s=>(s,false)) (e.args.map linS):LinF) b s).2 then (((hd0 (fun _ s=>(s,false)) (e.args.map linS):LinF) b s).1,false) else (hd1 (fun _ s=>(s,false)) (e.args.map linS):LinF) c ((hd0 (fun _ s=>(s,false)) (e.args.map linS):LinF) b s).1).1:=by
        intro ho c hc
        have hl:=len_two' hz.1 (by omega)
        have hs2:=hsum2 hl
        rw [hd0_map linS _ (by omega),hd1_map linS _ hl]
        have m0:=arg0_mem (show 0 < e.args.length by omega)
        have m1:=arg1_mem hl
        have i0:=ih _ m0 (hz.2 _ m0) hb hs
        split
        · exact i0.mono (by omega)
        · exact (ih _ m1 (hz.2 _ m1) hc i0).mono (by omega)
      split
      · rename_i h5;exact two (.inl (by simpa using h5)) b hb
      · split
        · rename_i h6;exact two (.inr (by simpa using h6)) (0 - b) (by omega)
        · exact hs.mono (by omega)

/-! ### the sum in the heap -/
abbrev sumH (m bs:Nat)(v:Value)(s:Su)(R:List HO):List HO:=.row v (s.ts.map fun p=>cTm p.1).length 143 3 :: .box bs 207 [.val (.map (some m)),.row v 3 (s.ts.map fun p=>cTm p.1),.int .i64 s.rest] :: .kmap m (sMap s.ts)::R
theorem lin_wrap {m bs:Nat}{R:List HO}{e:Ex}{b:Int}{s:Su}{X:Su×Bool}{r:AV}{H:List HO}(h:linS e b s=X)(k:r = .bool X.2∧∃v,H=sumH m bs v X.1 R):r = .bool (linS e b s).2∧∃v,H=sumH m bs v (linS e b s).1 R:=by rw [h];exact k
theorem lin_const {e:Ex}{b:Int}{s:Su}(h:(e.op == 0)=true):linS e b s=(⟨s.ts,s.rest+b*e.val.num⟩,true):=by rw [linS_eq,linN,if_pos h]
theorem lin_term {e:Ex}{b:Int}{s:Su}(h:(e.op == 0)=false)(h1:(e.op == 1||e.op == 2)=true):linS e b s=(⟨addT (tmOf e) b s.ts,s.rest⟩,true):=by rw [linS_eq,linN,ifF h,if_pos h1]
theorem lin_else {e:Ex}{b:Int}{s:Su}(h:(e.op == 0)=false)(h1:(e.op == 1||e.op == 2)=false)(h2:(e.op == 5)=false)(h3:(e.op == 6)=false):linS e b s=(s,false):=by rw [linS_eq,linN,ifF h,ifF h1,ifF h2,ifF h3]
theorem lin_two {e:Ex}{b c:Int}{s:Su}(hl:1 < e.args.length)(h:(e.op=5∧c=b)∨(e.op=6∧c=0 - b)):linS e b s=if !(linS (arg0 e) b s).2 then ((linS (arg0 e) b s).1,false) else linS (arg1 e) c (linS (arg0 e) b s).1:=by
  rw [linS_eq,linN]
  rcases h with ⟨h,rfl⟩ | ⟨h,rfl⟩
  · rw [ifF (by simp;omega),ifF (by simp;omega),if_pos (by simpa using h),hd0_map linS _ (by omega),hd1_map linS _ hl]
  · rw [ifF (by simp;omega),ifF (by simp;omega),ifF (by simp;omega),if_pos (by simpa using h),hd0_map linS _ (by omega),hd1_map linS _ hl]
theorem lin_two_t {e:Ex}{b c:Int}{s:Su}(hl:1 < e.args.length)(h:(e.op=5∧c=b)∨(e.op=6∧c=0 - b))(hG:allG [((linS (arg0 e) b s).2,true)]):linS e b s=linS (arg1 e) c (linS (arg0 e) b s).1:=by
  have h2:(linS (arg0 e) b s).2=true:=hG _ (List.mem_singleton.2 rfl)
  rw [lin_two hl h,h2];rfl
theorem lin_two_f {m bs:Nat}{R:List HO}{v:Value}{e:Ex}{b c:Int}{s:Su}(hl:1 < e.args.length)(h:(e.op=5∧c=b)∨(e.op=6∧c=0 - b))(hG:¬allG [((linS (arg0 e) b s).2,true)]):∃u,sumH m bs v (linS (arg0 e) b s).1 R=sumH m bs u (linS e b s).1 R:=by
  have h2:(linS (arg0 e) b s).2=false:=by
    rw [Bool.eq_false_iff]
    intro hx
    exact hG fun p hp=>by rw [List.mem_singleton.1 hp];exact hx
  refine ⟨v,?_⟩
  rw [lin_two hl h,h2];rfl
theorem lin_two_snd {e:Ex}{b c:Int}{s:Su}(hl:1 < e.args.length)(h:(e.op=5∧c=b)∨(e.op=6∧c=0 - b)):((linS (arg0 e) b s).2&&(linS (arg1 e) c (linS (arg0 e) b s).1).2)=(linS e b s).2:=by
  rw [lin_two hl h]
  cases hq:(linS (arg0 e) b s).2 <;> simp
theorem lin_call {f:FuncId}{m bs:Nat}{R:List HO}{e:Ex}{b c:Int}{s:Su}{args:List AV}{H:List HO}(hl:1 < e.args.length)(h:(e.op=5∧c=b)∨(e.op=6∧c=0 - b))(hG:allG [((linS (arg0 e) b s).2,true)])(hc:ACall Tryz.prog f H args fun r H'=>r = .bool (linS (arg1 e) c (linS (arg0 e) b s).1).2∧∃v,H'=sumH m bs v (linS (arg1 e) c (linS (arg0 e) b s).1).1 R) :
    ACall Tryz.prog f H args fun r H'=>r = .bool (linS (arg1 e) c (linS (arg0 e) b s).1).2∧∃v,H'=sumH m bs v (linS e b s).1 R:=by
  rw [lin_two_t hl h hG];exact hc
theorem sum_new {m bs:Nat}{v:Value}{R:List HO}{t:Tm}{b:Int}{s:Su}(h:hasT t s.ts=false) :
    (HO.row v ((s.ts.map fun p=>cTm p.1)++[cTm t]).length 143 3 :: .box bs 207 [.val (.map (some m)),.row v 3 ((s.ts.map fun p=>cTm p.1)++[cTm t]),.int .i64 s.rest] :: .kmap m (kput (sMap s.ts++[(cTm t,.int .i64 0)]) (sMap s.ts).length (.int .i64 (coefS t s.ts+b)))::R)=sumH m bs v ⟨addT t b s.ts,s.rest⟩ R:=by
  obtain ⟨h1,h2⟩:=add_new (b:=b) h
  rw [sMap_put_end,h1,h2,Int.zero_add]
  show _=HO.row v ((s.ts++[(t,b)]).map fun p=>cTm p.1).length 143 3::_
  rw [List.map_append];rfl
theorem mod_fst {c:Int}:∀(l:List (Tm×Int)) (j:Nat),((l.modify j (fun p=>(p.1,c))).map fun p=>cTm p.1)=l.map fun p=>cTm p.1
  | [],j=>by cases j <;> rfl
  | a::r,0=>rfl
  | a::r,j+1=>by simp only [List.modify_succ_cons,List.map_cons];rw [mod_fst r j]
theorem sum_old {m bs j:Nat}{v:Value}{R:List HO}{t:Tm}{b:Int}{s:Su}(h3:addT t b s.ts=s.ts.modify j (fun p=>(p.1,coefS t s.ts+b))) :
    (HO.row v (s.ts.map fun p=>cTm p.1).length 143 3 :: .box bs 207 [.val (.map (some m)),.row v 3 (s.ts.map fun p=>cTm p.1),.int .i64 s.rest] :: .kmap m (kput (sMap s.ts) j (.int .i64 (coefS t s.ts+b)))::R)=sumH m bs v ⟨addT t b s.ts,s.rest⟩ R:=by
  have hm:=mod_fst (c:=coefS t s.ts+b) s.ts j
  rw [sMap_put,h3]
  show _=HO.row v ((s.ts.modify j (fun p=>(p.1,coefS t s.ts+b))).map fun p=>cTm p.1).length 143 3::HO.box bs 207 [.val (.map (some m)),.row v 3 ((s.ts.modify j (fun p=>(p.1,coefS t s.ts+b))).map fun p=>cTm p.1),.int .i64 s.rest]::_
  rw [hm]
theorem or1 {a b:Bool}(h:a=true):(a||b)=true:=by rw [h];rfl
theorem or2 {a b:Bool}(h:b=true):(a||b)=true:=by rw [h];simp
theorem or0 {a b:Bool}(h:a=false)(h':b=false):(a||b)=false:=by rw [h,h'];rfl
theorem coef_ok {n:Nat}{s:Su}(h:suOK n s)(t:Tm) : -(n:Int)≤coefS t s.ts∧coefS t s.ts≤(n:Int):=by
  unfold coefS
  cases hf:s.ts.find? fun q=>eqT t q.1 with
  | none=>simp only [Option.map_none,Option.getD_none];omega
  | some q=>exact h.coef q (List.mem_of_find?_eq_some hf)
theorem OpP_or2 {P:Program}{o:Oper}{ρ:Operand→AV}{x:AV}{a b:HO}{K:List HO→Prop}(h1:∀k:Nat,OpP P o ρ (fun H=>H[k]? = some a) x)(h2:∀k:Nat,OpP P o ρ (fun H=>H[k]? = some b) x)(h:∀H,K H→a∈H∨b∈H):OpP P o ρ K x:=by
  intro g w c H next Q hr hH hk hn
  rcases h H hk with h | h
  · obtain ⟨k,hk⟩:=List.getElem?_of_mem h
    exact h1 k g w c H next Q hr hH hk hn
  · obtain ⟨k,hk⟩:=List.getElem?_of_mem h
    exact h2 k g w c H next Q hr hH hk hn
theorem sMap_eq' (t:Tm)(ts:List (Tm×Int)):∀p∈sMap ts++[(cTm t,AV.int .i64 0)],aeqs TL [(0,1,true,3),(1,1,true,3),(2,1,true,3)] (cTm t) p.1=some (eqTm t p.1):=by
  have:sMap ts++[(cTm t,AV.int .i64 0)]=sMap (ts++[(t,0)]):=by unfold sMap;rw [List.map_append];rfl
  rw [this];exact sMap_eq t _
theorem look_t' {t:Tm}{ts:List (Tm×Int)}(h:hasT t ts=false):match kget (eqTm t) (sMap ts++[(cTm t,AV.int .i64 0)]) with | some y=>y = .int .i64 (coefS t ts) | none=>[AV.int .i64 0]=[.int .i64 (coefS t ts)]:=by
  have h1:sMap ts++[(cTm t,AV.int .i64 0)]=sMap (ts++[(t,0)]):=by unfold sMap;rw [List.map_append];rfl
  have h2:coefS t (ts++[(t,0)])=coefS t ts:=by
    rw [(add_new (b:=0) h).2]
    unfold coefS
    unfold hasT at h
    rw [List.find?_append]
    cases hf:ts.find? fun q=>eqT t q.1 with
    | some q=>rw [hf] at h;cases h
    | none=>rw [List.find?_cons,eqT_iff.2 rfl];rfl
  rw [h1,←h2];exact look_t t _
theorem arg_sizes {e:Ex}(h:1 < e.args.length):sizeN (arg0 e)+sizeN (arg1 e)+1≤sizeN e:=by
  have hp:=sizeN_eq e
  cases ha:e.args with
  | nil=>rw [ha] at h;simp at h
  | cons a r=>
    cases r with
    | nil=>rw [ha] at h;simp at h
    | cons b r=>
      have e0:arg0 e=a:=by unfold arg0;rw [ha];rfl
      have e1:arg1 e=b:=by unfold arg1;rw [ha];rfl
      rw [e0,e1,hp,ha];simp;omega
end Go.Proofs.YtkddpedfbicbeaaGreatDoor

namespace Go.Proofs.YtkddpedfbicbeaaGreatDoor
open Go Go.Aw
set_option linter.unusedVariables false
set_option linter.unusedSimpArgs false

/-- the sum where between ends -/
def sumEnd (a b:Ex):Su:=if !(linS a 1 su0).2 then (linS a 1 su0).1 else (linS b (-1) (linS a 1 su0).1).1
theorem sumEnd_t {a b:Ex}(hG:allG [(!(linS a 1 su0).2,false)]):sumEnd a b=(linS b (-1) (linS a 1 su0).1).1:=by
  have h2:(!(linS a 1 su0).2)=false:=hG _ (List.mem_singleton.2 rfl)
  unfold sumEnd;rw [ifF h2]
theorem btw_call {f:FuncId}{m bs:Nat}{R:List HO}{a b:Ex}{args:List AV}{H:List HO}(hG:allG [(!(linS a 1 su0).2,false)])(hc:ACall Tryz.prog f H args fun r H'=>r = .bool (linS b (-1) (linS a 1 su0).1).2∧∃v,H'=sumH m bs v (linS b (-1) (linS a 1 su0).1).1 R) :
    ACall Tryz.prog f H args fun r H'=>r = .bool (linS b (-1) (linS a 1 su0).1).2∧∃v,H'=sumH m bs v (sumEnd a b) R:=by
  rw [sumEnd_t hG];exact hc
theorem btw_f {m bs:Nat}{R:List HO}{v:Value}{a b:Ex}(hG:¬allG [(!(linS a 1 su0).2,false)]):∃u,sumH m bs v (linS a 1 su0).1 R=sumH m bs u (sumEnd a b) R:=by
  have h2:(!(linS a 1 su0).2)=true:=by
    rw [←Bool.not_eq_false]
    intro hx
    exact hG fun p hp=>by rw [List.mem_singleton.1 hp];exact hx
  refine ⟨v,?_⟩
  unfold sumEnd;rw [if_pos h2]
theorem btw_no {a b:Ex}(h:(!(linS a 1 su0).2 || !(linS b (-1) (linS a 1 su0).1).2)=true):betweenS a b=(gp0,false):=by
  unfold betweenS
  by_cases h1:(!(linS a 1 su0).2)=true
  · rw [if_pos h1]
  · rw [if_neg h1,if_pos (by simpa [Bool.eq_false_iff.2 h1] using h)]
theorem btw_yes {a b:Ex}(h:(!(linS a 1 su0).2 || !(linS b (-1) (linS a 1 su0).1).2)=false):betweenS a b=gapOf (sumEnd a b):=by
  have h1:(!(linS a 1 su0).2)=false:=by cases hx:(!(linS a 1 su0).2) <;> simp_all
  have h2:(!(linS b (-1) (linS a 1 su0).1).2)=false:=by rw [h1] at h;simpa using h
  unfold betweenS sumEnd
  rw [ifF h1,ifF h2,ifF h1]
theorem btw_part_no {a b:Ex}(h:(!(linS a 1 su0).2 || !(linS b (-1) (linS a 1 su0).1).2)=false)(hp:partsS (sumEnd a b).ts [] []=none):betweenS a b=(gp0,false):=by
  rw [btw_yes h,gapOf,hp]
theorem btw_part {a b:Ex}{p m:List Tm}(h:(!(linS a 1 su0).2 || !(linS b (-1) (linS a 1 su0).1).2)=false)(hp:partsS (sumEnd a b).ts [] []=some (p,m)):betweenS a b=(⟨p,m,(sumEnd a b).rest⟩,decide ((p.length:Int)≤1)&&decide ((m.length:Int)≤1)):=by
  rw [btw_yes h,gapOf,hp]
theorem su0_ok:suOK 0 su0:=⟨by simp [su0],by simp [su0],by simp [su0]⟩
theorem sumEnd_ok {a b:Ex}(ha:nodesS a=0)(hb:nodesS b=0):suOK (sizeN a+sizeN b) (sumEnd a b):=by
  have h1:suOK (0+sizeN a) (linS a 1 su0).1:=lin_ok a ha (.inl rfl) su0_ok
  unfold sumEnd
  split
  · exact h1.mono (by omega)
  · exact (lin_ok b hb (.inr rfl) h1).mono (by omega)
/-- the terms of a sum are different ones -/
theorem addT_nodup {t:Tm}{b:Int}:∀{ts:List (Tm×Int)},(ts.map (·.1)).Nodup→((addT t b ts).map (·.1)).Nodup∧∀u,u∈(addT t b ts).map (·.1)→u=t∨u∈ts.map (·.1)
  | [],_=>by simp [addT]
  | q::r,h=>by
    rw [addT]
    rw [List.map_cons,List.nodup_cons] at h
    split
    · rename_i he
      refine ⟨by simpa using h,fun u hu=>.inr (by simpa using hu)⟩
    · rename_i hne
      obtain ⟨h1,h2⟩:=addT_nodup (t:=t) (b:=b) h.2
      refine ⟨?_,fun u hu=>?_⟩
      · rw [List.map_cons,List.nodup_cons]
        refine ⟨fun hu=>?_,h1⟩
        rcases h2 _ hu with e | hm
        · exact hne e.symm
        · exact h.1 hm
      · rw [List.map_cons,List.mem_cons] at hu
        rcases hu with e | hu
        · right;rw [e];simp
        · rcases h2 _ hu with e | hm
          · exact .inl e
          · right;rw [List.map_cons];exact List.mem_cons_of_mem _ hm
theorem lin_nodup (e:Ex):nodesS e=0→∀{b:Int} {s:Su},(s.ts.map (·.1)).Nodup→((linS e b s).1.ts.map (·.1)).Nodup:=by
  refine Ex.ind (P:=fun e=>nodesS e=0→∀{b:Int} {s:Su},(s.ts.map (·.1)).Nodup→((linS e b s).1.ts.map (·.1)).Nodup) (fun e ih hn b s hs=>?_) e
  have hz:=nodes_zero hn
  rw [linS_eq]
  unfold linN
  split
  · exact hs
  · split
    · exact (addT_nodup hs).1
    · have two:(e.op=5∨e.op=6)→∀c,((if !((hd0 (fun _ s=>(s,false)) (e.args.map linS):LinF) b s).2 then (((hd0 (fun _ s=>(s,false)) (e.args.map linS):LinF) b s).1,false) else (hd1 (fun _ s=>(s,false)) (e.args.map linS):LinF) c ((hd0 (fun _ s=>(s,false)) (e.args.map linS):LinF) b s).1).1.ts.map (·.1)).Nodup:=by
        intro ho c
        have hl:=len_two' hz.1 (by omega)
        rw [hd0_map linS _ (by omega),hd1_map linS _ hl]
        have m0:=arg0_mem (show 0 < e.args.length by omega)
        have m1:=arg1_mem hl
        have i0:=ih _ m0 (hz.2 _ m0) (b:=b) hs
        split
        · exact i0
        · exact ih _ m1 (hz.2 _ m1) i0
      split
      · rename_i h5;exact two (.inl (by simpa using h5)) b
      · split
        · rename_i h6;exact two (.inr (by simpa using h6)) (0 - b)
        · exact hs
theorem sumEnd_nodup {a b:Ex}(ha:nodesS a=0)(hb:nodesS b=0):((sumEnd a b).ts.map (·.1)).Nodup:=by
  have h1:=lin_nodup a ha (b:=1) (s:=su0) (by simp [su0])
  unfold sumEnd
  split
  · exact h1
  · exact lin_nodup b hb h1
/-- the coefficient that the map holds at a term of the list -/
theorem coef_at {ts:List (Tm×Int)}{k:Nat}{q:Tm×Int}(hn:(ts.map (·.1)).Nodup)(h:ts[k]? = some q):coefS q.1 ts=q.2:=by
  induction ts generalizing k with
  | nil=>simp at h
  | cons p r ih=>
    rw [List.map_cons,List.nodup_cons] at hn
    unfold coefS
    rw [List.find?_cons]
    cases k with
    | zero=>
      have:p=q:=by simpa using h
      subst this
      rw [eqT_iff.2 rfl];rfl
    | succ k=>
      have hq:r[k]? = some q:=by simpa using h
      have hm:=List.mem_of_getElem? hq
      have hne:eqT q.1 p.1=false:=by
        rw [Bool.eq_false_iff]
        intro he
        have:=eqT_iff.1 he
        exact hn.1 (by rw [←this];exact List.mem_map_of_mem hm)
      rw [hne]
      exact ih hn.2 hq
theorem look_at {ts:List (Tm×Int)}{k:Nat}{q:Tm×Int}(hn:(ts.map (·.1)).Nodup)(h:ts[k]? = some q):match kget (eqTm q.1) (sMap ts) with | some y=>y = .int .i64 q.2 | none=>[AV.int .i64 0]=[.int .i64 q.2]:=by
  have h1:=look_t q.1 ts
  rw [coef_at hn h] at h1
  exact h1
theorem parts_0 {t:Tm×Int}{r:List (Tm×Int)}{p m:List Tm}(h:(t.2 == 0)=true):partsS (t::r) p m=partsS r p m:=by rw [partsS,if_pos h]
theorem parts_1 {t:Tm×Int}{r:List (Tm×Int)}{p m:List Tm}(h:(t.2 == 0)=false)(h1:(t.2 == 1)=true):partsS (t::r) p m=partsS r (p++[t.1]) m:=by rw [partsS,ifF h,if_pos h1]
theorem parts_2 {t:Tm×Int}{r:List (Tm×Int)}{p m:List Tm}(h:(t.2 == 0)=false)(h1:(t.2 == 1)=false)(h2:(t.2 == -1)=true):partsS (t::r) p m=partsS r p (m++[t.1]):=by rw [partsS,ifF h,ifF h1,if_pos h2]
theorem parts_3 {t:Tm×Int}{r:List (Tm×Int)}{p m:List Tm}(h:(t.2 == 0)=false)(h1:(t.2 == 1)=false)(h2:(t.2 == -1)=false):partsS (t::r) p m=none:=by rw [partsS,ifF h,ifF h1,ifF h2]
end Go.Proofs.YtkddpedfbicbeaaGreatDoor

namespace Go.Proofs.YtkddpedfbicbeaaGreatDoor
open Go Go.Aw
set_option linter.unusedVariables false
set_option linter.unusedSimpArgs false

theorem cmp_two {T:List Sc}{V:List Va}{e:Ex}(hk:KOK T V e)(h:comparesS e=true):1 < e.args.length:=by
  unfold comparesS at h
  have h':e.op=7∨e.op=8∨e.op=9:=by simp at h;omega
  exact len_two' (nodes_zero hk.nodes).1 (by omega)
theorem simple_1 {T:List Sc}{V:List Va}{e:Ex}(h:(e.op == 1)=true):simpleS T V e=true:=by rw [simpleS,if_pos h]
theorem simple_2 {T:List Sc}{V:List Va}{e:Ex}(h:(e.op == 1)=false)(h2:(!comparesS e)=true):simpleS T V e=false:=by rw [simpleS,ifF h,if_pos h2]
theorem simple_3 {T:List Sc}{V:List Va}{e:Ex}(h:(e.op == 1)=false)(h2:(!comparesS e)=false)(h3:textsS T V e=true):simpleS T V e=(directS (arg0 e)&&directS (arg1 e)):=by rw [simpleS,ifF h,ifF h2,if_pos h3]
theorem simple_4 {T:List Sc}{V:List Va}{e:Ex}(h:(e.op == 1)=false)(h2:(!comparesS e)=false)(h3:textsS T V e=false):simpleS T V e=(betweenS (arg0 e) (arg1 e)).2:=by rw [simpleS,ifF h,ifF h2,ifF h3]
theorem condE_kok {T:List Sc}{V:List Va}{e:Ex}(h:(condE T V e != 0)=false):KOK T V e:=by
  have h0:condE T V e=0:=by simpa using h
  unfold condE at h0
  by_cases h1:((KindS T V e).2 != 0)=true
  · rw [if_pos h1] at h0;rw [h0] at h1;cases h1
  · exact (KindS_kok (by simpa using h1)).1
theorem PlainS_1 {T:List Sc}{V:List Va}{e:Ex}(h:(condE T V e != 0)=true):PlainS T V e=(false,condE T V e):=by rw [PlainS,if_pos h]
theorem PlainS_2 {T:List Sc}{V:List Va}{e:Ex}(h:(condE T V e != 0)=false):PlainS T V e=(plainS T V e,0):=by rw [PlainS,ifF h]
end Go.Proofs.YtkddpedfbicbeaaGreatDoor

namespace Go.Proofs.YtkddpedfbicbeaaGreatDoor
open Go Go.Aw
set_option linter.unusedVariables false
set_option linter.unusedSimpArgs false

theorem leaf_tm {e:Ex}(h:nodeS e=0)(ho:(e.op == 1||e.op == 2)=true):tmE (tmOf e)=e:=by
  have ho':e.op=1∨e.op=2:=by simpa using ho
  have hn:=leaf_nil h (by omega)
  unfold nodeS at h
  split at h
  · cases h
  split at h
  · cases h
  split at h
  · cases h
  split at h
  · cases h
  rw [if_neg (by simp;omega)] at h
  unfold formS at h
  have hu:(usesS e.op).1=true:=by rcases ho' with ho | ho <;> rw [ho] <;> rfl
  split at h
  · cases h
  rename_i hf
  cases e with | mk op args var field kind val=>
  simp only at ho' hn hf hu ⊢
  rw [hu] at hf
  simp only [Bool.not_true,Bool.false_and,Bool.false_or,Bool.or_eq_true,not_or,Bool.and_eq_true,not_and,Bool.not_eq_true',bne_iff_ne,ne_eq,Decidable.not_not,Bool.or_eq_false_iff,beq_eq_false_iff_ne] at hf
  have hk:kind=0:=hf.1.2 (by omega)
  have hv:val=v0:=by
    have:=hf.2 ⟨by omega,by omega⟩
    rw [←isV0_iff];simpa using this
  have hfd:op=2→field=0:=fun h2=>hf.1.1 (by rw [h2];rfl)
  unfold tmE tmOf
  subst hn;subst hk;subst hv
  rfl
theorem sameS_tm (t u:Tm):sameS (tmE t) (tmE u)=eqT t u:=by
  have h1:sameS (tmE t) (tmE u)=true↔t=u:=by
    rw [sameS_iff]
    refine ⟨fun h=>?_,fun h=>by rw [h]⟩
    unfold tmE at h
    cases t;cases u
    simp at h
    simp [h]
  cases hq:eqT t u with
  | true=>exact h1.2 (eqT_iff.1 hq)
  | false=>rw [Bool.eq_false_iff];intro hh;rw [eqT_iff.2 (h1.1 hh)] at hq;cases hq
theorem sameS_tm' (t u:Tm):sameS (tmE u) (tmE t)=eqT t u:=by
  rw [sameS_tm]
  cases hq:eqT t u with
  | true=>rw [eqT_iff];exact (eqT_iff.1 hq).symm
  | false=>rw [Bool.eq_false_iff];intro hh;rw [eqT_iff.2 (eqT_iff.1 hh).symm] at hq;cases hq
abbrev LinC:=Int→Su×Bool→Su×Bool
def colN (e:Ex)(fs:List LinC):LinC:=fun b s=>
  if e.op == 0 then (⟨s.1.ts,s.1.rest+b*e.val.num⟩,s.2)
  else if e.op == 1||e.op == 2 then (⟨addT (tmOf e) b s.1.ts,s.1.rest⟩,s.2)
  else if e.op == 5 then (hd1 (fun _ s=>(s.1,false)) fs:LinC) b ((hd0 (fun _ s=>(s.1,false)) fs:LinC) b s)
  else if e.op == 6 then (hd1 (fun _ s=>(s.1,false)) fs:LinC) (0 - b) ((hd0 (fun _ s=>(s.1,false)) fs:LinC) b s)
  else (s.1,false)
def colS:Ex→LinC:=recE colN
theorem colS_eq (e:Ex):colS e=colN e (e.args.map colS):=recE_eq colN e
theorem col_const {e:Ex}{b:Int}{s:Su×Bool}(h:(e.op == 0)=true):colS e b s=(⟨s.1.ts,s.1.rest+b*e.val.num⟩,s.2):=by rw [colS_eq,colN,if_pos h]
theorem col_term {e:Ex}{b:Int}{s:Su×Bool}(h:(e.op == 0)=false)(h1:(e.op == 1||e.op == 2)=true):colS e b s=(⟨addT (tmOf e) b s.1.ts,s.1.rest⟩,s.2):=by rw [colS_eq,colN,ifF h,if_pos h1]
theorem col_else {e:Ex}{b:Int}{s:Su×Bool}(h:(e.op == 0)=false)(h1:(e.op == 1||e.op == 2)=false)(h2:(e.op == 5)=false)(h3:(e.op == 6)=false):colS e b s=(s.1,false):=by rw [colS_eq,colN,ifF h,ifF h1,ifF h2,ifF h3]
theorem col_two {e:Ex}{b c:Int}{s:Su×Bool}(hl:1 < e.args.length)(h:(e.op=5∧c=b)∨(e.op=6∧c=0 - b)):colS e b s=colS (arg1 e) c (colS (arg0 e) b s):=by
  rw [colS_eq,colN]
  rcases h with ⟨h,rfl⟩ | ⟨h,rfl⟩
  · rw [ifF (by simp;omega),ifF (by simp;omega),if_pos (by simpa using h),hd0_map colS _ (by omega),hd1_map colS _ hl]
  · rw [ifF (by simp;omega),ifF (by simp;omega),ifF (by simp;omega),if_pos (by simpa using h),hd0_map colS _ (by omega),hd1_map colS _ hl]
theorem op_cases {e:Ex}(h:nodeS e=0):(e.op == 0)=true∨((e.op == 0)=false∧(e.op == 1||e.op == 2)=true)∨((e.op=5∨e.op=6)∧1 < e.args.length)∨((e.op == 0)=false∧(e.op == 1||e.op == 2)=false∧(e.op == 5)=false∧(e.op == 6)=false):=by
  by_cases h0:e.op=0
  · left;simpa using h0
  by_cases h1:e.op=1∨e.op=2
  · right;left;exact ⟨by simpa using h0,by simpa using h1⟩
  by_cases h5:e.op=5∨e.op=6
  · right;right;left;exact ⟨h5,len_two' h (by omega)⟩
  · right;right;right;refine ⟨by simpa using h0,by simp;omega,by simp;omega,by simp;omega⟩
theorem pair_false:∀{x:Su×Bool},x.2=false→x=(x.1,false)
  | ⟨_,_⟩,h=>by simp only at h;rw [h]
theorem col_false (e:Ex):nodesS e=0→∀{b:Int} {s:Su},(colS e b (s,false)).2=false:=by
  refine Ex.ind (P:=fun e=>nodesS e=0→∀{b:Int} {s:Su},(colS e b (s,false)).2=false) (fun e ih hn b s=>?_) e
  have hz:=nodes_zero hn
  rcases op_cases hz.1 with h | ⟨h,h1⟩ | ⟨h,hl⟩ | ⟨h,h1,h2,h3⟩
  · rw [col_const h]
  · rw [col_term h h1]
  · have m0:=arg0_mem (show 0 < e.args.length by omega)
    have m1:=arg1_mem hl
    have key:∀c,(colS (arg1 e) c (colS (arg0 e) b (s,false))).2=false:=fun c=>by
      rw [pair_false (ih _ m0 (hz.2 _ m0) (b:=b) (s:=s))]
      exact ih _ m1 (hz.2 _ m1)
    rcases h with h | h
    · rw [col_two (c:=b) hl (.inl ⟨h,rfl⟩)];exact key _
    · rw [col_two (c:=0 - b) hl (.inr ⟨h,rfl⟩)];exact key _
  · rw [col_else h h1 h2 h3]
theorem col_lin (e:Ex):nodesS e=0→∀{b:Int} {s:Su} {ok:Bool},((linS e b s).2=true→colS e b (s,ok)=((linS e b s).1,ok))∧((linS e b s).2=false→(colS e b (s,ok)).2=false):=by
  refine Ex.ind (P:=fun e=>nodesS e=0→∀{b:Int} {s:Su} {ok:Bool},((linS e b s).2=true→colS e b (s,ok)=((linS e b s).1,ok))∧((linS e b s).2=false→(colS e b (s,ok)).2=false)) (fun e ih hn b s ok=>?_) e
  have hz:=nodes_zero hn
  rcases op_cases hz.1 with h | ⟨h,h1⟩ | ⟨h,hl⟩ | ⟨h,h1,h2,h3⟩
  · rw [col_const h,lin_const h];simp
  · rw [col_term h h1,lin_term h h1];simp
  · have m0:=arg0_mem (show 0 < e.args.length by omega)
    have m1:=arg1_mem hl
    have key:∀c,linS e b s=(if !(linS (arg0 e) b s).2 then ((linS (arg0 e) b s).1,false) else linS (arg1 e) c (linS (arg0 e) b s).1)→colS e b (s,ok)=colS (arg1 e) c (colS (arg0 e) b (s,ok))→((linS e b s).2=true→colS e b (s,ok)=((linS e b s).1,ok))∧((linS e b s).2=false→(colS e b (s,ok)).2=false):=fun c h1 h2=>by
      rw [h1,h2]
      obtain ⟨i1,i2⟩:=ih _ m0 (hz.2 _ m0) (b:=b) (s:=s) (ok:=ok)
      cases hq:(linS (arg0 e) b s).2 with
      | true=>
        rw [i1 hq]
        simp only [Bool.not_true,Bool.false_eq_true,if_false]
        exact ih _ m1 (hz.2 _ m1)
      | false=>
        simp only [Bool.not_false,if_true]
        refine ⟨fun h=>Bool.noConfusion h,fun _=>?_⟩
        rw [pair_false (i2 hq)]
        exact col_false _ (hz.2 _ m1)
    rcases h with h | h
    · exact key b (lin_two hl (.inl ⟨h,rfl⟩)) (col_two hl (.inl ⟨h,rfl⟩))
    · exact key (0 - b) (lin_two hl (.inr ⟨h,rfl⟩)) (col_two hl (.inr ⟨h,rfl⟩))
  · rw [col_else h h1 h2 h3,lin_else h h1 h2 h3];simp
theorem col_ok (e:Ex):nodesS e=0→∀{n:Nat} {b:Int} {s:Su×Bool},b=1∨b = -1→suOK n s.1→suOK (n+sizeN e) (colS e b s).1:=by
  refine Ex.ind (P:=fun e=>nodesS e=0→∀{n:Nat} {b:Int} {s:Su×Bool},b=1∨b = -1→suOK n s.1→suOK (n+sizeN e) (colS e b s).1) (fun e ih hn n b s hb hs=>?_) e
  have hz:=nodes_zero hn
  have hsz:1≤sizeN e:=by rw [sizeN_eq];omega
  rcases op_cases hz.1 with h | ⟨h,h1⟩ | ⟨h,hl⟩ | ⟨h,h1,h2,h3⟩
  · rw [col_const h]
    have hc:=const_num hz.1 (by simpa using h)
    refine (show suOK (n+1) _ from ⟨?_,fun p hp=>by have:=hs.coef p hp;omega,by have:=hs.len;simp only;omega⟩).mono (by omega)
    have:=hs.rest
    rcases hb with rfl | rfl <;> simp only <;> omega
  · rw [col_term h h1]
    obtain ⟨h1,h2⟩:=addT_ok (t:=tmOf e) hb hs.coef
    exact (show suOK (n+1) _ from ⟨by have:=hs.rest;simp only;omega,h1,by have:=hs.len;simp only;omega⟩).mono (by omega)
  · have m0:=arg0_mem (show 0 < e.args.length by omega)
    have m1:=arg1_mem hl
    have hs2:=arg_sizes hl
    have i0:=ih _ m0 (hz.2 _ m0) hb hs
    rcases h with h | h
    · rw [col_two (c:=b) hl (.inl ⟨h,rfl⟩)];exact (ih _ m1 (hz.2 _ m1) hb i0).mono (by omega)
    · rw [col_two (c:=0 - b) hl (.inr ⟨h,rfl⟩)];exact (ih _ m1 (hz.2 _ m1) (by omega) i0).mono (by omega)
  · rw [col_else h h1 h2 h3];exact hs.mono (by omega)
/-- the sum where difference ends -/
def colEnd (a b:Ex):Su×Bool:=colS b (-1) (colS a 1 (su0,true))
def differS (a b:Ex):Gp×Bool:=match partsS (colEnd a b).1.ts [] [] with
  | some (p,m)=>(⟨p,m,(colEnd a b).1.rest⟩,(colEnd a b).2&&(decide ((p.length:Int)≤1)&&decide ((m.length:Int)≤1)))
  | none=>(gp0,false)
theorem colEnd_ok {a b:Ex}(ha:nodesS a=0)(hb:nodesS b=0):suOK (sizeN a+sizeN b) (colEnd a b).1:=by
  have h1:suOK (0+sizeN a) (colS a 1 (su0,true)).1:=col_ok a ha (.inl rfl) su0_ok
  exact (col_ok b hb (.inr rfl) h1).mono (by omega)
theorem differ_yes {a b:Ex}(ha:nodesS a=0)(hb:nodesS b=0)(h:(betweenS a b).2=true):differS a b=betweenS a b:=by
  unfold betweenS at h ⊢
  split at h
  · cases h
  rename_i h1
  rw [if_neg h1]
  split at h
  · cases h
  rename_i h2
  rw [if_neg h2]
  have e1:colS a 1 (su0,true)=((linS a 1 su0).1,true):=(col_lin a ha).1 (by simpa using h1)
  have e2:colS b (-1) ((linS a 1 su0).1,true)=((linS b (-1) (linS a 1 su0).1).1,true):=(col_lin b hb).1 (by simpa using h2)
  unfold differS colEnd gapOf
  rw [e1,e2]
  cases partsS (linS b (-1) (linS a 1 su0).1).1.ts [] [] with
  | none=>rfl
  | some p=>obtain ⟨p,m⟩:=p;simp
theorem differ_snd {a b:Ex}(ha:nodesS a=0)(hb:nodesS b=0):(differS a b).2=(betweenS a b).2:=by
  have key:(colEnd a b).2=false→(differS a b).2=false:=fun h=>by
    unfold differS
    cases partsS (colEnd a b).1.ts [] [] with
    | none=>rfl
    | some p=>obtain ⟨p,m⟩:=p;simp [h]
  cases hq:(betweenS a b).2 with
  | true=>rw [differ_yes ha hb hq];exact hq
  | false=>
    unfold betweenS at hq
    split at hq
    · rename_i h1
      refine key ?_
      have e1:=(col_lin a ha (b:=1) (s:=su0) (ok:=true)).2 (by simpa using h1)
      unfold colEnd
      rw [pair_false e1]
      exact col_false _ hb
    · rename_i h1
      have e1:colS a 1 (su0,true)=((linS a 1 su0).1,true):=(col_lin a ha).1 (by simpa using h1)
      split at hq
      · rename_i h2
        refine key ?_
        unfold colEnd
        rw [e1]
        exact (col_lin b hb).2 (by simpa using h2)
      · rename_i h2
        have e2:colS b (-1) ((linS a 1 su0).1,true)=((linS b (-1) (linS a 1 su0).1).1,true):=(col_lin b hb).1 (by simpa using h2)
        unfold differS colEnd
        unfold gapOf at hq
        rw [e1,e2]
        cases hp:partsS (linS b (-1) (linS a 1 su0).1).1.ts [] [] with
        | none=>rfl
        | some p=>obtain ⟨p,m⟩:=p;rw [hp] at hq;simpa using hq

/-! ### the sum in the heap -/
abbrev rTm (ts:List (Tm×Int)):List (List AV):=ts.map fun p=>cE (tmE p.1)
abbrev rCo (ts:List (Tm×Int)):List (List AV):=ts.map fun p=>[AV.int .i64 p.2]
abbrev linH (v u:Value)(ts:List (Tm×Int))(R:List HO):List HO:=.row v (rTm ts).length 30 8 :: .buf u (rCo ts) 3 1::R
abbrev linR (v u:Value)(s:Su)(ok:Bool):AV:=.agg [.row v 8 (rTm s.ts),.val u,.int .i64 s.rest,.bool ok]
theorem sc_lin {v u:Value}{es:List (List AV)}{r:Int}{ok:Bool}(h:u.oneCell'=true):scalars [AV.row v 8 es,.val u,.int .i64 r,.bool ok]=true:=by simp [scalars,scalar,h]
theorem nat_ble {a b:Nat}(h:a≤b):Nat.ble a b=true:=Nat.ble_eq_true_of_le h
theorem addT_at {t:Tm}{b:Int}:∀{ts:List (Tm×Int)} {k:Nat} {q:Tm×Int},(ts.take k).all (fun q=>!eqT t q.1)=true→ts[k]? = some q→eqT t q.1=true→addT t b ts=ts.set k (q.1,q.2+b)
  | [],k,q,_,h,_=>by simp at h
  | p::r,0,q,_,h,he=>by
    have:p=q:=by simpa using h
    subst this
    rw [addT,if_pos (eqT_iff.1 he)];rfl
  | p::r,k+1,q,h1,h,he=>by
    simp only [List.take_succ_cons,List.all_cons,Bool.and_eq_true] at h1
    have hne:¬t=p.1:=fun hh=>by rw [eqT_iff.2 hh] at h1;simp at h1
    rw [addT,if_neg hne,addT_at h1.2 (by simpa using h) he];rfl
theorem addT_end {t:Tm}{b:Int}:∀{ts:List (Tm×Int)},ts.all (fun q=>!eqT t q.1)=true→addT t b ts=ts++[(t,b)]
  | [],_=>rfl
  | p::r,h1=>by
    simp only [List.all_cons,Bool.and_eq_true] at h1
    have hne:¬t=p.1:=fun hh=>by rw [eqT_iff.2 hh] at h1;simp at h1
    rw [addT,if_neg hne,addT_end h1.2];rfl
theorem rTm_set {ts:List (Tm×Int)}{k:Nat}{q:Tm×Int}{x:Int}(h:ts[k]? = some q):rTm (ts.set k (q.1,x))=rTm ts:=by
  refine List.ext_getElem? fun i=>?_
  simp only [rTm,List.getElem?_map,List.getElem?_set]
  split
  · rename_i hi;subst hi
    rw [h]
    split
    · rfl
    · rename_i hl;exact absurd (get_lt' h) hl
  · rfl
theorem rCo_set {ts:List (Tm×Int)}{k:Nat}{t:Tm}{x:Int}:rCo (ts.set k (t,x))=(rCo ts).set k [AV.int .i64 x]:=by simp [rCo,List.map_set]
theorem rCo_flat (ts:List (Tm×Int)):(rCo ts).flatten=ts.map fun p=>AV.int .i64 p.2:=by
  induction ts with
  | nil=>rfl
  | cons p r ih=>simp only [rCo,List.map_cons,List.flatten_cons] at ih ⊢;rw [ih];rfl
theorem rCo_one (ts:List (Tm×Int)):∀e∈rCo ts,e.length=1:=by
  intro e he
  obtain ⟨p,_,rfl⟩:=List.mem_map.1 he
  rfl
theorem rCo_at {ts:List (Tm×Int)}{k:Nat}{q:Tm×Int}{J:List AV}(h:ts[k]? = some q):((rCo ts).flatten++J)[0+((k:Int)).toNat*1]? = some (.int .i64 q.2):=by
  have hl:=get_lt' h
  rw [show 0+((k:Int)).toNat*1=k by omega,rCo_flat,List.getElem?_append_left (by simpa using hl),List.getElem?_map,h];rfl
theorem rCo_le {ts:List (Tm×Int)}{k:Nat}{q:Tm×Int}{J:List AV}(h:ts[k]? = some q):Nat.ble (0+((k:Int)).toNat*1+1) ((rCo ts).flatten++J).length=true:=by
  have hl:=get_lt' h
  refine nat_ble ?_
  rw [List.length_append,rCo_flat,List.length_map]
  omega
theorem rCo_put {ts:List (Tm×Int)}{k:Nat}{q:Tm×Int}{J:List AV}{x:Int}(h:ts[k]? = some q):setSeg ((rCo ts).flatten++J) (0+((k:Int)).toNat*1) [.int .i64 x]=((rCo ts).set k [AV.int .i64 x]).flatten++J:=by
  have hl:=get_lt' h
  rw [show 0+((k:Int)).toNat*1=k by omega]
  have e1:(rCo ts).set k [AV.int .i64 x]=rCo (ts.set k (q.1,x)):=by rw [rCo_set]
  rw [e1,rCo_flat,rCo_flat,List.map_set]
  unfold setSeg
  rw [List.take_append_of_le_length (by simp;omega),List.drop_append_of_le_length (by simp;omega)]
  have hm:k < (ts.map fun p=>AV.int .i64 p.2).length:=by simpa using hl
  rw [List.set_eq_take_append_cons_drop,if_pos hm]
  simp
theorem rCo_len {ts:List (Tm×Int)}{k:Nat}{x:List AV}:((rCo ts).set k x).length=(rCo ts).length:=List.length_set ..
theorem rCo_set1 {ts:List (Tm×Int)}{k:Nat}{x:Int}:∀e∈(rCo ts).set k [AV.int .i64 x],e.length=1:=by
  intro e he
  rcases List.mem_or_eq_of_mem_set he with h | rfl
  · exact rCo_one ts e h
  · rfl
theorem linr_old {v u:Value}{s:Su}{ok:Bool}{t:Tm}{b:Int}{k:Nat}{q:Tm×Int}(h1:(s.ts.take k).all (fun q=>!eqT t q.1)=true)(h:s.ts[k]? = some q)(he:eqT t q.1=true):AV.agg [.row v 8 (rTm s.ts),.val u,.int .i64 s.rest,.bool ok]=linR v u ⟨addT t b s.ts,s.rest⟩ ok:=by
  simp only [linR]
  rw [addT_at h1 h he,rTm_set h]
theorem linh_old {v u:Value}{R:List HO}{s:Su}{t:Tm}{b:Int}{k:Nat}{q:Tm×Int}(h1:(s.ts.take k).all (fun q=>!eqT t q.1)=true)(h:s.ts[k]? = some q)(he:eqT t q.1=true):(HO.row v (rTm s.ts).length 30 8 :: .buf u ((rCo s.ts).set k [AV.int .i64 (q.2+b)]) 3 1::R)=linH v u (addT t b s.ts) R:=by
  simp only [linH]
  rw [addT_at h1 h he,rTm_set h,rCo_set]
theorem linr_new {v u:Value}{s:Su}{ok:Bool}{t:Tm}{b:Int}(h1:s.ts.all (fun q=>!eqT t q.1)=true):AV.agg [.row v 8 (rTm s.ts++[cE (tmE t)]),.val u,.int .i64 s.rest,.bool ok]=linR v u ⟨addT t b s.ts,s.rest⟩ ok:=by
  simp only [linR]
  rw [addT_end h1]
  simp [rTm]
theorem linh_new {v u:Value}{R:List HO}{s:Su}{t:Tm}{b:Int}(h1:s.ts.all (fun q=>!eqT t q.1)=true):(HO.row v (rTm s.ts++[cE (tmE t)]).length 30 8 :: .buf u (rCo s.ts++[[AV.int .i64 b]]) 3 1::R)=linH v u (addT t b s.ts) R:=by
  simp only [linH]
  rw [addT_end h1]
  simp [rTm,rCo]
theorem rCo_ne {ts:List (Tm×Int)}{k:Nat}{q:Tm×Int}(h:ts[k]? = some q):rCo ts≠[]:=by
  intro hn
  have:=get_lt' h
  have h2:(rCo ts).length=0:=by rw [hn];rfl
  rw [List.length_map] at h2
  omega
theorem col_wrap {e:Ex}{b:Int}{s X:Su×Bool}{R H:List HO}{r:AV}(h:colS e b s=X)(k:∃v' u',u'.oneCell'=true∧r=linR v' u' X.1 X.2∧H=linH v' u' X.1.ts R):∃v' u',u'.oneCell'=true∧r=linR v' u' (colS e b s).1 (colS e b s).2∧H=linH v' u' (colS e b s).1.ts R:=by rw [h];exact k
def cGpR (g:Gp):List AV:=[.sl 8 (g.plus.map fun t=>cE (tmE t)),.sl 8 (g.minus.map fun t=>cE (tmE t)),.int .i64 g.rest]
theorem dif_no {a b:Ex}(hp:partsS (colEnd a b).1.ts [] []=none):differS a b=(gp0,false):=by rw [differS,hp]
theorem dif_yes {a b:Ex}{p m:List Tm}(hp:partsS (colEnd a b).1.ts [] []=some (p,m)):differS a b=(⟨p,m,(colEnd a b).1.rest⟩,((colEnd a b).2&&decide ((p.length:Int)≤1))&&decide ((m.length:Int)≤1)):=by rw [differS,hp,Bool.and_assoc]
theorem parts_3' {t:Tm×Int}{r:List (Tm×Int)}{p m:List Tm}(h:(t.2 == 0)=false)(h1:(t.2 == 1)=false)(h2:(t.2 == -1)=false):partsS (t::r) p m=none:=parts_3 h h1 h2
theorem one_ne {x:Int}(h:(x == 1)=true):(x == 0)=false:=by simp at h ⊢;omega
theorem mone_ne {x:Int}(h:(x == -1)=true):(x == 0)=false:=by simp at h ⊢;omega
theorem bne_ne {x:Int}(h:(x != 0)=true):(x == 0)=false:=by simpa using h
theorem bne_eq {x:Int}(h:(x != 0)=false):(x == 0)=true:=by simpa using h
end Go.Proofs.YtkddpedfbicbeaaGreatDoor

namespace Go.Proofs.YtkddpedfbicbeaaGreatDoor
open Go Go.Aw
set_option linter.unusedVariables false
set_option linter.unusedSimpArgs false

/-- a well-typed expression within the limits -/
structure KC (T:List Sc) (V:List Va) (e:Ex):Prop where
  kok:KOK T V e
  types:allTS T=0
  vars:varsE T V=0
  check:checkS e=0
theorem check_zero {e:Ex}(h:checkS e=0):sizeN e≤64∧depthN e≤12∧nodesS e=0:=by
  unfold checkS at h
  split at h
  · cases h
  rename_i h1
  split at h
  · cases h
  rename_i h2
  simp only [decide_eq_true_eq] at h1 h2
  exact ⟨by omega,by omega,h⟩
theorem check_mk {e:Ex}(h1:sizeN e≤64)(h2:depthN e≤12)(h3:nodesS e=0):checkS e=0:=by
  unfold checkS
  rw [if_neg (by simp;omega),if_neg (by simp;omega)]
  exact h3
theorem check_arg {e a:Ex}(h:checkS e=0)(ha:a∈e.args):checkS a=0:=by
  obtain ⟨h1,h2,h3⟩:=check_zero h
  have:=size_arg ha
  have:=depth_arg ha
  exact check_mk (by omega) (by omega) ((nodes_zero h3).2 a ha)
theorem kc_arg {T:List Sc}{V:List Va}{e a:Ex}(h:KC T V e)(ha:a∈e.args):KC T V a:=⟨kok_arg h.kok ha,h.types,h.vars,check_arg h.check ha⟩
theorem kc_size {T:List Sc}{V:List Va}{e:Ex}(h:KC T V e):sizeN e≤64:=(check_zero h.check).1
theorem kc_kind {T:List Sc}{V:List Va}{e:Ex}(h:KC T V e):KindS T V e=kindS T V e:=by
  unfold KindS
  rw [if_neg (by rw [h.types];decide),if_neg (by rw [h.vars];decide),if_neg (by rw [h.check];decide)]
theorem kc_kindR {T:List Sc}{V:List Va}{e:Ex}(h:KC T V e):(KindS T V e).1=kindR T V e:=by rw [kc_kind h,kok_kind h.kok]
theorem KindS_kc {T:List Sc}{V:List Va}{e:Ex}(h:(KindS T V e).2=0):KC T V e:=by
  have hk:=(KindS_kok h).1
  unfold KindS at h
  by_cases h1:(allTS T != 0)=true
  · rw [if_pos h1] at h;simp only at h;rw [h] at h1;cases h1
  rw [if_neg h1] at h
  by_cases h2:(varsE T V != 0)=true
  · rw [if_pos h2] at h;simp only at h;rw [h] at h2;cases h2
  rw [if_neg h2] at h
  by_cases h3:(checkS e != 0)=true
  · rw [if_pos h3] at h;simp only at h;rw [h] at h3;cases h3
  exact ⟨hk,by simpa using h1,by simpa using h2,by simpa using h3⟩
theorem condE_kc {T:List Sc}{V:List Va}{e:Ex}(h:(condE T V e != 0)=false):KC T V e∧kindR T V e=1:=by
  have h0:condE T V e=0:=by simpa using h
  unfold condE at h0
  by_cases h1:((KindS T V e).2 != 0)=true
  · rw [if_pos h1] at h0;rw [h0] at h1;cases h1
  · rw [if_neg h1] at h0
    have hk:=KindS_kc (by simpa using h1)
    refine ⟨hk,?_⟩
    by_cases h2:((KindS T V e).1 != 1)=true
    · rw [if_pos h2] at h0;cases h0
    · rw [←kc_kindR hk];simpa using h2
theorem kok_ok {T:List Sc}{V:List Va}{e a:Ex}(h:KOK T V e)(ha:a∈e.args):okS e.op (kindR T V a) (kindR T V (arg0 e))=true:=by
  have hp:e.args≠[]:=by intro hn;rw [hn] at ha;cases ha
  have h1:=(kok_args h hp).2.1
  unfold operandsS at h1
  have h2:=first_zero h1 _ (List.mem_map_of_mem (f:=fun a=>(kindS T V a).1) ha)
  have h0:0 < e.args.length:=List.length_pos_iff.2 hp
  have h3:((e.args.map fun a=>(kindS T V a).1).headD 0)=(kindS T V (arg0 e)).1:=by
    cases hargs:e.args with
    | nil=>exact absurd hargs hp
    | cons x r=>unfold arg0;rw [hargs];rfl
  rw [h3] at h2
  rw [kok_kind (kok_arg h ha),kok_kind (kok_arg h (arg0_mem h0))] at h2
  split at h2
  · assumption
  · cases h2
theorem kok_int {T:List Sc}{V:List Va}{e a:Ex}(h:KOK T V e)(ho:e.op=5∨e.op=6∨e.op=7∨e.op=8)(ha:a∈e.args):kindR T V a=0:=by
  have h1:=kok_ok h ha
  unfold okS at h1
  rw [if_pos (by simp;omega)] at h1
  simpa using h1
theorem kok_same {T:List Sc}{V:List Va}{e a:Ex}(h:KOK T V e)(ho:e.op=9)(ha:a∈e.args):kindR T V a=kindR T V (arg0 e):=by
  have h1:=kok_ok h ha
  unfold okS at h1
  rw [if_neg (by simp;omega),if_neg (by simp;omega),if_pos (by simp;omega)] at h1
  simpa using h1
/-! ### The reference's -/
def rcmpS (e:Ex):Bool:=(e.op != 7&&e.op != 8)&&e.op != 9
theorem rcmp_eq (e:Ex):rcmpS e = !comparesS e:=by
  unfold rcmpS comparesS
  cases h7:e.op == 7 <;> cases h8:e.op == 8 <;> cases h9:e.op == 9 <;> simp [bne,h7,h8,h9]
theorem rsim_2 {T:List Sc}{V:List Va}{e:Ex}(h:(e.op == 1)=false)(h2:((e.op != 7&&e.op != 8)&&e.op != 9)=true):simpleS T V e=false:=simple_2 h (by rw [←rcmp_eq];exact h2)
theorem rcmp_c {e:Ex}(h2:((e.op != 7&&e.op != 8)&&e.op != 9)=false):comparesS e=true:=by
  have:rcmpS e=false:=h2
  rw [rcmp_eq] at this;simpa using this
theorem rtexts {T:List Sc}{V:List Va}{e:Ex}(hk:KOK T V e)(hc:comparesS e=true):(kindR T V (arg0 e) == 2)=textsS T V e:=by
  unfold textsS
  cases h9:e.op == 9 with
  | true=>rfl
  | false=>
    have h2:=cmp_two hk hc
    have hop:e.op=7∨e.op=8:=by unfold comparesS at hc;rw [h9] at hc;simpa using hc
    rw [kok_int hk (by omega) (arg0_mem (by omega))];rfl
theorem rsim_3 {T:List Sc}{V:List Va}{e:Ex}(hk:KOK T V e)(h:(e.op == 1)=false)(h2:((e.op != 7&&e.op != 8)&&e.op != 9)=false)(h3:(kindR T V (arg0 e) == 2)=true):simpleS T V e=(directS (arg0 e)&&directS (arg1 e)):=
  simple_3 h (by rw [rcmp_c h2];rfl) (by rw [←rtexts hk (rcmp_c h2)];exact h3)
theorem rsim_4 {T:List Sc}{V:List Va}{e:Ex}(hk:KOK T V e)(h:(e.op == 1)=false)(h2:((e.op != 7&&e.op != 8)&&e.op != 9)=false)(h3:(kindR T V (arg0 e) == 2)=false)(hd:(differS (arg0 e) (arg1 e)).2=(betweenS (arg0 e) (arg1 e)).2):simpleS T V e=(differS (arg0 e) (arg1 e)).2:=by
  rw [hd]
  exact simple_4 h (by rw [rcmp_c h2];rfl) (by rw [←rtexts hk (rcmp_c h2)];exact h3)
theorem rlog_1 {T:List Sc}{V:List Va}{e:Ex}(h:(e.op == 9)=true):composedS T V e=(kindR T V (arg0 e) == 1):=by rw [composedS,if_pos h]
theorem rlog_2 {T:List Sc}{V:List Va}{e:Ex}(h:(e.op == 9)=false):composedS T V e=(((e.op == 10||e.op == 11)||e.op == 12)||e.op == 0):=by rw [composedS,ifF h]
end Go.Proofs.YtkddpedfbicbeaaGreatDoor

namespace Go.Proofs.YtkddpedfbicbeaaGreatDoor
open Go Go.Aw
set_option linter.unusedVariables false
set_option linter.unusedSimpArgs false

theorem nilsl_sl:∀g w u,Rep g w u (.sl 1 [[.val (.slice none 0 0)]])→Rep g w u (.sl 1 [[.sl 9 []]]):=fun g w u h=>by
  cases h with
  | sl b o n cap z es hn hc hm hz f hs hr=>
    refine .sl b o n cap 1 _ hn hc hm (fun e he=>by rw [List.mem_singleton.1 he];rfl) f (fun i e hi j x hj=>?_) (fun i e hi j x hj=>?_)
    · cases i with
      | succ i=>simp at hi
      | zero=>
        cases j with
        | succ j=>simp at hi;subst hi;simp at hj
        | zero=>exact hs 0 _ rfl 0 _ rfl
    · cases i with
      | succ i=>simp at hi
      | zero=>
        cases j with
        | succ j=>simp at hi;subst hi;simp at hj
        | zero=>
          simp at hi;subst hi;simp at hj;subst hj
          have:=(hr 0 _ rfl 0 _ rfl).inv_val
          rw [this];exact .sl0 _ _ _ (Nat.zero_le _)

/-! ### products -/
theorem prod_no {α:Type}{a b:List (List α)}(h:decide ((256:Int) < (a.length:Int)*(b.length:Int))=true):prodS a b=([],false):=by rw [prodS,if_pos h]
theorem prod_yes {α:Type}{a b:List (List α)}(h:decide ((256:Int) < (a.length:Int)*(b.length:Int))=false):prodS a b=(a.flatMap fun x=>b.map fun y=>x++y,true):=by rw [prodS,ifF h]
theorem prod_take {α:Type}{a b:List (List α)}{k:Nat}{x:List α}(h:a[k]? = some x):((a.take (k+1)).flatMap fun x=>b.map fun y=>x++y)=((a.take k).flatMap fun x=>b.map fun y=>x++y)++b.map fun y=>x++y:=by
  rw [take_get h,List.flatMap_append];simp
theorem prod_len {α:Type}(a b:List (List α)):(a.flatMap fun x=>b.map fun y=>x++y).length=a.length*b.length:=by
  induction a with
  | nil=>simp
  | cons x r ih=>rw [List.flatMap_cons,List.length_append,ih,List.length_map,List.length_cons,Nat.succ_mul];omega
theorem prod_le {α:Type}{a b:List (List α)}{k j:Nat}(hk:k < a.length)(hj:j < b.length)(h:decide ((256:Int) < (a.length:Int)*(b.length:Int))=false):k*b.length+j < 256:=by
  have h1:a.length*b.length≤256:=by
    have:¬(256:Int) < (a.length:Int)*(b.length:Int):=by simpa using h
    have h2:((a.length*b.length:Nat):Int)=(a.length:Int)*(b.length:Int):=by simp
    omega
  have h2:(k+1)*b.length≤a.length*b.length:=Nat.mul_le_mul_right _ hk
  rw [Nat.succ_mul] at h2
  omega
theorem times_no {a b:Cs}(h:(!a.2 || !b.2)=true):timesS a b=([],false):=by rw [timesS,if_pos h]
theorem times_yes {a b:Cs}(h:(!a.2 || !b.2)=false):timesS a b=prodS a.1 b.1:=by rw [timesS,ifF h]
theorem plus_no {a b:Cs}(h:((!a.2 || !b.2)||decide ((256:Int) < (a.1.length:Int)+(b.1.length:Int)))=true):plusS a b=([],false):=by rw [plusS,if_pos h]
theorem plus_yes {a b:Cs}(h:((!a.2 || !b.2)||decide ((256:Int) < (a.1.length:Int)+(b.1.length:Int)))=false):plusS a b=(a.1++b.1,true):=by rw [plusS,ifF h]

/-! ### how long they are -/
/-- at most 256 clauses, each at most so long -/
structure csOK (n:Nat) (c:Cs):Prop where
  len:c.1.length≤256
  lits:∀x∈c.1,x.length≤n
theorem csOK.mono {n m:Nat}{c:Cs}(h:csOK n c)(hm:n≤m):csOK m c:=⟨h.len,fun x hx=>Nat.le_trans (h.lits x hx) hm⟩
theorem cs_none {n:Nat}:csOK n ([],false):=⟨Nat.zero_le _,fun x hx=>by cases hx⟩
theorem times_ok {n m:Nat}{a b:Cs}(ha:csOK n a)(hb:csOK m b):csOK (n+m) (timesS a b):=by
  unfold timesS
  split
  · exact cs_none
  · unfold prodS
    split
    · exact cs_none
    · rename_i h
      refine ⟨?_,fun x hx=>?_⟩
      · show (a.1.flatMap fun x=>b.1.map fun y=>x++y).length≤256
        rw [prod_len]
        have h1:¬(256:Int) < (a.1.length:Int)*(b.1.length:Int):=by simpa using h
        have h2:((a.1.length*b.1.length:Nat):Int)=(a.1.length:Int)*(b.1.length:Int):=by simp
        omega
      · obtain ⟨y,hy,hm⟩:=List.mem_flatMap.1 hx
        obtain ⟨z,hz,rfl⟩:=List.mem_map.1 hm
        have:=ha.lits y hy
        have:=hb.lits z hz
        rw [List.length_append];omega
theorem plus_ok {n:Nat}{a b:Cs}(ha:csOK n a)(hb:csOK n b):csOK n (plusS a b):=by
  unfold plusS
  split
  · exact cs_none
  · rename_i h
    refine ⟨?_,fun x hx=>?_⟩
    · show (a.1++b.1).length≤256
      simp at h
      rw [List.length_append];omega
    · rcases List.mem_append.1 hx with h | h
      · exact ha.lits x h
      · exact hb.lits x h
section
variable {T:List Sc} {V:List Va}
abbrev NF0:NormF:=fun _=>([],false)
theorem norm_0t {e:Ex}{s:Bool}(h:(e.op == 0)=true)(h1:((e.val.num == 1) == s)=true):normS T V e s=([[]],true):=by rw [normS_eq,normN,if_pos h,if_pos h1]
theorem norm_0f {e:Ex}{s:Bool}(h:(e.op == 0)=true)(h1:((e.val.num == 1) == s)=false):normS T V e s=([],true):=by rw [normS_eq,normN,if_pos h,ifF h1]
theorem norm_12 {e:Ex}{s:Bool}(hl:0 < e.args.length)(h:(e.op == 12)=true):normS T V e s=normS T V (arg0 e) (!s):=by
  rw [normS_eq,normN,ifF (by simp at h ⊢;omega),if_pos h,hd0_map _ _ hl]
theorem norm_1t {e:Ex}{s:Bool}(hl:1 < e.args.length)(h:(e.op == 10||e.op == 11)=true)(h1:((e.op == 10) == s)=true):normS T V e s=timesS (normS T V (arg0 e) s) (normS T V (arg1 e) s):=by
  rw [normS_eq,normN,ifF (by simp at h ⊢;omega),ifF (by simp at h ⊢;omega),if_pos h,if_pos h1,hd0_map _ _ (by omega),hd1_map _ _ hl]
theorem norm_1f {e:Ex}{s:Bool}(hl:1 < e.args.length)(h:(e.op == 10||e.op == 11)=true)(h1:((e.op == 10) == s)=false):normS T V e s=plusS (normS T V (arg0 e) s) (normS T V (arg1 e) s):=by
  rw [normS_eq,normN,ifF (by simp at h ⊢;omega),ifF (by simp at h ⊢;omega),if_pos h,ifF h1,hd0_map _ _ (by omega),hd1_map _ _ hl]
theorem norm_9b {e:Ex}{s:Bool}(hl:1 < e.args.length)(h:(e.op == 9)=true)(h1:(kindR T V (arg0 e) == 1)=true) :
    normS T V e s=plusS (timesS (normS T V (arg0 e) true) (normS T V (arg1 e) s)) (timesS (normS T V (arg0 e) false) (normS T V (arg1 e) (!s))):=by
  rw [normS_eq,normN,ifF (by simp at h ⊢;omega),ifF (by simp at h ⊢;omega),ifF (by simp at h ⊢;omega),if_pos (by rw [h,h1];rfl),hd0_map _ _ (by omega),hd1_map _ _ hl]
theorem norm_9i {e:Ex}{s:Bool}(h:(e.op == 9)=true)(h1:(kindR T V (arg0 e) == 1)=false)(h2:(kindR T V (arg0 e) == 0 && !s)=true) :
    normS T V e s=singleC [⟨two 7 (arg0 e) (arg1 e),false⟩,⟨two 7 (arg1 e) (arg0 e),false⟩]:=by
  rw [normS_eq,normN,ifF (by simp at h ⊢;omega),ifF (by simp at h ⊢;omega),ifF (by simp at h ⊢;omega),ifF (by rw [h1,Bool.and_false]),if_pos (by rw [h,h2];rfl)]
theorem norm_9o {e:Ex}{s:Bool}(h:(e.op == 9)=true)(h1:(kindR T V (arg0 e) == 1)=false)(h2:(kindR T V (arg0 e) == 0 && !s)=false):normS T V e s=singleC [⟨e,!s⟩]:=by
  rw [normS_eq,normN,ifF (by simp at h ⊢;omega),ifF (by simp at h ⊢;omega),ifF (by simp at h ⊢;omega),ifF (by rw [h1,Bool.and_false]),ifF (by rw [h2,Bool.and_false])]
theorem norm_o {e:Ex}{s:Bool}(h0:(e.op == 0)=false)(h12:(e.op == 12)=false)(h10:(e.op == 10||e.op == 11)=false)(h:(e.op == 9)=false):normS T V e s=singleC [⟨e,!s⟩]:=by
  rw [normS_eq,normN,ifF h0,ifF h12,ifF h10,ifF (by rw [h];rfl),ifF (by rw [h];rfl)]
/-- how an expression may look to normS -/
theorem norm_cases {e:Ex}(s:Bool)(hk:KOK T V e) :
    (e.op == 0)=true∨((e.op == 12)=true∧0 < e.args.length)∨((e.op == 10||e.op == 11)=true∧1 < e.args.length)∨((e.op == 9)=true∧1 < e.args.length∧(kindR T V (arg0 e) == 1)=true)∨
    ((e.op == 9)=true∧1 < e.args.length∧(kindR T V (arg0 e) == 1)=false∧(kindR T V (arg0 e) == 0 && !s)=true)∨((e.op == 0)=false∧(e.op == 12)=false∧(e.op == 10||e.op == 11)=false∧normS T V e s=singleC [⟨e,!s⟩]∧((e.op == 9)=true→(kindR T V (arg0 e) == 1)=false∧(kindR T V (arg0 e) == 0 && !s)=false)):=by
  have hz:=nodes_zero hk.nodes
  cases h0:e.op == 0 with
  | true=>exact .inl rfl
  | false=>
  cases h12:e.op == 12 with
  | true=>exact .inr (.inl ⟨rfl,len_not hz.1 (eq_of_beq h12)⟩)
  | false=>
  cases h10:(e.op == 10||e.op == 11) with
  | true=>exact .inr (.inr (.inl ⟨rfl,len_two' hz.1 (by simp at h10;omega)⟩))
  | false=>
  cases h9:e.op == 9 with
  | true=>
    have hl:=len_two' hz.1 (by simp at h9;omega)
    cases h1:kindR T V (arg0 e) == 1 with
    | true=>exact .inr (.inr (.inr (.inl ⟨rfl,hl,rfl⟩)))
    | false=>
      cases h2:(kindR T V (arg0 e) == 0 && !s) with
      | true=>exact .inr (.inr (.inr (.inr (.inl ⟨rfl,hl,rfl,rfl⟩))))
      | false=>exact .inr (.inr (.inr (.inr (.inr ⟨rfl,rfl,rfl,norm_9o h9 h1 h2,fun _=>⟨rfl,rfl⟩⟩))))
  | false=>exact .inr (.inr (.inr (.inr (.inr ⟨rfl,rfl,rfl,norm_o h0 h12 h10 h9,fun h=>Bool.noConfusion h⟩))))
theorem norm_ok (e:Ex):KOK T V e→∀s,csOK (sizeN e) (normS T V e s):=by
  refine Ex.ind (P:=fun e=>KOK T V e→∀s,csOK (sizeN e) (normS T V e s)) (fun e ih hk s=>?_) e
  have hsz:1≤sizeN e:=by rw [sizeN_eq];omega
  rcases norm_cases s hk with h | ⟨h,hl⟩ | ⟨h,hl⟩ | ⟨h,hl,h1⟩ | ⟨h,hl,h1,h2⟩ | ⟨_,_,_,h,_⟩
  · cases h1:((e.val.num == 1) == s) with
    | true=>rw [norm_0t h h1];exact ⟨by simp,by simp⟩
    | false=>rw [norm_0f h h1];exact ⟨by simp,by simp⟩
  · rw [norm_12 hl h]
    exact (ih _ (arg0_mem hl) (kok_arg hk (arg0_mem hl)) _).mono (Nat.le_of_lt (size0 hl))
  · have m0:=arg0_mem (show 0 < e.args.length by omega)
    have m1:=arg1_mem hl
    have i0:=ih _ m0 (kok_arg hk m0) s
    have i1:=ih _ m1 (kok_arg hk m1) s
    have hs:=arg_sizes hl
    cases h1:((e.op == 10) == s) with
    | true=>rw [norm_1t hl h h1];exact (times_ok i0 i1).mono (by omega)
    | false=>rw [norm_1f hl h h1];exact plus_ok (i0.mono (by omega)) (i1.mono (by omega))
  · have m0:=arg0_mem (show 0 < e.args.length by omega)
    have m1:=arg1_mem hl
    have i0:=ih _ m0 (kok_arg hk m0)
    have i1:=ih _ m1 (kok_arg hk m1)
    have hs:=arg_sizes hl
    rw [norm_9b hl h h1]
    exact plus_ok ((times_ok (i0 _) (i1 _)).mono (by omega)) ((times_ok (i0 _) (i1 _)).mono (by omega))
  · rw [norm_9i h h1 h2];exact ⟨by simp [singleC],by simp [singleC];omega⟩
  · rw [h];exact ⟨by simp [singleC],by simp [singleC];omega⟩
/-! ### The reference's -/
def eitherS (a b:List (List Lit)):Cs:=(a++b,decide (((a++b).length:Int)≤256))
def pairS (a b:Cs)(times:Bool):Cs:=if !a.2 || !b.2 then ([],false) else if times then prodS a.1 b.1 else eitherS a.1 b.1
def equalS' (a b:Cs):Cs:=if !a.2 || !b.2 then ([],false) else eitherS a.1 b.1
theorem pair_1 {a b:Cs}{t:Bool}(h:(!a.2 || !b.2)=true):pairS a b t=([],false):=by rw [pairS,if_pos h]
theorem pair_2 {a b:Cs}(h:(!a.2 || !b.2)=false):pairS a b true=prodS a.1 b.1:=by rw [pairS,ifF h,if_pos rfl]
theorem pair_3 {a b:Cs}(h:(!a.2 || !b.2)=false):pairS a b false=eitherS a.1 b.1:=by rw [pairS,ifF h,ifF rfl]
theorem pair_2' {a b:Cs}{t:Bool}(h:(!a.2 || !b.2)=false)(ht:t=true):pairS a b t=prodS a.1 b.1:=by rw [ht,pair_2 h]
theorem pair_3' {a b:Cs}{t:Bool}(h:(!a.2 || !b.2)=false)(ht:t=false):pairS a b t=eitherS a.1 b.1:=by rw [ht,pair_3 h]
theorem equal_1 {a b:Cs}(h:(!a.2 || !b.2)=true):equalS' a b=([],false):=by rw [equalS',if_pos h]
theorem equal_2 {a b:Cs}(h:(!a.2 || !b.2)=false):equalS' a b=eitherS a.1 b.1:=by rw [equalS',ifF h]
section
variable (T V)
def rnormN (e:Ex)(fs:List NormF):NormF:=fun sign=>
  if e.op == 0 then (if (e.val.num == 1) == sign then ([[]],true) else ([],true))
  else if e.op == 12 then (hd0 NF0 fs:NormF) (!sign)
  else if e.op == 10 then pairS ((hd0 NF0 fs:NormF) sign) ((hd1 NF0 fs:NormF) sign) sign
  else if e.op == 11 then pairS ((hd0 NF0 fs:NormF) sign) ((hd1 NF0 fs:NormF) sign) (!sign)
  else if e.op == 9&&kindR T V (arg0 e) == 1 then equalS' (pairS ((hd0 NF0 fs:NormF) true) ((hd1 NF0 fs:NormF) sign) true) (pairS ((hd0 NF0 fs:NormF) false) ((hd1 NF0 fs:NormF) (!sign)) true)
  else if e.op == 9&&(kindR T V (arg0 e) == 0 && !sign) then singleC [⟨two 7 (arg0 e) (arg1 e),false⟩,⟨two 7 (arg1 e) (arg0 e),false⟩]
  else singleC [⟨e,!sign⟩]
def rnormS:Ex→NormF:=recE (rnormN T V)
theorem rnormS_eq (e:Ex):rnormS T V e=rnormN T V e (e.args.map (rnormS T V)):=recE_eq _ e
end
theorem rnorm_0t {e:Ex}{s:Bool}(h:(e.op == 0)=true)(h1:((e.val.num == 1) == s)=true):rnormS T V e s=([[]],true):=by rw [rnormS_eq,rnormN,if_pos h,if_pos h1]
theorem rnorm_0f {e:Ex}{s:Bool}(h:(e.op == 0)=true)(h1:((e.val.num == 1) == s)=false):rnormS T V e s=([],true):=by rw [rnormS_eq,rnormN,if_pos h,ifF h1]
theorem rnorm_12 {e:Ex}{s:Bool}(hl:0 < e.args.length)(h:(e.op == 12)=true):rnormS T V e s=rnormS T V (arg0 e) (!s):=by
  rw [rnormS_eq,rnormN,ifF (by simp at h ⊢;omega),if_pos h,hd0_map _ _ hl]
theorem rnorm_10 {e:Ex}{s:Bool}(hl:1 < e.args.length)(h:(e.op == 10)=true):rnormS T V e s=pairS (rnormS T V (arg0 e) s) (rnormS T V (arg1 e) s) s:=by
  rw [rnormS_eq,rnormN,ifF (by simp at h ⊢;omega),ifF (by simp at h ⊢;omega),if_pos h,hd0_map _ _ (by omega),hd1_map _ _ hl]
theorem rnorm_11 {e:Ex}{s:Bool}(hl:1 < e.args.length)(h:(e.op == 11)=true):rnormS T V e s=pairS (rnormS T V (arg0 e) s) (rnormS T V (arg1 e) s) (!s):=by
  rw [rnormS_eq,rnormN,ifF (by simp at h ⊢;omega),ifF (by simp at h ⊢;omega),ifF (by simp at h ⊢;omega),if_pos h,hd0_map _ _ (by omega),hd1_map _ _ hl]
theorem rnorm_9b {e:Ex}{s:Bool}(hl:1 < e.args.length)(h:(e.op == 9)=true)(h1:(kindR T V (arg0 e) == 1)=true) :
    rnormS T V e s=equalS' (pairS (rnormS T V (arg0 e) true) (rnormS T V (arg1 e) s) true) (pairS (rnormS T V (arg0 e) false) (rnormS T V (arg1 e) (!s)) true):=by
  rw [rnormS_eq,rnormN,ifF (by simp at h ⊢;omega),ifF (by simp at h ⊢;omega),ifF (by simp at h ⊢;omega),ifF (by simp at h ⊢;omega),if_pos (by rw [h,h1];rfl),hd0_map _ _ (by omega),hd1_map _ _ hl]
theorem rnorm_9i {e:Ex}{s:Bool}(h:(e.op == 9)=true)(h1:(kindR T V (arg0 e) == 1)=false)(h2:(kindR T V (arg0 e) == 0 && !s)=true) :
    rnormS T V e s=singleC [⟨two 7 (arg0 e) (arg1 e),false⟩,⟨two 7 (arg1 e) (arg0 e),false⟩]:=by
  rw [rnormS_eq,rnormN,ifF (by simp at h ⊢;omega),ifF (by simp at h ⊢;omega),ifF (by simp at h ⊢;omega),ifF (by simp at h ⊢;omega),ifF (by rw [h1,Bool.and_false]),if_pos (by rw [h,h2];rfl)]
theorem rnorm_9o {e:Ex}{s:Bool}(h:(e.op == 9)=true)(h1:(kindR T V (arg0 e) == 1)=false)(h2:(kindR T V (arg0 e) == 0 && !s)=false):rnormS T V e s=singleC [⟨e,!s⟩]:=by
  rw [rnormS_eq,rnormN,ifF (by simp at h ⊢;omega),ifF (by simp at h ⊢;omega),ifF (by simp at h ⊢;omega),ifF (by simp at h ⊢;omega),ifF (by rw [h1,Bool.and_false]),ifF (by rw [h2,Bool.and_false])]
theorem rnorm_o {e:Ex}{s:Bool}(h0:(e.op == 0)=false)(h12:(e.op == 12)=false)(h10:(e.op == 10)=false)(h11:(e.op == 11)=false)(h:(e.op == 9)=false):rnormS T V e s=singleC [⟨e,!s⟩]:=by
  rw [rnormS_eq,rnormN,ifF h0,ifF h12,ifF h10,ifF h11,ifF (by rw [h];rfl),ifF (by rw [h];rfl)]
/-- where the program's list is not ok the reference's is not, either; else they are the same -/
def csR (r p:Cs):Prop:=r.2=p.2∧(p.2=true→r=p)
theorem csR_refl (c:Cs):csR c c:=⟨rfl,fun _=>rfl⟩
theorem either_plus {a b:Cs}(ha:a.2=true)(hb:b.2=true):csR (eitherS a.1 b.1) (plusS a b):=by
  unfold eitherS plusS
  rw [ha,hb]
  simp only [Bool.not_true,Bool.or_self,Bool.false_or,decide_eq_true_eq,List.length_append]
  by_cases h:(256:Int) < (a.1.length:Int)+(b.1.length:Int)
  · rw [if_pos h];exact ⟨by simp;omega,fun h=>by cases h⟩
  · rw [if_neg h];exact ⟨by simp;omega,fun _=>by rw [Prod.mk.injEq];exact ⟨rfl,by simp;omega⟩⟩
theorem pair_times {a b a' b':Cs}(ha:csR a a')(hb:csR b b'):csR (pairS a b true) (timesS a' b'):=by
  unfold timesS
  by_cases h:(!a'.2 || !b'.2)=true
  · rw [if_pos h,pair_1 (by rw [ha.1,hb.1];exact h)];exact csR_refl _
  · have h':=Bool.eq_false_iff.2 h
    have h1:a'.2=true:=by cases hq:a'.2 <;> simp_all
    have h2:b'.2=true:=by cases hq:b'.2 <;> simp_all
    rw [if_neg h,ha.2 h1,hb.2 h2,pair_2 h'];exact csR_refl _
theorem pair_plus {a b a' b':Cs}(ha:csR a a')(hb:csR b b'):csR (pairS a b false) (plusS a' b'):=by
  by_cases h:(!a'.2 || !b'.2)=true
  · rw [pair_1 (by rw [ha.1,hb.1];exact h),plus_no (by rw [h];rfl)];exact csR_refl _
  · have h':=Bool.eq_false_iff.2 h
    have h1:a'.2=true:=by cases hq:a'.2 <;> simp_all
    have h2:b'.2=true:=by cases hq:b'.2 <;> simp_all
    rw [ha.2 h1,hb.2 h2,pair_3 h'];exact either_plus h1 h2
theorem equal_plus {a b a' b':Cs}(ha:csR a a')(hb:csR b b'):csR (equalS' a b) (plusS a' b'):=by
  by_cases h:(!a'.2 || !b'.2)=true
  · rw [equal_1 (by rw [ha.1,hb.1];exact h),plus_no (by rw [h];rfl)];exact csR_refl _
  · have h':=Bool.eq_false_iff.2 h
    have h1:a'.2=true:=by cases hq:a'.2 <;> simp_all
    have h2:b'.2=true:=by cases hq:b'.2 <;> simp_all
    rw [ha.2 h1,hb.2 h2,equal_2 h'];exact either_plus h1 h2
theorem rnorm_norm (e:Ex):KOK T V e→∀s,csR (rnormS T V e s) (normS T V e s):=by
  refine Ex.ind (P:=fun e=>KOK T V e→∀s,csR (rnormS T V e s) (normS T V e s)) (fun e ih hk s=>?_) e
  rcases norm_cases s hk with h | ⟨h,hl⟩ | ⟨h,hl⟩ | ⟨h,hl,h1⟩ | ⟨h,hl,h1,h2⟩ | ⟨h0,h12,h10,h,h9⟩
  · cases h1:((e.val.num == 1) == s) with
    | true=>rw [norm_0t h h1,rnorm_0t h h1];exact csR_refl _
    | false=>rw [norm_0f h h1,rnorm_0f h h1];exact csR_refl _
  · rw [norm_12 hl h,rnorm_12 hl h]
    exact ih _ (arg0_mem hl) (kok_arg hk (arg0_mem hl)) _
  · have m0:=arg0_mem (show 0 < e.args.length by omega)
    have m1:=arg1_mem hl
    have i0:=ih _ m0 (kok_arg hk m0) s
    have i1:=ih _ m1 (kok_arg hk m1) s
    cases h10:e.op == 10 with
    | true=>
      rw [rnorm_10 hl h10]
      cases s with
      | true=>rw [norm_1t hl h (by rw [h10];rfl)];exact pair_times i0 i1
      | false=>rw [norm_1f hl h (by rw [h10];rfl)];exact pair_plus i0 i1
    | false=>
      rw [rnorm_11 hl (by rw [h10] at h;simpa using h)]
      cases s with
      | true=>rw [norm_1f hl h (by rw [h10];rfl)];exact pair_plus i0 i1
      | false=>rw [norm_1t hl h (by rw [h10];rfl)];exact pair_times i0 i1
  · have m0:=arg0_mem (show 0 < e.args.length by omega)
    have m1:=arg1_mem hl
    have i0:=ih _ m0 (kok_arg hk m0)
    have i1:=ih _ m1 (kok_arg hk m1)
    rw [norm_9b hl h h1,rnorm_9b hl h h1]
    exact equal_plus (pair_times (i0 _) (i1 _)) (pair_times (i0 _) (i1 _))
  · rw [norm_9i h h1 h2,rnorm_9i h h1 h2];exact csR_refl _
  · rw [h]
    have:rnormS T V e s=singleC [⟨e,!s⟩]:=by
      cases h9':e.op == 9 with
      | true=>exact rnorm_9o h9' (h9 h9').1 (h9 h9').2
      | false=>exact rnorm_o h0 h12 (by simp at h10 ⊢;omega) (by simp at h10 ⊢;omega) h9'
    rw [this];exact csR_refl _
/-- how long the reference's are -/
structure rcOK (n:Nat) (c:Cs):Prop where
  len:c.1.length≤512
  lits:∀x∈c.1,x.length≤n
end
end Go.Proofs.YtkddpedfbicbeaaGreatDoor
