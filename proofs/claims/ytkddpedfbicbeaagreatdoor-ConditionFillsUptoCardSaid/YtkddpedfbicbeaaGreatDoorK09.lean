/-
  Several texts in one: S14, S15, S16, S17, S18, S19, S20, S21, S22. No condition.
-/
import Derived.Test.YtkddpedfbicbeaaGreatDoorK08
import Derived.Test.YtkddpedfbicbeaaGreatDoorK02
set_option linter.unusedVariables false
set_option linter.unusedSimpArgs false
namespace Go.Proofs.YtkddpedfbicbeaaGreatDoor
open Go Go.Aw

def GT:List (Nat×Nat×Bool×Nat):=[(0,1,true,3),(1,1,true,3),(2,1,true,3)]
def sMap (ts:List (Tm×Int)):List (List AV×AV):=ts.map fun p=>(cTm p.1,.int .i64 p.2)
def eqT (t u:Tm):Bool:=t.op==u.op&&(t.v==u.v&&t.field==u.field)
theorem eqT_iff {t u:Tm}:eqT t u=true↔t=u:=by
 unfold eqT
 cases t;cases u
 simp
def eqTm (t:Tm)(k:List AV):Bool:=(aeqs TL [(0,1,true,3),(1,1,true,3),(2,1,true,3)] (cTm t) k).getD false
theorem eqTm_is (t u:Tm):aeqs TL [(0,1,true,3),(1,1,true,3),(2,1,true,3)] (cTm t) (cTm u)=some (eqT t u):=by
 show some ((t.op==u.op)&&((t.v==u.v)&&((t.field==u.field)&&true)))=_
 rw [Bool.and_true];rfl
theorem eqTm_tm (t u:Tm):eqTm t (cTm u)=eqT t u:=by unfold eqTm;rw [eqTm_is];rfl
theorem sMap_eq (t:Tm)(ts:List (Tm×Int)):∀p∈sMap ts,aeqs TL [(0,1,true,3),(1,1,true,3),(2,1,true,3)] (cTm t) p.1=some (eqTm t p.1):=by
 intro p hp
 obtain ⟨x,_,rfl⟩:=List.mem_map.1 hp
 show aeqs TL _ (cTm t) (cTm x.1)=some (eqTm t (cTm x.1))
 rw [eqTm_is,eqTm_tm]
theorem sMap_len (ts:List (Tm×Int)):(sMap ts).length=ts.length:=List.length_map ..
def tIdx (t:Tm):List (Tm×Int)→Option Nat
 | []=>none
 | q::r=>if eqT t q.1 then some 0 else (tIdx t r).map (· + 1)
theorem kidx_t (t:Tm):∀ts:List (Tm×Int),kidx (eqTm t) (sMap ts)=tIdx t ts
  | []=>rfl
  | q::r=>by
    have ih:=kidx_t t r
    unfold sMap at ih ⊢
    rw [List.map_cons,kidx,eqTm_tm,ih,tIdx]
theorem kget_t (t:Tm):∀ts:List (Tm×Int),kget (eqTm t) (sMap ts)=(ts.find? fun q=>eqT t q.1).map fun q=>.int .i64 q.2
  | []=>rfl
  | q::r=>by
    have ih:=kget_t t r
    unfold sMap at ih ⊢
    rw [List.map_cons,kget,eqTm_tm,ih,List.find?_cons]
    cases eqT t q.1 <;> rfl
/-- the coefficient of a term -/
def coefS (t:Tm)(ts:List (Tm×Int)):Int:=((ts.find? fun q=>eqT t q.1).map fun q=>q.2).getD 0
def hasT (t:Tm)(ts:List (Tm×Int)):Bool:=(ts.find? fun q=>eqT t q.1).isSome
theorem look_t (t:Tm)(ts:List (Tm×Int)):match kget (eqTm t) (sMap ts) with | some y=>y = .int .i64 (coefS t ts) | none=>[AV.int .i64 0] = [.int .i64 (coefS t ts)]:=by
 rw [kget_t]
 unfold coefS
 cases ts.find? fun q=>eqT t q.1 <;> rfl
theorem has_t (t:Tm)(ts:List (Tm×Int)):(kget (eqTm t) (sMap ts)).isSome=hasT t ts:=by
 rw [kget_t]
 unfold hasT
 cases ts.find? fun q=>eqT t q.1 <;> rfl
theorem has_none {t:Tm}{ts:List (Tm×Int)}(h:hasT t ts=false):kget (eqTm t) (sMap ts)=none:=by
 rw [kget_t]
 unfold hasT at h
 cases hf:ts.find? fun q=>eqT t q.1 with
 | none=>rfl
 | some q=>rw [hf] at h;cases h
theorem add_new {t:Tm}{b:Int}:∀{ts:List (Tm×Int)},hasT t ts=false→addT t b ts=ts ++ [(t,b)]∧coefS t ts=0
  | [],_=>⟨rfl,rfl⟩
  | q::r,h=>by
    unfold hasT at h
    rw [List.find?_cons] at h
    cases hq:eqT t q.1 with
    | true=>rw [hq] at h;cases h
    | false=>
      rw [hq] at h
      obtain ⟨h1,h2⟩:=add_new (t:=t) (b:=b) (ts:=r) h
      have hne:¬t=q.1:=fun he=>by rw [eqT_iff.2 he] at hq;cases hq
      refine ⟨by rw [addT,if_neg hne,h1];rfl,?_⟩
      unfold coefS at h2 ⊢
      rw [List.find?_cons,hq];exact h2
theorem add_old {t:Tm}{b:Int}:∀{ts:List (Tm×Int)},hasT t ts=true→∃j,tIdx t ts=some j∧ts[j]? = some (t,coefS t ts)∧addT t b ts=ts.modify j (fun p=>(p.1,coefS t ts+b))
  | [],h=>by cases h
  | q::r,h=>by
    unfold hasT at h
    rw [List.find?_cons] at h
    cases hq:eqT t q.1 with
    | true=>
      have he:=eqT_iff.1 hq
      have hc:coefS t (q::r)=q.2:=by unfold coefS;rw [List.find?_cons,hq];rfl
      rw [hc]
      exact ⟨0,by rw [tIdx,if_pos hq],by subst he;rfl,by rw [addT,if_pos he];subst he;rfl⟩
    | false=>
      rw [hq] at h
      obtain ⟨j,h1,h2,h3⟩:=add_old (t:=t) (b:=b) (ts:=r) h
      have hne:¬t=q.1:=fun he=>by rw [eqT_iff.2 he] at hq;cases hq
      have hc:coefS t (q::r)=coefS t r:=by unfold coefS;rw [List.find?_cons,hq]
      rw [hc]
      exact ⟨j+1,by rw [tIdx,if_neg (by rw [hq];decide),h1];rfl,by simpa using h2,by rw [addT,if_neg hne,h3];rfl⟩
theorem sMap_at {ts:List (Tm×Int)}{j:Nat}{t:Tm}{c:Int}(h:ts[j]? = some (t,c)):(sMap ts)[j]? = some (cTm t,.int .i64 c):=by
 unfold sMap;rw [List.getElem?_map,h];rfl
theorem sMap_put {x:Int}:∀{ts:List (Tm×Int)} {j:Nat},kput (sMap ts) j (.int .i64 x)=sMap (ts.modify j fun p=>(p.1,x))
  | [],j=>by cases j <;> rfl
  | p::r,0=>rfl
  | p::r,j+1=>by
    have ih:=sMap_put (x:=x) (ts:=r) (j:=j)
    unfold kput sMap at ih ⊢
    simp only [List.map_cons,List.modify_succ_cons]
    rw [ih]
theorem sMap_end {ts:List (Tm×Int)}{t:Tm}{c:Int}:(sMap ts ++ [(cTm t,.int .i64 c)])[(sMap ts).length]? = some (cTm t,.int .i64 c):=by
 rw [List.getElem?_append_right (Nat.le_refl _),Nat.sub_self];rfl
theorem sMap_put_end {ts:List (Tm×Int)}{t:Tm}{c x:Int}:kput (sMap ts ++ [(cTm t,.int .i64 c)]) (sMap ts).length (.int .i64 x)=sMap (ts ++ [(t,x)]):=by
 rw [show sMap ts ++ [(cTm t,AV.int .i64 c)]=sMap (ts ++ [(t,c)]) by unfold sMap;rw [List.map_append];rfl,sMap_len,sMap_put]
 congr 1
 induction ts with
 | nil=>rfl
 | cons a r ih=>simpa using ih

/-! ### how far a sum reaches -/
structure suOK (n:Nat) (s:Su):Prop where
 rest : -(n:Int)*1099511627776≤s.rest∧s.rest≤(n:Int)*1099511627776
 coef:∀p∈s.ts,-(n:Int)≤p.2∧p.2≤(n:Int)
 len:s.ts.length≤n
theorem const_num {e:Ex}(h:nodeS e=0)(ho:e.op=0) : -1099511627776≤e.val.num∧e.val.num≤1099511627776:=by
 unfold nodeS at h
 split at h
 · cases h
 split at h
 · cases h
 split at h
 · cases h
 split at h
 · cases h
 rw [if_pos (by rw [ho];rfl)] at h
 have hc:constS e=0:=by
  by_cases hx:(constS e != 0)=true
  · rw [if_pos hx] at h;exact h
  · simpa using hx
 have hv:vcheckS e.val=0:=by
  unfold constS at hc
  by_cases hx:(vcheckS e.val != 0)=true
  · rw [if_pos hx] at hc;exact hc
  · simpa using hx
 have vs:e.val.kind=0∨e.val.kind=1→vsizeS e.val=0→-1099511627776≤e.val.num∧e.val.num≤1099511627776:=by
  intro hk hz
  unfold vsizeS at hz
  by_cases h1:(e.val.kind==0&&(decide (e.val.num < -1099511627776)||decide (1099511627776<e.val.num)))=true
  · rw [if_pos h1] at hz;cases hz
  ·
   rw [if_neg h1] at hz
   rcases hk with hk | hk
   · simp [hk] at h1;omega
   ·
    by_cases h2:(e.val.kind==1&&e.val.num != 0&&e.val.num != 1)=true
    · rw [if_pos h2] at hz;cases hz
    · simp [hk] at h2;omega
 unfold vcheckS at hv
 by_cases h1:(e.val.kind==0||e.val.kind==1)=true
 ·
  rw [if_pos h1] at hv
  split at hv
  · cases hv
  · exact vs (by simpa using h1) hv
 ·
  rw [if_neg h1] at hv
  by_cases h2:(e.val.kind==2)=true
  ·
   rw [if_pos h2] at hv
   by_cases h3:(e.val.num != 0)=true
   · rw [if_pos h3] at hv;cases hv
   ·
    have:e.val.num=0:=by simpa using h3
    omega
  · rw [if_neg h2] at hv;cases hv
theorem suOK.mono {n m:Nat}{s:Su}(h:suOK n s)(hm:n≤m):suOK m s:=
 ⟨by have:=h.rest;omega,fun p hp=>by have:=h.coef p hp;omega,Nat.le_trans h.len hm⟩
theorem addT_ok {n:Nat}{t:Tm}{b:Int}(hb:b=1∨b = -1):∀{ts:List (Tm×Int)},(∀p∈ts,-(n:Int)≤p.2∧p.2≤(n:Int))→(∀p∈addT t b ts,-((n+1:Nat):Int)≤p.2∧p.2≤((n+1:Nat):Int))∧(addT t b ts).length≤ts.length+1
  | [],_=>by simp [addT];omega
  | q::r,h=>by
    rw [addT]
    split
    · refine ⟨fun p hp=>?_,by simp⟩
      rcases List.mem_cons.1 hp with rfl | hp
      · have:=h q (by simp);simp only;omega
      · have:=h p (by simp [hp]);omega
    · obtain ⟨h1,h2⟩:=addT_ok hb (ts:=r) fun p hp=>h p (by simp [hp])
      refine ⟨fun p hp=>?_,by simp;omega⟩
      rcases List.mem_cons.1 hp with rfl | hp
      · have:=h p (by simp);omega
      · exact h1 p hp
theorem lin_ok (e:Ex):nodesS e=0→∀{n:Nat} {b:Int} {s:Su},b=1∨b = -1→suOK n s→suOK (n+sizeN e) (linS e b s).1:=by
  refine Ex.ind (P:=fun e=>nodesS e=0→∀{n:Nat} {b:Int} {s:Su},b=1∨b = -1→suOK n s→suOK (n+sizeN e) (linS e b s).1) (fun e ih hn n b s hb hs=>?_) e
  have hz:=nodes_zero hn
  have hsz:1≤sizeN e:=by rw [sizeN_eq];omega
  have hsum2:∀h:1<e.args.length,sizeN (arg0 e)+sizeN (arg1 e)+1≤sizeN e:=fun h=>by
    have hp:=sizeN_eq e
    cases ha:e.args with
    | nil=>rw [ha] at h;simp at h
    | cons a r=>
      cases r with
      | nil=>rw [ha] at h;simp at h
      | cons b r=>
        have e0:arg0 e=a:=by unfold arg0;rw [ha];rfl
        have e1:arg1 e=b:=by unfold arg1;rw [ha];rfl
        rw [e0,e1,hp,ha];simp;omega
  rw [linS_eq]
  unfold linN
  split
  · rename_i h0
    have hc:=const_num hz.1 (by simpa using h0)
    refine (show suOK (n+1) _ from ⟨?_,fun p hp=>by have:=hs.coef p hp;omega,by have:=hs.len;simp only;omega⟩).mono (by omega)
    have:=hs.rest
    rcases hb with rfl | rfl <;> simp only <;> omega
  · split
    · obtain ⟨h1,h2⟩:=addT_ok (t:=tmOf e) hb hs.coef
      exact (show suOK (n+1) _ from ⟨by have:=hs.rest;simp only;omega,h1,by have:=hs.len;simp only;omega⟩).mono (by omega)
    · have two:(e.op=5∨e.op=6)→∀c,(c=1∨c = -1)→suOK (n+sizeN e) (if !((hd0 (fun _ s=>(s,false)) (e.args.map linS):LinF) b s).2 then (((hd0 (fun _ s=>(s,false)) (e.args.map linS):LinF) b s).1,false) else (hd1 (fun _ s=>(s,false)) (e.args.map linS):LinF) c ((hd0 (fun _ s=>(s,false)) (e.args.map linS):LinF) b s).1).1:=by
        intro ho c hc
        have hl:=len_two' hz.1 (by omega)
        have hs2:=hsum2 hl
        rw [hd0_map linS _ (by omega),hd1_map linS _ hl]
        have m0:=arg0_mem (show 0<e.args.length by omega)
        have m1:=arg1_mem hl
        have i0:=ih _ m0 (hz.2 _ m0) hb hs
        split
        · exact i0.mono (by omega)
        · exact (ih _ m1 (hz.2 _ m1) hc i0).mono (by omega)
      split
      · rename_i h5;exact two (.inl (by simpa using h5)) b hb
      · split
        · rename_i h6;exact two (.inr (by simpa using h6)) (0-b) (by omega)
        · exact hs.mono (by omega)

/-! ### the sum in the heap -/
abbrev sumH (m bs:Nat)(v:Value)(s:Su)(R:List HO):List HO:=.row v (s.ts.map fun p=>cTm p.1).length 143 3 :: .box bs 207 [.val (.map (some m)),.row v 3 (s.ts.map fun p=>cTm p.1),.int .i64 s.rest] :: .kmap m (sMap s.ts)::R
theorem lin_wrap {m bs:Nat}{R:List HO}{e:Ex}{b:Int}{s:Su}{X:Su×Bool}{r:AV}{H:List HO}(h:linS e b s=X)(k:r = .bool X.2∧∃v,H=sumH m bs v X.1 R):r = .bool (linS e b s).2∧∃v,H=sumH m bs v (linS e b s).1 R:=by rw [h];exact k
theorem lin_const {e:Ex}{b:Int}{s:Su}(h:(e.op==0)=true):linS e b s=(⟨s.ts,s.rest+b*e.val.num⟩,true):=by rw [linS_eq,linN,if_pos h]
theorem lin_term {e:Ex}{b:Int}{s:Su}(h:(e.op==0)=false)(h1:(e.op==1||e.op==2)=true):linS e b s=(⟨addT (tmOf e) b s.ts,s.rest⟩,true):=by rw [linS_eq,linN,ifF h,if_pos h1]
theorem lin_else {e:Ex}{b:Int}{s:Su}(h:(e.op==0)=false)(h1:(e.op==1||e.op==2)=false)(h2:(e.op==5)=false)(h3:(e.op==6)=false):linS e b s=(s,false):=by rw [linS_eq,linN,ifF h,ifF h1,ifF h2,ifF h3]
theorem lin_two {e:Ex}{b c:Int}{s:Su}(hl:1<e.args.length)(h:(e.op=5∧c=b)∨(e.op=6∧c=0-b)):linS e b s=if !(linS (arg0 e) b s).2 then ((linS (arg0 e) b s).1,false) else linS (arg1 e) c (linS (arg0 e) b s).1:=by
 rw [linS_eq,linN]
 rcases h with ⟨h,rfl⟩ | ⟨h,rfl⟩
 · rw [ifF (by simp;omega),ifF (by simp;omega),if_pos (by simpa using h),hd0_map linS _ (by omega),hd1_map linS _ hl]
 · rw [ifF (by simp;omega),ifF (by simp;omega),ifF (by simp;omega),if_pos (by simpa using h),hd0_map linS _ (by omega),hd1_map linS _ hl]
theorem lin_two_t {e:Ex}{b c:Int}{s:Su}(hl:1<e.args.length)(h:(e.op=5∧c=b)∨(e.op=6∧c=0-b))(hG:allG [((linS (arg0 e) b s).2,true)]):linS e b s=linS (arg1 e) c (linS (arg0 e) b s).1:=by
 have h2:(linS (arg0 e) b s).2=true:=hG _ (List.mem_singleton.2 rfl)
 rw [lin_two hl h,h2];rfl
theorem lin_two_f {m bs:Nat}{R:List HO}{v:Value}{e:Ex}{b c:Int}{s:Su}(hl:1<e.args.length)(h:(e.op=5∧c=b)∨(e.op=6∧c=0-b))(hG:¬allG [((linS (arg0 e) b s).2,true)]):∃u,sumH m bs v (linS (arg0 e) b s).1 R=sumH m bs u (linS e b s).1 R:=by
 have h2:(linS (arg0 e) b s).2=false:=by
  rw [Bool.eq_false_iff]
  intro hx
  exact hG fun p hp=>by rw [List.mem_singleton.1 hp];exact hx
 refine ⟨v,?_⟩
 rw [lin_two hl h,h2];rfl
theorem lin_two_snd {e:Ex}{b c:Int}{s:Su}(hl:1<e.args.length)(h:(e.op=5∧c=b)∨(e.op=6∧c=0-b)):((linS (arg0 e) b s).2&&(linS (arg1 e) c (linS (arg0 e) b s).1).2)=(linS e b s).2:=by
 rw [lin_two hl h]
 cases hq:(linS (arg0 e) b s).2 <;> simp
theorem lin_call {f:FuncId}{m bs:Nat}{R:List HO}{e:Ex}{b c:Int}{s:Su}{args:List AV}{H:List HO}(hl:1<e.args.length)(h:(e.op=5∧c=b)∨(e.op=6∧c=0-b))(hG:allG [((linS (arg0 e) b s).2,true)])(hc:ACall Tryz.prog f H args fun r H'=>r = .bool (linS (arg1 e) c (linS (arg0 e) b s).1).2∧∃v,H'=sumH m bs v (linS (arg1 e) c (linS (arg0 e) b s).1).1 R) :
  ACall Tryz.prog f H args fun r H'=>r = .bool (linS (arg1 e) c (linS (arg0 e) b s).1).2∧∃v,H'=sumH m bs v (linS e b s).1 R:=by
 rw [lin_two_t hl h hG];exact hc
theorem sum_new {m bs:Nat}{v:Value}{R:List HO}{t:Tm}{b:Int}{s:Su}(h:hasT t s.ts=false) :
  (HO.row v ((s.ts.map fun p=>cTm p.1) ++ [cTm t]).length 143 3 :: .box bs 207 [.val (.map (some m)),.row v 3 ((s.ts.map fun p=>cTm p.1) ++ [cTm t]),.int .i64 s.rest] :: .kmap m (kput (sMap s.ts ++ [(cTm t,.int .i64 0)]) (sMap s.ts).length (.int .i64 (coefS t s.ts+b)))::R)=sumH m bs v ⟨addT t b s.ts,s.rest⟩ R:=by
 obtain ⟨h1,h2⟩:=add_new (b:=b) h
 rw [sMap_put_end,h1,h2,Int.zero_add]
 show _=HO.row v ((s.ts ++ [(t,b)]).map fun p=>cTm p.1).length 143 3::_
 rw [List.map_append];rfl
theorem mod_fst {c:Int}:∀(l:List (Tm×Int)) (j:Nat),((l.modify j (fun p=>(p.1,c))).map fun p=>cTm p.1)=l.map fun p=>cTm p.1
 | [],j=>by cases j <;> rfl
 | a::r,0=>rfl
 | a::r,j+1=>by simp only [List.modify_succ_cons,List.map_cons];rw [mod_fst r j]
theorem sum_old {m bs j:Nat}{v:Value}{R:List HO}{t:Tm}{b:Int}{s:Su}(h3:addT t b s.ts=s.ts.modify j (fun p=>(p.1,coefS t s.ts+b))) :
  (HO.row v (s.ts.map fun p=>cTm p.1).length 143 3 :: .box bs 207 [.val (.map (some m)),.row v 3 (s.ts.map fun p=>cTm p.1),.int .i64 s.rest] :: .kmap m (kput (sMap s.ts) j (.int .i64 (coefS t s.ts+b)))::R)=sumH m bs v ⟨addT t b s.ts,s.rest⟩ R:=by
 have hm:=mod_fst (c:=coefS t s.ts+b) s.ts j
 rw [sMap_put,h3]
 show _=HO.row v ((s.ts.modify j (fun p=>(p.1,coefS t s.ts+b))).map fun p=>cTm p.1).length 143 3::HO.box bs 207 [.val (.map (some m)),.row v 3 ((s.ts.modify j (fun p=>(p.1,coefS t s.ts+b))).map fun p=>cTm p.1),.int .i64 s.rest]::_
 rw [hm]
theorem or1 {a b:Bool}(h:a=true):(a||b)=true:=by rw [h];rfl
theorem or2 {a b:Bool}(h:b=true):(a||b)=true:=by rw [h];simp
theorem or0 {a b:Bool}(h:a=false)(h':b=false):(a||b)=false:=by rw [h,h'];rfl
theorem coef_ok {n:Nat}{s:Su}(h:suOK n s)(t:Tm) : -(n:Int)≤coefS t s.ts∧coefS t s.ts≤(n:Int):=by
 unfold coefS
 cases hf:s.ts.find? fun q=>eqT t q.1 with
 | none=>simp only [Option.map_none,Option.getD_none];omega
 | some q=>exact h.coef q (List.mem_of_find?_eq_some hf)
theorem OpP_or2 {P:Program}{o:Oper}{ρ:Operand→AV}{x:AV}{a b:HO}{K:List HO→Prop}(h1:∀k:Nat,OpP P o ρ (fun H=>H[k]? = some a) x)(h2:∀k:Nat,OpP P o ρ (fun H=>H[k]? = some b) x)(h:∀H,K H→a∈H∨b∈H):OpP P o ρ K x:=by
 intro g w c H next Q hr hH hk hn
 rcases h H hk with h | h
 ·
  obtain ⟨k,hk⟩:=List.getElem?_of_mem h
  exact h1 k g w c H next Q hr hH hk hn
 ·
  obtain ⟨k,hk⟩:=List.getElem?_of_mem h
  exact h2 k g w c H next Q hr hH hk hn
theorem sMap_eq' (t:Tm)(ts:List (Tm×Int)):∀p∈sMap ts ++ [(cTm t,AV.int .i64 0)],aeqs TL [(0,1,true,3),(1,1,true,3),(2,1,true,3)] (cTm t) p.1=some (eqTm t p.1):=by
 have:sMap ts ++ [(cTm t,AV.int .i64 0)]=sMap (ts ++ [(t,0)]):=by unfold sMap;rw [List.map_append];rfl
 rw [this];exact sMap_eq t _
theorem look_t' {t:Tm}{ts:List (Tm×Int)}(h:hasT t ts=false):match kget (eqTm t) (sMap ts ++ [(cTm t,AV.int .i64 0)]) with | some y=>y = .int .i64 (coefS t ts) | none=>[AV.int .i64 0] = [.int .i64 (coefS t ts)]:=by
 have h1:sMap ts ++ [(cTm t,AV.int .i64 0)]=sMap (ts ++ [(t,0)]):=by unfold sMap;rw [List.map_append];rfl
 have h2:coefS t (ts ++ [(t,0)])=coefS t ts:=by
  rw [(add_new (b:=0) h).2]
  unfold coefS
  unfold hasT at h
  rw [List.find?_append]
  cases hf:ts.find? fun q=>eqT t q.1 with
  | some q=>rw [hf] at h;cases h
  | none=>rw [List.find?_cons,eqT_iff.2 rfl];rfl
 rw [h1,←h2];exact look_t t _
theorem arg_sizes {e:Ex}(h:1<e.args.length):sizeN (arg0 e)+sizeN (arg1 e)+1≤sizeN e:=by
  have hp:=sizeN_eq e
  cases ha:e.args with
  | nil=>rw [ha] at h;simp at h
  | cons a r=>
    cases r with
    | nil=>rw [ha] at h;simp at h
    | cons b r=>
      have e0:arg0 e=a:=by unfold arg0;rw [ha];rfl
      have e1:arg1 e=b:=by unfold arg1;rw [ha];rfl
      rw [e0,e1,hp,ha];simp;omega

/-- the sum where between ends -/
def sumEnd (a b:Ex):Su:=if !(linS a 1 su0).2 then (linS a 1 su0).1 else (linS b (-1) (linS a 1 su0).1).1
theorem sumEnd_t {a b:Ex}(hG:allG [(!(linS a 1 su0).2,false)]):sumEnd a b=(linS b (-1) (linS a 1 su0).1).1:=by
 have h2:(!(linS a 1 su0).2)=false:=hG _ (List.mem_singleton.2 rfl)
 unfold sumEnd;rw [ifF h2]
theorem btw_call {f:FuncId}{m bs:Nat}{R:List HO}{a b:Ex}{args:List AV}{H:List HO}(hG:allG [(!(linS a 1 su0).2,false)])(hc:ACall Tryz.prog f H args fun r H'=>r = .bool (linS b (-1) (linS a 1 su0).1).2∧∃v,H'=sumH m bs v (linS b (-1) (linS a 1 su0).1).1 R) :
  ACall Tryz.prog f H args fun r H'=>r = .bool (linS b (-1) (linS a 1 su0).1).2∧∃v,H'=sumH m bs v (sumEnd a b) R:=by
 rw [sumEnd_t hG];exact hc
theorem btw_f {m bs:Nat}{R:List HO}{v:Value}{a b:Ex}(hG:¬allG [(!(linS a 1 su0).2,false)]):∃u,sumH m bs v (linS a 1 su0).1 R=sumH m bs u (sumEnd a b) R:=by
 have h2:(!(linS a 1 su0).2)=true:=by
  rw [←Bool.not_eq_false]
  intro hx
  exact hG fun p hp=>by rw [List.mem_singleton.1 hp];exact hx
 refine ⟨v,?_⟩
 unfold sumEnd;rw [if_pos h2]
theorem btw_no {a b:Ex}(h:(!(linS a 1 su0).2 || !(linS b (-1) (linS a 1 su0).1).2)=true):betweenS a b=(gp0,false):=by
 unfold betweenS
 by_cases h1:(!(linS a 1 su0).2)=true
 · rw [if_pos h1]
 · rw [if_neg h1,if_pos (by simpa [Bool.eq_false_iff.2 h1] using h)]
theorem btw_yes {a b:Ex}(h:(!(linS a 1 su0).2 || !(linS b (-1) (linS a 1 su0).1).2)=false):betweenS a b=gapOf (sumEnd a b):=by
 have h1:(!(linS a 1 su0).2)=false:=by cases hx:(!(linS a 1 su0).2) <;> simp_all
 have h2:(!(linS b (-1) (linS a 1 su0).1).2)=false:=by rw [h1] at h;simpa using h
 unfold betweenS sumEnd
 rw [ifF h1,ifF h2,ifF h1]
theorem btw_part_no {a b:Ex}(h:(!(linS a 1 su0).2 || !(linS b (-1) (linS a 1 su0).1).2)=false)(hp:partsS (sumEnd a b).ts [] []=none):betweenS a b=(gp0,false):=by
 rw [btw_yes h,gapOf,hp]
theorem btw_part {a b:Ex}{p m:List Tm}(h:(!(linS a 1 su0).2 || !(linS b (-1) (linS a 1 su0).1).2)=false)(hp:partsS (sumEnd a b).ts [] []=some (p,m)):betweenS a b=(⟨p,m,(sumEnd a b).rest⟩,decide ((p.length:Int)≤1)&&decide ((m.length:Int)≤1)):=by
 rw [btw_yes h,gapOf,hp]
theorem su0_ok:suOK 0 su0:=⟨by simp [su0],by simp [su0],by simp [su0]⟩
theorem sumEnd_ok {a b:Ex}(ha:nodesS a=0)(hb:nodesS b=0):suOK (sizeN a+sizeN b) (sumEnd a b):=by
 have h1:suOK (0+sizeN a) (linS a 1 su0).1:=lin_ok a ha (.inl rfl) su0_ok
 unfold sumEnd
 split
 · exact h1.mono (by omega)
 · exact (lin_ok b hb (.inr rfl) h1).mono (by omega)
/-- the terms of a sum are different ones -/
theorem addT_nodup {t:Tm}{b:Int}:∀{ts:List (Tm×Int)},(ts.map (·.1)).Nodup→((addT t b ts).map (·.1)).Nodup∧∀u,u∈(addT t b ts).map (·.1)→u=t∨u∈ts.map (·.1)
  | [],_=>by simp [addT]
  | q::r,h=>by
    rw [addT]
    rw [List.map_cons,List.nodup_cons] at h
    split
    · rename_i he
      refine ⟨by simpa using h,fun u hu=>.inr (by simpa using hu)⟩
    · rename_i hne
      obtain ⟨h1,h2⟩:=addT_nodup (t:=t) (b:=b) h.2
      refine ⟨?_,fun u hu=>?_⟩
      · rw [List.map_cons,List.nodup_cons]
        refine ⟨fun hu=>?_,h1⟩
        rcases h2 _ hu with e | hm
        · exact hne e.symm
        · exact h.1 hm
      · rw [List.map_cons,List.mem_cons] at hu
        rcases hu with e | hu
        · right;rw [e];simp
        · rcases h2 _ hu with e | hm
          · exact .inl e
          · right;rw [List.map_cons];exact List.mem_cons_of_mem _ hm
theorem lin_nodup (e:Ex):nodesS e=0→∀{b:Int} {s:Su},(s.ts.map (·.1)).Nodup→((linS e b s).1.ts.map (·.1)).Nodup:=by
 refine Ex.ind (P:=fun e=>nodesS e=0→∀{b:Int} {s:Su},(s.ts.map (·.1)).Nodup→((linS e b s).1.ts.map (·.1)).Nodup) (fun e ih hn b s hs=>?_) e
 have hz:=nodes_zero hn
 rw [linS_eq]
 unfold linN
 split
 · exact hs
 ·
  split
  · exact (addT_nodup hs).1
  ·
   have two:(e.op=5∨e.op=6)→∀c,((if !((hd0 (fun _ s=>(s,false)) (e.args.map linS):LinF) b s).2 then (((hd0 (fun _ s=>(s,false)) (e.args.map linS):LinF) b s).1,false) else (hd1 (fun _ s=>(s,false)) (e.args.map linS):LinF) c ((hd0 (fun _ s=>(s,false)) (e.args.map linS):LinF) b s).1).1.ts.map (·.1)).Nodup:=by
    intro ho c
    have hl:=len_two' hz.1 (by omega)
    rw [hd0_map linS _ (by omega),hd1_map linS _ hl]
    have m0:=arg0_mem (show 0<e.args.length by omega)
    have m1:=arg1_mem hl
    have i0:=ih _ m0 (hz.2 _ m0) (b:=b) hs
    split
    · exact i0
    · exact ih _ m1 (hz.2 _ m1) i0
   split
   · rename_i h5;exact two (.inl (by simpa using h5)) b
   ·
    split
    · rename_i h6;exact two (.inr (by simpa using h6)) (0-b)
    · exact hs
theorem sumEnd_nodup {a b:Ex}(ha:nodesS a=0)(hb:nodesS b=0):((sumEnd a b).ts.map (·.1)).Nodup:=by
 have h1:=lin_nodup a ha (b:=1) (s:=su0) (by simp [su0])
 unfold sumEnd
 split
 · exact h1
 · exact lin_nodup b hb h1
/-- the coefficient that the map holds at a term of the list -/
theorem coef_at {ts:List (Tm×Int)}{k:Nat}{q:Tm×Int}(hn:(ts.map (·.1)).Nodup)(h:ts[k]? = some q):coefS q.1 ts=q.2:=by
  induction ts generalizing k with
  | nil=>simp at h
  | cons p r ih=>
    rw [List.map_cons,List.nodup_cons] at hn
    unfold coefS
    rw [List.find?_cons]
    cases k with
    | zero=>
      have:p=q:=by simpa using h
      subst this
      rw [eqT_iff.2 rfl];rfl
    | succ k=>
      have hq:r[k]? = some q:=by simpa using h
      have hm:=List.mem_of_getElem? hq
      have hne:eqT q.1 p.1=false:=by
        rw [Bool.eq_false_iff]
        intro he
        have:=eqT_iff.1 he
        exact hn.1 (by rw [←this];exact List.mem_map_of_mem hm)
      rw [hne]
      exact ih hn.2 hq
theorem look_at {ts:List (Tm×Int)}{k:Nat}{q:Tm×Int}(hn:(ts.map (·.1)).Nodup)(h:ts[k]? = some q):match kget (eqTm q.1) (sMap ts) with | some y=>y = .int .i64 q.2 | none=>[AV.int .i64 0] = [.int .i64 q.2]:=by
 have h1:=look_t q.1 ts
 rw [coef_at hn h] at h1
 exact h1
theorem parts_0 {t:Tm×Int}{r:List (Tm×Int)}{p m:List Tm}(h:(t.2==0)=true):partsS (t::r) p m=partsS r p m:=by rw [partsS,if_pos h]
theorem parts_1 {t:Tm×Int}{r:List (Tm×Int)}{p m:List Tm}(h:(t.2==0)=false)(h1:(t.2==1)=true):partsS (t::r) p m=partsS r (p ++ [t.1]) m:=by rw [partsS,ifF h,if_pos h1]
theorem parts_2 {t:Tm×Int}{r:List (Tm×Int)}{p m:List Tm}(h:(t.2==0)=false)(h1:(t.2==1)=false)(h2:(t.2 == -1)=true):partsS (t::r) p m=partsS r p (m ++ [t.1]):=by rw [partsS,ifF h,ifF h1,if_pos h2]
theorem parts_3 {t:Tm×Int}{r:List (Tm×Int)}{p m:List Tm}(h:(t.2==0)=false)(h1:(t.2==1)=false)(h2:(t.2 == -1)=false):partsS (t::r) p m=none:=by rw [partsS,ifF h,ifF h1,ifF h2]

theorem cmp_two {T:List Sc}{V:List Va}{e:Ex}(hk:KOK T V e)(h:comparesS e=true):1<e.args.length:=by
 unfold comparesS at h
 have h':e.op=7∨e.op=8∨e.op=9:=by simp at h;omega
 exact len_two' (nodes_zero hk.nodes).1 (by omega)
theorem simple_1 {T:List Sc}{V:List Va}{e:Ex}(h:(e.op==1)=true):simpleS T V e=true:=by rw [simpleS,if_pos h]
theorem simple_2 {T:List Sc}{V:List Va}{e:Ex}(h:(e.op==1)=false)(h2:(!comparesS e)=true):simpleS T V e=false:=by rw [simpleS,ifF h,if_pos h2]
theorem simple_3 {T:List Sc}{V:List Va}{e:Ex}(h:(e.op==1)=false)(h2:(!comparesS e)=false)(h3:textsS T V e=true):simpleS T V e=(directS (arg0 e)&&directS (arg1 e)):=by rw [simpleS,ifF h,ifF h2,if_pos h3]
theorem simple_4 {T:List Sc}{V:List Va}{e:Ex}(h:(e.op==1)=false)(h2:(!comparesS e)=false)(h3:textsS T V e=false):simpleS T V e=(betweenS (arg0 e) (arg1 e)).2:=by rw [simpleS,ifF h,ifF h2,ifF h3]
theorem condE_kok {T:List Sc}{V:List Va}{e:Ex}(h:(condE T V e != 0)=false):KOK T V e:=by
 have h0:condE T V e=0:=by simpa using h
 unfold condE at h0
 by_cases h1:((KindS T V e).2 != 0)=true
 · rw [if_pos h1] at h0;rw [h0] at h1;cases h1
 · exact (KindS_kok (by simpa using h1)).1

theorem leaf_tm {e:Ex}(h:nodeS e=0)(ho:(e.op==1||e.op==2)=true):tmE (tmOf e)=e:=by
 have ho':e.op=1∨e.op=2:=by simpa using ho
 have hn:=leaf_nil h (by omega)
 unfold nodeS at h
 split at h
 · cases h
 split at h
 · cases h
 split at h
 · cases h
 split at h
 · cases h
 rw [if_neg (by simp;omega)] at h
 unfold formS at h
 have hu:(usesS e.op).1=true:=by rcases ho' with ho | ho <;> rw [ho] <;> rfl
 split at h
 · cases h
 rename_i hf
 cases e with | mk op args var field kind val=>
 simp only at ho' hn hf hu ⊢
 rw [hu] at hf
 simp only [Bool.not_true,Bool.false_and,Bool.false_or,Bool.or_eq_true,not_or,Bool.and_eq_true,not_and,Bool.not_eq_true',bne_iff_ne,ne_eq,Decidable.not_not,Bool.or_eq_false_iff,beq_eq_false_iff_ne] at hf
 have hk:kind=0:=hf.1.2 (by omega)
 have hv:val=v0:=by
  have:=hf.2 ⟨by omega,by omega⟩
  rw [←isV0_iff];simpa using this
 have hfd:op=2→field=0:=fun h2=>hf.1.1 (by rw [h2];rfl)
 unfold tmE tmOf
 subst hn;subst hk;subst hv
 rfl
abbrev LinC:=Int→Su×Bool→Su×Bool
def colN (e:Ex)(fs:List LinC):LinC:=fun b s=>
 if e.op==0 then (⟨s.1.ts,s.1.rest+b*e.val.num⟩,s.2)
 else if e.op==1||e.op==2 then (⟨addT (tmOf e) b s.1.ts,s.1.rest⟩,s.2)
 else if e.op==5 then (hd1 (fun _ s=>(s.1,false)) fs:LinC) b ((hd0 (fun _ s=>(s.1,false)) fs:LinC) b s)
 else if e.op==6 then (hd1 (fun _ s=>(s.1,false)) fs:LinC) (0-b) ((hd0 (fun _ s=>(s.1,false)) fs:LinC) b s)
 else (s.1,false)
def colS:Ex→LinC:=recE colN
theorem op_cases {e:Ex}(h:nodeS e=0):(e.op==0)=true∨((e.op==0)=false∧(e.op==1||e.op==2)=true)∨((e.op=5∨e.op=6)∧1<e.args.length)∨((e.op==0)=false∧(e.op==1||e.op==2)=false∧(e.op==5)=false∧(e.op==6)=false):=by
 by_cases h0:e.op=0
 · left;simpa using h0
 by_cases h1:e.op=1∨e.op=2
 · right;left;exact ⟨by simpa using h0,by simpa using h1⟩
 by_cases h5:e.op=5∨e.op=6
 · right;right;left;exact ⟨h5,len_two' h (by omega)⟩
 · right;right;right;refine ⟨by simpa using h0,by simp;omega,by simp;omega,by simp;omega⟩
/-- the sum where difference ends -/
def colEnd (a b:Ex):Su×Bool:=colS b (-1) (colS a 1 (su0,true))
def differS (a b:Ex):Gp×Bool:=match partsS (colEnd a b).1.ts [] [] with
 | some (p,m)=>(⟨p,m,(colEnd a b).1.rest⟩,(colEnd a b).2&&(decide ((p.length:Int)≤1)&&decide ((m.length:Int)≤1)))
 | none=>(gp0,false)
/-! ### the sum in the heap -/
abbrev rTm (ts:List (Tm×Int)):List (List AV):=ts.map fun p=>cE (tmE p.1)
abbrev rCo (ts:List (Tm×Int)):List (List AV):=ts.map fun p=>[AV.int .i64 p.2]
abbrev linH (v u:Value)(ts:List (Tm×Int))(R:List HO):List HO:=.row v (rTm ts).length 30 8 :: .buf u (rCo ts) 3 1::R
abbrev linR (v u:Value)(s:Su)(ok:Bool):AV:=.agg [.row v 8 (rTm s.ts),.val u,.int .i64 s.rest,.bool ok]
theorem nat_ble {a b:Nat}(h:a≤b):Nat.ble a b=true:=Nat.ble_eq_true_of_le h
def cGpR (g:Gp):List AV:=[.sl 8 (g.plus.map fun t=>cE (tmE t)),.sl 8 (g.minus.map fun t=>cE (tmE t)),.int .i64 g.rest]

/-- a well-typed expression within the limits -/
structure KC (T:List Sc) (V:List Va) (e:Ex):Prop where
 kok:KOK T V e
 types:allTS T=0
 vars:varsE T V=0
 check:checkS e=0
theorem check_zero {e:Ex}(h:checkS e=0):sizeN e≤64∧depthN e≤12∧nodesS e=0:=by
 unfold checkS at h
 split at h
 · cases h
 rename_i h1
 split at h
 · cases h
 rename_i h2
 simp only [decide_eq_true_eq] at h1 h2
 exact ⟨by omega,by omega,h⟩
theorem kc_size {T:List Sc}{V:List Va}{e:Ex}(h:KC T V e):sizeN e≤64:=(check_zero h.check).1
theorem kc_kind {T:List Sc}{V:List Va}{e:Ex}(h:KC T V e):KindS T V e=kindS T V e:=by
 unfold KindS
 rw [if_neg (by rw [h.types];decide),if_neg (by rw [h.vars];decide),if_neg (by rw [h.check];decide)]
theorem kc_kindR {T:List Sc}{V:List Va}{e:Ex}(h:KC T V e):(KindS T V e).1=kindR T V e:=by rw [kc_kind h,kok_kind h.kok]
theorem KindS_kc {T:List Sc}{V:List Va}{e:Ex}(h:(KindS T V e).2=0):KC T V e:=by
 have hk:=(KindS_kok h).1
 unfold KindS at h
 by_cases h1:(allTS T != 0)=true
 · rw [if_pos h1] at h;simp only at h;rw [h] at h1;cases h1
 rw [if_neg h1] at h
 by_cases h2:(varsE T V != 0)=true
 · rw [if_pos h2] at h;simp only at h;rw [h] at h2;cases h2
 rw [if_neg h2] at h
 by_cases h3:(checkS e != 0)=true
 · rw [if_pos h3] at h;simp only at h;rw [h] at h3;cases h3
 exact ⟨hk,by simpa using h1,by simpa using h2,by simpa using h3⟩
theorem condE_kc {T:List Sc}{V:List Va}{e:Ex}(h:(condE T V e != 0)=false):KC T V e∧kindR T V e=1:=by
 have h0:condE T V e=0:=by simpa using h
 unfold condE at h0
 by_cases h1:((KindS T V e).2 != 0)=true
 · rw [if_pos h1] at h0;rw [h0] at h1;cases h1
 ·
  rw [if_neg h1] at h0
  have hk:=KindS_kc (by simpa using h1)
  refine ⟨hk,?_⟩
  by_cases h2:((KindS T V e).1 != 1)=true
  · rw [if_pos h2] at h0;cases h0
  · rw [←kc_kindR hk];simpa using h2
theorem kok_ok {T:List Sc}{V:List Va}{e a:Ex}(h:KOK T V e)(ha:a∈e.args):okS e.op (kindR T V a) (kindR T V (arg0 e))=true:=by
 have hp:e.args≠[]:=by intro hn;rw [hn] at ha;cases ha
 have h1:=(kok_args h hp).2.1
 unfold operandsS at h1
 have h2:=first_zero h1 _ (List.mem_map_of_mem (f:=fun a=>(kindS T V a).1) ha)
 have h0:0<e.args.length:=List.length_pos_iff.2 hp
 have h3:((e.args.map fun a=>(kindS T V a).1).headD 0)=(kindS T V (arg0 e)).1:=by
  cases hargs:e.args with
  | nil=>exact absurd hargs hp
  | cons x r=>unfold arg0;rw [hargs];rfl
 rw [h3] at h2
 rw [kok_kind (kok_arg h ha),kok_kind (kok_arg h (arg0_mem h0))] at h2
 split at h2
 · assumption
 · cases h2
theorem kok_same {T:List Sc}{V:List Va}{e a:Ex}(h:KOK T V e)(ho:e.op=9)(ha:a∈e.args):kindR T V a=kindR T V (arg0 e):=by
 have h1:=kok_ok h ha
 unfold okS at h1
 rw [if_neg (by simp;omega),if_neg (by simp;omega),if_pos (by simp;omega)] at h1
 simpa using h1
/-! ### The reference's -/
def rcmpS (e:Ex):Bool:=(e.op != 7&&e.op != 8)&&e.op != 9

theorem nilsl_sl:∀g w u,Rep g w u (.sl 1 [[.val (.slice none 0 0)]])→Rep g w u (.sl 1 [[.sl 9 []]]):=fun g w u h=>by
  cases h with
  | sl b o n cap z es hn hc hm hz f hs hr=>
    refine .sl b o n cap 1 _ hn hc hm (fun e he=>by rw [List.mem_singleton.1 he];rfl) f (fun i e hi j x hj=>?_) (fun i e hi j x hj=>?_)
    · cases i with
      | succ i=>simp at hi
      | zero=>
        cases j with
        | succ j=>simp at hi;subst hi;simp at hj
        | zero=>exact hs 0 _ rfl 0 _ rfl
    · cases i with
      | succ i=>simp at hi
      | zero=>
        cases j with
        | succ j=>simp at hi;subst hi;simp at hj
        | zero=>
          simp at hi;subst hi;simp at hj;subst hj
          have:=(hr 0 _ rfl 0 _ rfl).inv_val
          rw [this];exact .sl0 _ _ _ (Nat.zero_le _)

/-! ### products -/
theorem prod_no {α:Type}{a b:List (List α)}(h:decide ((256:Int)<(a.length:Int)*(b.length:Int))=true):prodS a b=([],false):=by rw [prodS,if_pos h]
theorem prod_yes {α:Type}{a b:List (List α)}(h:decide ((256:Int)<(a.length:Int)*(b.length:Int))=false):prodS a b=(a.flatMap fun x=>b.map fun y=>x++y,true):=by rw [prodS,ifF h]
theorem prod_take {α:Type}{a b:List (List α)}{k:Nat}{x:List α}(h:a[k]? = some x):((a.take (k+1)).flatMap fun x=>b.map fun y=>x++y)=((a.take k).flatMap fun x=>b.map fun y=>x++y)++b.map fun y=>x++y:=by
 rw [take_get h,List.flatMap_append];simp
theorem prod_len {α:Type}(a b:List (List α)):(a.flatMap fun x=>b.map fun y=>x++y).length=a.length*b.length:=by
 induction a with
 | nil=>simp
 | cons x r ih=>rw [List.flatMap_cons,List.length_append,ih,List.length_map,List.length_cons,Nat.succ_mul];omega
theorem prod_le {α:Type}{a b:List (List α)}{k j:Nat}(hk:k<a.length)(hj:j<b.length)(h:decide ((256:Int)<(a.length:Int)*(b.length:Int))=false):k*b.length+j<256:=by
 have h1:a.length*b.length≤256:=by
  have:¬(256:Int)<(a.length:Int)*(b.length:Int):=by simpa using h
  have h2:((a.length*b.length:Nat):Int)=(a.length:Int)*(b.length:Int):=by simp
  omega
 have h2:(k+1)*b.length≤a.length*b.length:=Nat.mul_le_mul_right _ hk
 rw [Nat.succ_mul] at h2
 omega
theorem times_no {a b:Cs}(h:(!a.2 || !b.2)=true):timesS a b=([],false):=by rw [timesS,if_pos h]
theorem times_yes {a b:Cs}(h:(!a.2 || !b.2)=false):timesS a b=prodS a.1 b.1:=by rw [timesS,ifF h]
theorem plus_no {a b:Cs}(h:((!a.2 || !b.2)||decide ((256:Int)<(a.1.length:Int)+(b.1.length:Int)))=true):plusS a b=([],false):=by rw [plusS,if_pos h]
theorem plus_yes {a b:Cs}(h:((!a.2 || !b.2)||decide ((256:Int)<(a.1.length:Int)+(b.1.length:Int)))=false):plusS a b=(a.1++b.1,true):=by rw [plusS,ifF h]

/-! ### how long they are -/
/-- at most 256 clauses, each at most so long -/
structure csOK (n:Nat) (c:Cs):Prop where
 len:c.1.length≤256
 lits:∀x∈c.1,x.length≤n
theorem csOK.mono {n m:Nat}{c:Cs}(h:csOK n c)(hm:n≤m):csOK m c:=⟨h.len,fun x hx=>Nat.le_trans (h.lits x hx) hm⟩
theorem cs_none {n:Nat}:csOK n ([],false):=⟨Nat.zero_le _,fun x hx=>by cases hx⟩
theorem times_ok {n m:Nat}{a b:Cs}(ha:csOK n a)(hb:csOK m b):csOK (n+m) (timesS a b):=by
 unfold timesS
 split
 · exact cs_none
 ·
  unfold prodS
  split
  · exact cs_none
  ·
   rename_i h
   refine ⟨?_,fun x hx=>?_⟩
   ·
    show (a.1.flatMap fun x=>b.1.map fun y=>x++y).length≤256
    rw [prod_len]
    have h1:¬(256:Int)<(a.1.length:Int)*(b.1.length:Int):=by simpa using h
    have h2:((a.1.length*b.1.length:Nat):Int)=(a.1.length:Int)*(b.1.length:Int):=by simp
    omega
   ·
    obtain ⟨y,hy,hm⟩:=List.mem_flatMap.1 hx
    obtain ⟨z,hz,rfl⟩:=List.mem_map.1 hm
    have:=ha.lits y hy
    have:=hb.lits z hz
    rw [List.length_append];omega
theorem plus_ok {n:Nat}{a b:Cs}(ha:csOK n a)(hb:csOK n b):csOK n (plusS a b):=by
 unfold plusS
 split
 · exact cs_none
 ·
  rename_i h
  refine ⟨?_,fun x hx=>?_⟩
  ·
   show (a.1++b.1).length≤256
   simp at h
   rw [List.length_append];omega
  ·
   rcases List.mem_append.1 hx with h | h
   · exact ha.lits x h
   · exact hb.lits x h
section
variable {T:List Sc} {V:List Va}
abbrev NF0:NormF:=fun _=>([],false)
theorem norm_0t {e:Ex}{s:Bool}(h:(e.op==0)=true)(h1:((e.val.num==1)==s)=true):normS T V e s=([[]],true):=by rw [normS_eq,normN,if_pos h,if_pos h1]
theorem norm_0f {e:Ex}{s:Bool}(h:(e.op==0)=true)(h1:((e.val.num==1)==s)=false):normS T V e s=([],true):=by rw [normS_eq,normN,if_pos h,ifF h1]
theorem norm_12 {e:Ex}{s:Bool}(hl:0<e.args.length)(h:(e.op==12)=true):normS T V e s=normS T V (arg0 e) (!s):=by
 rw [normS_eq,normN,ifF (by simp at h ⊢;omega),if_pos h,hd0_map _ _ hl]
theorem norm_1t {e:Ex}{s:Bool}(hl:1<e.args.length)(h:(e.op==10||e.op==11)=true)(h1:((e.op==10)==s)=true):normS T V e s=timesS (normS T V (arg0 e) s) (normS T V (arg1 e) s):=by
 rw [normS_eq,normN,ifF (by simp at h ⊢;omega),ifF (by simp at h ⊢;omega),if_pos h,if_pos h1,hd0_map _ _ (by omega),hd1_map _ _ hl]
theorem norm_1f {e:Ex}{s:Bool}(hl:1<e.args.length)(h:(e.op==10||e.op==11)=true)(h1:((e.op==10)==s)=false):normS T V e s=plusS (normS T V (arg0 e) s) (normS T V (arg1 e) s):=by
 rw [normS_eq,normN,ifF (by simp at h ⊢;omega),ifF (by simp at h ⊢;omega),if_pos h,ifF h1,hd0_map _ _ (by omega),hd1_map _ _ hl]
theorem norm_9b {e:Ex}{s:Bool}(hl:1<e.args.length)(h:(e.op==9)=true)(h1:(kindR T V (arg0 e)==1)=true) :
  normS T V e s=plusS (timesS (normS T V (arg0 e) true) (normS T V (arg1 e) s)) (timesS (normS T V (arg0 e) false) (normS T V (arg1 e) (!s))):=by
 rw [normS_eq,normN,ifF (by simp at h ⊢;omega),ifF (by simp at h ⊢;omega),ifF (by simp at h ⊢;omega),if_pos (by rw [h,h1];rfl),hd0_map _ _ (by omega),hd1_map _ _ hl]
theorem norm_9i {e:Ex}{s:Bool}(h:(e.op==9)=true)(h1:(kindR T V (arg0 e)==1)=false)(h2:(kindR T V (arg0 e)==0 && !s)=true) :
  normS T V e s=singleC [⟨two 7 (arg0 e) (arg1 e),false⟩,⟨two 7 (arg1 e) (arg0 e),false⟩]:=by
 rw [normS_eq,normN,ifF (by simp at h ⊢;omega),ifF (by simp at h ⊢;omega),ifF (by simp at h ⊢;omega),ifF (by rw [h1,Bool.and_false]),if_pos (by rw [h,h2];rfl)]
theorem norm_9o {e:Ex}{s:Bool}(h:(e.op==9)=true)(h1:(kindR T V (arg0 e)==1)=false)(h2:(kindR T V (arg0 e)==0 && !s)=false):normS T V e s=singleC [⟨e,!s⟩]:=by
 rw [normS_eq,normN,ifF (by simp at h ⊢;omega),ifF (by simp at h ⊢;omega),ifF (by simp at h ⊢;omega),ifF (by rw [h1,Bool.and_false]),ifF (by rw [h2,Bool.and_false])]
theorem norm_o {e:Ex}{s:Bool}(h0:(e.op==0)=false)(h12:(e.op==12)=false)(h10:(e.op==10||e.op==11)=false)(h:(e.op==9)=false):normS T V e s=singleC [⟨e,!s⟩]:=by
 rw [normS_eq,normN,ifF h0,ifF h12,ifF h10,ifF (by rw [h];rfl),ifF (by rw [h];rfl)]
/-- how an expression may look to normS -/
theorem norm_cases {e:Ex}(s:Bool)(hk:KOK T V e) :
    (e.op==0)=true∨((e.op==12)=true∧0<e.args.length)∨((e.op==10||e.op==11)=true∧1<e.args.length)∨((e.op==9)=true∧1<e.args.length∧(kindR T V (arg0 e)==1)=true)∨
    ((e.op==9)=true∧1<e.args.length∧(kindR T V (arg0 e)==1)=false∧(kindR T V (arg0 e)==0 && !s)=true)∨((e.op==0)=false∧(e.op==12)=false∧(e.op==10||e.op==11)=false∧normS T V e s=singleC [⟨e,!s⟩]∧((e.op==9)=true→(kindR T V (arg0 e)==1)=false∧(kindR T V (arg0 e)==0 && !s)=false)):=by
  have hz:=nodes_zero hk.nodes
  cases h0:e.op==0 with
  | true=>exact .inl rfl
  | false=>
  cases h12:e.op==12 with
  | true=>exact .inr (.inl ⟨rfl,len_not hz.1 (eq_of_beq h12)⟩)
  | false=>
  cases h10:(e.op==10||e.op==11) with
  | true=>exact .inr (.inr (.inl ⟨rfl,len_two' hz.1 (by simp at h10;omega)⟩))
  | false=>
  cases h9:e.op==9 with
  | true=>
    have hl:=len_two' hz.1 (by simp at h9;omega)
    cases h1:kindR T V (arg0 e)==1 with
    | true=>exact .inr (.inr (.inr (.inl ⟨rfl,hl,rfl⟩)))
    | false=>
      cases h2:(kindR T V (arg0 e)==0 && !s) with
      | true=>exact .inr (.inr (.inr (.inr (.inl ⟨rfl,hl,rfl,rfl⟩))))
      | false=>exact .inr (.inr (.inr (.inr (.inr ⟨rfl,rfl,rfl,norm_9o h9 h1 h2,fun _=>⟨rfl,rfl⟩⟩))))
  | false=>exact .inr (.inr (.inr (.inr (.inr ⟨rfl,rfl,rfl,norm_o h0 h12 h10 h9,fun h=>Bool.noConfusion h⟩))))
theorem norm_ok (e:Ex):KOK T V e→∀s,csOK (sizeN e) (normS T V e s):=by
 refine Ex.ind (P:=fun e=>KOK T V e→∀s,csOK (sizeN e) (normS T V e s)) (fun e ih hk s=>?_) e
 have hsz:1≤sizeN e:=by rw [sizeN_eq];omega
 rcases norm_cases s hk with h | ⟨h,hl⟩ | ⟨h,hl⟩ | ⟨h,hl,h1⟩ | ⟨h,hl,h1,h2⟩ | ⟨_,_,_,h,_⟩
 ·
  cases h1:((e.val.num==1)==s) with
  | true=>rw [norm_0t h h1];exact ⟨by simp,by simp⟩
  | false=>rw [norm_0f h h1];exact ⟨by simp,by simp⟩
 ·
  rw [norm_12 hl h]
  exact (ih _ (arg0_mem hl) (kok_arg hk (arg0_mem hl)) _).mono (Nat.le_of_lt (size0 hl))
 ·
  have m0:=arg0_mem (show 0<e.args.length by omega)
  have m1:=arg1_mem hl
  have i0:=ih _ m0 (kok_arg hk m0) s
  have i1:=ih _ m1 (kok_arg hk m1) s
  have hs:=arg_sizes hl
  cases h1:((e.op==10)==s) with
  | true=>rw [norm_1t hl h h1];exact (times_ok i0 i1).mono (by omega)
  | false=>rw [norm_1f hl h h1];exact plus_ok (i0.mono (by omega)) (i1.mono (by omega))
 ·
  have m0:=arg0_mem (show 0<e.args.length by omega)
  have m1:=arg1_mem hl
  have i0:=ih _ m0 (kok_arg hk m0)
  have i1:=ih _ m1 (kok_arg hk m1)
  have hs:=arg_sizes hl
  rw [norm_9b hl h h1]
  exact plus_ok ((times_ok (i0 _) (i1 _)).mono (by omega)) ((times_ok (i0 _) (i1 _)).mono (by omega))
 · rw [norm_9i h h1 h2];exact ⟨by simp [singleC],by simp [singleC];omega⟩
 · rw [h];exact ⟨by simp [singleC],by simp [singleC];omega⟩
/-! ### The reference's -/
def eitherS (a b:List (List Lit)):Cs:=(a++b,decide (((a++b).length:Int)≤256))
def pairS (a b:Cs)(times:Bool):Cs:=if !a.2 || !b.2 then ([],false) else if times then prodS a.1 b.1 else eitherS a.1 b.1
def equalS' (a b:Cs):Cs:=if !a.2 || !b.2 then ([],false) else eitherS a.1 b.1
section
variable (T V)
def rnormN (e:Ex)(fs:List NormF):NormF:=fun sign=>
 if e.op==0 then (if (e.val.num==1)==sign then ([[]],true) else ([],true))
 else if e.op==12 then (hd0 NF0 fs:NormF) (!sign)
 else if e.op==10 then pairS ((hd0 NF0 fs:NormF) sign) ((hd1 NF0 fs:NormF) sign) sign
 else if e.op==11 then pairS ((hd0 NF0 fs:NormF) sign) ((hd1 NF0 fs:NormF) sign) (!sign)
 else if e.op==9&&kindR T V (arg0 e)==1 then equalS' (pairS ((hd0 NF0 fs:NormF) true) ((hd1 NF0 fs:NormF) sign) true) (pairS ((hd0 NF0 fs:NormF) false) ((hd1 NF0 fs:NormF) (!sign)) true)
 else if e.op==9&&(kindR T V (arg0 e)==0 && !sign) then singleC [⟨two 7 (arg0 e) (arg1 e),false⟩,⟨two 7 (arg1 e) (arg0 e),false⟩]
 else singleC [⟨e,!sign⟩]
def rnormS:Ex→NormF:=recE (rnormN T V)
end
/-- where the program's list is not ok the reference's is not, either; else they are the same -/
def csR (r p:Cs):Prop:=r.2=p.2∧(p.2=true→r=p)
/-- how long the reference's are -/
structure rcOK (n:Nat) (c:Cs):Prop where
 len:c.1.length≤512
 lits:∀x∈c.1,x.length≤n
end

theorem arg_at0 {e:Ex}(h:0<e.args.length):e.args[0]? = some (arg0 e):=by
 unfold arg0
 cases ha:e.args with
 | nil=>rw [ha] at h;cases h
 | cons a r=>rfl
theorem arg_at1 {e:Ex}(h:1<e.args.length):e.args[1]? = some (arg1 e):=by
  unfold arg1
  cases ha:e.args with
  | nil=>rw [ha] at h;cases h
  | cons a r=>
    cases r with
    | nil=>rw [ha] at h;simp at h
    | cons b r=>rfl
section
variable {T:List Sc} {V:List Va} {e:Ex}
theorem Clauses_1 (h:(condE T V e != 0)=true):ClausesS T V e=([],condE T V e):=by rw [ClausesS,if_pos h]
theorem Clauses_2 (h:(condE T V e != 0)=false)(h2:(!(normS T V e true).2)=true):ClausesS T V e=([],17):=by rw [ClausesS,ifF h,if_pos h2]
theorem Clauses_3 (h:(condE T V e != 0)=false)(h2:(!(normS T V e true).2)=false):ClausesS T V e=((normS T V e true).1,0):=by rw [ClausesS,ifF h,ifF h2]
end
section
variable {T:List Sc} {V:List Va} {e:Ex}
end
/-! ### Comparing clauses -/
def sameLits:List Lit→List Lit→Bool
 | [],[]=>true
 | a::r,b::q=>!(a.neg != b.neg || !sameS a.cond b.cond)&&sameLits r q
 | _,_=>false
def sameCls:List (List Lit)→List (List Lit)→Bool
 | [],[]=>true
 | a::r,b::q=>sameLits a b&&sameCls r q
 | _,_=>false
theorem sameLits_iff:∀a b:List Lit,sameLits a b=true↔a=b
  | [],[]=>by simp [sameLits]
  | [],b::q=>by simp [sameLits]
  | a::r,[]=>by simp [sameLits]
  | a::r,b::q=>by
    have ih:=sameLits_iff r q
    rw [sameLits,Bool.and_eq_true,ih]
    cases a with | mk c n=>
    cases b with | mk d m=>
    have hs:=sameS_iff c d
    cases hn:(n != m) with
    | true => have : n ≠ m := by simpa using hn
              simp [this]
    | false=>
      have:n=m:=by simpa using hn
      subst this
      cases hc:sameS c d with
      | true=>simp [hs.1 hc]
      | false=>
        have:c≠d:=fun h=>by rw [hs.2 h] at hc;cases hc
        simp [this]
theorem sameCls_iff:∀a b:List (List Lit),sameCls a b=true↔a=b
 | [],[]=>by simp [sameCls]
 | [],b::q=>by simp [sameCls]
 | a::r,[]=>by simp [sameCls]
 | a::r,b::q=>by rw [sameCls,Bool.and_eq_true,sameCls_iff r q,sameLits_iff];simp
theorem sameLits_len {a b:List Lit}(h:((a.length:Int) != (b.length:Int))=true):sameLits a b=false:=by
 rw [Bool.eq_false_iff]
 intro h1
 rw [(sameLits_iff a b).1 h1] at h;simp at h
theorem sameCls_len {a b:List (List Lit)}(h:((a.length:Int) != (b.length:Int))=true):sameCls a b=false:=by
 rw [Bool.eq_false_iff]
 intro h1
 rw [(sameCls_iff a b).1 h1] at h;simp at h
theorem sameLits_bad {a b:List Lit}{k:Nat}{x y:Lit}(hx:a[k]? = some x)(hy:b[k]? = some y)(h:(x.neg != y.neg || !sameS x.cond y.cond)=true):sameLits a b=false:=by
 rw [Bool.eq_false_iff]
 intro h1
 have:=(sameLits_iff a b).1 h1
 subst this
 rw [hx] at hy;cases hy
 rw [sameS_refl] at h;simp at h
theorem sameCls_bad {a b:List (List Lit)}{k:Nat}{x y:List Lit}(hx:a[k]? = some x)(hy:b[k]? = some y)(h:(!sameLits x y)=true):sameCls a b=false:=by
 rw [Bool.eq_false_iff]
 intro h1
 have:=(sameCls_iff a b).1 h1
 subst this
 rw [hx] at hy;cases hy
 rw [(sameLits_iff x x).2 rfl] at h;cases h
theorem lit_good {x y:Lit}(h:(x.neg != y.neg || !sameS x.cond y.cond)=false):x=y:=by
 have:sameLits [x] [y]=true:=by rw [sameLits,h];rfl
 have:=(sameLits_iff _ _).1 this
 simpa using this
theorem cls_good {x y:List Lit}(h:(!sameLits x y)=false):x=y:=(sameLits_iff x y).1 (by simpa using h)

section
variable {T:List Sc} {V:List Va}
/-- the error of a literal -/
def litE (T:List Sc)(V:List Va)(c:Lit):Int:=if condE T V c.cond != 0 then condE T V c.cond else if composedS T V c.cond||(c.neg&&(c.cond.op==9&&kindR T V (arg0 c.cond)==0)) then 3 else 0
theorem clause_1 {l:List Lit}(h:((KindS T V (truthE true)).2 != 0)=true):clauseE T V l=(KindS T V (truthE true)).2:=by rw [clauseE,if_pos h]
theorem clause_2 {l:List Lit}(h:((KindS T V (truthE true)).2 != 0)=false)(h2:decide ((256:Int)<(l.length:Int))=true):clauseE T V l=5:=by rw [clauseE,ifF h,if_pos h2]
theorem clause_f {l:List Lit}(h:((KindS T V (truthE true)).2 != 0)=false)(h2:decide ((256:Int)<(l.length:Int))=false):clauseE T V l=firstS (litE T V) l:=by rw [clauseE,ifF h,ifF h2];rfl
theorem lit_1 {c:Lit}(h:(condE T V c.cond != 0)=true):litE T V c=condE T V c.cond:=by rw [litE,if_pos h]
theorem lit_2 {c:Lit}(h:(condE T V c.cond != 0)=false)(h2:(composedS T V c.cond||((c.neg&&c.cond.op==9)&&kindR T V (arg0 c.cond)==0))=true):litE T V c=3:=by
 rw [litE,ifF h,if_pos (by rw [←Bool.and_assoc];exact h2)]
theorem lit_3 {c:Lit}(h:(condE T V c.cond != 0)=false)(h2:(composedS T V c.cond||((c.neg&&c.cond.op==9)&&kindR T V (arg0 c.cond)==0))=false):litE T V c=0:=by
 rw [litE,ifF h,ifF (by rw [←Bool.and_assoc];exact h2)]
theorem first_take {α:Type}{f:α→Int}{l:List α}{k:Nat}{a:α}(hk:firstS f (l.take k)=0)(ha:l[k]? = some a)(h:f a≠0):firstS f l=f a:=by
  induction l generalizing k with
  | nil=>simp at ha
  | cons x r ih=>
    cases k with
    | zero => have : x = a := by simpa using ha
              subst this
              rw [firstS,if_pos (by simpa using h)]
    | succ k=>
      rw [List.take_succ_cons,firstS] at hk
      by_cases hx:(f x != 0)=true
      · rw [if_pos hx] at hk;rw [hk] at hx;cases hx
      · rw [if_neg hx] at hk
        rw [firstS,if_neg hx]
        exact ih hk (by simpa using ha)
theorem first_snoc {α:Type}{f:α→Int}{l:List α}{k:Nat}{a:α}(hk:firstS f (l.take k)=0)(ha:l[k]? = some a)(h:f a=0):firstS f (l.take (k+1))=0:=by
  rw [take_get ha]
  generalize l.take k=m at hk
  induction m with
  | nil=>simp [firstS,h]
  | cons x r ih=>
    rw [firstS] at hk
    by_cases hx:(f x != 0)=true
    · rw [if_pos hx] at hk;rw [hk] at hx;cases hx
    · rw [if_neg hx] at hk
      rw [List.cons_append,firstS,if_neg hx]
      exact ih hk
theorem g9c {e:Ex}(hk:KOK T V e){x b:Bool}(hG:allG [(x,false),(b&&e.op==9,true)]):1<e.args.length:=by
 have h:(b&&e.op==9)=true:=hG (b&&e.op==9,true) (by simp)
 have h9:e.op=9:=by simp at h;exact h.2
 exact len_two' (nodes_zero hk.nodes).1 (by omega)
/-- well-typed literals within the limits -/
def LOK (T:List Sc)(V:List Va)(l:List Lit):Prop:=∀c∈l,KOK T V c.cond∧sizeN c.cond≤64
theorem lits_ok {l:List Lit}(h:firstS (litE T V) l=0):LOK T V l:=fun c hc=>by
 have h1:=first_zero h c hc
 unfold litE at h1
 by_cases h2:(condE T V c.cond != 0)=true
 · rw [if_pos h2] at h1;rw [h1] at h2;cases h2
 ·
  have hk:=(condE_kc (by simpa using h2)).1
  exact ⟨hk.kok,kc_size hk⟩
theorem clause_ok {l:List Lit}(h:(clauseE T V l != 0)=false):LOK T V l∧l.length≤256:=by
 have h0:clauseE T V l=0:=by simpa using h
 unfold clauseE at h0
 by_cases h1:((KindS T V (truthE true)).2 != 0)=true
 · rw [if_pos h1] at h0;rw [h0] at h1;cases h1
 ·
  rw [if_neg h1] at h0
  by_cases h2:decide ((256:Int)<(l.length:Int))=true
  · rw [if_pos h2] at h0;cases h0
  ·
   rw [if_neg h2] at h0
   exact ⟨lits_ok h0,by simp at h2;omega⟩
theorem num_1 {l:Lit}(h:(l.cond.op==1)=true):numericS T V l=(⟨[tmOf l.cond],[],0⟩,true):=by rw [numericS,if_pos h]
theorem num_2 {l:Lit}(h:(l.cond.op==1)=false)(h2:(!comparesS l.cond||textsS T V l.cond)=true):numericS T V l=(gp0,false):=by rw [numericS,ifF h,if_pos h2]
theorem num_3 {l:Lit}(h:(l.cond.op==1)=false)(h2:(!comparesS l.cond||textsS T V l.cond)=false):numericS T V l=betweenS (arg0 l.cond) (arg1 l.cond):=by rw [numericS,ifF h,ifF h2]
theorem num_cmp {l:Lit}(h2:(!comparesS l.cond||textsS T V l.cond)=false):comparesS l.cond=true:=by
 cases hq:comparesS l.cond with
 | true=>rfl
 | false=>rw [hq] at h2;simp at h2
theorem lim_1 {t:Tm}(h:(t.op==2)=true):limitsS T V t=(0,1099511627776):=by rw [limitsS,if_pos h]
theorem lim_2 {t:Tm}(h:(t.op==2)=false)(h2:(kindR T V (tmE t)==1)=true):limitsS T V t=(0,1):=by rw [limitsS,ifF h,if_pos h2]
theorem lim_3 {t:Tm}(h:(t.op==2)=false)(h2:(kindR T V (tmE t)==1)=false):limitsS T V t=(-1099511627776,1099511627776):=by rw [limitsS,ifF h,ifF h2]

/-! ### the terms of a well-typed sum -/
theorem lin_terms (e:Ex):KOK T V e→∀{b:Int} {s:Su},(∀p∈s.ts,KOK T V (tmE p.1))→∀p∈(linS e b s).1.ts,KOK T V (tmE p.1):=by
  refine Ex.ind (P:=fun e=>KOK T V e→∀{b:Int} {s:Su},(∀p∈s.ts,KOK T V (tmE p.1))→∀p∈(linS e b s).1.ts,KOK T V (tmE p.1)) (fun e ih hk b s hs=>?_) e
  have hz:=nodes_zero hk.nodes
  rcases op_cases hz.1 with h | ⟨h,h1⟩ | ⟨h,hl⟩ | ⟨h,h1,h2,h3⟩
  · rw [lin_const h];exact hs
  · rw [lin_term h h1]
    intro p hp
    have key:∀{ts:List (Tm×Int)},(∀p∈ts,KOK T V (tmE p.1))→∀p∈addT (tmOf e) b ts,KOK T V (tmE p.1):=by
      intro ts
      induction ts with
      | nil=>intro _ p hp;rw [addT,List.mem_singleton] at hp;rw [hp];rw [leaf_tm hz.1 h1];exact hk
      | cons q r ihr=>
        intro hts p hp
        rw [addT] at hp
        split at hp
        · rcases List.mem_cons.1 hp with rfl | hp
          · exact hts q (List.mem_cons_self ..)
          · exact hts p (List.mem_cons_of_mem _ hp)
        · rcases List.mem_cons.1 hp with rfl | hp
          · exact hts p (List.mem_cons_self ..)
          · exact ihr (fun p hp=>hts p (List.mem_cons_of_mem _ hp)) p hp
    exact key hs p hp
  · have m0:=arg0_mem (show 0<e.args.length by omega)
    have m1:=arg1_mem hl
    have key:∀c,∀p∈(if !(linS (arg0 e) b s).2 then ((linS (arg0 e) b s).1,false) else linS (arg1 e) c (linS (arg0 e) b s).1).1.ts,KOK T V (tmE p.1):=fun c=>by
      have i0:=ih _ m0 (kok_arg hk m0) (b:=b) hs
      split
      · exact i0
      · exact ih _ m1 (kok_arg hk m1) i0
    rcases h with h | h
    · rw [lin_two (c:=b) hl (.inl ⟨h,rfl⟩)];exact key b
    · rw [lin_two (c:=0-b) hl (.inr ⟨h,rfl⟩)];exact key _
  · rw [lin_else h h1 h2 h3];exact hs
theorem parts_terms {P:Tm→Prop}:∀{ts:List (Tm×Int)} {p m p' m':List Tm},(∀t∈ts,P t.1)→(∀t∈p,P t)→(∀t∈m,P t)→partsS ts p m=some (p',m')→(∀t∈p',P t)∧∀t∈m',P t
  | [],p,m,p',m',_,hp,hm,h=>by rw [partsS] at h;cases h;exact ⟨hp,hm⟩
  | t::r,p,m,p',m',ht,hp,hm,h=>by
    rw [partsS] at h
    have hr:∀t∈r,P t.1:=fun x hx=>ht x (List.mem_cons_of_mem _ hx)
    have h0:P t.1:=ht t (List.mem_cons_self ..)
    have snoc:∀{l:List Tm},(∀t∈l,P t)→∀x∈l ++ [t.1],P x:=fun hl x hx=>by
      rcases List.mem_append.1 hx with h | h
      · exact hl x h
      · rw [List.mem_singleton.1 h];exact h0
    split at h
    · exact parts_terms hr hp hm h
    · split at h
      · exact parts_terms hr (snoc hp) hm h
      · split at h
        · exact parts_terms hr hp (snoc hm) h
        · cases h
theorem sumEnd_terms {a b:Ex}(ha:KOK T V a)(hb:KOK T V b):∀p∈(sumEnd a b).ts,KOK T V (tmE p.1):=by
 have h1:=lin_terms a ha (b:=1) (s:=su0) (fun p hp=>by cases hp)
 unfold sumEnd
 split
 · exact h1
 · exact lin_terms b hb h1
/-- what a difference is made of -/
structure GOK (T:List Sc) (V:List Va) (g:Gp):Prop where
 plus:∀t∈g.plus,KOK T V (tmE t)
 minus:∀t∈g.minus,KOK T V (tmE t)
 rest : -140737488355328≤g.rest∧g.rest≤140737488355328
 lp:g.plus.length≤128
 lm:g.minus.length≤128
theorem gp0_ok:GOK T V gp0:=⟨fun t h=>(by cases h),fun t h=>(by cases h),by simp [gp0],by simp [gp0],by simp [gp0]⟩
theorem parts_len:∀{ts:List (Tm×Int)} {p m p' m':List Tm},partsS ts p m=some (p',m')→p'.length≤p.length+ts.length∧m'.length≤m.length+ts.length
  | [],p,m,p',m',h=>by rw [partsS] at h;cases h;simp
  | t::r,p,m,p',m',h=>by
    rw [partsS] at h
    split at h
    · have:=parts_len h;simp only [List.length_cons];omega
    · split at h
      · have:=parts_len h;simp only [List.length_cons,List.length_append,List.length_nil] at this ⊢;omega
      · split at h
        · have:=parts_len h;simp only [List.length_cons,List.length_append,List.length_nil] at this ⊢;omega
        · cases h
theorem between_ok {a b:Ex}(ha:KOK T V a)(hb:KOK T V b)(hs:sizeN a+sizeN b≤128):GOK T V (betweenS a b).1:=by
  unfold betweenS
  split
  · exact gp0_ok
  rename_i h1
  split
  · exact gp0_ok
  rename_i h2
  have he:(linS b (-1) (linS a 1 su0).1).1=sumEnd a b:=by unfold sumEnd;rw [if_neg h1]
  rw [he]
  have ho:=sumEnd_ok ha.nodes hb.nodes
  unfold gapOf
  cases hp:partsS (sumEnd a b).ts [] [] with
  | none=>exact gp0_ok
  | some p=>
    obtain ⟨p,m⟩:=p
    obtain ⟨t1,t2⟩:=parts_terms (P:=fun t=>KOK T V (tmE t)) (sumEnd_terms ha hb) (fun t h=>by cases h) (fun t h=>by cases h) hp
    obtain ⟨l1,l2⟩:=parts_len hp
    have hr:=ho.rest
    have hl:=ho.len
    simp only [List.length_nil,Nat.zero_add] at l1 l2
    exact ⟨t1,t2,by simp only;omega,by simp only;omega,by simp only;omega⟩
theorem numeric_ok {l:Lit}(hk:KOK T V l.cond)(hs:sizeN l.cond≤64):GOK T V (numericS T V l).1:=by
  cases h:l.cond.op==1 with
  | true=>
    rw [num_1 h]
    refine ⟨fun t ht=>?_,fun t ht=>(by cases ht),by simp,by simp,by simp⟩
    rw [List.mem_singleton.1 ht,leaf_tm (nodes_zero hk.nodes).1 (by rw [h];rfl)]
    exact hk
  | false=>
    cases h2:(!comparesS l.cond||textsS T V l.cond) with
    | true=>rw [num_2 h h2];exact gp0_ok
    | false=>
      rw [num_3 h h2]
      have hl:=cmp_two hk (num_cmp h2)
      have hs2:=arg_sizes hl
      exact between_ok (kok_arg hk (arg0_mem (by omega))) (kok_arg hk (arg1_mem hl)) (by omega)
end

/-! ### the index of the terms -/
def yGo:Nat→List Tm→List (List AV×AV)
 | _,[]=>[]
 | i,t::r=>(cTm t,.int .i64 ((i:Int)+1))::yGo (i+1) r
def yMap (ts:List Tm):List (List AV×AV):=yGo 0 ts
theorem yGo_eq (t:Tm):∀(ts:List Tm) (i:Nat),∀p∈yGo i ts,aeqs TL [(0,1,true,3),(1,1,true,3),(2,1,true,3)] (cTm t) p.1=some (eqTm t p.1)
  | [],_,p,hp=>by cases hp
  | u::r,i,p,hp=>by
    rw [yGo] at hp
    rcases List.mem_cons.1 hp with rfl | hp
    · show aeqs TL _ (cTm t) (cTm u)=some (eqTm t (cTm u));rw [eqTm_is,eqTm_tm]
    · exact yGo_eq t r (i+1) p hp
theorem yMap_eq (t:Tm)(ts:List Tm):∀p∈yMap ts,aeqs TL [(0,1,true,3),(1,1,true,3),(2,1,true,3)] (cTm t) p.1=some (eqTm t p.1):=yGo_eq t ts 0
theorem yGo_get (t:Tm):∀(ts:List Tm) (i:Nat),kget (eqTm t) (yGo i ts)=if ts.contains t then some (.int .i64 ((i:Int)+(ts.idxOf t:Nat)+1)) else none
  | [],_=>rfl
  | u::r,i=>by
    rw [yGo,kget,eqTm_tm,yGo_get t r (i+1),List.contains_cons,List.idxOf_cons]
    cases hq:eqT t u with
    | true=>
      have:=eqT_iff.1 hq
      subst this
      simp
    | false=>
      have hne:t≠u:=fun h=>by rw [eqT_iff.2 h] at hq;cases hq
      have h1:(t==u)=false:=by simpa using hne
      have h2:(u==t)=false:=by simpa using Ne.symm hne
      rw [h1,h2]
      simp only [Bool.false_or,cond_false,Bool.false_eq_true,if_false]
      split
      · congr 2;push_cast;omega
      · rfl
theorem yMap_get (t:Tm)(ts:List Tm):kget (eqTm t) (yMap ts)=if ts.contains t then some (.int .i64 (((ts.idxOf t:Nat):Int)+1)) else none:=by
 unfold yMap
 rw [yGo_get]
 simp
theorem yMap_has (t:Tm)(ts:List Tm):(kget (eqTm t) (yMap ts)).isSome=ts.contains t:=by
 rw [yMap_get];cases ts.contains t <;> rfl
theorem yMap_none {t:Tm}{ts:List Tm}(h:ts.contains t=false):kget (eqTm t) (yMap ts)=none:=by rw [yMap_get,h];rfl
theorem yGo_snoc (t:Tm):∀(ts:List Tm) (i:Nat),yGo i (ts ++ [t])=yGo i ts ++ [(cTm t,.int .i64 ((i:Int)+ts.length+1))]
  | [],i=>by simp [yGo]
  | u::r,i=>by
    rw [List.cons_append,yGo,yGo,yGo_snoc t r (i+1)]
    simp only [List.cons_append,List.length_cons]
    rw [show ((i+1:Nat):Int)+(r.length:Int)+1=(i:Int)+((r.length+1:Nat):Int)+1 by omega]
theorem yMap_snoc (t:Tm)(ts:List Tm):yMap (ts ++ [t])=yMap ts ++ [(cTm t,.int .i64 ((ts.length:Int)+1))]:=by
 unfold yMap;rw [yGo_snoc];simp
/-- what the map holds at a term that is there -/
theorem look_y {t:Tm}{ts:List Tm}(h:ts.contains t=true):match kget (eqTm t) (yMap ts) with | some y=>y = .int .i64 (((ts.idxOf t:Nat):Int)+1) | none=>[AV.int .i64 0] = [.int .i64 (((ts.idxOf t:Nat):Int)+1)]:=by
 rw [yMap_get,if_pos h]
/-- at any -/
theorem look_y0 (t:Tm)(ts:List Tm):match kget (eqTm t) (yMap ts) with | some y=>y = .int .i64 (if ts.contains t then ((ts.idxOf t:Nat):Int)+1 else 0) | none=>[AV.int .i64 0] = [.int .i64 (if ts.contains t then ((ts.idxOf t:Nat):Int)+1 else 0)]:=by
 rw [yMap_get]
 cases ts.contains t <;> rfl
theorem contains_addTm (t:Tm)(l ts:List Tm):(addTm ts (t::l)).contains t=true:=by
 unfold addTm
 simp only
 split
 · assumption
 · simp
theorem addTm_new {t:Tm}{l ts:List Tm}(h:ts.contains t=false):addTm ts (t::l)=ts ++ [t]:=by unfold addTm;simp only;rw [h];rfl
theorem addTm_old {t:Tm}{l ts:List Tm}(h:ts.contains t=true):addTm ts (t::l)=ts:=by unfold addTm;simp only;rw [if_pos h]
theorem addTm_nil {ts:List Tm}:addTm ts []=ts:=rfl
theorem addTm_len (ts l:List Tm):(addTm ts l).length≤ts.length+1:=by
 cases l with
 | nil=>simp [addTm]
 | cons t r=>unfold addTm;simp only;split <;> simp
theorem addTm_mem {P:Tm→Prop}{ts l:List Tm}(h:∀t∈ts,P t)(hl:∀t∈l,P t):∀t∈addTm ts l,P t:=by
  cases l with
  | nil=>exact h
  | cons t r=>
    unfold addTm
    simp only
    split
    · exact h
    · intro u hu
      rcases List.mem_append.1 hu with hu | hu
      · exact h u hu
      · rw [List.mem_singleton.1 hu];exact hl t (List.mem_cons_self ..)
/-! ### the system in the heap -/
abbrev sysH (m yb:Nat)(v:Value)(c0 c1:AV)(ts:List Tm)(R:List HO):List HO:=.row v (ts.map cTm).length 143 3 :: .box yb 141 [c0,c1,.row v 3 (ts.map cTm),.val (.map (some m))] :: .kmap m (yMap ts)::R
theorem unk_old {m yb:Nat}{v:Value}{c0 c1:AV}{ts l:List Tm}{t:Tm}{R:List HO}(h:ts.contains t=true):sysH m yb v c0 c1 ts R=sysH m yb v c0 c1 (addTm ts (t::l)) R:=by rw [addTm_old h]
theorem unk_new {m yb:Nat}{v:Value}{c0 c1:AV}{ts l:List Tm}{t:Tm}{R:List HO}(h:ts.contains t=false) :
  (HO.row v (ts.map cTm ++ [cTm t]).length 143 3 :: .box yb 141 [c0,c1,.row v 3 (ts.map cTm ++ [cTm t]),.val (.map (some m))] :: .kmap m (yMap ts ++ [(cTm t,.int .i64 ((ts.length:Int)+1))])::R)=sysH m yb v c0 c1 (addTm ts (t::l)) R:=by
 rw [addTm_new h]
 simp only [sysH]
 rw [yMap_snoc,List.map_append];rfl
theorem num_old {t:Tm}{l ts:List Tm}:numTm (addTm ts (t::l)) (t::l)=(((addTm ts (t::l)).idxOf t:Nat):Int)+1:=rfl
/-! ### steps -/
section
variable {T:List Sc} {V:List Va}
theorem sys_skip {s:Sy}{c:Lit}(h:(!(numericS T V c).2)=true):sysStep T V s c=s:=by rw [sysStep,if_pos h]
theorem sys_step {s:Sy}{c:Lit}(h:(!(numericS T V c).2)=false):sysStep T V s c=⟨addTm (addTm s.ts (numericS T V c).1.plus) (numericS T V c).1.minus,
 s.bs++boundsS c (numTm (addTm s.ts (numericS T V c).1.plus) (numericS T V c).1.plus) (numTm (addTm (addTm s.ts (numericS T V c).1.plus) (numericS T V c).1.minus) (numericS T V c).1.minus) (numericS T V c).1.rest⟩:=by rw [sysStep,ifF h]
theorem sys_take {l:List Lit}{k:Nat}{c:Lit}(h:l[k]? = some c):sysGo T V (l.take (k+1))=sysStep T V (sysGo T V (l.take k)) c:=by
 unfold sysGo
 rw [take_get h,List.foldl_append];rfl
theorem bounds_len (c:Lit)(x z rest:Int):(boundsS c x z rest).length≤2:=by
 unfold boundsS
 repeat' split
 all_goals simp
/-- how large a system is, and that its terms are well-typed -/
structure syOK (T:List Sc) (V:List Va) (n:Nat) (s:Sy):Prop where
 len:s.ts.length≤2*n
 bnds:s.bs.length≤2*n
 terms:∀t∈s.ts,KOK T V (tmE t)
theorem sys_ok:∀{l:List Lit},LOK T V l→∀{n:Nat} {s:Sy},syOK T V n s→syOK T V (n+l.length) (l.foldl (sysStep T V) s)
  | [],_,n,s,hs=>hs
  | c::r,hl,n,s,hs=>by
    rw [List.foldl_cons,List.length_cons,show n+(r.length+1)=(n+1)+r.length by omega]
    refine sys_ok (fun x hx=>hl x (List.mem_cons_of_mem _ hx)) ?_
    cases h : !(numericS T V c).2 with
    | true=>rw [sys_skip h];exact ⟨by have:=hs.len;omega,by have:=hs.bnds;omega,hs.terms⟩
    | false=>
      rw [sys_step h]
      have hg:=numeric_ok (hl c (List.mem_cons_self ..)).1 (hl c (List.mem_cons_self ..)).2
      refine ⟨?_,?_,?_⟩
      · have h1:=addTm_len s.ts (numericS T V c).1.plus
        have h2:=addTm_len (addTm s.ts (numericS T V c).1.plus) (numericS T V c).1.minus
        have:=hs.len
        simp only;omega
      · simp only [List.length_append]
        have:=bounds_len c (numTm (addTm s.ts (numericS T V c).1.plus) (numericS T V c).1.plus) (numTm (addTm (addTm s.ts (numericS T V c).1.plus) (numericS T V c).1.minus) (numericS T V c).1.minus) (numericS T V c).1.rest
        have:=hs.bnds
        omega
      · exact addTm_mem (addTm_mem hs.terms hg.plus) hg.minus
theorem sysGo_ok {l:List Lit}(h:LOK T V l):syOK T V l.length (sysGo T V l):=by
 have:=sys_ok h (n:=0) (s:=⟨[],[]⟩) ⟨by simp,by simp,fun t ht=>by cases ht⟩
 rw [Nat.zero_add] at this
 exact this
theorem LOK_take {l:List Lit}(h:LOK T V l)(k:Nat):LOK T V (l.take k):=fun c hc=>h c (List.mem_of_mem_take hc)
theorem lim_snoc:∀(ts:List Tm) (i:Nat) (t:Tm),limGo T V i (ts ++ [t])=limGo T V i ts ++ [⟨(i:Int)+ts.length+1,0,(limitsS T V t).2⟩,⟨0,(i:Int)+ts.length+1,0-(limitsS T V t).1⟩]
  | [],i,t=>by simp [limGo]
  | u::r,i,t=>by
    rw [List.cons_append,limGo,limGo,lim_snoc r (i+1) t]
    simp only [List.cons_append,List.length_cons]
    rw [show ((i+1:Nat):Int)+(r.length:Int)+1=(i:Int)+((r.length+1:Nat):Int)+1 by omega]
theorem lim_take {ts:List Tm}{k:Nat}{t:Tm}(h:ts[k]? = some t):limGo T V 0 (ts.take (k+1))=limGo T V 0 (ts.take k) ++ [⟨(k:Int)+1,0,(limitsS T V t).2⟩,⟨0,(k:Int)+1,0-(limitsS T V t).1⟩]:=by
 have hl:=get_lt' h
 rw [take_get h,lim_snoc]
 simp [Nat.min_eq_left (Nat.le_of_lt hl)]
theorem lim_len:∀(ts:List Tm) (i:Nat),(limGo T V i ts).length=2*ts.length
 | [],i=>rfl
 | t::r,i=>by rw [limGo];simp only [List.length_cons,lim_len r (i+1)];omega
theorem limits_range (t:Tm) : -1099511627776≤(limitsS T V t).1∧(limitsS T V t).1≤1099511627776∧-1099511627776≤(limitsS T V t).2∧(limitsS T V t).2≤1099511627776:=by
 unfold limitsS
 repeat' split
 all_goals simp
/-- the system behind its pointer -/
def cSy (T:List Sc)(V:List Va)(l:List Lit):List AV:=[.int .i64 (zoneS T V l).n,.sl 3 ((zoneS T V l).bs.map cBd),.sl 3 ((sysGo T V l).ts.map cTm),.junk]
theorem ne_cons {α:Type}{l:List α}(h:(((l.length:Nat):Int)==0)=false):∃t r,l=t::r:=by
 cases l with
 | nil=>cases h
 | cons t r=>exact ⟨t,r,rfl⟩
theorem nil_of {α:Type}{l:List α}(h:(((l.length:Nat):Int)==0)=true):l = []:=by
 cases l with
 | nil=>rfl
 | cons t r=>simp at h;omega
theorem sc_two {a b:List AV}(h1:scalars a=true)(h2:scalars b=true):∀c∈[a,b],scalars c=true:=fun c hc=>by
 rcases List.mem_cons.1 hc with rfl | hc
 · exact h1
 · rw [List.mem_singleton.1 hc];exact h2
theorem bd_1 {c:Lit}{x z r:Int}(h:(c.cond.op==1&&c.neg)=true):boundsS c x z r = [⟨x,z,0-r⟩]:=by rw [boundsS,if_pos (by rw [h];rfl)]
theorem bd_2 {c:Lit}{x z r:Int}(h:(c.cond.op==8 && !c.neg)=true):boundsS c x z r = [⟨x,z,0-r⟩]:=by rw [boundsS,if_pos (by rw [h];simp)]
theorem bd_n {c:Lit}{x z r:Int}(h:(c.cond.op==1&&c.neg)=false)(h2:(c.cond.op==8 && !c.neg)=false):boundsS c x z r=if c.cond.op==1||c.cond.op==8 then [⟨z,x,r-1⟩] else if c.cond.op==7 && !c.neg then [⟨x,z,0-r-1⟩] else if c.cond.op==7 then [⟨z,x,r⟩] else [⟨x,z,0-r⟩,⟨z,x,r⟩]:=by
 rw [boundsS,ifF (by rw [h,h2];rfl)]
theorem bd_3 {c:Lit}{x z r:Int}(h:(c.cond.op==1&&c.neg)=false)(h2:(c.cond.op==8 && !c.neg)=false)(h3:(c.cond.op==1)=true):boundsS c x z r = [⟨z,x,r-1⟩]:=by rw [bd_n h h2,if_pos (by rw [h3];rfl)]
theorem bd_4 {c:Lit}{x z r:Int}(h:(c.cond.op==1&&c.neg)=false)(h2:(c.cond.op==8 && !c.neg)=false)(h3:(c.cond.op==8)=true):boundsS c x z r = [⟨z,x,r-1⟩]:=by rw [bd_n h h2,if_pos (by rw [h3];simp)]
theorem bd_5 {c:Lit}{x z r:Int}(h:(c.cond.op==1&&c.neg)=false)(h2:(c.cond.op==8 && !c.neg)=false)(h3:(c.cond.op==1)=false)(h4:(c.cond.op==8)=false)(h5:(c.cond.op==7 && !c.neg)=true):boundsS c x z r = [⟨x,z,0-r-1⟩]:=by rw [bd_n h h2,ifF (by rw [h3,h4];rfl),if_pos h5]
theorem bd_6 {c:Lit}{x z r:Int}(h:(c.cond.op==1&&c.neg)=false)(h2:(c.cond.op==8 && !c.neg)=false)(h3:(c.cond.op==1)=false)(h4:(c.cond.op==8)=false)(h5:(c.cond.op==7 && !c.neg)=false)(h6:(c.cond.op==7)=true):boundsS c x z r = [⟨z,x,r⟩]:=by rw [bd_n h h2,ifF (by rw [h3,h4];rfl),ifF h5,if_pos h6]
theorem bd_7 {c:Lit}{x z r:Int}(h:(c.cond.op==1&&c.neg)=false)(h2:(c.cond.op==8 && !c.neg)=false)(h3:(c.cond.op==1)=false)(h4:(c.cond.op==8)=false)(h5:(c.cond.op==7 && !c.neg)=false)(h6:(c.cond.op==7)=false):boundsS c x z r = [⟨x,z,0-r⟩,⟨z,x,r⟩]:=by rw [bd_n h h2,ifF (by rw [h3,h4];rfl),ifF h5,ifF h6]
theorem cSy_eq {l:List Lit}{s:Sy}{eZ eB:List (List AV)}(h:s=sysGo T V l)(hz:eZ=(limGo T V 0 s.ts).map cBd)(hb:eB=s.bs.map cBd):AV.ptr [.int .i64 ((s.ts.length:Int)+1),.sl 3 (eZ++eB),.sl 3 (s.ts.map cTm),.junk] = .ptr (cSy T V l):=by
 rw [hz,hb,←List.map_append,h];rfl
/-- one step of the loop -/
theorem sys_next {l:List Lit}{k:Nat}{c:Lit}{s:Sy}{bs:List Bd}(h:l[k]? = some c)(hs:s=sysGo T V (l.take k))(hn:(!(numericS T V c).2)=false)
  (hb:boundsS c (numTm (addTm s.ts (numericS T V c).1.plus) (numericS T V c).1.plus) (numTm (addTm (addTm s.ts (numericS T V c).1.plus) (numericS T V c).1.minus) (numericS T V c).1.minus) (numericS T V c).1.rest=bs) :
  (⟨addTm (addTm s.ts (numericS T V c).1.plus) (numericS T V c).1.minus,s.bs++bs⟩:Sy)=sysGo T V (l.take (k+1)):=by
 rw [sys_take h,←hs,sys_step hn,hb]
theorem sys_same {l:List Lit}{k:Nat}{c:Lit}{s:Sy}(h:l[k]? = some c)(hs:s=sysGo T V (l.take k))(hn:(!(numericS T V c).2)=true):s=sysGo T V (l.take (k+1)):=by
 rw [sys_take h,←hs,sys_skip hn]
theorem enc_snoc {s:List Bd}{e:List (List AV)}{b:Bd}(h:e=s.map cBd):e ++ [cBd b]=(s ++ [b]).map cBd:=by rw [h,List.map_append];rfl
theorem enc_snoc2 {s:List Bd}{e:List (List AV)}{b c:Bd}(h:e=s.map cBd):(e ++ [cBd b]) ++ [cBd c]=(s ++ [b,c]).map cBd:=by rw [h,List.map_append,List.append_assoc];rfl
theorem num_range {ts l:List Tm}{n:Nat}(h:ts.length≤n):0≤numTm ts l∧numTm ts l≤(n:Int)+1:=by
  unfold numTm
  cases l with
  | nil=>simp only;omega
  | cons t r=>
    simp only
    have:ts.idxOf t≤ts.length:=List.idxOf_le_length
    omega
theorem Zone_1 {l:List Lit}(h:(clauseE T V l != 0)=true):ZoneS T V l=⟨zn0,[],clauseE T V l⟩:=by rw [ZoneS,if_pos h]
theorem Zone_2 {l:List Lit}(h:(clauseE T V l != 0)=false)(h2:(!fitsS (zoneS T V l))=true):ZoneS T V l=⟨zn0,[],17⟩:=by rw [ZoneS,ifF h,if_pos h2]
theorem Zone_3 {l:List Lit}(h:(clauseE T V l != 0)=false)(h2:(!fitsS (zoneS T V l))=false):ZoneS T V l=⟨zoneS T V l,(sysGo T V l).ts.map tmE,0⟩:=by rw [ZoneS,ifF h,ifF h2]
end
end Go.Proofs.YtkddpedfbicbeaaGreatDoor
