/-
  The abstract layer, part 25: a range over a function: calls of yield, rounds, the statement with the code behind it. No condition.
-/
import Derived.Test.YtjedflcpjlgokaaGreatDoorK14
import Derived.RangeFuncIn
import Derived.RangeFuncLeaves
import Derived.RangeFuncRecord
import Derived.TacticsIn
namespace Go.Aw
open Go
set_option linter.unusedVariables false
set_option linter.unusedSimpArgs false

def cD (l:List Oper):Bool:=l.all fun o=>match o.op with | .defer _=>false | _=>true
theorem T3 {l:List Oper}(h:cD l=true):∀o∈l,∀c,o.op≠.defer c:=fun o ho c e=>by
 have:=(List.all_eq_true.1 h) o ho
 rw [e] at this;cases this

theorem bX {ro:Option Nat}{n:Nat}{P:Program}{o:Oper}{a:Act}{w:World}{next:Act→World→Prop}{Q Q':Exit→Act→World→Prop}(hd:∀c,o.op≠.defer c)
    (hp:∀c a w,Q (.panic c) a w→Q' (.panic c) a w) (ho:LetsOut Q→LetsOut Q') (h:o.wp P a w next Q):o.wpIn { Fence.wide with round:=ro } n P a w next Q':=by
  refine ⟨fun _ _=>trivial,?_⟩
  rw [Oper.semAt_eq _ _ _ hd]
  unfold Oper.wp at h
  generalize (execOp a.eval o).run P w=r at h ⊢
  cases r with
  | ok x w'=>
    cases x with
    | value v=>exact h
    | skip=>exact h
    | defer d=>exact h
    | enter f args=>
      have h':Calls P f args w' _:=h
      refine ⟨fun e=>(by cases e),callsIn_wide.2 (h'.mono ?_)⟩
      intro e w'' hr
      cases e with
      | returned v=>exact hr
      | panicked c=>exact hp _ _ _ hr
      | outgrown=>exact ho hr
    | row row args=>
      have h':Rows P row args w' _:=h
      exact ⟨fun e=>(by cases e),fun c cs _=>let ⟨v,w'',r,s⟩:=h' c cs;⟨v,w'',r,stepsIn_wide.2 s⟩⟩
    | _=>exact h.elim
  | halt e w'=>
    cases e with
    | panic v=>exact hp _ _ _ h
    | _=>exact h.elim

theorem In {ro:Option Nat}{n:Nat}{P:Program}{ops:Array Oper}{Q:Exit→Act→World→Prop}:∀(l rest:List Oper) (a:Act) (w:World),(∀o∈l,∀c,o.op≠.defer c)→
    tA P ops (fun e a w=>match e with | .normal=>wpListIn { Fence.wide with round:=ro } n P ops Q rest a w | e=>Q e a w) l a w→wpListIn { Fence.wide with round:=ro } n P ops Q (l++rest) a w
  | [],rest,a,w,_,h=>h
  | o::r,rest,a,w,hd,h=>by
    unfold tA at h
    show wpListIn _ n P ops Q (o::(r++rest)) a w
    unfold wpListIn
    split
    · rename_i hw;rw [if_pos hw] at h
      exact bX (hd o (List.mem_cons_self ..)) (fun c a w h=>h) (fun h=>h) (Oper.wp_mono (fun a' w' h'=>In r rest a' w' (fun x hx=>hd x (List.mem_cons_of_mem _ hx)) h') h)
    · rename_i hw;rw [if_neg hw] at h
      exact ⟨fun _ _=>trivial,In r rest _ w (fun x hx=>hd x (List.mem_cons_of_mem _ hx)) h⟩

def jZ (P:Program)(l:Nat)(rec:Loop)(H:List HO)(args:List AV)(R:AV→List HO→Prop):Prop:=
 ∀(n:Nat) (g:Gh) (w:World) (vs:Array Value),HOK g w H→Cx g w vs args→
  RoundIn { Fence.wide with round:=none } n P l rec.fn ((rec.params.zip vs).foldl (fun t (p,v)=>t.setIfInBounds p v) rec.tmps) rec.assign rec.body w
   fun e w'=>∃v g' r H',e = .returned v∧Rep g' w' v r∧HOK g' w' H'∧Ext g w g' w'∧R r H'

theorem wideN:({ Fence.wide with round:=none }:Fence)=Fence.wide:=rfl

theorem Mb {α:Type}{x:α}:∀{l:List α},l.getLast? = some x→l.dropLast ++ [x]=l
  | [],h=>by simp at h
  | [a],h=>by simp at h;subst h;rfl
  | a::b::l,h=>by
    rw [List.getLast?_cons_cons] at h
    rw [List.dropLast_cons_cons,List.cons_append,Mb h]
theorem AW.regionY {P:Program}{Q:Exit→St→Prop}{s:St}{id:Nat}{ops:Array Oper}{d:Nat}{cal:Operand}{args:Array Operand}{ats:Array TypeId}{ty:TypeId}{pos:String}{aft:Array Edge}
  (hops:ops.toList.getLast? = some ⟨some d,.call ⟨.value cal,args,ats⟩,ty,pos,aft,none⟩) (hnd:cD ops.toList.dropLast=true)
  (h:AOL P ops (fun s'=>∃l rec R,(∃i:Nat,s'.H[i]? = some (HO.obj l (Obj.loop rec)))∧Gz s'.sl cal = .val (.func (.yield l) #[] #[])∧args.size=rec.params.size∧Oa (some d) s'.n=true∧
   jZ P l rec s'.H (args.toList.map (Gz s'.sl)) R∧∀x H',R x H'→Q .normal ⟨Fw (some d) x s'.sl,H',s'.n⟩) ops.toList.dropLast s):AW P (.region id ops false) Q s:=by
 intro Q' g a w hG hQ
 have hops':=Mb hops
 generalize ops.toList.dropLast=pre at hops' hnd h
 refine (wpIn_wide (n:=1)).1 ?_
 rw [←wideN]
 refine wpIn_region_list ?_
 rw [←hops']
 refine In pre _ a w (T3 hnd) ?_
 refine h.run _ g a w hG ?_
 rintro g' s' a' w' hG' hx ⟨l,rec,R,⟨i,hi⟩,hcal,hlen,hd,hr,hk⟩
 show wpListIn _ 1 P ops Q' [_] a' w'
 unfold wpListIn
 rw [if_pos (Eo rfl)]
 refine ⟨fun _ _=>trivial,?_⟩
 have hobj:(HO.obj l (.loop rec)).ok g' w':=hG'.heap.ok _ (List.mem_of_getElem? hi)
 have hv:a'.eval cal = .func (.yield l) #[] #[]:=(hcal▸hG'.eval cal:Rep g' w' _ _).inv_val
 have hargs:Cx g' w' (args.map a'.eval) (args.toList.map (Gz s'.sl)):=R0 (ρ:=Gz s'.sl) (a:=a') (g:=g') (w:=w') (args:=args) (fun y _=>hG'.eval y) rfl
 have hrun:(execOp a'.eval ⟨some d,.call ⟨.value cal,args,ats⟩,ty,pos,aft,none⟩).run P w' = .ok (.round l rec.fn ((rec.params.zip (args.map a'.eval)).foldl (fun t (p,v)=>t.setIfInBounds p v) rec.tmps) rec.assign rec.body) w':=by
  have hy:=run_yield (P:=P) (args:=args.map a'.eval) hobj.2 (by simpa using hlen)
  simp only [execOp,resolve,Sem.run_bind,hv,Deferred.ofValue,Sem.run_pure,Result.andThen_ok,invoke]
  simpa using hy
 rw [Oper.semAt_eq _ _ _ (fun c e=>by cases e),hrun]
 refine ⟨fun e=>(by cases e),(hr _ g' w' _ hG'.heap hargs).mono ?_⟩
 rintro e w'' ⟨v,g'',r,H',rfl,k1,k2,k3,k4⟩
 exact hQ _ g'' _ _ w'' (hG'.put k3 hd k1 k2) (hx.trans k3) (hk r H' k4)

def AWr (l:Nat)(P:Program)(c:Code)(Q:Exit→St→Prop)(s:St):Prop:=
 ∀(n:Nat) (Q':Exit→Act→World→Prop) (g:Gh) (a:Act) (w:World),Gm g s a w→(∀e g' s' a' w',Gm g' s' a' w'→Ext g w g' w'→Q e s'→Q' e a' w')→c.wpIn { Fence.wide with round:=some l } n P Q' a w

theorem AWr.region {l:Nat}{P:Program}{Q:Exit→St→Prop}{s:St}{id:Nat}{ops:Array Oper}(hnd:cD ops.toList=true)(h:AOL P ops (Q .normal) ops.toList s):AWr l P (.region id ops false) Q s:=by
 intro n Q' g a w hG hQ
 refine wpIn_region_list ?_
 have:=In (ro:=some l) (n:=n) (Q:=Q') ops.toList [] a w (T3 hnd) (h.run _ g a w hG fun g' s' a' w' h1 h2 h3=>hQ _ g' s' a' w' h1 h2 h3)
 simpa using this

theorem AWr.block {l:Nat}{P:Program}{Q:Exit→St→Prop}{s:St}{id:Nat}{c:Code}(h:AWr l P c (Qd id Q) s):AWr l P (.block id c) Q s:=by
  intro n Q' g a w hG hQ
  refine wpIn_block (h n _ g a w hG fun e g' s' a' w' hG' hx hq=>?_)
  cases e with
  | exit j=>
    simp only [Qd] at hq
    simp only [Exit.inBlock]
    by_cases e:j=id
    · subst e;simp at hq;simp;exact hQ _ g' s' a' w' hG' hx hq
    · simp only [e,if_false]
      have:Nat.beq j id=false:=by
        cases hq':Nat.beq j id with
        | false=>rfl
        | true=>exact absurd (Nat.eq_of_beq_eq_true hq') e
      simp only [this,cond_false] at hq
      exact hQ _ g' s' a' w' hG' hx hq
  | _=>exact hQ _ g' s' a' w' hG' hx hq

theorem T6 {g:Gh}{w:World}{H:List HO}(hH:HOK g w H){i b:Nat}{o:Obj}(o':Obj)(hi:H[i]? = some (.obj b o)) :
  HOK g (w.putObj b o') (H.set i (.obj b o'))∧Ext g w g (w.putObj b o'):=by
 have hob:(HO.obj b o).ok g w:=hH.ok _ (List.mem_of_getElem? hi)
 have hlt:b<w.heap.size:=(Array.getElem?_eq_some_iff.1 hob.2).1
 have hx:Ext g w g (w.putObj b o'):=by
  refine ⟨rfl,rfl,rfl,by simp,fun c hc hg=>⟨hg,World.putObj_heap_other (fun e=>by rw [e,hob.1] at hg;cases hg)⟩,fun c n hc hg=>⟨fun m hm=>by rw [hg] at hm;cases hm;exact Nat.le_refl _,fun x hx=>?_⟩⟩
  have hne:c≠b:=fun e=>by rw [e,hob.1] at hg;cases hg;omega
  unfold World.cell?
  rw [World.putObj_heap_other hne]
 refine ⟨hH.set hx hi (fun c hc=>.inl hc) ⟨hob.1,World.putObj_heap_same hlt⟩ fun c hc hne _=>⟨rfl,World.putObj_heap_other (fun e=>hne (by rw [e];rfl))⟩,hx⟩

theorem Gm.putObj {g:Gh}{s:St}{a:Act}{w:World}(hG:Gm g s a w){i b:Nat}{o:Obj}(o':Obj)(hi:s.H[i]? = some (.obj b o)) :
  Gm g ⟨s.sl,s.H.set i (.obj b o'),s.n⟩ a (w.putObj b o')∧Ext g w g (w.putObj b o'):=by
 obtain ⟨h1,h2⟩:=T6 hG.heap o' hi
 exact ⟨⟨hG.size,hG.defers,fun j=>(hG.sl j).mono h2,h1⟩,h2⟩

theorem jZ.of {P:Program}{l:Nat}{rec:Loop}{H:List HO}{args:List AV}{R:AV→List HO→Prop}{sl:List (Nat×AV)}{n0:Nat}(hst:rec.state = .ready)(hpe:rec.pending=none)
  (hsz:rec.tmps.size=n0) (hsl:∀g w vs,Cx g w vs args→∀j,Rep g w (((rec.params.zip vs).foldl (fun t (p,v)=>t.setIfInBounds p v) rec.tmps).getD j undef) (get sl j))
  (h:AWr l P rec.assign (fun e s1=>e = .normal∧∃i:Nat,s1.H[i]? = some (HO.obj l (Obj.loop rec))∧AWr l P rec.body (fun e s2=>e = .normal∧∃j:Nat,s2.H[j]? = some (HO.obj l (Obj.loop { rec with state:=.busy }))∧R (.bool true) (s2.H.set j (.obj l (.loop rec)))) ⟨s1.sl,s1.H.set i (.obj l (.loop { rec with state:=.busy })),s1.n⟩) ⟨sl,H,n0⟩):jZ P l rec H args R:=by
 intro n g w vs hH hr
 refine roundIn_of_wpIn trivial ?_
 have hfs:∀(L:List (Tmp×Value)) (t:Array Value),(L.foldl (fun t (p,v)=>t.setIfInBounds p v) t).size=t.size:=by
  intro L;induction L with
  | nil=>intro t;rfl
  | cons p r ih=>intro t;rw [List.foldl_cons,ih];simp
 have hG:Gm g ⟨sl,H,n0⟩ { tmps:=(rec.params.zip vs).foldl (fun t (p,v)=>t.setIfInBounds p v) rec.tmps,defers:=[] } w:=
  ⟨by rw [←Array.foldl_toList];exact (hfs _ _).trans hsz,rfl,fun j=>hsl g w vs hr j,hH⟩
 refine h n _ g _ w hG ?_
 rintro e g1 s1 a1 w1 hG1 hx1 ⟨rfl,i,hi,hb⟩
 have hob:(HO.obj l (.loop rec)).ok g1 w1:=hG1.heap.ok _ (List.mem_of_getElem? hi)
 refine ⟨_,run_beginRound hob.2 hst,?_⟩
 obtain ⟨hG2,hx2⟩:=hG1.putObj (.loop { rec with state:=.busy }) hi
 refine hb n _ g1 a1 _ hG2 ?_
 rintro e g3 s3 a3 w3 hG3 hx3 ⟨rfl,j,hj,hR⟩
 have hob3:(HO.obj l (.loop { rec with state:=.busy })).ok g3 w3:=hG3.heap.ok _ (List.mem_of_getElem? hj)
 obtain ⟨hG4,hx4⟩:=hG3.putObj (.loop rec) hj
 refine ⟨_,_,run_endRound none hob3.2,_,g3,.bool true,_,rfl,.bool _,?_,?_,hR⟩
 ·
  have:({ ({ rec with state:=.busy }:Loop) with state:=if (none:Option Code).isNone then .ready else .done,pending:=none }:Loop)=rec:=by
   cases rec;simp only at hst hpe;subst hst;subst hpe;rfl
  rw [this];exact hG4.heap
 ·
  have:({ ({ rec with state:=.busy }:Loop) with state:=if (none:Option Code).isNone then .ready else .done,pending:=none }:Loop)=rec:=by
   cases rec;simp only at hst hpe;subst hst;subst hpe;rfl
  rw [this];exact ((hx1.trans hx2).trans hx3).trans hx4

def AWX (P:Program)(c:Code)(Q:Exit→St→Prop)(X:Gh→World→Exit→Act→World→Prop)(s:St):Prop:=
 ∀(Q':Exit→Act→World→Prop) (g:Gh) (a:Act) (w:World),Gm g s a w→(∀e g' s' a' w',Gm g' s' a' w'→Ext g w g' w'→Q e s'→Q' e a' w')→(∀e a' w',X g w e a' w'→Q' e a' w')→c.wp P Q' a w

def Vm (D:Nat):Deferred:={ target:=.collected D,args:=#[] }

def Uj (P:Program)(fn:Func)(R:AV→List HO→Prop)(g:Gh)(w:World)(e:Exit)(a:Act)(w':World):Prop:=
 e = .ret∧∃D,a.defers = [Vm D]∧w'.heap[D]? = some (.deferred (some []))∧∃v g' r H',(results fn a.tmps).run P (w'.putObj D (.deferred none)) = .ok v (w'.putObj D (.deferred none))∧
  Rep g' (w'.putObj D (.deferred none)) v r∧HOK g' (w'.putObj D (.deferred none)) H'∧Ext g w g' (w'.putObj D (.deferred none))∧R r H'

section
variable {P:Program} {fn:Func} {R:AV→List HO→Prop} {Q:Exit→St→Prop} {s:St}
theorem Uj.mono {g g1:Gh}{w w1:World}(h:Ext g w g1 w1){e:Exit}{a:Act}{w':World}(k:Uj P fn R g1 w1 e a w'):Uj P fn R g w e a w':=by
 obtain ⟨he,D,h1,h2,v,g',r,H',h3,h4,h5,h6,h7⟩:=k
 exact ⟨he,D,h1,h2,v,g',r,H',h3,h4,h5,h.trans h6,h7⟩

theorem AWX.seq {x y:Code}(h:AW P x (Kc (AWX P y Q (Uj P fn R)) Q) s):AWX P (.seq x y) Q (Uj P fn R) s:=by
 intro Q' g a w hG hQ hX
 refine wp_seq (h _ g a w hG fun e g' s' a' w' hG' hx hq=>?_)
 cases e with
 | normal=>exact hq Q' g' a' w' hG' (fun e g'' s'' a'' w'' h1 h2 h3=>hQ e g'' s'' a'' w'' h1 (hx.trans h2) h3) (fun e a'' w'' hk=>hX e a'' w'' (hk.mono hx))
 | _=>exact hQ _ g' s' a' w' hG' hx hq

theorem AWX.ghost {c:Code}{s':St}(h:GS s s')(k:AWX P c Q (Uj P fn R) s'):AWX P c Q (Uj P fn R) s:=by
 intro Q' g a w hG hQ hX
 obtain ⟨g',hG',hx⟩:=h g a w hG
 exact k Q' g' a w hG' (fun e g'' s'' a'' w'' h1 h2 h3=>hQ e g'' s'' a'' w'' h1 (hx.trans h2) h3) (fun e a'' w'' hk=>hX e a'' w'' (hk.mono hx))

def AWX2 (P:Program)(y z:Code)(Q:Exit→St→Prop)(X:Gh→World→Exit→Act→World→Prop)(s:St):Prop:=
 ∀(Q':Exit→Act→World→Prop) (g:Gh) (a:Act) (w:World),Gm g s a w→(∀e g' s' a' w',Gm g' s' a' w'→Ext g w g' w'→Q e s'→Q' e a' w')→(∀e a' w',X g w e a' w'→Q' e a' w')→y.wp P (Exit.then (z.wp P Q') Q') a w

theorem AWX.assoc {x y z:Code}(h:AW P x (Kc (AWX2 P y z Q (Uj P fn R)) Q) s):AWX P (.seq (.seq x y) z) Q (Uj P fn R) s:=by
 intro Q' g a w hG hQ hX
 refine wp_seq (wp_seq (h _ g a w hG fun e g' s' a' w' hG' hx hq=>?_))
 cases e with
 | normal=>exact hq Q' g' a' w' hG' (fun e g'' s'' a'' w'' h1 h2 h3=>hQ e g'' s'' a'' w'' h1 (hx.trans h2) h3) (fun e a'' w'' hk=>hX e a'' w'' (hk.mono hx))
 | _=>exact hQ _ g' s' a' w' hG' hx hq

theorem AWX.cut {x y:Code}{ι:Type}(S:ι→St)(Rr:ι→Prop)(h:AW P x (Kc (fun s'=>∃i,Rr i∧GS s' (S i)) Q) s)(k:∀i,Rr i→AWX P y Q (Uj P fn R) (S i)):AWX P (.seq x y) Q (Uj P fn R) s:=
 AWX.seq (h.mono fun e s' hq=>by
  cases e with
  | normal=>obtain ⟨i,hr,hg⟩:=hq;exact AWX.ghost hg (k i hr)
  | _=>exact hq)

theorem Dk.bodyX {T:List (Nat×TD)}(hT:Hb P T){f:FuncId}{c:Code}{args:List AV}{H:List HO}(hf:P.funcs[f]? = some fn)(hb:fn.body=some c){n:Nat}(hn:fn.ntmps=n)(hle:Nat.ble args.length n=true)
    (h:AWX P c (fun e s=>(e = .normal∨e = .ret)∧∃xs,ResL P T s fn.results.toList xs∧∃H',H'.Sublist s.H∧R (Ae xs) H') (Uj P fn R) ⟨If 0 args,H,n⟩):Dk P f H args R:=by
  intro g w vs hH hr
  have hle':=Nat.le_of_ble_eq_true hle
  refine (callsIn_wide (n:=1)).1 (callsIn_of_wp_marks hf hb trivial ?_)
  refine wpIn_wide.2 ?_
  refine h _ g _ w ⟨?_,rfl,?_,hH⟩ ?_ ?_
  · simp only [Array.size_append,Array.size_replicate,hn,hr.1];omega
  · intro i
    show Rep g w _ (get (If 0 args) i)
    rw [Ra]
    simp only [Nat.zero_le,if_true,Nat.sub_zero]
    cases hi:args[i]? with
    | none=>exact .junk _
    | some x=>
      have hlt:i<vs.size:=by rw [hr.1];exact (List.getElem?_eq_some_iff.1 hi).1
      have:=hr.2 i x hi
      simp only [Array.getD_eq_getD_getElem?,Array.getElem?_append,hlt,if_true] at this ⊢
      exact this
  · rintro e g' s' a' w' hG' hx ⟨he,xs,hr',H',hs,hq⟩
    obtain ⟨v,h1,h2⟩:=Ov hT hr' hG'
    have key:LeavesInM Fence.wide 1 P fn a'.tmps (fun e w'=>∃v g' r H',e = .returned v∧Rep g' w' v r∧HOK g' w' H'∧Ext g w g' w'∧R r H') a'.defers .returning w':=by
      rw [hG'.defers]
      exact ⟨v,h1,v,g',_,H',rfl,h2,hG'.heap.sub hs,hx,hq⟩
    rcases he with rfl | rfl <;> exact key
  · rintro e a' w' ⟨rfl,D,hD,hk,v,g',r,H',h1,h2,h3,h4,h5⟩
    show LeavesInM Fence.wide 1 P fn a'.tmps _ a'.defers .returning w'
    rw [hD]
    exact ⟨by simp,.inl ⟨D,_,rfl,run_takeDeferred hk,v,h1,v,g',r,H',rfl,h2,h3,h4,h5⟩⟩
end

def Act.more (a:Act)(ds:List Deferred):Act:={ a with defers:=a.defers++ds }
theorem Mi (a:Act)(ds:List Deferred)(d:Option Nat)(v:Value):(Act.more a ds).put d v=Act.more (a.put d v) ds:=by cases d <;> rfl
theorem aG (a:Act)(ds:List Deferred):(Act.more a ds).eval=a.eval:=by funext y;cases y <;> rfl

def sY (ds:List Deferred)(Q:Exit→Act→World→Prop)(e:Exit)(a:Act)(w:World):Prop:=∃a0,a=Act.more a0 ds∧Q e a0 w

theorem oU {P:Program}{ops:Array Oper}{Q:Exit→Act→World→Prop}{ds:List Deferred}{i:Nat}{K K':Act→World→Prop}(hK:∀a w,K a w→K' (Act.more a ds) w){a:Act}{w:World}
    (h:wpOp P ops Q i K a w):wpOp P ops (sY ds Q) i K' (Act.more a ds) w:=by
  have hL:LetsOut Q→LetsOut (sY ds Q):=fun ⟨a,w,h⟩=>⟨_,w,a,rfl,h⟩
  unfold wpOp at h ⊢
  cases ho:ops[i]? with
  | none=>rw [ho] at h;exact hK _ _ h
  | some o=>
    rw [ho] at h
    simp only at h ⊢
    have ht:yielded ops (Act.more a ds).tmps=yielded ops a.tmps:=rfl
    rw [ht]
    by_cases hw:Region.wanted o (yielded ops a.tmps)=true
    · rw [if_pos hw] at h ⊢
      rcases h with h | ⟨h,h'⟩
      · left
        unfold Oper.wp at h ⊢
        rw [aG]
        generalize (execOp a.eval o).run P w=r at h ⊢
        cases r with
        | ok x w'=>
          cases x with
          | value v=>show K' _ w';rw [Mi];exact hK _ _ h
          | skip=>show K' _ w';rw [Mi];exact hK _ _ h
          | defer d=>
            have:=hK _ _ h
            rw [←Mi] at this
            exact this
          | enter f args=>
            have h':Calls P f args w' _:=h
            show Calls P f args w' _
            refine h'.mono ?_
            intro e w'' hr
            cases e with
            | returned v=>show K' _ w'';rw [Mi];exact hK _ _ hr
            | panicked c=>exact ⟨a,rfl,hr⟩
            | outgrown=>exact hL hr
          | row row args=>
            have h':Rows P row args w' _:=h
            show Rows P row args w' _
            exact h'.mono fun v w'' hr=>by rw [Mi];exact hK _ _ hr
          | _=>exact h.elim
        | halt e w'=>
          cases e with
          | panic v=>exact ⟨a,rfl,h⟩
          | _=>exact h.elim
      · right
        refine ⟨?_,hL h'⟩
        unfold Oper.asks at h ⊢
        rw [aG];exact h
    · rw [if_neg hw] at h ⊢
      rw [Mi];exact hK _ _ h

theorem V3 {P:Program}{md:Region.Mode}{ops:Array Oper}{Q:Exit→Act→World→Prop}{ds:List Deferred}:∀(fuel:Nat) (listed:Array Bool) (a:Act) (w:World),wpAny P md ops Q fuel listed a w→
  wpAny P md ops (sY ds Q) fuel listed (Act.more a ds) w
 | 0,listed,a,w,h=>⟨h.1,a,rfl,h.2⟩
 | fuel+1,listed,a,w,h=>⟨fun hr=>⟨a,rfl,h.1 hr⟩,fun i hi=>oU (fun a w h=>V3 fuel _ a w h) (h.2 i hi)⟩

section
variable {P:Program} {ops:Array Oper}
theorem pL (hm:P.follows .mixedOrders=true){id:Nat}{Qs:St→Prop}{s:St}(K:List HO→Prop)(hK:K s.H)(hdd:E5 ops=true)(h:Jn P ops K Qs (Array.replicate ops.size false) s)
  {Q':Exit→Act→World→Prop} {g:Gh} {a:Act} {w:World} (hG:Gm g s a w) (ds:List Deferred) (hQ:∀g' s' a' w',Gm g' s' a' w'→Ext g w g' w'→Qs s'→Q' .ret (Act.more a' ds) w') :
  ((Code.region id ops true).seq .ret).wp P Q' (Act.more a ds) w:=by
 have hx:=Ext.drew g w
 have hG':Gm g s a w.drew:=⟨hG.size,hG.defers,fun i=>(hG.sl i).mono hx,hG.heap.drew⟩
 have key:=CanonI.any hdd h ops.size [] (Array.replicate ops.size false) s.sl g a w.drew (fun e a' w'=>match e with | .normal=>Q' .ret (Act.more a' ds) w' | _=>False)
  ⟨by simp,by simp,by simp,by simp,fun t _=>rfl,by simp,by simp,by simp,by simp,by simp,by simp,by simp,by simp,fun j o hj hl=>by
   have hlt:j<ops.size:=(Array.getElem?_eq_some_iff.1 hj).1
   simp [hlt] at hl⟩ hG' (fun _=>hK) (by
   unfold iO
   have:=List.length_filter_le (fun j=>!(Array.replicate ops.size false).getD j true) (List.range ops.size)
   simpa using this) fun g' s' a' w' k1 k2 k3=>hQ g' s' a' w' k1 (hx.trans k2) k3
 have key2:=V3 (ds:=ds) _ _ _ _ key
 refine wp_seq (wp_mono (wp_region_any hm key2) ?_)
 rintro e a' w' ⟨a0,rfl,hq⟩
 cases e with
 | normal=>exact wp_ret hq
 | _=>exact hq.elim

inductive AWD (P:Program):Code→(St→Prop)→St→Prop where
 | draw (hm:P.follows .mixedOrders=true) {id:Nat} {ops:Array Oper} {Qs:St→Prop} {s:St} (K:List HO→Prop) (hK:K s.H) (hdd:E5 ops=true) (h:Jn P ops K Qs (Array.replicate ops.size false) s):AWD P (.region id ops true) Qs s

def endX (P:Program)(T:List (Nat×TD))(fn:Func)(R:AV→List HO→Prop)(D:Nat)(s:St):Prop:=
 ∃i:Nat,s.H[i]? = some (HO.obj D (Obj.deferred (some [])))∧∃xs,ResL P T ⟨s.sl,s.H.set i (.obj D (.deferred none)),s.n⟩ fn.results.toList xs∧∃H3,H3.Sublist (s.H.set i (.obj D (.deferred none)))∧R (Ae xs) H3

theorem AWX.rangeTail {T:List (Nat×TD)}(hT:Hb P T){fn:Func}{R:AV→List HO→Prop}{Q:Exit→St→Prop}{s:St}{go:Operand}{ps:Array Tmp}{assign body:Code}{bid idr gf:Nat}{lb:List AV}(Z:List HO→Prop)
    (hg:Gz s.sl go = .fn (.func gf) [] lb) (hf:vH P gf=true)
    (hit:∀(rec:Loop) (D l:Nat),rec.state = .ready→rec.pending=none→rec.params=ps→rec.assign=assign→rec.body=body→rec.tmps.size=s.n→(∀t v,get s.sl t = .val v→rec.tmps.getD t undef=v)→
      Dk P gf (.obj l (.loop rec) :: .obj D (.deferred (some []))::s.H) (.val (.func (.yield l) #[] #[])::lb)
        (fun r H'=>∃rec' H2,H' = .obj l (.loop rec') :: .obj D (.deferred (some []))::H2∧rec'.state≠.busy∧rec'.pending=none∧Z H2))
    (ht:∀D H2,Z H2→∃s2,GS ⟨s.sl,.obj D (.deferred (some []))::H2,s.n⟩ s2∧AWD P (.region idr ops true) (endX P T fn R D) s2) :
    AWX2 P (Code.block bid (.rangeFunc go ps assign body)) ((Code.region idr ops true).seq .ret) Q (Uj P fn R) s:=by
  intro Q' g0 a w hG hQ hX
  refine wp_block ((wpIn_wide (n:=1)).1 (wpIn_rangeFunc ?_))
  intro f0 _
  obtain ⟨vs0,us,hv,h1,h2⟩:=(hg▸hG.eval go:Rep g0 w _ _).inv_fn
  have hvs0:vs0 = #[]:=Array.size_eq_zero_iff.1 (by simpa using h1.1)
  subst hvs0
  obtain ⟨rec,hrec⟩:∃rec:Loop,rec=⟨.ready,none,f0,a.tmps,ps,assign,body,w.heap.size⟩:=⟨_,rfl⟩
  obtain ⟨W1,hW1⟩:∃W1,(w.alloc (.deferred (some []))).alloc (.loop rec)=W1:=⟨_,rfl⟩
  have hs1:(w.alloc (.deferred (some []))).heap.size=w.heap.size+1:=World.size_alloc ..
  have hx1:=Ext.alloc g0 w (.deferred (some [])) (some 0)
  have hH1:HOK (g0.put w.heap.size (some 0)) (w.alloc (.deferred (some []))) (.obj w.heap.size (.deferred (some []))::s.H):=
    (hG.heap.alloc (.deferred (some [])) (some 0)).cons ⟨Gh.Aap ..,Da ..⟩ fun b hb x hx e=>by
      cases hb
      exact absurd (HO.ok_lt (hG.heap.ok x hx) e).1 (Nat.lt_irrefl _)
  have hx2:=Ext.alloc (g0.put w.heap.size (some 0)) (w.alloc (.deferred (some []))) (.loop rec) (some 0)
  have hH2:=(hH1.alloc (.loop rec) (some 0)).cons (o:=.obj (w.alloc (.deferred (some []))).heap.size (.loop rec)) ⟨Gh.Aap ..,Da ..⟩ fun b hb x hx e=>by
      cases hb
      exact absurd (HO.ok_lt (hH1.ok x hx) e).1 (Nat.lt_irrefl _)
  rw [hs1] at hH2 hx2
  rw [hW1] at hH2 hx2
  refine ⟨w.heap.size+1,[Vm w.heap.size],W1,{ target:=.fn (.func gf) us,args:=#[.func (.yield (w.heap.size+1)) #[] #[]] },W1,gf,#[.func (.yield (w.heap.size+1)) #[] #[]]++us,W1,?_,?_,fun _ _=>trivial,?_,fun e=>(by cases e),?_⟩
  · rw [←hW1,hrec];exact run_enterLoop_outer _ _ _ _ _
  · simp only [resolve,hv]
    simp [go_sem]
  · simp [invoke,go_sem,Ri hf]
  · have hx12:=hx1.trans hx2
    refine callsIn_wide.2 ((hit rec w.heap.size (w.heap.size+1) (by rw [hrec]) (by rw [hrec]) (by rw [hrec]) (by rw [hrec]) (by rw [hrec]) (by rw [hrec];exact hG.size) (by rw [hrec];exact fun t v hv=>(hv▸hG.sl t:Rep g0 w _ _).inv_val) _ W1 _ hH2 ?_).mono ?_)
    · have h2':=h2.mono hx12
      exact Cx.append (xs:=[.val (.func (.yield (w.heap.size+1)) #[] #[])]) ⟨rfl,fun i x hi=>by
        cases i with
        | zero=>simp at hi;subst hi;exact .val _
        | succ i=>simp at hi⟩ h2'
    · rintro e w3 ⟨v,g3,r,H',rfl,hr3,hH3,hx3,rec',H2,rfl,hnb,hpe,hz⟩
      have hob:(HO.obj (w.heap.size+1) (.loop rec')).ok g3 w3:=hH3.ok _ (List.mem_cons_self ..)
      obtain ⟨hH4,hx4⟩:=T6 hH3 (i:=0) (.loop { rec' with state:=.exhausted }) rfl
      refine ⟨rec'.pending,_,run_endLoop hob.2 hnb,?_⟩
      obtain ⟨st',pe',f',t',p',as',bo',de'⟩:=rec'
      obtain rfl:pe'=none:=hpe
      have ha:({ a with defers:=[Vm w.heap.size]++a.defers }:Act)=Act.more a [Vm w.heap.size]:=by
        unfold Act.more;rw [hG.defers];rfl
      rw [ha]
      have hxa:=(hx12.trans hx3).trans hx4
      have hG4:Gm g3 ⟨s.sl,.obj w.heap.size (.deferred (some []))::H2,s.n⟩ a (w3.putObj (w.heap.size+1) (.loop ⟨.exhausted,none,f',t',p',as',bo',de'⟩)):=⟨hG.size,hG.defers,fun i=>(hG.sl i).mono hxa,hH4.sub (List.sublist_cons_self ..)⟩
      obtain ⟨s2,hgs,hd⟩:=ht w.heap.size H2 hz
      obtain ⟨g4,hG4,hx7⟩:=hgs _ _ _ hG4
      have hxa:=hxa.trans hx7
      cases hd with
      | draw hm K hK hdd hC=>
        refine pL hm K hK hdd hC hG4 [Vm w.heap.size] fun g5 s5 a5 w5 hG5 hx5 hq=>?_
        obtain ⟨i,hi,xs,hr,H3,hsub,hR⟩:=hq
        obtain ⟨hG6,hx6⟩:=hG5.putObj (.deferred none) hi
        have hob5:(HO.obj w.heap.size (.deferred (some []))).ok g5 w5:=hG5.heap.ok _ (List.mem_of_getElem? hi)
        obtain ⟨v6,k1,k2⟩:=Ov hT hr hG6
        refine hX _ _ _ ⟨rfl,w.heap.size,by show a5.defers++_=_;rw [hG5.defers];rfl,hob5.2,v6,g5,_,H3,k1,k2,hG6.heap.sub hsub,(hxa.trans hx5).trans hx6,hR⟩
end
end Go.Aw
