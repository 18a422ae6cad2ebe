/-
  Several texts in one: Ar, S24, Shelf, C11, S23, S23b, S23c. No condition.
-/
import Derived.Test.YtkddpedfbicbeaaGreatDoorK07
import Derived.RangeFuncIn
import Derived.RangeFuncLeaves
import Derived.RangeFuncRecord
import Derived.TacticsIn
import Derived.Test.YtkddpedfbicbeaaGreatDoorK08
import Derived.Shelf.Strconv.Itoa0
import Derived.Shelf.Strconv.Itoa1
import Derived.Shelf.LaysM
import Derived.Shelf.Strconv.Itoa2
import Derived.Shelf.Strconv.Itoa3
import Derived.Shelf.Bits.Mul64
import Derived.Test.YtkddpedfbicbeaaGreatDoorProg
import Derived.Test.YtkddpedfbicbeaaGreatDoorK01
import Derived.Test.YtkddpedfbicbeaaGreatDoorTab
import Derived.Test.YtkddpedfbicbeaaGreatDoorAx
import Derived.Lib.ItoaLen
set_option linter.unusedVariables false
set_option linter.unusedSimpArgs false
namespace Go.Aw
open Go

def dI (l:List Oper):Bool:=l.all fun o=>match o.op with | .defer _=>false | _=>true
theorem Vc {l:List Oper}(h:dI l=true):∀o∈l,∀c,o.op≠.defer c:=fun o ho c e=>by
 have:=(List.all_eq_true.1 h) o ho
 rw [e] at this;cases this

/-- An operation within a round, or without a round, of the wide fence. -/
theorem cW {ro:Option Nat}{n:Nat}{P:Program}{o:Oper}{a:Act}{w:World}{next:Act→World→Prop}{Q Q':Exit→Act→World→Prop}(hd:∀c,o.op≠.defer c)
    (hp:∀c a w,Q (.panic c) a w→Q' (.panic c) a w) (ho:LetsOut Q→LetsOut Q') (h:o.wp P a w next Q):o.wpIn { Fence.wide with round:=ro } n P a w next Q':=by
  refine ⟨fun _ _=>trivial,?_⟩
  rw [Oper.semAt_eq _ _ _ hd]
  unfold Oper.wp at h
  generalize (execOp a.eval o).run P w=r at h ⊢
  cases r with
  | ok x w'=>
    cases x with
    | value v=>exact h
    | skip=>exact h
    | defer d=>exact h
    | enter f args=>
      have h':Calls P f args w' _:=h
      refine ⟨fun e=>(by cases e),callsIn_wide.2 (h'.mono ?_)⟩
      intro e w'' hr
      cases e with
      | returned v=>exact hr
      | panicked c=>exact hp _ _ _ hr
      | outgrown=>exact ho hr
    | row row args=>
      have h':Rows P row args w' _:=h
      exact ⟨fun e=>(by cases e),fun c cs _=>let ⟨v,w'',r,s⟩:=h' c cs;⟨v,w'',r,stepsIn_wide.2 s⟩⟩
    | _=>exact h.elim
  | halt e w'=>
    cases e with
    | panic v=>exact hp _ _ _ h
    | _=>exact h.elim

theorem Is {ro:Option Nat}{n:Nat}{P:Program}{ops:Array Oper}{Q:Exit→Act→World→Prop}:∀(l rest:List Oper) (a:Act) (w:World),(∀o∈l,∀c,o.op≠.defer c)→
    yJ P ops (fun e a w=>match e with | .normal=>wpListIn { Fence.wide with round:=ro } n P ops Q rest a w | e=>Q e a w) l a w→wpListIn { Fence.wide with round:=ro } n P ops Q (l++rest) a w
  | [],rest,a,w,_,h=>h
  | o::r,rest,a,w,hd,h=>by
    unfold yJ at h
    show wpListIn _ n P ops Q (o::(r++rest)) a w
    unfold wpListIn
    split
    · rename_i hw;rw [if_pos hw] at h
      exact cW (hd o (List.mem_cons_self ..)) (fun c a w h=>h) (fun h=>h) (Oper.wp_mono (fun a' w' h'=>Is r rest a' w' (fun x hx=>hd x (List.mem_cons_of_mem _ hx)) h') h)
    · rename_i hw;rw [if_neg hw] at h
      exact ⟨fun _ _=>trivial,Is r rest _ w (fun x hx=>hd x (List.mem_cons_of_mem _ hx)) h⟩

/-- One round of the loop l, whose record is rec: yield's call returns r and leaves the abstract heap H'. -/
def mD (P:Program)(l:Nat)(rec:Loop)(H:List HO)(args:List AV)(R:AV→List HO→Prop):Prop:=
 ∀(n:Nat) (g:Gh) (w:World) (vs:Array Value),HOK g w H→Cz g w vs args→
  RoundIn { Fence.wide with round:=none } n P l rec.fn ((rec.params.zip vs).foldl (fun t (p,v)=>t.setIfInBounds p v) rec.tmps) rec.assign rec.body w
   fun e w'=>∃v g' r H',e = .returned v∧Rep g' w' v r∧HOK g' w' H'∧Ext g w g' w'∧R r H'

theorem wideN:({ Fence.wide with round:=none }:Fence)=Fence.wide:=rfl

theorem Mi {α:Type}{x:α}:∀{l:List α},l.getLast? = some x→l.dropLast ++ [x]=l
  | [],h=>by simp at h
  | [a],h=>by simp at h;subst h;rfl
  | a::b::l,h=>by
    rw [List.getLast?_cons_cons] at h
    rw [List.dropLast_cons_cons,List.cons_append,Mi h]
/-- A region that ends in a call of yield. -/
theorem AW.regionY {P:Program}{Q:Exit→St→Prop}{s:St}{id:Nat}{ops:Array Oper}{d:Nat}{cal:Operand}{args:Array Operand}{ats:Array TypeId}{ty:TypeId}{pos:String}{aft:Array Edge}
  (hops:ops.toList.getLast? = some ⟨some d,.call ⟨.value cal,args,ats⟩,ty,pos,aft,none⟩) (hnd:dI ops.toList.dropLast=true)
  (h:AOL P ops (fun s'=>∃l rec R,(∃i:Nat,s'.H[i]? = some (HO.obj l (Obj.loop rec)))∧Hb s'.sl cal = .val (.func (.yield l) #[] #[])∧args.size=rec.params.size∧Od (some d) s'.n=true∧
   mD P l rec s'.H (args.toList.map (Hb s'.sl)) R∧∀x H',R x H'→Q .normal ⟨Fs (some d) x s'.sl,H',s'.n⟩) ops.toList.dropLast s):AW P (.region id ops false) Q s:=by
 intro Q' g a w hG hQ
 have hops':=Mi hops
 generalize ops.toList.dropLast=pre at hops' hnd h
 refine (wpIn_wide (n:=1)).1 ?_
 rw [←wideN]
 refine wpIn_region_list ?_
 rw [←hops']
 refine Is pre _ a w (Vc hnd) ?_
 refine h.run _ g a w hG ?_
 rintro g' s' a' w' hG' hx ⟨l,rec,R,⟨i,hi⟩,hcal,hlen,hd,hr,hk⟩
 show wpListIn _ 1 P ops Q' [_] a' w'
 unfold wpListIn
 rw [if_pos (Ez rfl)]
 refine ⟨fun _ _=>trivial,?_⟩
 have hobj:(HO.obj l (.loop rec)).ok g' w':=hG'.heap.ok _ (List.mem_of_getElem? hi)
 have hv:a'.eval cal = .func (.yield l) #[] #[]:=(hcal▸hG'.eval cal:Rep g' w' _ _).inv_val
 have hargs:Cz g' w' (args.map a'.eval) (args.toList.map (Hb s'.sl)):=S9 (ρ:=Hb s'.sl) (a:=a') (g:=g') (w:=w') (args:=args) (fun y _=>hG'.eval y) rfl
 have hrun:(execOp a'.eval ⟨some d,.call ⟨.value cal,args,ats⟩,ty,pos,aft,none⟩).run P w' = .ok (.round l rec.fn ((rec.params.zip (args.map a'.eval)).foldl (fun t (p,v)=>t.setIfInBounds p v) rec.tmps) rec.assign rec.body) w':=by
  have hy:=run_yield (P:=P) (args:=args.map a'.eval) hobj.2 (by simpa using hlen)
  simp only [execOp,resolve,Sem.run_bind,hv,Deferred.ofValue,Sem.run_pure,Result.andThen_ok,invoke]
  simpa using hy
 rw [Oper.semAt_eq _ _ _ (fun c e=>by cases e),hrun]
 refine ⟨fun e=>(by cases e),(hr _ g' w' _ hG'.heap hargs).mono ?_⟩
 rintro e w'' ⟨v,g'',r,H',rfl,k1,k2,k3,k4⟩
 exact hQ _ g'' _ _ w'' (hG'.put k3 hd k1 k2) (hx.trans k3) (hk r H' k4)

/-! ### A round's body -/
def AWr (l:Nat)(P:Program)(c:Code)(Q:Exit→St→Prop)(s:St):Prop:=
 ∀(n:Nat) (Q':Exit→Act→World→Prop) (g:Gh) (a:Act) (w:World),Gm g s a w→(∀e g' s' a' w',Gm g' s' a' w'→Ext g w g' w'→Q e s'→Q' e a' w')→c.wpIn { Fence.wide with round:=some l } n P Q' a w

theorem AWr.region {l:Nat}{P:Program}{Q:Exit→St→Prop}{s:St}{id:Nat}{ops:Array Oper}(hnd:dI ops.toList=true)(h:AOL P ops (Q .normal) ops.toList s):AWr l P (.region id ops false) Q s:=by
 intro n Q' g a w hG hQ
 refine wpIn_region_list ?_
 have:=Is (ro:=some l) (n:=n) (Q:=Q') ops.toList [] a w (Vc hnd) (h.run _ g a w hG fun g' s' a' w' h1 h2 h3=>hQ _ g' s' a' w' h1 h2 h3)
 simpa using this

theorem AWr.block {l:Nat}{P:Program}{Q:Exit→St→Prop}{s:St}{id:Nat}{c:Code}(h:AWr l P c (Rt id Q) s):AWr l P (.block id c) Q s:=by
  intro n Q' g a w hG hQ
  refine wpIn_block (h n _ g a w hG fun e g' s' a' w' hG' hx hq=>?_)
  cases e with
  | exit j=>
    simp only [Rt] at hq
    simp only [Exit.inBlock]
    by_cases e:j=id
    · subst e;simp at hq;simp;exact hQ _ g' s' a' w' hG' hx hq
    · simp only [e,if_false]
      have:Nat.beq j id=false:=by
        cases hq':Nat.beq j id with
        | false=>rfl
        | true=>exact absurd (Nat.eq_of_beq_eq_true hq') e
      simp only [this,cond_false] at hq
      exact hQ _ g' s' a' w' hG' hx hq
  | _=>exact hQ _ g' s' a' w' hG' hx hq

theorem Ut {g:Gh}{w:World}{H:List HO}(hH:HOK g w H){i b:Nat}{o:Obj}(o':Obj)(hi:H[i]? = some (.obj b o)) :
  HOK g (w.putObj b o') (H.set i (.obj b o'))∧Ext g w g (w.putObj b o'):=by
 have hob:(HO.obj b o).ok g w:=hH.ok _ (List.mem_of_getElem? hi)
 have hlt:b<w.heap.size:=(Array.getElem?_eq_some_iff.1 hob.2).1
 have hx:Ext g w g (w.putObj b o'):=by
  refine ⟨rfl,rfl,rfl,by simp,fun c hc hg=>⟨hg,World.putObj_heap_other (fun e=>by rw [e,hob.1] at hg;cases hg)⟩,fun c n hc hg=>⟨fun m hm=>by rw [hg] at hm;cases hm;exact Nat.le_refl _,fun x hx=>?_⟩⟩
  have hne:c≠b:=fun e=>by rw [e,hob.1] at hg;cases hg;omega
  unfold World.cell?
  rw [World.putObj_heap_other hne]
 refine ⟨hH.set hx hi (fun c hc=>.inl hc) ⟨hob.1,World.putObj_heap_same hlt⟩ fun c hc hne _=>⟨rfl,World.putObj_heap_other (fun e=>hne (by rw [e];rfl))⟩,hx⟩

theorem Gm.putObj {g:Gh}{s:St}{a:Act}{w:World}(hG:Gm g s a w){i b:Nat}{o:Obj}(o':Obj)(hi:s.H[i]? = some (.obj b o)) :
  Gm g ⟨s.sl,s.H.set i (.obj b o'),s.n⟩ a (w.putObj b o')∧Ext g w g (w.putObj b o'):=by
 obtain ⟨h1,h2⟩:=Ut hG.heap o' hi
 exact ⟨⟨hG.size,hG.defers,fun j=>(hG.sl j).mono h2,h1⟩,h2⟩

/-- What a round of a loop does, by its body's walk. -/
theorem mD.of {P:Program}{l:Nat}{rec:Loop}{H:List HO}{args:List AV}{R:AV→List HO→Prop}{sl:List (Nat×AV)}{n0:Nat}(hst:rec.state = .ready)(hpe:rec.pending=none)
  (hsz:rec.tmps.size=n0) (hsl:∀g w vs,Cz g w vs args→∀j,Rep g w (((rec.params.zip vs).foldl (fun t (p,v)=>t.setIfInBounds p v) rec.tmps).getD j undef) (get sl j))
  (h:AWr l P rec.assign (fun e s1=>e = .normal∧∃i:Nat,s1.H[i]? = some (HO.obj l (Obj.loop rec))∧AWr l P rec.body (fun e s2=>e = .normal∧∃j:Nat,s2.H[j]? = some (HO.obj l (Obj.loop { rec with state:=.busy }))∧R (.bool true) (s2.H.set j (.obj l (.loop rec)))) ⟨s1.sl,s1.H.set i (.obj l (.loop { rec with state:=.busy })),s1.n⟩) ⟨sl,H,n0⟩):mD P l rec H args R:=by
 intro n g w vs hH hr
 refine roundIn_of_wpIn trivial ?_
 have hfs:∀(L:List (Tmp×Value)) (t:Array Value),(L.foldl (fun t (p,v)=>t.setIfInBounds p v) t).size=t.size:=by
  intro L;induction L with
  | nil=>intro t;rfl
  | cons p r ih=>intro t;rw [List.foldl_cons,ih];simp
 have hG:Gm g ⟨sl,H,n0⟩ { tmps:=(rec.params.zip vs).foldl (fun t (p,v)=>t.setIfInBounds p v) rec.tmps,defers:=[] } w:=
  ⟨by rw [←Array.foldl_toList];exact (hfs _ _).trans hsz,rfl,fun j=>hsl g w vs hr j,hH⟩
 refine h n _ g _ w hG ?_
 rintro e g1 s1 a1 w1 hG1 hx1 ⟨rfl,i,hi,hb⟩
 have hob:(HO.obj l (.loop rec)).ok g1 w1:=hG1.heap.ok _ (List.mem_of_getElem? hi)
 refine ⟨_,run_beginRound hob.2 hst,?_⟩
 obtain ⟨hG2,hx2⟩:=hG1.putObj (.loop { rec with state:=.busy }) hi
 refine hb n _ g1 a1 _ hG2 ?_
 rintro e g3 s3 a3 w3 hG3 hx3 ⟨rfl,j,hj,hR⟩
 have hob3:(HO.obj l (.loop { rec with state:=.busy })).ok g3 w3:=hG3.heap.ok _ (List.mem_of_getElem? hj)
 obtain ⟨hG4,hx4⟩:=hG3.putObj (.loop rec) hj
 refine ⟨_,_,run_endRound none hob3.2,_,g3,.bool true,_,rfl,.bool _,?_,?_,hR⟩
 ·
  have:({ ({ rec with state:=.busy }:Loop) with state:=if (none:Option Code).isNone then .ready else .done,pending:=none }:Loop)=rec:=by
   cases rec;simp only at hst hpe;subst hst;subst hpe;rfl
  rw [this];exact hG4.heap
 ·
  have:({ ({ rec with state:=.busy }:Loop) with state:=if (none:Option Code).isNone then .ready else .done,pending:=none }:Loop)=rec:=by
   cases rec;simp only at hst hpe;subst hst;subst hpe;rfl
  rw [this];exact ((hx1.trans hx2).trans hx3).trans hx4

/-! ### A function that holds such a statement -/
def AWX (P:Program)(c:Code)(Q:Exit→St→Prop)(X:Gh→World→Exit→Act→World→Prop)(s:St):Prop:=
 ∀(Q':Exit→Act→World→Prop) (g:Gh) (a:Act) (w:World),Gm g s a w→(∀e g' s' a' w',Gm g' s' a' w'→Ext g w g' w'→Q e s'→Q' e a' w')→(∀e a' w',X g w e a' w'→Q' e a' w')→c.wp P Q' a w

def X5 (D:Nat):Deferred:={ target:=.collected D,args:=#[] }

/-- The way out behind such a statement. -/
def Vx (P:Program)(fn:Func)(R:AV→List HO→Prop)(g:Gh)(w:World)(e:Exit)(a:Act)(w':World):Prop:=
 e = .ret∧∃D,a.defers = [X5 D]∧w'.heap[D]? = some (.deferred (some []))∧∃v g' r H',(results fn a.tmps).run P (w'.putObj D (.deferred none)) = .ok v (w'.putObj D (.deferred none))∧
  Rep g' (w'.putObj D (.deferred none)) v r∧HOK g' (w'.putObj D (.deferred none)) H'∧Ext g w g' (w'.putObj D (.deferred none))∧R r H'

section
variable {P:Program} {fn:Func} {R:AV→List HO→Prop} {Q:Exit→St→Prop} {s:St}
theorem Vx.mono {g g1:Gh}{w w1:World}(h:Ext g w g1 w1){e:Exit}{a:Act}{w':World}(k:Vx P fn R g1 w1 e a w'):Vx P fn R g w e a w':=by
 obtain ⟨he,D,h1,h2,v,g',r,H',h3,h4,h5,h6,h7⟩:=k
 exact ⟨he,D,h1,h2,v,g',r,H',h3,h4,h5,h.trans h6,h7⟩

theorem AWX.seq {x y:Code}(h:AW P x (Kd (AWX P y Q (Vx P fn R)) Q) s):AWX P (.seq x y) Q (Vx P fn R) s:=by
 intro Q' g a w hG hQ hX
 refine wp_seq (h _ g a w hG fun e g' s' a' w' hG' hx hq=>?_)
 cases e with
 | normal=>exact hq Q' g' a' w' hG' (fun e g'' s'' a'' w'' h1 h2 h3=>hQ e g'' s'' a'' w'' h1 (hx.trans h2) h3) (fun e a'' w'' hk=>hX e a'' w'' (hk.mono hx))
 | _=>exact hQ _ g' s' a' w' hG' hx hq

theorem AWX.ghost {c:Code}{s':St}(h:GS s s')(k:AWX P c Q (Vx P fn R) s'):AWX P c Q (Vx P fn R) s:=by
 intro Q' g a w hG hQ hX
 obtain ⟨g',hG',hx⟩:=h g a w hG
 exact k Q' g' a w hG' (fun e g'' s'' a'' w'' h1 h2 h3=>hQ e g'' s'' a'' w'' h1 (hx.trans h2) h3) (fun e a'' w'' hk=>hX e a'' w'' (hk.mono hx))

def AWX2 (P:Program)(y z:Code)(Q:Exit→St→Prop)(X:Gh→World→Exit→Act→World→Prop)(s:St):Prop:=
 ∀(Q':Exit→Act→World→Prop) (g:Gh) (a:Act) (w:World),Gm g s a w→(∀e g' s' a' w',Gm g' s' a' w'→Ext g w g' w'→Q e s'→Q' e a' w')→(∀e a' w',X g w e a' w'→Q' e a' w')→y.wp P (Exit.then (z.wp P Q') Q') a w

theorem AWX.assoc {x y z:Code}(h:AW P x (Kd (AWX2 P y z Q (Vx P fn R)) Q) s):AWX P (.seq (.seq x y) z) Q (Vx P fn R) s:=by
 intro Q' g a w hG hQ hX
 refine wp_seq (wp_seq (h _ g a w hG fun e g' s' a' w' hG' hx hq=>?_))
 cases e with
 | normal=>exact hq Q' g' a' w' hG' (fun e g'' s'' a'' w'' h1 h2 h3=>hQ e g'' s'' a'' w'' h1 (hx.trans h2) h3) (fun e a'' w'' hk=>hX e a'' w'' (hk.mono hx))
 | _=>exact hQ _ g' s' a' w' hG' hx hq

theorem AWX.cut {x y:Code}{ι:Type}(S:ι→St)(Rr:ι→Prop)(h:AW P x (Kd (fun s'=>∃i,Rr i∧GS s' (S i)) Q) s)(k:∀i,Rr i→AWX P y Q (Vx P fn R) (S i)):AWX P (.seq x y) Q (Vx P fn R) s:=
 AWX.seq (h.mono fun e s' hq=>by
  cases e with
  | normal=>obtain ⟨i,hr,hg⟩:=hq;exact AWX.ghost hg (k i hr)
  | _=>exact hq)

theorem Dx.bodyX {T:List (Nat×TD)}(hT:Hr P T){f:FuncId}{c:Code}{args:List AV}{H:List HO}(hf:P.funcs[f]? = some fn)(hb:fn.body=some c){n:Nat}(hn:fn.ntmps=n)(hle:Nat.ble args.length n=true)
    (h:AWX P c (fun e s=>(e = .normal∨e = .ret)∧∃xs,ResL P T s fn.results.toList xs∧∃H',H'.Sublist s.H∧R (Ad xs) H') (Vx P fn R) ⟨In 0 args,H,n⟩):Dx P f H args R:=by
  intro g w vs hH hr
  have hle':=Nat.le_of_ble_eq_true hle
  refine (callsIn_wide (n:=1)).1 (callsIn_of_wp_marks hf hb trivial ?_)
  refine wpIn_wide.2 ?_
  refine h _ g _ w ⟨?_,rfl,?_,hH⟩ ?_ ?_
  · simp only [Array.size_append,Array.size_replicate,hn,hr.1];omega
  · intro i
    show Rep g w _ (get (In 0 args) i)
    rw [Sd]
    simp only [Nat.zero_le,if_true,Nat.sub_zero]
    cases hi:args[i]? with
    | none=>exact .junk _
    | some x=>
      have hlt:i<vs.size:=by rw [hr.1];exact (List.getElem?_eq_some_iff.1 hi).1
      have:=hr.2 i x hi
      simp only [Array.getD_eq_getD_getElem?,Array.getElem?_append,hlt,if_true] at this ⊢
      exact this
  · rintro e g' s' a' w' hG' hx ⟨he,xs,hr',H',hs,hq⟩
    obtain ⟨v,h1,h2⟩:=O7 hT hr' hG'
    have key:LeavesInM Fence.wide 1 P fn a'.tmps (fun e w'=>∃v g' r H',e = .returned v∧Rep g' w' v r∧HOK g' w' H'∧Ext g w g' w'∧R r H') a'.defers .returning w':=by
      rw [hG'.defers]
      exact ⟨v,h1,v,g',_,H',rfl,h2,hG'.heap.sub hs,hx,hq⟩
    rcases he with rfl | rfl <;> exact key
  · rintro e a' w' ⟨rfl,D,hD,hk,v,g',r,H',h1,h2,h3,h4,h5⟩
    show LeavesInM Fence.wide 1 P fn a'.tmps _ a'.defers .returning w'
    rw [hD]
    exact ⟨by simp,.inl ⟨D,_,rfl,run_takeDeferred hk,v,h1,v,g',r,H',rfl,h2,h3,h4,h5⟩⟩
end

/-! ### The code behind the statement -/
def Act.more (a:Act)(ds:List Deferred):Act:={ a with defers:=a.defers++ds }
theorem Ms (a:Act)(ds:List Deferred)(d:Option Nat)(v:Value):(Act.more a ds).put d v=Act.more (a.put d v) ds:=by cases d <;> rfl
theorem Z1 (a:Act)(ds:List Deferred):(Act.more a ds).eval=a.eval:=by funext y;cases y <;> rfl

def uF (ds:List Deferred)(Q:Exit→Act→World→Prop)(e:Exit)(a:Act)(w:World):Prop:=∃a0,a=Act.more a0 ds∧Q e a0 w

theorem sN {P:Program}{ops:Array Oper}{Q:Exit→Act→World→Prop}{ds:List Deferred}{i:Nat}{K K':Act→World→Prop}(hK:∀a w,K a w→K' (Act.more a ds) w){a:Act}{w:World}
    (h:wpOp P ops Q i K a w):wpOp P ops (uF ds Q) i K' (Act.more a ds) w:=by
  have hL:LetsOut Q→LetsOut (uF ds Q):=fun ⟨a,w,h⟩=>⟨_,w,a,rfl,h⟩
  unfold wpOp at h ⊢
  cases ho:ops[i]? with
  | none=>rw [ho] at h;exact hK _ _ h
  | some o=>
    rw [ho] at h
    simp only at h ⊢
    have ht:yielded ops (Act.more a ds).tmps=yielded ops a.tmps:=rfl
    rw [ht]
    by_cases hw:Region.wanted o (yielded ops a.tmps)=true
    · rw [if_pos hw] at h ⊢
      rcases h with h | ⟨h,h'⟩
      · left
        unfold Oper.wp at h ⊢
        rw [Z1]
        generalize (execOp a.eval o).run P w=r at h ⊢
        cases r with
        | ok x w'=>
          cases x with
          | value v=>show K' _ w';rw [Ms];exact hK _ _ h
          | skip=>show K' _ w';rw [Ms];exact hK _ _ h
          | defer d=>
            have:=hK _ _ h
            rw [←Ms] at this
            exact this
          | enter f args=>
            have h':Calls P f args w' _:=h
            show Calls P f args w' _
            refine h'.mono ?_
            intro e w'' hr
            cases e with
            | returned v=>show K' _ w'';rw [Ms];exact hK _ _ hr
            | panicked c=>exact ⟨a,rfl,hr⟩
            | outgrown=>exact hL hr
          | row row args=>
            have h':Rows P row args w' _:=h
            show Rows P row args w' _
            exact h'.mono fun v w'' hr=>by rw [Ms];exact hK _ _ hr
          | _=>exact h.elim
        | halt e w'=>
          cases e with
          | panic v=>exact ⟨a,rfl,h⟩
          | _=>exact h.elim
      · right
        refine ⟨?_,hL h'⟩
        unfold Oper.asks at h ⊢
        rw [Z1];exact h
    · rw [if_neg hw] at h ⊢
      rw [Ms];exact hK _ _ h

theorem Xa {P:Program}{md:Region.Mode}{ops:Array Oper}{Q:Exit→Act→World→Prop}{ds:List Deferred}:∀(fuel:Nat) (listed:Array Bool) (a:Act) (w:World),wpAny P md ops Q fuel listed a w→
  wpAny P md ops (uF ds Q) fuel listed (Act.more a ds) w
 | 0,listed,a,w,h=>⟨h.1,a,rfl,h.2⟩
 | fuel+1,listed,a,w,h=>⟨fun hr=>⟨a,rfl,h.1 hr⟩,fun i hi=>sN (fun a w h=>Xa fuel _ a w h) (h.2 i hi)⟩

section
variable {P:Program} {ops:Array Oper}
/-- A drawn region and a return, in an activation with deferred calls. -/
theorem tI (hm:P.follows .mixedOrders=true){id:Nat}{Qs:St→Prop}{s:St}(K:List HO→Prop)(hK:K s.H)(hdd:Fe ops=true)(h:Jx P ops K Qs (Array.replicate ops.size false) s)
  {Q':Exit→Act→World→Prop} {g:Gh} {a:Act} {w:World} (hG:Gm g s a w) (ds:List Deferred) (hQ:∀g' s' a' w',Gm g' s' a' w'→Ext g w g' w'→Qs s'→Q' .ret (Act.more a' ds) w') :
  ((Code.region id ops true).seq .ret).wp P Q' (Act.more a ds) w:=by
 have hx:=Ext.drew g w
 have hG':Gm g s a w.drew:=⟨hG.size,hG.defers,fun i=>(hG.sl i).mono hx,hG.heap.drew⟩
 have key:=CanonI.any hdd h ops.size [] (Array.replicate ops.size false) s.sl g a w.drew (fun e a' w'=>match e with | .normal=>Q' .ret (Act.more a' ds) w' | _=>False)
  ⟨by simp,by simp,by simp,by simp,fun t _=>rfl,by simp,by simp,by simp,by simp,by simp,by simp,by simp,by simp,fun j o hj hl=>by
   have hlt:j<ops.size:=(Array.getElem?_eq_some_iff.1 hj).1
   simp [hlt] at hl⟩ hG' (fun _=>hK) (by
   unfold kL
   have:=List.length_filter_le (fun j=>!(Array.replicate ops.size false).getD j true) (List.range ops.size)
   simpa using this) fun g' s' a' w' k1 k2 k3=>hQ g' s' a' w' k1 (hx.trans k2) k3
 have key2:=Xa (ds:=ds) _ _ _ _ key
 refine wp_seq (wp_mono (wp_region_any hm key2) ?_)
 rintro e a' w' ⟨a0,rfl,hq⟩
 cases e with
 | normal=>exact wp_ret hq
 | _=>exact hq.elim

inductive AWD (P:Program):Code→(St→Prop)→St→Prop where
 | draw (hm:P.follows .mixedOrders=true) {id:Nat} {ops:Array Oper} {Qs:St→Prop} {s:St} (K:List HO→Prop) (hK:K s.H) (hdd:Fe ops=true) (h:Jx P ops K Qs (Array.replicate ops.size false) s):AWD P (.region id ops true) Qs s

def endX (P:Program)(T:List (Nat×TD))(fn:Func)(R:AV→List HO→Prop)(D:Nat)(s:St):Prop:=
 ∃i:Nat,s.H[i]? = some (HO.obj D (Obj.deferred (some [])))∧∃xs,ResL P T ⟨s.sl,s.H.set i (.obj D (.deferred none)),s.n⟩ fn.results.toList xs∧∃H3,H3.Sublist (s.H.set i (.obj D (.deferred none)))∧R (Ad xs) H3

/-- A range over a function, a drawn region and a return. -/
theorem AWX.rangeTail {T:List (Nat×TD)}(hT:Hr P T){fn:Func}{R:AV→List HO→Prop}{Q:Exit→St→Prop}{s:St}{go:Operand}{ps:Array Tmp}{assign body:Code}{bid idr gf:Nat}{lb:List AV}(Z:List HO→Prop)
    (hg:Hb s.sl go = .fn (.func gf) [] lb) (hf:vE P gf=true)
    (hit:∀(rec:Loop) (D l:Nat),rec.state = .ready→rec.pending=none→rec.params=ps→rec.assign=assign→rec.body=body→rec.tmps.size=s.n→(∀t v,get s.sl t = .val v→rec.tmps.getD t undef=v)→
      Dx P gf (.obj l (.loop rec) :: .obj D (.deferred (some []))::s.H) (.val (.func (.yield l) #[] #[])::lb)
        (fun r H'=>∃rec' H2,H' = .obj l (.loop rec') :: .obj D (.deferred (some []))::H2∧rec'.state≠.busy∧rec'.pending=none∧Z H2))
    (ht:∀D H2,Z H2→∃s2,GS ⟨s.sl,.obj D (.deferred (some []))::H2,s.n⟩ s2∧AWD P (.region idr ops true) (endX P T fn R D) s2) :
    AWX2 P (Code.block bid (.rangeFunc go ps assign body)) ((Code.region idr ops true).seq .ret) Q (Vx P fn R) s:=by
  intro Q' g0 a w hG hQ hX
  refine wp_block ((wpIn_wide (n:=1)).1 (wpIn_rangeFunc ?_))
  intro f0 _
  obtain ⟨vs0,us,hv,h1,h2⟩:=(hg▸hG.eval go:Rep g0 w _ _).inv_fn
  have hvs0:vs0 = #[]:=Array.size_eq_zero_iff.1 (by simpa using h1.1)
  subst hvs0
  obtain ⟨rec,hrec⟩:∃rec:Loop,rec=⟨.ready,none,f0,a.tmps,ps,assign,body,w.heap.size⟩:=⟨_,rfl⟩
  obtain ⟨W1,hW1⟩:∃W1,(w.alloc (.deferred (some []))).alloc (.loop rec)=W1:=⟨_,rfl⟩
  have hs1:(w.alloc (.deferred (some []))).heap.size=w.heap.size+1:=World.size_alloc ..
  have hx1:=Ext.alloc g0 w (.deferred (some [])) (some 0)
  have hH1:HOK (g0.put w.heap.size (some 0)) (w.alloc (.deferred (some []))) (.obj w.heap.size (.deferred (some []))::s.H):=
    (hG.heap.alloc (.deferred (some [])) (some 0)).cons ⟨Gh.Aa7 ..,Dz ..⟩ fun b hb x hx e=>by
      cases hb
      exact absurd (HO.ok_lt (hG.heap.ok x hx) e).1 (Nat.lt_irrefl _)
  have hx2:=Ext.alloc (g0.put w.heap.size (some 0)) (w.alloc (.deferred (some []))) (.loop rec) (some 0)
  have hH2:=(hH1.alloc (.loop rec) (some 0)).cons (o:=.obj (w.alloc (.deferred (some []))).heap.size (.loop rec)) ⟨Gh.Aa7 ..,Dz ..⟩ fun b hb x hx e=>by
      cases hb
      exact absurd (HO.ok_lt (hH1.ok x hx) e).1 (Nat.lt_irrefl _)
  rw [hs1] at hH2 hx2
  rw [hW1] at hH2 hx2
  refine ⟨w.heap.size+1,[X5 w.heap.size],W1,{ target:=.fn (.func gf) us,args:=#[.func (.yield (w.heap.size+1)) #[] #[]] },W1,gf,#[.func (.yield (w.heap.size+1)) #[] #[]]++us,W1,?_,?_,fun _ _=>trivial,?_,fun e=>(by cases e),?_⟩
  · rw [←hW1,hrec];exact run_enterLoop_outer _ _ _ _ _
  · simp only [resolve,hv]
    simp [go_sem]
  · simp [invoke,go_sem,R1 hf]
  · have hx12:=hx1.trans hx2
    refine callsIn_wide.2 ((hit rec w.heap.size (w.heap.size+1) (by rw [hrec]) (by rw [hrec]) (by rw [hrec]) (by rw [hrec]) (by rw [hrec]) (by rw [hrec];exact hG.size) (by rw [hrec];exact fun t v hv=>(hv▸hG.sl t:Rep g0 w _ _).inv_val) _ W1 _ hH2 ?_).mono ?_)
    · have h2':=h2.mono hx12
      exact Cz.append (xs:=[.val (.func (.yield (w.heap.size+1)) #[] #[])]) ⟨rfl,fun i x hi=>by
        cases i with
        | zero=>simp at hi;subst hi;exact .val _
        | succ i=>simp at hi⟩ h2'
    · rintro e w3 ⟨v,g3,r,H',rfl,hr3,hH3,hx3,rec',H2,rfl,hnb,hpe,hz⟩
      have hob:(HO.obj (w.heap.size+1) (.loop rec')).ok g3 w3:=hH3.ok _ (List.mem_cons_self ..)
      obtain ⟨hH4,hx4⟩:=Ut hH3 (i:=0) (.loop { rec' with state:=.exhausted }) rfl
      refine ⟨rec'.pending,_,run_endLoop hob.2 hnb,?_⟩
      obtain ⟨st',pe',f',t',p',as',bo',de'⟩:=rec'
      obtain rfl:pe'=none:=hpe
      have ha:({ a with defers:=[X5 w.heap.size]++a.defers }:Act)=Act.more a [X5 w.heap.size]:=by
        unfold Act.more;rw [hG.defers];rfl
      rw [ha]
      have hxa:=(hx12.trans hx3).trans hx4
      have hG4:Gm g3 ⟨s.sl,.obj w.heap.size (.deferred (some []))::H2,s.n⟩ a (w3.putObj (w.heap.size+1) (.loop ⟨.exhausted,none,f',t',p',as',bo',de'⟩)):=⟨hG.size,hG.defers,fun i=>(hG.sl i).mono hxa,hH4.sub (List.sublist_cons_self ..)⟩
      obtain ⟨s2,hgs,hd⟩:=ht w.heap.size H2 hz
      obtain ⟨g4,hG4,hx7⟩:=hgs _ _ _ hG4
      have hxa:=hxa.trans hx7
      cases hd with
      | draw hm K hK hdd hC=>
        refine tI hm K hK hdd hC hG4 [X5 w.heap.size] fun g5 s5 a5 w5 hG5 hx5 hq=>?_
        obtain ⟨i,hi,xs,hr,H3,hsub,hR⟩:=hq
        obtain ⟨hG6,hx6⟩:=hG5.putObj (.deferred none) hi
        have hob5:(HO.obj w.heap.size (.deferred (some []))).ok g5 w5:=hG5.heap.ok _ (List.mem_of_getElem? hi)
        obtain ⟨v6,k1,k2⟩:=O7 hT hr hG6
        refine hX _ _ _ ⟨rfl,w.heap.size,by show a5.defers++_=_;rw [hG5.defers];rfl,hob5.2,v6,g5,_,H3,k1,k2,hG6.heap.sub hsub,(hxa.trans hx5).trans hx6,hR⟩
end
end Go.Aw

namespace Go.Aw
open Go
section
variable {P:Program} {T:List (Nat×TD)} {d:Option Nat} {ty:TypeId} {pos:String} {aft:Array Edge} {gd:Option (Nat×Bool)} {ρ:Operand→AV}
/-- A call that reads one object and leaves every heap as it is. -/
theorem S4 {f:FuncId}{args:Array Operand}{ats:Array TypeId}{l:List AV}{r:AV}{ho:HO}{KK:List HO→Prop}(hf:vE P f=true)(hcal:ρ (.func f) = .fn (.func f) [] [])(ha:args.toList.map ρ=l)
  (hc:∀(H:List HO) (k:Nat),H[k]? = some ho→Dx P f H l fun r' H'=>r'=r∧H'=H) (hK:∀H,KK H→ho∈H):Dl P ⟨d,.call ⟨.value (.func f),args,ats⟩,ty,pos,aft,gd⟩ ρ KK r:=by
 intro g w a H next Q hr hH hk hn
 obtain ⟨k,hk⟩:=List.getElem?_of_mem (hK H hk)
 refine Fr hf hcal ha (hc H k hk) g w a next Q hr hH fun g' w' v x H' ⟨hx,hH'⟩ k1 k2 k3=>?_
 subst hx;subst hH'
 exact hn g' w' v k1 k2 k3
theorem Dx.atFront {f:FuncId}{l:List AV}{r:AV}{ho:HO}(h:∀R,Dx P f (ho::R) l fun r' H'=>r'=r∧H'=ho::R)(H:List HO)(k:Nat)(hk:H[k]? = some ho):Dx P f H l fun r' H'=>r'=r∧H'=H:=
 ((h (H.eraseIdx k)).perm (Ig hk)).post fun r' K ⟨h1,h2⟩=>⟨H,h2▸(Ig hk).symm,h1,rfl⟩
end
end Go.Aw
namespace Go.Proofs.YtkddpedfbicbeaaGreatDoor
open Go Go.Aw

def wd0:Wd:=⟨false,[],tm0⟩
def eN (a b:Wd):Bool:=a.const==b.const&&(a.text==b.text&&eF a.field b.field)
theorem M1 {a b:Wd}:eN a b=true↔a=b:=by
 unfold eN
 cases a;cases b
 simp [K2]
theorem Wa (a b:Wd):eN a b=decide (a=b):=by
 cases h:eN a b with
 | true=>exact (decide_eq_true (M1.1 h)).symm
 | false=>exact (decide_eq_false (fun e=>by rw [M1.2 e] at h;cases h)).symm
def Jt (x:Wd)(k:List AV):Bool:=(He TL [(0,1,true,4),(1,1,true,9),(2,3,true,143)] (Ld x) k).getD false
theorem Nt (x y:Wd):He TL [(0,1,true,4),(1,1,true,9),(2,3,true,143)] (Ld x) (Ld y)=some (eN x y):=by
 show some ((x.const==y.const)&&((x.text==y.text)&&(((x.field.op==y.field.op)&&((x.field.v==y.field.v)&&((x.field.field==y.field.field)&&true)))&&true)))=_
 rw [Bool.and_true,Bool.and_true];rfl
theorem Nh (x y:Wd):Jt x (Ld y)=eN x y:=by unfold Jt;rw [Nt];rfl
def wE (w:Wm):List (List AV×AV):=w.map fun p=>(Ld p.1,.agg (Ld p.2))
theorem wE_eq (x:Wd)(w:Wm):∀p∈wE w,He TL [(0,1,true,4),(1,1,true,9),(2,3,true,143)] (Ld x) p.1=some (Jt x p.1):=by
 intro p hp
 obtain ⟨q,_,rfl⟩:=List.mem_map.1 hp
 show He TL _ (Ld x) (Ld q.1)=some (Jt x (Ld q.1))
 rw [Nt,Nh]
theorem cJ (x:Wd):∀w:Wm,Hl (Jt x) (wE w)=(Gb w x).map fun y=>.agg (Ld y)
  | []=>rfl
  | q::r=>by
    have ih:=cJ x r
    unfold wE Gb at ih ⊢
    rw [List.map_cons,Hl,Nh,Wa,ih,List.find?_cons]
    by_cases h:q.1=x
    · rw [decide_eq_true h.symm,decide_eq_true h];rfl
    · rw [decide_eq_false (fun e=>h e.symm),decide_eq_false h];rfl
theorem look_w (x:Wd)(w:Wm):(Hl (Jt x) (wE w)).getD (.agg [.bool false,.str [],.int .i64 0,.int .i64 0,.int .i64 0]) = .agg (Ld ((Gb w x).getD wd0)):=by
 rw [cJ]
 cases Gb w x <;> rfl
theorem has_w (x:Wd)(w:Wm):(Hl (Jt x) (wE w)).isSome=(Gb w x).isSome:=by rw [cJ];cases Gb w x <;> rfl
theorem new_w {x:Wd}{w:Wm}(h:Gb w x=none):Hl (Jt x) (wE w)=none:=by rw [cJ,h];rfl
theorem wE_snoc (w:Wm)(p:Wd×Wd):wE (w ++ [p])=wE w ++ [(Ld p.1,.agg (Ld p.2))]:=List.map_append ..

/-- the value of an entry is no key of an entry that is not behind it -/
def Rv (w:Wm):Prop:=∀(i j:Nat) (p q:Wd×Wd),w[i]? = some p→w[j]? = some q→j≤i→q.1≠p.2
def qC (w:Wm)(n:Nat)(x:Wd):Prop:=∀(j:Nat) (q:Wd×Wd),w[j]? = some q→q.1=x→w.length≤j+n
theorem aR {w:Wm}{x y:Wd}(h:Gb w x=some y):∃(i:Nat) (p:Wd×Wd),w[i]? = some p∧p.1=x∧p.2=y:=by
  unfold Gb at h
  cases hf:w.find? fun p=>decide (p.1=x) with
  | none=>rw [hf] at h;cases h
  | some p=>
    rw [hf] at h
    have h1:=List.find?_some hf
    obtain ⟨i,hi⟩:=List.getElem?_of_mem (List.mem_of_find?_eq_some hf)
    exact ⟨i,p,hi,by simpa using h1,by simpa using h⟩
theorem qX {w:Wm}{x:Wd}(h:Gb w x=none):∀p∈w,p.1≠x:=by
 intro p hp e
 unfold Gb at h
 rw [Option.map_eq_none_iff,List.find?_eq_none] at h
 exact h p hp (by simpa using e)
theorem Ww {w:Wm}{x:Wd}(h:∀p∈w,p.1≠x):Gb w x=none:=by
 unfold Gb
 rw [Option.map_eq_none_iff,List.find?_eq_none]
 intro p hp
 simpa using h p hp
theorem Rm (w:Wm)(x:Wd):qC w w.length x:=fun j q _ _=>by omega
theorem Ti {w:Wm}(hw:Rv w){n:Nat}{x y:Wd}(hi:qC w n x)(h:Gb w x=some y):1≤n∧qC w (n-1) y:=by
 obtain ⟨i,p,h1,h2,h3⟩:=aR h
 have h4:=hi i p h1 h2
 have h5:=(List.getElem?_eq_some_iff.1 h1).1
 refine ⟨by omega,fun j q hj hq=>?_⟩
 have:¬j≤i:=fun hle=>hw i j p q h1 hj hle (by rw [hq,h3])
 omega
theorem V4 {w:Wm}{n:Nat}{x:Wd}(h:Gb w x=none):Qk w n x=x:=by
 cases n with
 | zero=>rfl
 | succ n=>rw [Qk,h]
theorem bU {w:Wm}{n:Nat}{x y:Wd}(hn:1≤n)(h:Gb w x=some y):Qk w n x=Qk w (n-1) y:=by
 obtain ⟨m,rfl⟩:∃m,n=m+1:=⟨n-1,by omega⟩
 rw [Qk,h];rfl
theorem fD {α:Type}{o:Option α}(h:(!o.isSome)=true):o=none:=by cases o <;> simp_all
theorem is_some {α:Type}{o:Option α}{d:α}(h:(!o.isSome)=false):o=some (o.getD d):=by cases o <;> simp_all
theorem Xg {w:Wm}(hw:Rv w):∀(n:Nat) (x:Wd),qC w n x→Gb w (Qk w n x)=none
  | 0,x,h=>Ww fun p hp e=>by
    obtain ⟨j,hj⟩:=List.getElem?_of_mem hp
    have:=h j p hj e
    have:=(List.getElem?_eq_some_iff.1 hj).1
    omega
  | n+1,x,h=>by
    cases hq:Gb w x with
    | none=>rw [V4 hq];exact hq
    | some y=>
      obtain ⟨h1,h2⟩:=Ti hw h hq
      rw [bU h1 hq]
      exact Xg hw n y h2
theorem I5 {w:Wm}(hw:Rv w)(x:Wd):Gb w (Cf w x)=none:=Xg hw _ _ (Rm w x)
theorem V9:Rv []:=fun i j p q h=>by simp at h
theorem Xw {w:Wm}(hw:Rv w){a b:Wd}(hb:Gb w b=none)(hab:a≠b):Rv (w ++ [(a,b)]):=by
 intro i j p q hi hj hle
 rw [List.getElem?_append] at hi hj
 split at hi
 ·
  rename_i h1
  rw [if_pos (by omega)] at hj
  exact hw i j p q hi hj hle
 ·
  rename_i h1
  have h2:(i-w.length)=0:=by
   have:=(List.getElem?_eq_some_iff.1 hi).1
   simp at this;omega
  rw [h2] at hi
  simp at hi;subst hi
  split at hj
  · exact qX hb q (List.mem_of_getElem? hj)
  ·
   rename_i h3
   have h4:(j-w.length)=0:=by
    have:=(List.getElem?_eq_some_iff.1 hj).1
    simp at this;omega
   rw [h4] at hj
   simp at hj;subst hj
   exact hab
/-- one equation between representatives -/
def Nz (w:Wm)(a b:Wd):Wm×Bool:=if a=b then (w,true) else if a.const&&b.const then (w,false) else if a.const then (w ++ [(b,a)],true) else (w ++ [(a,b)],true)
theorem Jy (w:Wm)(c:Lit):E9 w c=Nz w (Cf w (Cb (Ao c.cond))) (Cf w (Cb (Bi c.cond))):=rfl
theorem zZ {w:Wm}(hw:Rv w){a b:Wd}(ha:Gb w a=none)(hb:Gb w b=none):Rv (Nz w a b).1:=by
 unfold Nz
 by_cases h:a=b
 · rw [if_pos h];exact hw
 ·
  rw [if_neg h]
  split
  · exact hw
  ·
   split
   · exact Xw hw ha (fun e=>h e.symm)
   · exact Xw hw hb h
theorem Mu {w:Wm}(hw:Rv w)(c:Lit):Rv (E9 w c).1:=by rw [Jy];exact zZ hw (I5 hw _) (I5 hw _)
theorem uR {w:Wm}{a b:Wd}(h:eN a b=true):Nz w a b=(w,true):=if_pos (M1.1 h)
theorem mM {w:Wm}{a b:Wd}(h:eN a b=false):Nz w a b=if a.const&&b.const then (w,false) else if a.const then (w ++ [(b,a)],true) else (w ++ [(a,b)],true):=if_neg (fun e=>by rw [M1.2 e] at h;cases h)
theorem xO {w:Wm}{a b:Wd}(h:eN a b=false)(h2:(a.const&&b.const)=true):Nz w a b=(w,false):=(mM h).trans (if_pos h2)
theorem eqAB_3 {w:Wm}{a b:Wd}(h:eN a b=false)(h2:(a.const&&b.const)=false)(h3:a.const=true):Nz w a b=(w ++ [(b,a)],true):=((mM h).trans (Ck h2)).trans (if_pos h3)
theorem eqAB_4 {w:Wm}{a b:Wd}(h:eN a b=false)(h2:(a.const&&b.const)=false)(h3:a.const=false):Nz w a b=(w ++ [(a,b)],true):=((mM h).trans (Ck h2)).trans (Ck h3)
theorem dX {e:Ex}(h:(e.op==0)=true):Cb e=⟨true,e.val.text,tm0⟩:=if_pos h
theorem cO {e:Ex}(h:(e.op==0)=false):Cb e=⟨false,[],D3 e⟩:=Ck h
section
variable {T:List Sc} {V:List Va}
theorem aN {s:Bool}{c:Lit}(h:((c.neg != s&&Cr T V c.cond)&&B7 T V c.cond)=true):Ce T V s c=true:=by
 unfold Ce;rw [Bool.and_assoc] at h;exact h
theorem tA {s:Bool}{c:Lit}(h:((c.neg != s&&Cr T V c.cond)&&B7 T V c.cond)=false):Ce T V s c=false:=by
 unfold Ce;rw [Bool.and_assoc] at h;exact h
theorem Kc {s:Bool}{c:Lit}(h:((c.neg != s&&Cr T V c.cond)&&B7 T V c.cond)=true):Cr T V c.cond=true:=by
 rw [Bool.and_eq_true,Bool.and_eq_true] at h;exact h.1.2
theorem Mf {e:Ex}(h:Cr T V e=true):Cv e=true:=by
 unfold Cr at h
 rw [Bool.and_eq_true] at h
 unfold Cv
 rw [h.1,Bool.or_true]
theorem g1' {b:Bool}(h:Ip [(b,true)]):b=true:=h (b,true) (List.mem_cons_self ..)
theorem g1n {b:Bool}(h:¬Ip [(b,true)]):b=false:=by
 cases b with
 | false=>rfl
 | true=>exact absurd (fun p hp=>by rw [List.mem_singleton.1 hp]) h
def Uv (T:List Sc)(V:List Va)(w:Wm)(c:Lit):Wm:=if Ce T V true c then (E9 w c).1 else w
theorem Md {w:Wm}{c:Lit}{r:List Lit}(h:Ce T V true c=false):Jb T V (c::r) w=Jb T V r w:=by rw [Jb,if_pos (by rw [h];rfl)]
theorem Mp {w:Wm}{c:Lit}{r:List Lit}(h:Ce T V true c=true)(h2:(E9 w c).2=false):Jb T V (c::r) w=((E9 w c).1,false):=by
 rw [Jb,if_neg (by rw [h];decide),if_pos (by rw [h2];rfl)]
theorem Mk {w:Wm}{c:Lit}{r:List Lit}(h:Ce T V true c=true)(h2:(E9 w c).2=true):Jb T V (c::r) w=Jb T V r (E9 w c).1:=by
 rw [Jb,if_neg (by rw [h];decide),if_neg (by rw [h2];decide)]
theorem pH {w:Wm}{c:Lit}{r:List Lit}(h:(Ce T V true c && !(E9 w c).2)=false):Jb T V (c::r) w=Jb T V r (Uv T V w c):=by
  unfold Uv
  cases h1:Ce T V true c with
  | false=>rw [Md h1,if_neg (by decide)]
  | true=>
    rw [h1] at h
    rw [Mk h1 (by simpa using h),if_pos rfl]
theorem bD {w:Wm}{c:Lit}(h:Ce T V true c=true):(E9 w c).1=Uv T V w c:=(if_pos h).symm
theorem yI {w:Wm}{c:Lit}(h:Ce T V true c=false):Uv T V w c=w:=if_neg (by rw [h];decide)
theorem xJ {w:Wm}{c:Lit}{r:List Lit}(h:((((c.neg != true)&&Cr T V c.cond)&&B7 T V c.cond) && !(Nz w (Cf w (Cb (Ao c.cond))) (Cf w (Cb (Bi c.cond)))).2)=false):Jb T V (c::r) w=Jb T V r (Uv T V w c):=
 pH (by unfold Ce;rw [Jy,←Bool.and_assoc];exact h)
theorem iB {w:Wm}(hw:Rv w)(c:Lit):Rv (Uv T V w c):=by
 unfold Uv;split
 · exact Mu hw c
 · exact hw
theorem cL:∀(l:List Lit) (w:Wm),Rv w→Rv (Jb T V l w).1
  | [],w,h=>h
  | c::r,w,h=>by
    cases h1:(Ce T V true c && !(E9 w c).2) with
    | false=>rw [pH h1];exact cL r _ (iB h c)
    | true=>
      rw [Bool.and_eq_true,Bool.not_eq_true'] at h1
      rw [Mp h1.1 h1.2];exact Mu h c
theorem tK {w:Wm}{c:Lit}{r:List Lit}(h:(Ce T V false c && !(!(eN (Cf w (Cb (Ao c.cond))) (Cf w (Cb (Bi c.cond))))))=false):N6 T V w (c::r)=N6 T V w r:=by
  rw [N6]
  cases h1:Ce T V false c with
  | false=>rfl
  | true=>
    rw [h1,Bool.true_and,Bool.not_not] at h
    rw [if_neg (by decide),if_neg (fun e=>by rw [M1.2 e] at h;cases h)]
theorem rA {w:Wm}{c:Lit}{r:List Lit}(h:(Ce T V false c && !(!(eN (Cf w (Cb (Ao c.cond))) (Cf w (Cb (Bi c.cond))))))=true):N6 T V w (c::r)=false:=by
 rw [Bool.and_eq_true,Bool.not_not] at h
 rw [N6,if_neg (by rw [h.1];decide),if_pos (M1.1 h.2)]
theorem mQ {w:Wm}{c:Lit}{r:List Lit}(h:((((c.neg != false)&&Cr T V c.cond)&&B7 T V c.cond) && !(!(eN (Cf w (Cb (Ao c.cond))) (Cf w (Cb (Bi c.cond))))))=false):N6 T V w (c::r)=N6 T V w r:=
 tK (by unfold Ce;rw [←Bool.and_assoc];exact h)
theorem mV {w:Wm}{c:Lit}{r:List Lit}(h:((((c.neg != false)&&Cr T V c.cond)&&B7 T V c.cond) && !(!(eN (Cf w (Cb (Ao c.cond))) (Cf w (Cb (Bi c.cond))))))=true):N6 T V w (c::r)=false:=
 rA (by unfold Ce;rw [←Bool.and_assoc];exact h)
end
end Go.Proofs.YtkddpedfbicbeaaGreatDoor

namespace Go.Proofs
open Go.Shelf
def Tryz.lays129_ren:Go.Shelf.Ren:=⟨fun | 129=>207 | n=>n,fun | 53=>254 | 3=>3 | 4=>4 | 46=>245 | 5=>5 | 9=>9 | n=>n,fun | n=>n⟩
def Tryz.lays317_ren:Go.Shelf.Ren:=⟨fun | 317=>206 | n=>n,fun | 3=>3 | 46=>245 | n=>n,fun | n=>n⟩
def Tryz.lays318_ren:Go.Shelf.Ren:=⟨fun | 318=>208 | n=>n,fun | 3=>3 | 4=>4 | n=>n,fun | n=>n⟩
def Tryz.lays283_ren:Go.Shelf.Ren:=⟨fun | 283=>196 | n=>n,fun | 3=>3 | 9=>9 | 4=>4 | n=>n,fun | n=>n⟩
def Tryz.laysM284_ren:Go.Shelf.Ren:=⟨fun | 284=>197 | 129=>207 | 317=>206 | 318=>208 | n=>n,fun | 53=>254 | 3=>3 | 212=>266 | 0=>0 | 4=>4 | 46=>245 | 5=>5 | 9=>9 | n=>n,fun | 17=>0 | n=>n⟩
def Tryz.lays285_ren:Go.Shelf.Ren:=⟨fun | 285=>198 | n=>n,fun | 37=>260 | 53=>254 | 3=>3 | 4=>4 | 51=>251 | 9=>9 | 5=>5 | 0=>0 | n=>n,fun | n=>n⟩
def Tryz.laysM246_ren:Go.Shelf.Ren:=⟨fun | 246=>190 | 283=>196 | 284=>197 | 285=>198 | 286=>199 | 129=>207 | 317=>206 | 318=>208 | 319=>209 | 320=>210 | 337=>211 | 338=>212 | n=>n,fun | 2=>2 | 3=>3 | 9=>9 | 4=>4 | 171=>257 | 0=>0 | 53=>254 | 37=>260 | 5=>5 | 173=>261 | 212=>266 | 51=>251 | 20=>20 | 213=>267 | 46=>245 | 232=>270 | 233=>271 | n=>n,fun | 17=>0 | 18=>1 | 19=>2 | n=>n⟩
def Tryz.lays246_ren:Go.Shelf.Ren:=⟨fun | 246=>190 | 283=>196 | 284=>197 | 285=>198 | 286=>199 | 129=>207 | 317=>206 | 318=>208 | 319=>209 | 320=>210 | 337=>211 | 338=>212 | n=>n,fun | 2=>2 | 3=>3 | 9=>9 | 4=>4 | 171=>257 | 0=>0 | 53=>254 | 37=>260 | 5=>5 | 173=>261 | 212=>266 | 51=>251 | 20=>20 | 213=>267 | 46=>245 | 232=>270 | 233=>271 | n=>n,fun | 17=>0 | 18=>1 | 19=>2 | n=>n⟩
def Tryz.laysM243_ren:Go.Shelf.Ren:=⟨fun | 243=>178 | 246=>190 | 283=>196 | 284=>197 | 285=>198 | 286=>199 | 129=>207 | 317=>206 | 318=>208 | 319=>209 | 320=>210 | 337=>211 | 338=>212 | n=>n,fun | 3=>3 | 9=>9 | 2=>2 | 4=>4 | 171=>257 | 0=>0 | 53=>254 | 37=>260 | 5=>5 | 173=>261 | 212=>266 | 51=>251 | 20=>20 | 213=>267 | 46=>245 | 232=>270 | 233=>271 | n=>n,fun | 17=>0 | 18=>1 | 19=>2 | n=>n⟩
def Tryz.lays243_ren:Go.Shelf.Ren:=⟨fun | 243=>178 | 246=>190 | 283=>196 | 284=>197 | 285=>198 | 286=>199 | 129=>207 | 317=>206 | 318=>208 | 319=>209 | 320=>210 | 337=>211 | 338=>212 | n=>n,fun | 3=>3 | 9=>9 | 2=>2 | 4=>4 | 171=>257 | 0=>0 | 53=>254 | 37=>260 | 5=>5 | 173=>261 | 212=>266 | 51=>251 | 20=>20 | 213=>267 | 46=>245 | 232=>270 | 233=>271 | n=>n,fun | 17=>0 | 18=>1 | 19=>2 | n=>n⟩
def Tryz.laysM171_ren:Go.Shelf.Ren:=⟨fun | 171=>169 | 243=>178 | 246=>190 | 283=>196 | 284=>197 | 285=>198 | 286=>199 | 129=>207 | 317=>206 | 318=>208 | 319=>209 | 320=>210 | 337=>211 | 338=>212 | n=>n,fun | 3=>3 | 9=>9 | 2=>2 | 4=>4 | 171=>257 | 0=>0 | 53=>254 | 37=>260 | 5=>5 | 173=>261 | 212=>266 | 51=>251 | 20=>20 | 213=>267 | 46=>245 | 232=>270 | 233=>271 | n=>n,fun | 17=>0 | 18=>1 | 19=>2 | n=>n⟩
theorem Tryz.laysM171:Go.Proofs.LaysM.n171 Tryz.prog Tryz.laysM171_ren:={
 mixed:=by kernel_rfl
 f129:=Tryz.func207.trans (congrArg some (by kernel_rfl))
 f171:=Tryz.func169.trans (congrArg some (by kernel_rfl))
 f243:=Tryz.func178.trans (congrArg some (by kernel_rfl))
 f246:=Tryz.func190.trans (congrArg some (by kernel_rfl))
 f283:=Tryz.func196.trans (congrArg some (by kernel_rfl))
 f284:=Tryz.func197.trans (congrArg some (by kernel_rfl))
 f285:=Tryz.func198.trans (congrArg some (by kernel_rfl))
 f286:=Tryz.func199.trans (congrArg some (by kernel_rfl))
 f317:=Tryz.func206.trans (congrArg some (by kernel_rfl))
 f318:=Tryz.func208.trans (congrArg some (by kernel_rfl))
 f319:=Tryz.func209.trans (congrArg some (by kernel_rfl))
 f320:=Tryz.func210.trans (congrArg some (by kernel_rfl))
 f337:=Tryz.func211.trans (congrArg some (by kernel_rfl))
 f338:=Tryz.func212.trans (congrArg some (by kernel_rfl))
 t0:=Tryz.underlying0
 a0:=Tryz.isAgg0
 z0:=Tryz.sizeOf0
 v0:=Tryz.zeroValue0
 t2:=Tryz.underlying2
 a2:=Tryz.isAgg2
 z2:=Tryz.sizeOf2
 v2:=Tryz.zeroValue2
 t3:=Tryz.underlying3
 a3:=Tryz.isAgg3
 z3:=Tryz.sizeOf3
 v3:=Tryz.zeroValue3
 t4:=Tryz.underlying4
 a4:=Tryz.isAgg4
 z4:=Tryz.sizeOf4
 v4:=Tryz.zeroValue4
 t5:=Tryz.underlying5
 a5:=Tryz.isAgg5
 z5:=Tryz.sizeOf5
 v5:=Tryz.zeroValue5
 t9:=Tryz.underlying9
 a9:=Tryz.isAgg9
 z9:=Tryz.sizeOf9
 v9:=Tryz.zeroValue9
 t20:=Tryz.underlying20
 a20:=Tryz.isAgg20
 z20:=Tryz.sizeOf20
 v20:=Tryz.zeroValue20
 t37:=Tryz.underlying260
 a37:=Tryz.isAgg260
 z37:=Tryz.sizeOf260
 v37:=Tryz.zeroValue260
 t46:=Tryz.underlying245
 a46:=Tryz.isAgg245
 z46:=Tryz.sizeOf245
 v46:=Tryz.zeroValue245
 t51:=Tryz.underlying251
 a51:=Tryz.isAgg251
 z51:=Tryz.sizeOf251
 v51:=Tryz.zeroValue251
 t53:=Tryz.underlying254
 a53:=Tryz.isAgg254
 z53:=Tryz.sizeOf254
 v53:=Tryz.zeroValue254
 t171:=Tryz.underlying257
 a171:=Tryz.isAgg257
 z171:=Tryz.sizeOf257
 v171:=Tryz.zeroValue257
 t173:=Tryz.underlying261
 a173:=Tryz.isAgg261
 z173:=Tryz.sizeOf261
 v173:=Tryz.zeroValue261
 t212:=Tryz.underlying266
 a212:=Tryz.isAgg266
 z212:=Tryz.sizeOf266
 v212:=Tryz.zeroValue266
 t213:=Tryz.underlying267
 a213:=Tryz.isAgg267
 z213:=Tryz.sizeOf267
 t232:=Tryz.underlying270
 a232:=Tryz.isAgg270
 z232:=Tryz.sizeOf270
 v232:=Tryz.zeroValue270
 t233:=Tryz.underlying271
 a233:=Tryz.isAgg271
 z233:=Tryz.sizeOf271
 v233:=Tryz.zeroValue271
 g17:=by kernel_rfl
 g18:=by kernel_rfl
 g19:=by kernel_rfl
 i0:=by kernel_rfl
 i2:=by kernel_rfl
 i3:=by kernel_rfl
 i4:=by kernel_rfl
 i5:=by kernel_rfl
 i9:=by kernel_rfl
 i20:=by kernel_rfl
 i37:=by kernel_rfl
 i46:=by kernel_rfl
 i51:=by kernel_rfl
 i53:=by kernel_rfl
 i171:=by kernel_rfl
 i173:=by kernel_rfl
 i212:=by kernel_rfl
 i232:=by kernel_rfl
 i233:=by kernel_rfl
 m17:=by kernel_rfl
 m18:=by kernel_rfl
 m19:=by kernel_rfl }
open Go.RowKit Go.Sort Go.Lib in
/-- strconv.Itoa: "Itoa is equivalent to FormatInt(int64(i), 10).": i's DECIMAL NUMERAL ('Lib.itoa': a '-' where i is negative, then the digits), FOR EVERY int. The world behind the call: the world before it, new blocks behind the heap (the library's 'var a [24]byte'), draws. (LAID: no walk: one application.) -/
theorem Tryz.strconv_Itoa (n : Int) (h0 : -9223372036854775808 ≤ n) (h1 : n ≤ 9223372036854775807) (w : World) (htab : Lib.TabIs Tryz.prog w "internal/strconv.uint64pow10" .u64 Lib.pow10Tab) :
 Calls Tryz.prog 169 #[.int .i64 n] w fun e w'=>e = .returned (.string ⟨(Lib.itoa n).toArray⟩)∧∃k os,w'=grow (w.drewN k) os:=Any.strconv_Itoa Tryz.laysM171 n h0 h1 w htab
def Tryz.lays171_ren:Go.Shelf.Ren:=⟨fun | 171=>169 | 243=>178 | 246=>190 | 283=>196 | 284=>197 | 285=>198 | 286=>199 | 129=>207 | 317=>206 | 318=>208 | 319=>209 | 320=>210 | 337=>211 | 338=>212 | n=>n,fun | 3=>3 | 9=>9 | 2=>2 | 4=>4 | 171=>257 | 0=>0 | 53=>254 | 37=>260 | 5=>5 | 173=>261 | 212=>266 | 51=>251 | 20=>20 | 213=>267 | 46=>245 | 232=>270 | 233=>271 | n=>n,fun | 17=>0 | 18=>1 | 19=>2 | n=>n⟩
def Tryz.lays264_ren:Go.Shelf.Ren:=⟨fun | 264=>195 | n=>n,fun | 53=>254 | 46=>245 | n=>n,fun | n=>n⟩
def Tryz.lays212_ren:Go.Shelf.Ren:=⟨fun | 212=>188 | 263=>194 | 264=>195 | n=>n,fun | 46=>245 | 51=>251 | 146=>252 | 53=>254 | 148=>255 | n=>n,fun | n=>n⟩
theorem Tryz.lays212:Go.Proofs.Lays.n212 Tryz.prog Tryz.lays212_ren:={
 mixed:=by kernel_rfl
 f212:=Tryz.func188.trans (congrArg some (by kernel_rfl))
 f263:=Tryz.func194.trans (congrArg some (by kernel_rfl))
 f264:=Tryz.func195.trans (congrArg some (by kernel_rfl))
 t46:=Tryz.underlying245
 a46:=Tryz.isAgg245
 z46:=Tryz.sizeOf245
 v46:=Tryz.zeroValue245
 t51:=Tryz.underlying251
 a51:=Tryz.isAgg251
 z51:=Tryz.sizeOf251
 v51:=Tryz.zeroValue251
 t53:=Tryz.underlying254
 a53:=Tryz.isAgg254
 z53:=Tryz.sizeOf254
 v53:=Tryz.zeroValue254
 t146:=Tryz.underlying252
 a146:=Tryz.isAgg252
 z146:=Tryz.sizeOf252
 v146:=Tryz.zeroValue252
 t148:=Tryz.underlying255
 a148:=Tryz.isAgg255
 z148:=Tryz.sizeOf255
 v148:=Tryz.zeroValue255 }
open Go.RowKit Go.Lib in
/-- math/bits.Mul: "Mul returns the full-width product of x and y": on a machine of 64 bits: Mul64's. (LAID: no walk: one application.) -/
theorem Tryz.bits_Mul (x y:Nat)(hx:x<18446744073709551616)(hy:y<18446744073709551616)(w:World) :
 Calls Tryz.prog 188 #[.int .u64 x,.int .u64 y] w fun e w'=>e = .returned (.tuple #[.int .u64 ((x*y / 18446744073709551616:Nat):Int),.int .u64 ((x*y % 18446744073709551616:Nat):Int)])∧w'=w:=Any.bits_Mul Tryz.lays212 x y hx hy w
end Go.Proofs

namespace Go.Proofs.YtkddpedfbicbeaaGreatDoor
open Go Go.Aw Go.Sort Go.Lib

theorem kY (w:World)(k:Nat)(os:Array Obj):Go.RowKit.Below w.heap.size w (grow (w.drewN k) os):=
 ⟨rfl,rfl,rfl,by first | (simp [grow];done) | (simp [grow];omega),fun i hi=>by
  show ((w.drewN k).heap++os)[i]? = _
  rw [Array.getElem?_append_left (by show i<w.heap.size;omega)]
  rfl⟩
theorem vD {g : Gh} {w : World} (h : GlobOK g w) : Lib.TabIs Tryz.prog w "internal/strconv.uint64pow10" .u64 Lib.pow10Tab := by
 obtain ⟨_,T,fr,h2⟩:=h.tabs _ (List.mem_singleton.2 rfl)
 have e : Tryz.prog.globalNamed "internal/strconv.uint64pow10" = some 0 := by kernel_rfl
 unfold Lib.TabIs World.var?
 rw [e]
 show (match w.heap[0]? with | some (.cells cs _ _)=>some cs | _=>none)=_
 rw [h2]
 rfl
theorem kItoa (n:Int)(h0 : -9223372036854775808≤n)(h1:n≤9223372036854775807):Ax Tryz.prog 169 [.int .i64 n] (.str (Go.Lib.itoa n)):=
 .of_calls fun g w vs hg ha=>by
  obtain ⟨v,rfl,h2⟩:=ha.inv1
  have e1:=h2.inv_int
  subst e1
  have hl:=Go.Lib.itoa_length_le n h0 h1
  refine ⟨.string ⟨(Go.Lib.itoa n).toArray⟩,fun _ _ _=>kM (by unfold maxLen;omega),(Tryz.strconv_Itoa n h0 h1 w (vD hg)).mono ?_⟩
  rintro e w' ⟨rfl,k,os,rfl⟩
  exact ⟨rfl,kY w k os⟩
theorem kMul (x y:Nat)(hx:x<18446744073709551616)(hy:y<18446744073709551616):Ax Tryz.prog 188 [.int .u64 (x:Int),.int .u64 (y:Int)] (.tuple [.int .u64 ((x*y / 18446744073709551616:Nat):Int),.int .u64 ((x*y % 18446744073709551616:Nat):Int)]):=
 .of_same fun g w vs hg ha=>by
  obtain ⟨u,v,rfl,h1,h2⟩:=ha.inv2
  have e1:=h1.inv_int
  have e2:=h2.inv_int
  subst e1 e2
  exact ⟨_,fun g' w'=>.tuple _ _ rfl (fun i c hc=>by
   match i,hc with
   | 0,hc=>cases hc;exact .int _ _
   | 1,hc=>cases hc;exact .int _ _
   | i+2,hc=>simp at hc),Tryz.bits_Mul x y hx hy w⟩
end Go.Proofs.YtkddpedfbicbeaaGreatDoor

namespace Go.Aw
open Go
section
variable {P:Program} {T:List (Nat×TD)} {d:Option Nat} {ty:TypeId} {pos:String} {aft:Array Edge} {gd:Option (Nat×Bool)} {ρ:Operand→AV} {K:List HO→Prop}
/-- A slice that is no nil is compared with nil. -/
theorem sW {x:Operand}{t yt e z:Nat}{td:TD}{es:List (List AV)}(hT:Hr P T)(hx:ρ x = .sl z es)(hne:es≠[])(ht:Bu T t=some td)(hk:td.kind = .slice e) :
  Dl P ⟨d,.binOp .neq t x (.const (.slice none 0 0)) yt,ty,pos,aft,gd⟩ ρ K (.bool true):=
 .of_run fun g w a hr=>by
  obtain ⟨a0,n,cap,h1,h2,_,_,h5⟩:=(hx▸hr x (by simp [Op.operands]):Rep g w _ _).inv_sl
  have hu:=Eo (hT t td ht) hk
  rcases h5 with h5 | ⟨b,o,rfl,_⟩
  · exact absurd h5 hne
  ·
   refine ⟨.bool true,?_,.bool _⟩
   have e2:a.eval (.const (.slice none 0 0)) = .slice none 0 0:=rfl
   simp only [execOp,h1,e2]
   rw [Sem.run_bind,Sem.run_bind,G6 rfl]
   have:=aZ (n:=9999) hu (some ⟨b,o,none⟩) n cap w
   simp only [Result.andThen_ok,binOp,Op.equal,Op.maxDepth,Sem.run_bind,this,Sem.run_pure]
   rfl
theorem qJ {x:Operand}{t yt e:Nat}{td:TD}(hT:Hr P T)(hx:ρ x = .val (.slice none 0 0))(ht:Bu T t=some td)(hk:td.kind = .slice e) :
  Dl P ⟨d,.binOp .neq t x (.const (.slice none 0 0)) yt,ty,pos,aft,gd⟩ ρ K (.bool false):=
 .of_run fun g w a hr=>by
  have h1:=(hx▸hr x (by simp [Op.operands]):Rep g w _ _).inv_val
  have hu:=Eo (hT t td ht) hk
  refine ⟨.bool false,?_,.bool _⟩
  have e2:a.eval (.const (.slice none 0 0)) = .slice none 0 0:=rfl
  simp only [execOp,h1,e2]
  rw [Sem.run_bind,Sem.run_bind,G6 rfl]
  have:=aZ (n:=9999) hu none 0 0 w
  simp only [Result.andThen_ok,binOp,Op.equal,Op.maxDepth,Sem.run_bind,this,Sem.run_pure]
  rfl
end
end Go.Aw
namespace Go.Proofs.YtkddpedfbicbeaaGreatDoor
open Go Go.Aw

/-! ### lists of numbers in memory -/
def bI (l:List Int):List AV:=l.map (AV.int .i64)
def cI (v:Int):List AV:=[.int .i64 v]
theorem Yg (l:List Int):(bI l).length=l.length:=List.length_map ..
theorem bI_sc (l:List Int):Bh (bI l)=true:=by
 induction l with
 | nil=>rfl
 | cons a r ih=>exact ih
theorem wB (l m:List Int):bI (l++m)=bI l++bI m:=List.map_append ..
theorem pI (l:List Int)(k:Nat):(bI l).take k=bI (l.take k):=(List.map_take ..).symm
theorem bI_drop (l:List Int)(k:Nat):(bI l).drop k=bI (l.drop k):=(List.map_drop ..).symm
theorem cA (n:Nat):(List.replicate n [AV.int .i64 0]).flatten=bI (List.replicate n 0):=by
 induction n with
 | zero=>rfl
 | succ n ih=>rw [List.replicate_succ,List.flatten_cons,ih,List.replicate_succ];rfl
theorem bI_flat (l:List Int):(l.map cI).flatten=bI l:=by
 induction l with
 | nil=>rfl
 | cons a r ih=>rw [List.map_cons,List.flatten_cons,ih];rfl
theorem vT {α:Type}{f:α→List AV}(hf:∀x,(f x).length=1)(l:List α):∀e∈l.map f,e.length=1:=fun e he=>by
 obtain ⟨x,_,rfl⟩:=List.mem_map.1 he
 exact hf x
theorem lE {l:List Int}{k:Int}(h0:0≤k)(h:k<(l.length:Int)):l[k.toNat]? = some (E2 l k):=by
 unfold E2
 have:k.toNat<l.length:=by omega
 rw [List.getElem?_eq_getElem this];rfl
theorem Wt {l:List Int}{k:Int}(h0:0≤k)(h:k<(l.length:Int)):(bI l)[k.toNat]? = some (.int .i64 (E2 l k)):=by
 unfold bI;rw [List.getElem?_map,lE h0 h];rfl
theorem dA:∀{l:List Int} {k:Nat} {v:Int},k<l.length→Fw (bI l) k [AV.int .i64 v]=bI (l.set k v)
  | [],k,v,h=>absurd h (by simp)
  | a::r,0,v,h=>by simp [Fw,bI]
  | a::r,k+1,v,h=>by
    have ih:=dA (l:=r) (k:=k) (v:=v) (by simpa using h)
    show AV.int .i64 a::Fw (bI r) k [AV.int .i64 v]=_
    rw [ih];rfl
theorem dG (n:Nat):0+n*1=n:=by omega
theorem eJ {l:List Int}{k:Nat}(h:k<l.length):Nat.ble (k+1) (bI l).length=true:=Nat.ble_eq_true_of_le (by rw [Yg];omega)

def N2 (n:Nat):List Int:=List.replicate n (-1)
def Ll (n k:Nat):List Int:=List.replicate k (-1)++List.replicate (n-k) 0
theorem Yp {n k:Nat}(h:k≤n):(Ll n k).length=n:=by unfold Ll;simp;omega
theorem sG (n:Nat):Ll n n=N2 n:=by unfold Ll N2;simp
theorem rN {n k m:Nat}(hk:k+m≤n)(hm:m≤k):Fw (bI (Ll n k)) k (((bI (Ll n k)).drop 0).take m)=bI (Ll n (k+m)):=by
 rw [List.drop_zero,pI]
 have h1:(Ll n k).take m=List.replicate m (-1):=by
  unfold Ll
  rw [List.take_append_of_le_length (by rw [List.length_replicate];exact hm),List.take_replicate,Nat.min_eq_left hm]
 have h2:(Ll n k).take k=List.replicate k (-1):=by
  unfold Ll
  rw [List.take_append_of_le_length (by rw [List.length_replicate];omega),List.take_replicate,Nat.min_self]
 have h3:(Ll n k).drop (k+m)=List.replicate (n-(k+m)) 0:=by
  unfold Ll
  rw [List.drop_append,List.length_replicate,List.drop_of_length_le (by rw [List.length_replicate];omega),List.nil_append,List.drop_replicate]
  congr 1;omega
 unfold Fw
 rw [h1,Yg,List.length_replicate,pI,bI_drop,h2,h3,←wB,←wB]
 congr 1
 unfold Ll
 rw [List.replicate_append_replicate]
theorem lG {n:Nat}(hn:0<n):Fw (bI (Ll n 0)) 0 ((([[AV.int .i64 (-1)]]:List (List AV)).flatten).take 1)=bI (Ll n 1):=by
 unfold Ll
 obtain ⟨m,rfl⟩:∃m,n=m+1:=⟨n-1,by omega⟩
 simp [Fw,bI,List.replicate_succ]
theorem kMul1 (n:Nat)(hn:n≤1048576):Ax Tryz.prog 188 [.int .u64 1,.int .u64 (n:Int)] (.tuple [.int .u64 0,.int .u64 (n:Int)]):=by
 have h:=kMul 1 n (by decide) (by omega)
 rw [Nat.one_mul,Nat.div_eq_of_lt (by omega),Nat.mod_eq_of_lt (by omega)] at h
 exact h
theorem u64_in {n:Nat}(h:n≤1048576):IntKind.wrap .u64 (n:Int)=(n:Int):=by
 unfold IntKind.wrap
 simp [IntKind.bits,IntKind.signed]
 omega
theorem i64_in {n:Nat}(h:n≤1048576):IntKind.wrap .i64 (n:Int)=(n:Int):=IntWalk.i64_in _ (by omega)

/-! ### zones -/
def Jp:Int:=140737488355329
structure znOK (n:Nat) (bs:List Bd):Prop where
 n1:1≤n
 n64:n≤64
 len:bs.length≤256
 bd:∀b∈bs,0≤b.x∧b.x<(n:Int)∧0≤b.y∧b.y<(n:Int)
 most:∀b∈bs,-Jp≤b.most∧b.most≤Jp
structure dsOK (n:Nat) (C:Int) (d:Ds):Prop where
 s:d.sums.length=n
 l:d.last.length=n
 r:∀v∈d.sums,-C≤v∧v≤0
theorem dsOK.mono {n:Nat}{C C':Int}{d:Ds}(h:dsOK n C d)(hc:C≤C'):dsOK n C' d:=⟨h.s,h.l,fun v hv=>by have:=h.r v hv;omega⟩
theorem ix_mem {l:List Int}{k:Int}(h0:0≤k)(h:k<(l.length:Int)):E2 l k∈l:=List.mem_of_getElem? (lE h0 h)
theorem dsOK.ix {n:Nat}{C:Int}{d:Ds}(h:dsOK n C d){k:Int}(h0:0≤k)(hk:k<(n:Int)) : -C≤E2 d.sums k∧E2 d.sums k≤0:=h.r _ (ix_mem h0 (by rw [h.s];exact hk))
theorem Pu {i:Nat}{b:Bd}{s:Ds×Int}(h:decide (E2 s.1.sums b.y+b.most<E2 s.1.sums b.x)=true) :
 Oc i b s=(⟨s.1.sums.set b.x.toNat (E2 s.1.sums b.y+b.most),s.1.last.set b.x.toNat (i:Int)⟩,b.x):=if_pos h
theorem Yc {i:Nat}{b:Bd}{s:Ds×Int}(h:decide (E2 s.1.sums b.y+b.most<E2 s.1.sums b.x)=false):Oc i b s=s:=if_neg (by rw [h];decide)
theorem wZ {n:Nat}{C:Int}{i:Nat}{b:Bd}{s:Ds×Int}(hd:dsOK n C s.1)(hb:0≤b.x∧b.x<(n:Int)∧0≤b.y∧b.y<(n:Int))(hm : -Jp≤b.most∧b.most≤Jp):dsOK n (C+Jp) (Oc i b s).1:=by
  have hbig:(0:Int)≤Jp:=by decide
  cases h:decide (E2 s.1.sums b.y+b.most<E2 s.1.sums b.x) with
  | false=>rw [Yc h];exact hd.mono (by omega)
  | true=>
    rw [Pu h]
    have h1:=hd.ix hb.2.2.1 hb.2.2.2
    have h2:=hd.ix hb.1 hb.2.1
    have h3:=of_decide_eq_true h
    refine ⟨by simp only [List.length_set];exact hd.s,by simp only [List.length_set];exact hd.l,fun v hv=>?_⟩
    rcases List.mem_or_eq_of_mem_set hv with hv | rfl
    · have:=hd.r v hv;omega
    · omega
theorem fI {n:Nat}:∀{bs:List Bd} {i:Nat} {s:Ds×Int} {C:Int},(∀b∈bs,0≤b.x∧b.x<(n:Int)∧0≤b.y∧b.y<(n:Int))→(∀b∈bs,-Jp≤b.most∧b.most≤Jp)→dsOK n C s.1→dsOK n (C+(bs.length:Int)*Jp) (F8 i bs s).1
  | [],i,s,C,_,_,hd=>hd.mono (by simp)
  | b::r,i,s,C,hb,hm,hd=>by
    rw [F8]
    refine (fI (fun b hb'=>hb b (List.mem_cons_of_mem _ hb')) (fun b hb'=>hm b (List.mem_cons_of_mem _ hb')) (wZ hd (hb b (List.mem_cons_self ..)) (hm b (List.mem_cons_self ..)))).mono ?_
    rw [List.length_cons];push_cast;rw [Int.add_mul];omega
theorem dE {n:Nat}{bs:List Bd}{d:Ds}{C:Int}(hz:znOK n bs)(hd:dsOK n C d):dsOK n (C+256*Jp) (Js bs d).1:=by
 refine (fI (s:=(d,-1)) hz.bd hz.most hd).mono ?_
 have:=hz.len
 unfold Jp
 omega
theorem Ri {bs:List Bd}{k:Nat}{b:Bd}{s:Ds×Int}(h:bs[k]? = some b):F8 k (bs.drop k) s=F8 (k+1) (bs.drop (k+1)) (Oc k b s):=by rw [Ba h,F8]
theorem Zw {bs:List Bd}{k:Nat}{s:Ds×Int}(h:bs.drop k = []):F8 k (bs.drop k) s=s:=by rw [h,F8]
/-! ### rounds -/
theorem Kk {bs:List Bd}{m:Nat}{s:Ds×Int}(h:decide ((Js bs s.1).2<0)=true):D9 bs (m+1) s=Js bs s.1:=by rw [D9,if_pos h]
theorem Mg {bs:List Bd}{m:Nat}{s:Ds×Int}(h:decide ((Js bs s.1).2<0)=false):D9 bs (m+1) s=D9 bs m (Js bs s.1):=by rw [D9,if_neg (by rw [h];decide)]
def zn (n:Nat)(bs:List Bd):Zn:=⟨(n:Int),bs⟩
theorem My (n:Nat)(bs:List Bd):Em (zn n bs)=D9 bs (n+1) (⟨List.replicate n 0,N2 n⟩,-1):=by unfold Em start zn N2;simp
theorem jI (n:Nat):dsOK n 0 ⟨List.replicate n 0,N2 n⟩:=⟨by simp,by simp [N2],fun v hv=>by rw [(List.mem_replicate.1 hv).2];omega⟩
/-! ### the walk back -/
def Xr (bs:List Bd)(d:Ds)(a:Int):Bool:=decide (0≤a)&&decide (a<(d.last.length:Int))&&decide (0≤E2 d.last a)&&decide (E2 d.last a<(bs.length:Int))
def Lr (bs:List Bd)(d:Ds):Nat→Int→Bool
 | 0,_=>true
 | k+1,a=>Xr bs d a&&Lr bs d k (Jf bs d a)
def Mn (bs:List Bd)(d:Ds)(f:Int):Nat→Int→Bool
 | 0,_=>false
 | k+1,a=>Xr bs d a&&(Jf bs d a==f||Mn bs d f k (Jf bs d a))
def Np (n:Nat)(bs:List Bd):Bool:=
 Lr bs (Em (zn n bs)).1 n (Em (zn n bs)).2&&Mn bs (Em (zn n bs)).1 (Kt bs (Em (zn n bs)).1 n (Em (zn n bs)).2) (n+1) (Kt bs (Em (zn n bs)).1 n (Em (zn n bs)).2)
structure okA (bs:List Bd) (d:Ds) (a:Int) (b:Bd):Prop where
 a0:0≤a
 al:a<(d.last.length:Int)
 l0:0≤E2 d.last a
 at_:bs[(E2 d.last a).toNat]? = some b
 pred:Jf bs d a=b.y
theorem eY {bs:List Bd}{d:Ds}{a:Int}(h:Xr bs d a=true):∃b,okA bs d a b:=by
 unfold Xr at h
 simp only [Bool.and_eq_true,decide_eq_true_eq] at h
 obtain ⟨⟨⟨h1,h2⟩,h3⟩,h4⟩:=h
 have hlt:(E2 d.last a).toNat<bs.length:=by omega
 have hg:=List.getElem?_eq_getElem hlt
 exact ⟨_,h1,h2,h3,hg,by unfold Jf;rw [hg];rfl⟩
theorem zU {bs:List Bd}{d:Ds}{k:Nat}{a:Int}(h:Lr bs d (k+1) a=true):Xr bs d a=true∧Lr bs d k (Jf bs d a)=true:=by
 rw [Lr,Bool.and_eq_true] at h;exact h
theorem kS {bs:List Bd}{d:Ds}{f:Int}{k:Nat}{a:Int}(h:Mn bs d f k a=true):∃m,k=m+1∧Xr bs d a=true∧(Jf bs d a==f||Mn bs d f m (Jf bs d a))=true:=by
 cases k with
 | zero=>cases h
 | succ m=>rw [Mn,Bool.and_eq_true] at h;exact ⟨m,rfl,h⟩
theorem X1 {bs:List Bd}{d:Ds}{k:Nat}{a:Int}:Kt bs d (k+1) a=Kt bs d k (Jf bs d a):=rfl
theorem lQ {bs:List Bd}{k:Nat}{b:Bd}(h:bs[k]? = some b):(bs.map Rw)[k]? = some [.int .i64 b.x,.int .i64 b.y,.int .i64 b.most]:=by rw [List.getElem?_map,h];rfl
/-! ### what is returned -/
theorem Q5 {α:Type}{f:α→Int}:∀{l:List α},Aq f l=0→∀x∈l,f x=0
  | [],_,x,hx=>by cases hx
  | a::r,h,x,hx=>by
    rw [Aq] at h
    split at h
    · rename_i hn;exact absurd h (by simpa using hn)
    · rename_i hn
      rcases List.mem_cons.1 hx with rfl | hx
      · simpa using hn
      · exact Q5 h x hx
theorem cR {n:Int}{bs:List Bd}(h:(I6 ⟨n,bs⟩ != 0)=false):1≤n∧n≤64∧bs.length≤256∧∀b∈bs,0≤b.x∧b.x<n∧0≤b.y∧b.y<n:=by
 have h0:I6 ⟨n,bs⟩=0:=by simpa using h
 unfold I6 at h0
 split at h0
 · cases h0
 rename_i h1
 split at h0
 · cases h0
 rename_i h2
 simp only [Bool.or_eq_true,decide_eq_true_eq] at h1 h2
 refine ⟨by omega,by omega,by omega,fun b hb=>?_⟩
 have h3:=Q5 h0 b hb
 unfold bdE at h3
 split at h3
 · cases h3
 ·
  rename_i h4
  simp only [Bool.or_eq_true,decide_eq_true_eq] at h4
  omega
theorem zI {bs:List Bd}{d:Ds}{f:Int}{k:Nat}{a:Int}(h:Mn bs d f k a=true):Xr bs d a=true:=by
 obtain ⟨m,_,h1,_⟩:=kS h;exact h1
theorem iW {bs:List Bd}{d:Ds}{f:Int}{k:Nat}{a:Int}{b:Bd}(h:Mn bs d f k a=true)(ok:okA bs d a b)(hn:(b.y==f)=false):Mn bs d f (k-1) b.y=true∧2≤k:=by
 obtain ⟨m,rfl,_,h2⟩:=kS h
 rw [ok.pred,hn,Bool.false_or] at h2
 obtain ⟨m',rfl,_,_⟩:=kS h2
 exact ⟨h2,by omega⟩
theorem mE {tmps:Array Value}{b6 n0:Nat}{x:Int}(hsz:tmps.size=n0)(h53:Nat.blt 53 n0=true)(h6:tmps.getD 6 undef = .pointer (some ⟨b6,0,none⟩)):∀g w vs,Cz g w vs [AV.int .i64 x]→∀j,
    Rep g w ((((#[53]:Array Tmp).zip vs).foldl (fun t (p,v)=>t.setIfInBounds p v) tmps).getD j undef) (get [(53,.int .i64 x),(6,.val (.pointer (some ⟨b6,0,none⟩)))] j):=by
  intro g w vs hr j
  have h0:=hr.2 0 _ rfl
  have hs:vs.size=1:=hr.1
  obtain ⟨u, rfl⟩ : ∃ u, vs = #[u] := ⟨vs[0], by apply Array.ext; simp [hs]; intro i h1 h2; have : i = 0 := by omega
                                                 subst this;rfl⟩
  have hu:u = .int .i64 x:=by have:=h0.inv_int;simpa using this
  subst hu
  have hlt:53<tmps.size:=by have:=Nat.le_of_ble_eq_true h53;omega
  rw [←Array.foldl_toList,Array.toList_zip]
  show Rep g w ((tmps.setIfInBounds 53 (.int .i64 x)).getD j undef) _
  rw [G3]
  by_cases e:53=j
  · subst e
    rw [if_pos rfl]
    simp only [Array.getD_eq_getD_getElem?,Array.getElem?_setIfInBounds]
    simp [hlt]
    exact .int _ _
  · rw [if_neg e,G3]
    by_cases e6:6=j
    · subst e6
      rw [if_pos rfl]
      have:(tmps.setIfInBounds 53 (Value.int .i64 x)).getD 6 undef=tmps.getD 6 undef:=by
        simp only [Array.getD_eq_getD_getElem?,Array.getElem?_setIfInBounds];simp
      rw [this,h6]
      exact .val _
    · rw [if_neg e6];exact .junk _
theorem kN {n:Nat}{bs:List Bd}{s:Ds×Int}(h:Np n bs=true)(he:Em (zn n bs)=s):Lr bs s.1 n s.2=true∧Mn bs s.1 (Kt bs s.1 n s.2) (n+1) (Kt bs s.1 n s.2)=true:=by
 subst he
 unfold Np at h
 exact (Bool.and_eq_true ..).mp h
theorem uT {n k:Nat}{bs:List Bd}{s:Ds×Int}(h:Em (zn n bs)=D9 bs (n+1-k) s)(hk:k<n+1)(hs:decide ((Js bs s.1).2<0)=true):Em (zn n bs)=Js bs s.1:=by
 rw [h,show n+1-k=(n-k)+1 by omega,Kk hs]
theorem end_on {n k:Nat}{bs:List Bd}{s:Ds×Int}(h:Em (zn n bs)=D9 bs (n+1-k) s)(hk:k<n+1)(hs:decide ((Js bs s.1).2<0)=false):Em (zn n bs)=D9 bs (n+1-(k+1)) (Js bs s.1):=by
 rw [h,show n+1-k=(n+1-(k+1))+1 by omega,Mg hs]
theorem end_all {n k:Nat}{bs:List Bd}{s:Ds×Int}(h:Em (zn n bs)=D9 bs (n+1-k) s)(hk:n+1≤k):Em (zn n bs)=s:=by
 rw [h,show n+1-k=0 by omega];rfl
theorem qF {bs:List Bd}{d:Ds}{n k:Nat}{a f:Int}{c:Bd}(h:f=Kt bs d (n-k) a)(hk:k<n)(ok:okA bs d a c):f=Kt bs d (n-(k+1)) c.y:=by
 rw [h,show n-k=(n-(k+1))+1 by omega,X1,ok.pred]
theorem tF {bs:List Bd}{d:Ds}{n k:Nat}{a:Int}(h:Lr bs d (n-k) a=true)(hk:k<n):Xr bs d a=true∧Lr bs d (n-(k+1)) (Jf bs d a)=true:=by
 rw [show n-k=(n-(k+1))+1 by omega] at h
 exact zU h
/-! ### values counted from the first -/
def Ym (l:List Int)(k:Nat):List Int:=(l.take k).map (fun v=>v-E2 l 0)++l.drop k
theorem Xs {l:List Int}{k:Nat}(h:k≤l.length):(Ym l k).length=l.length:=by unfold Ym;simp;omega
theorem subL_at {l:List Int}{k:Nat}(h:k<l.length):E2 (Ym l k) (k:Int)=E2 l (k:Int):=by
 unfold E2 Ym
 rw [List.getElem?_append_right (by simp;omega)]
 simp [Nat.min_eq_left (Nat.le_of_lt h)]
theorem uX {l:List Int}{k:Nat}(h:k<l.length):(Ym l k).set k (E2 l (k:Int)-E2 l 0)=Ym l (k+1):=by
 have hg:=List.getElem?_eq_getElem h
 have hd:l.drop k=l[k]::l.drop (k+1):=(List.drop_eq_getElem_cons h)
 have hix:E2 l (k:Int)=l[k]:=by unfold E2;simp [hg]
 unfold Ym
 have hk:k-((l.take k).map (fun v=>v-E2 l 0)).length=0:=by simp;omega
 have ht:l.take (k+1)=l.take k ++ [l[k]]:=by rw [List.take_add_one,hg];rfl
 rw [List.set_append_right _ _ (by simp;omega),hk,hd,List.set_cons_zero,ht,List.map_append,List.append_assoc,hix];rfl
theorem rZ {l:List Int}{k:Nat}(h:l.length≤k):Ym l k=l.map (fun v=>v-E2 l 0):=by
 unfold Ym;rw [List.take_of_length_le h,List.drop_eq_nil_of_le h,List.append_nil]
theorem Wl {n:Nat}{bs:List Bd}(h:(I6 (zn n bs) != 0)=true):Ew (zn n bs)=⟨false,[],[],I6 (zn n bs)⟩:=if_pos h
theorem V5 {n:Nat}{bs:List Bd}(h:(I6 (zn n bs) != 0)=false)(h2:decide ((Em (zn n bs)).2<0)=true):Ew (zn n bs)=⟨true,(Em (zn n bs)).1.sums.map (fun v=>v-E2 (Em (zn n bs)).1.sums 0),[],0⟩:=(Ck h).trans (if_pos h2)
theorem dQ {n:Nat}{bs:List Bd}(h:(I6 (zn n bs) != 0)=false)(h2:decide ((Em (zn n bs)).2<0)=false):Ew (zn n bs)=⟨false,[],(vK (zn n bs)).2,0⟩:=(Ck h).trans (Ck h2)
theorem nV {n:Nat}{bs:List Bd}(h:(I6 (zn n bs) != 0)=false)(hm:∀b∈bs,-Jp≤b.most∧b.most≤Jp):znOK n bs:=by
 have h1:=cR (n:=(n:Int)) (bs:=bs) h
 exact ⟨by omega,by omega,h1.2.2.1,h1.2.2.2,hm⟩
theorem X2 {n:Nat}{bs:List Bd}(hz:znOK n bs):∀(m:Nat) (s:Ds×Int) (C:Int),dsOK n C s.1→dsOK n (C+(m:Int)*(256*Jp)) (D9 bs m s).1
  | 0,s,C,h=>h.mono (by simp)
  | m+1,s,C,h=>by
    have hb:(0:Int)≤(m:Int)*(256*Jp):=by unfold Jp;omega
    have hs:((m+1:Nat):Int)*(256*Jp)=(m:Int)*(256*Jp)+256*Jp:=by push_cast;rw [Int.add_mul];omega
    cases hq:decide ((Js bs s.1).2<0) with
    | true=>rw [Kk hq];exact (dE hz h).mono (by omega)
    | false=>rw [Mg hq];exact (X2 hz m _ _ (dE hz h)).mono (by omega)
theorem kZ {n:Nat}{bs:List Bd}(hz:znOK n bs):dsOK n 2400000000000000000 (Em (zn n bs)).1:=by
 rw [My]
 refine (X2 hz (n+1) _ 0 (jI n)).mono ?_
 have:=hz.n64
 unfold Jp
 omega
end Go.Proofs.YtkddpedfbicbeaaGreatDoor
