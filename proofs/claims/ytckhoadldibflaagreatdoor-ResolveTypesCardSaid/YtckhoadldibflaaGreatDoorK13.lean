/-
  Several texts in one: Ar, As, R4, R5, R6, Shelm. No condition.
-/
import Derived.Test.YtckhoadldibflaaGreatDoorK12
import Derived.RangeFuncIn
import Derived.RangeFuncLeaves
import Derived.RangeFuncRecord
import Derived.TacticsIn
import Derived.Shelf.Bits.Mul64
import Derived.Test.YtckhoadldibflaaGreatDoorProg
set_option linter.unusedVariables false
set_option linter.unusedSimpArgs false
namespace Go.Aw
open Go

def M7 (l:List Oper):Bool:=l.all fun o=>match o.op with | .defer _=>false | _=>true
theorem Mu {l:List Oper}(h:M7 l=true):∀o∈l,∀c,o.op≠.defer c:=fun o ho c e=>by
 have:=(List.all_eq_true.1 h) o ho
 rw [e] at this;cases this

theorem Yi {ro:Option Nat}{n:Nat}{P:Program}{o:Oper}{a:Act}{w:World}{next:Act→World→Prop}{Q Q':Exit→Act→World→Prop}(hd:∀c,o.op≠.defer c)
    (hp:∀c a w,Q (.panic c) a w→Q' (.panic c) a w) (ho:LetsOut Q→LetsOut Q') (h:o.wp P a w next Q):o.wpIn { Fence.wide with round:=ro } n P a w next Q':=by
  refine ⟨fun _ _=>trivial,?_⟩
  rw [Oper.semAt_eq _ _ _ hd]
  unfold Oper.wp at h
  generalize (execOp a.eval o).run P w=r at h ⊢
  cases r with
  | ok x w'=>
    cases x with
    | value v=>exact h
    | skip=>exact h
    | defer d=>exact h
    | enter f args=>
      have h':Calls P f args w' _:=h
      refine ⟨fun e=>(by cases e),callsIn_wide.2 (h'.mono ?_)⟩
      intro e w'' hr
      cases e with
      | returned v=>exact hr
      | panicked c=>exact hp _ _ _ hr
      | outgrown=>exact ho hr
    | row row args=>
      have h':Rows P row args w' _:=h
      exact ⟨fun e=>(by cases e),fun c cs _=>let ⟨v,w'',r,s⟩:=h' c cs;⟨v,w'',r,stepsIn_wide.2 s⟩⟩
    | _=>exact h.elim
  | halt e w'=>
    cases e with
    | panic v=>exact hp _ _ _ h
    | _=>exact h.elim

theorem E7 {ro:Option Nat}{n:Nat}{P:Program}{ops:Array Oper}{Q:Exit→Act→World→Prop}:∀(l rest:List Oper) (a:Act) (w:World),(∀o∈l,∀c,o.op≠.defer c)→
    lH P ops (fun e a w=>match e with | .normal=>wpListIn { Fence.wide with round:=ro } n P ops Q rest a w | e=>Q e a w) l a w→wpListIn { Fence.wide with round:=ro } n P ops Q (l++rest) a w
  | [],rest,a,w,_,h=>h
  | o::r,rest,a,w,hd,h=>by
    unfold lH at h
    show wpListIn _ n P ops Q (o::(r++rest)) a w
    unfold wpListIn
    split
    · rename_i hw;rw [if_pos hw] at h
      exact Yi (hd o (List.mem_cons_self ..)) (fun c a w h=>h) (fun h=>h) (Oper.wp_mono (fun a' w' h'=>E7 r rest a' w' (fun x hx=>hd x (List.mem_cons_of_mem _ hx)) h') h)
    · rename_i hw;rw [if_neg hw] at h
      exact ⟨fun _ _=>trivial,E7 r rest _ w (fun x hx=>hd x (List.mem_cons_of_mem _ hx)) h⟩

def K5 (P:Program)(l:Nat)(rec:Loop)(H:List HO)(args:List AV)(R:AV→List HO→Prop):Prop:=
 ∀(n:Nat) (g:Gh) (w:World) (vs:Array Value),HOK g w H→Cd g w vs args→
  RoundIn { Fence.wide with round:=none } n P l rec.fn ((rec.params.zip vs).foldl (fun t (p,v)=>t.setIfInBounds p v) rec.tmps) rec.assign rec.body w
   fun e w'=>∃v g' r H',e = .returned v∧Rep g' w' v r∧HOK g' w' H'∧Ext g w g' w'∧R r H'

theorem wideN:({ Fence.wide with round:=none }:Fence)=Fence.wide:=rfl

def aZ (l:Nat)(P:Program)(c:Code)(Q:Exit→St→Prop)(s:St):Prop:=
 ∀(n:Nat) (Q':Exit→Act→World→Prop) (g:Gh) (a:Act) (w:World),Gm g s a w→(∀e g' s' a' w',Gm g' s' a' w'→Ext g w g' w'→Q e s'→Q' e a' w')→c.wpIn { Fence.wide with round:=some l } n P Q' a w

theorem aZ.region {l:Nat}{P:Program}{Q:Exit→St→Prop}{s:St}{id:Nat}{ops:Array Oper}(hnd:M7 ops.toList=true)(h:AOL P ops (Q .normal) ops.toList s):aZ l P (.region id ops false) Q s:=by
 intro n Q' g a w hG hQ
 refine wpIn_region_list ?_
 have:=E7 (ro:=some l) (n:=n) (Q:=Q') ops.toList [] a w (Mu hnd) (h.run _ g a w hG fun g' s' a' w' h1 h2 h3=>hQ _ g' s' a' w' h1 h2 h3)
 simpa using this

theorem aZ.block {l:Nat}{P:Program}{Q:Exit→St→Prop}{s:St}{id:Nat}{c:Code}(h:aZ l P c (Mf id Q) s):aZ l P (.block id c) Q s:=by
  intro n Q' g a w hG hQ
  refine wpIn_block (h n _ g a w hG fun e g' s' a' w' hG' hx hq=>?_)
  cases e with
  | exit j=>
    simp only [Mf] at hq
    simp only [Exit.inBlock]
    by_cases e:j=id
    · subst e;simp at hq;simp;exact hQ _ g' s' a' w' hG' hx hq
    · simp only [e,if_false]
      have:Nat.beq j id=false:=by
        cases hq':Nat.beq j id with
        | false=>rfl
        | true=>exact absurd (Nat.eq_of_beq_eq_true hq') e
      simp only [this,cond_false] at hq
      exact hQ _ g' s' a' w' hG' hx hq
  | _=>exact hQ _ g' s' a' w' hG' hx hq

theorem Rs {g:Gh}{w:World}{H:List HO}(hH:HOK g w H){i b:Nat}{o:Obj}(o':Obj)(hi:H[i]? = some (.obj b o)) :
  HOK g (w.putObj b o') (H.set i (.obj b o'))∧Ext g w g (w.putObj b o'):=by
 have hob:(HO.obj b o).ok g w:=hH.ok _ (List.mem_of_getElem? hi)
 have hlt:b<w.heap.size:=(Array.getElem?_eq_some_iff.1 hob.2).1
 have hx:Ext g w g (w.putObj b o'):=by
  refine ⟨rfl,rfl,rfl,by simp,fun c hc hg=>⟨hg,World.putObj_heap_other (fun e=>by rw [e,hob.1] at hg;cases hg)⟩,fun c n hc hg=>⟨fun m hm=>by rw [hg] at hm;cases hm;exact Nat.le_refl _,fun x hx=>?_⟩⟩
  have hne:c≠b:=fun e=>by rw [e,hob.1] at hg;cases hg;omega
  unfold World.cell?
  rw [World.putObj_heap_other hne]
 refine ⟨hH.set hx hi (fun c hc=>.inl hc) ⟨hob.1,World.putObj_heap_same hlt⟩ fun c hc hne _=>⟨rfl,World.putObj_heap_other (fun e=>hne (by rw [e];rfl))⟩,hx⟩

theorem Gm.putObj {g:Gh}{s:St}{a:Act}{w:World}(hG:Gm g s a w){i b:Nat}{o:Obj}(o':Obj)(hi:s.H[i]? = some (.obj b o)) :
  Gm g ⟨s.sl,s.H.set i (.obj b o'),s.n⟩ a (w.putObj b o')∧Ext g w g (w.putObj b o'):=by
 obtain ⟨h1,h2⟩:=Rs hG.heap o' hi
 exact ⟨⟨hG.size,hG.defers,fun j=>(hG.sl j).mono h2,h1⟩,h2⟩

def AWX (P:Program)(c:Code)(Q:Exit→St→Prop)(X:Gh→World→Exit→Act→World→Prop)(s:St):Prop:=
 ∀(Q':Exit→Act→World→Prop) (g:Gh) (a:Act) (w:World),Gm g s a w→(∀e g' s' a' w',Gm g' s' a' w'→Ext g w g' w'→Q e s'→Q' e a' w')→(∀e a' w',X g w e a' w'→Q' e a' w')→c.wp P Q' a w

def Qb (D:Nat):Deferred:={ target:=.collected D,args:=#[] }

def Zn (P:Program)(fn:Func)(R:AV→List HO→Prop)(g:Gh)(w:World)(e:Exit)(a:Act)(w':World):Prop:=
 e = .ret∧∃D,a.defers = [Qb D]∧w'.heap[D]? = some (.deferred (some []))∧∃v g' r H',(results fn a.tmps).run P (w'.putObj D (.deferred none)) = .ok v (w'.putObj D (.deferred none))∧
  Rep g' (w'.putObj D (.deferred none)) v r∧HOK g' (w'.putObj D (.deferred none)) H'∧Ext g w g' (w'.putObj D (.deferred none))∧R r H'

section
variable {P:Program} {fn:Func} {R:AV→List HO→Prop} {Q:Exit→St→Prop} {s:St}
theorem Zn.mono {g g1:Gh}{w w1:World}(h:Ext g w g1 w1){e:Exit}{a:Act}{w':World}(k:Zn P fn R g1 w1 e a w'):Zn P fn R g w e a w':=by
 obtain ⟨he,D,h1,h2,v,g',r,H',h3,h4,h5,h6,h7⟩:=k
 exact ⟨he,D,h1,h2,v,g',r,H',h3,h4,h5,h.trans h6,h7⟩

theorem AWX.seq {x y:Code}(h:AW P x (Ih (AWX P y Q (Zn P fn R)) Q) s):AWX P (.seq x y) Q (Zn P fn R) s:=by
 intro Q' g a w hG hQ hX
 refine wp_seq (h _ g a w hG fun e g' s' a' w' hG' hx hq=>?_)
 cases e with
 | normal=>exact hq Q' g' a' w' hG' (fun e g'' s'' a'' w'' h1 h2 h3=>hQ e g'' s'' a'' w'' h1 (hx.trans h2) h3) (fun e a'' w'' hk=>hX e a'' w'' (hk.mono hx))
 | _=>exact hQ _ g' s' a' w' hG' hx hq

def AWX2 (P:Program)(y z:Code)(Q:Exit→St→Prop)(X:Gh→World→Exit→Act→World→Prop)(s:St):Prop:=
 ∀(Q':Exit→Act→World→Prop) (g:Gh) (a:Act) (w:World),Gm g s a w→(∀e g' s' a' w',Gm g' s' a' w'→Ext g w g' w'→Q e s'→Q' e a' w')→(∀e a' w',X g w e a' w'→Q' e a' w')→y.wp P (Exit.then (z.wp P Q') Q') a w

theorem AWX.assoc {x y z:Code}(h:AW P x (Ih (AWX2 P y z Q (Zn P fn R)) Q) s):AWX P (.seq (.seq x y) z) Q (Zn P fn R) s:=by
 intro Q' g a w hG hQ hX
 refine wp_seq (wp_seq (h _ g a w hG fun e g' s' a' w' hG' hx hq=>?_))
 cases e with
 | normal=>exact hq Q' g' a' w' hG' (fun e g'' s'' a'' w'' h1 h2 h3=>hQ e g'' s'' a'' w'' h1 (hx.trans h2) h3) (fun e a'' w'' hk=>hX e a'' w'' (hk.mono hx))
 | _=>exact hQ _ g' s' a' w' hG' hx hq

theorem Bw.bodyX {T:List (Nat×TD)}(hT:F4 P T){f:FuncId}{c:Code}{args:List AV}{H:List HO}(hf:P.funcs[f]? = some fn)(hb:fn.body=some c){n:Nat}(hn:fn.ntmps=n)(hle:Nat.ble args.length n=true)
    (h:AWX P c (fun e s=>(e = .normal∨e = .ret)∧∃xs,ResL P T s fn.results.toList xs∧∃H',H'.Sublist s.H∧R (Ae xs) H') (Zn P fn R) ⟨Gf 0 args,H,n⟩):Bw P f H args R:=by
  intro g w vs hH hr
  have hle':=Nat.le_of_ble_eq_true hle
  refine (callsIn_wide (n:=1)).1 (callsIn_of_wp_marks hf hb trivial ?_)
  refine wpIn_wide.2 ?_
  refine h _ g _ w ⟨?_,rfl,?_,hH⟩ ?_ ?_
  · simp only [Array.size_append,Array.size_replicate,hn,hr.1];omega
  · intro i
    show Rep g w _ (get (Gf 0 args) i)
    rw [Pq]
    simp only [Nat.zero_le,if_true,Nat.sub_zero]
    cases hi:args[i]? with
    | none=>exact .junk _
    | some x=>
      have hlt:i<vs.size:=by rw [hr.1];exact (List.getElem?_eq_some_iff.1 hi).1
      have:=hr.2 i x hi
      simp only [Array.getD_eq_getD_getElem?,Array.getElem?_append,hlt,if_true] at this ⊢
      exact this
  · rintro e g' s' a' w' hG' hx ⟨he,xs,hr',H',hs,hq⟩
    obtain ⟨v,h1,h2⟩:=Mj hT hr' hG'
    have key:LeavesInM Fence.wide 1 P fn a'.tmps (fun e w'=>∃v g' r H',e = .returned v∧Rep g' w' v r∧HOK g' w' H'∧Ext g w g' w'∧R r H') a'.defers .returning w':=by
      rw [hG'.defers]
      exact ⟨v,h1,v,g',_,H',rfl,h2,hG'.heap.sub hs,hx,hq⟩
    rcases he with rfl | rfl <;> exact key
  · rintro e a' w' ⟨rfl,D,hD,hk,v,g',r,H',h1,h2,h3,h4,h5⟩
    show LeavesInM Fence.wide 1 P fn a'.tmps _ a'.defers .returning w'
    rw [hD]
    exact ⟨by simp,.inl ⟨D,_,rfl,run_takeDeferred hk,v,h1,v,g',r,H',rfl,h2,h3,h4,h5⟩⟩
end

def Act.more (a:Act)(ds:List Deferred):Act:={ a with defers:=a.defers++ds }
theorem Ks (a:Act)(ds:List Deferred)(d:Option Nat)(v:Value):(Act.more a ds).put d v=Act.more (a.put d v) ds:=by cases d <;> rfl
theorem We (a:Act)(ds:List Deferred):(Act.more a ds).eval=a.eval:=by funext y;cases y <;> rfl

def Y1 (ds:List Deferred)(Q:Exit→Act→World→Prop)(e:Exit)(a:Act)(w:World):Prop:=∃a0,a=Act.more a0 ds∧Q e a0 w

theorem Vx {P:Program}{ops:Array Oper}{Q:Exit→Act→World→Prop}{ds:List Deferred}{i:Nat}{K K':Act→World→Prop}(hK:∀a w,K a w→K' (Act.more a ds) w){a:Act}{w:World}
    (h:wpOp P ops Q i K a w):wpOp P ops (Y1 ds Q) i K' (Act.more a ds) w:=by
  have hL:LetsOut Q→LetsOut (Y1 ds Q):=fun ⟨a,w,h⟩=>⟨_,w,a,rfl,h⟩
  unfold wpOp at h ⊢
  cases ho:ops[i]? with
  | none=>rw [ho] at h;exact hK _ _ h
  | some o=>
    rw [ho] at h
    simp only at h ⊢
    have ht:yielded ops (Act.more a ds).tmps=yielded ops a.tmps:=rfl
    rw [ht]
    by_cases hw:Region.wanted o (yielded ops a.tmps)=true
    · rw [if_pos hw] at h ⊢
      rcases h with h | ⟨h,h'⟩
      · left
        unfold Oper.wp at h ⊢
        rw [We]
        generalize (execOp a.eval o).run P w=r at h ⊢
        cases r with
        | ok x w'=>
          cases x with
          | value v=>show K' _ w';rw [Ks];exact hK _ _ h
          | skip=>show K' _ w';rw [Ks];exact hK _ _ h
          | defer d=>
            have:=hK _ _ h
            rw [←Ks] at this
            exact this
          | enter f args=>
            have h':Calls P f args w' _:=h
            show Calls P f args w' _
            refine h'.mono ?_
            intro e w'' hr
            cases e with
            | returned v=>show K' _ w'';rw [Ks];exact hK _ _ hr
            | panicked c=>exact ⟨a,rfl,hr⟩
            | outgrown=>exact hL hr
          | row row args=>
            have h':Rows P row args w' _:=h
            show Rows P row args w' _
            exact h'.mono fun v w'' hr=>by rw [Ks];exact hK _ _ hr
          | _=>exact h.elim
        | halt e w'=>
          cases e with
          | panic v=>exact ⟨a,rfl,h⟩
          | _=>exact h.elim
      · right
        refine ⟨?_,hL h'⟩
        unfold Oper.asks at h ⊢
        rw [We];exact h
    · rw [if_neg hw] at h ⊢
      rw [Ks];exact hK _ _ h

theorem Tr {P:Program}{md:Region.Mode}{ops:Array Oper}{Q:Exit→Act→World→Prop}{ds:List Deferred}:∀(Bb:Nat) (listed:Array Bool) (a:Act) (w:World),wpAny P md ops Q Bb listed a w→
  wpAny P md ops (Y1 ds Q) Bb listed (Act.more a ds) w
 | 0,listed,a,w,h=>⟨h.1,a,rfl,h.2⟩
 | Bb+1,listed,a,w,h=>⟨fun hr=>⟨a,rfl,h.1 hr⟩,fun i hi=>Vx (fun a w h=>Tr Bb _ a w h) (h.2 i hi)⟩

section
variable {P:Program} {ops:Array Oper}
theorem fU (hm:P.follows .mixedOrders=true){id:Nat}{Qs:St→Prop}{s:St}(K:List HO→Prop)(hK:K s.H)(hdd:Dv ops=true)(h:Hs P ops K Qs (Array.replicate ops.size false) s)
  {Q':Exit→Act→World→Prop} {g:Gh} {a:Act} {w:World} (hG:Gm g s a w) (ds:List Deferred) (hQ:∀g' s' a' w',Gm g' s' a' w'→Ext g w g' w'→Qs s'→Q' .ret (Act.more a' ds) w') :
  ((Code.region id ops true).seq .ret).wp P Q' (Act.more a ds) w:=by
 have hx:=Ext.drew g w
 have hG':Gm g s a w.drew:=⟨hG.size,hG.defers,fun i=>(hG.sl i).mono hx,hG.heap.drew⟩
 have key:=CanonI.any hdd h ops.size [] (Array.replicate ops.size false) s.sl g a w.drew (fun e a' w'=>match e with | .normal=>Q' .ret (Act.more a' ds) w' | _=>False)
  ⟨by simp,by simp,by simp,by simp,fun t _=>rfl,by simp,by simp,by simp,by simp,by simp,by simp,by simp,by simp,fun j o hj hl=>by
   have hlt:j<ops.size:=(Array.getElem?_eq_some_iff.1 hj).1
   simp [hlt] at hl⟩ hG' (fun _=>hK) (by
   unfold bQ
   have:=List.length_filter_le (fun j=>!(Array.replicate ops.size false).getD j true) (List.range ops.size)
   simpa using this) fun g' s' a' w' k1 k2 k3=>hQ g' s' a' w' k1 (hx.trans k2) k3
 have key2:=Tr (ds:=ds) _ _ _ _ key
 refine wp_seq (wp_mono (wp_region_any hm key2) ?_)
 rintro e a' w' ⟨a0,rfl,hq⟩
 cases e with
 | normal=>exact wp_ret hq
 | _=>exact hq.elim

inductive AWD (P:Program):Code→(St→Prop)→St→Prop where
 | draw (hm:P.follows .mixedOrders=true) {id:Nat} {ops:Array Oper} {Qs:St→Prop} {s:St} (K:List HO→Prop) (hK:K s.H) (hdd:Dv ops=true) (h:Hs P ops K Qs (Array.replicate ops.size false) s):AWD P (.region id ops true) Qs s

def Aab (P:Program)(T:List (Nat×TD))(fn:Func)(R:AV→List HO→Prop)(D:Nat)(s:St):Prop:=
 ∃i:Nat,s.H[i]? = some (HO.obj D (Obj.deferred (some [])))∧∃xs,ResL P T ⟨s.sl,s.H.set i (.obj D (.deferred none)),s.n⟩ fn.results.toList xs∧∃H3,H3.Sublist (s.H.set i (.obj D (.deferred none)))∧R (Ae xs) H3

end
end Go.Aw

namespace Go.Aw
open Go
theorem AW.ghostPost {P:Program}{c:Code}{Q:Exit→St→Prop}{s:St}(h:AW P c (fun e s=>∃s',GS s s'∧Q e s') s):AW P c Q s:=by
 intro Q' g a w hG hQ
 refine h Q' g a w hG fun e g' s' a' w' h1 h2 ⟨s2,h3,h4⟩=>?_
 obtain ⟨g2,k1,k2⟩:=h3 g' a' w' h1
 exact hQ e g2 s2 a' w' k1 (h2.trans k2) h4
def sidx:List (List UInt8×AV)→List UInt8→Option Nat
 | [],_=>none
 | (k,_)::r,n=>if k=n then some 0 else (sidx r n).map (· + 1)
def sput (es:List (List UInt8×AV))(n:List UInt8)(x:AV):List (List UInt8×AV):=match sidx es n with | some j=>es.modify j fun _=>(n,x) | none=>es ++ [(n,x)]
section
variable {P:Program} {T:List (Nat×TD)} {d:Option Nat} {ty:TypeId} {pos:String} {aft:Array Edge} {gd:Option (Nat×Bool)} {ρ:Operand→AV}
end
end Go.Aw

namespace Go.Aw
open Go
theorem GS.heq {sl:List (Nat×AV)}{H H2:List HO}{n:Nat}(h:H=H2):GS ⟨sl,H,n⟩ ⟨sl,H2,n⟩:=by subst h;exact GS.refl _
end Go.Aw
namespace Go.Proofs.YtckhoadldibflaaGreatDoor
open Go Go.Aw
theorem fN {T:List e8Sc}{k:Nat}{s:e8Sc}(h:T[k]? = some s):Gb (T.take k) ++ [s.name]=Gb (T.take (k+1)):=by
 rw [Fs h];simp
theorem yW {T:List e8Sc}(hd:(Gb T).Nodup){k:Nat}{s:e8Sc}(h:T[k]? = some s):(Gb (T.take k)).contains s.name=false:=by
 rw [Bool.eq_false_iff]
 intro hc
 have h2:(Gb (T.take (k+1))).Nodup:=by
  have:(Gb (T.take (k+1))).Sublist (Gb T):=(List.take_sublist _ _).map _
  exact hd.sublist this
 rw [←fN h,List.nodup_append] at h2
 exact h2.2.2 _ (List.contains_iff_mem.1 hc) _ (by simp) rfl
section
variable {T:List e8Sc} {V:List Va} {t:Syn}
def pI (T:List e8Sc)(V:List Va)(t:Syn):Fa:=if (In T V t != 0) then ⟨t.pos,In T V t⟩ else Mq
def dV (T:List e8Sc)(V:List Va)(t:Syn):List Va:=if (In T V t != 0) then V else V ++ [P7 T t]
theorem wN (h1:((V.length:Int)==16)=true):In T V t=5:=if_pos h1
theorem dec_2 (h1:((V.length:Int)==16)=false)(h2:(!((Gb T).contains t.text))=true):In T V t=8:=(Bu h1).trans (if_pos h2)
theorem dec_3 (h1:((V.length:Int)==16)=false)(h2:(!((Gb T).contains t.text))=false)(h3:(Ic V).contains t.name=true):In T V t=7:=(Bu h1).trans ((Bu h2).trans (if_pos h3))
theorem dec_4 (h1:((V.length:Int)==16)=false)(h2:(!((Gb T).contains t.text))=false)(h3:(Ic V).contains t.name=false):In T V t=0:=(Bu h1).trans ((Bu h2).trans (Bu h3))
theorem bJ {e:Int}(h:In T V t=e)(he:e≠0):pI T V t=⟨t.pos,e⟩∧dV T V t=V:=by
 unfold pI dV
 rw [h,if_pos (by simpa using he),if_pos (by simpa using he)];exact ⟨rfl,rfl⟩
theorem uR (h:In T V t=0):pI T V t=Mq∧dV T V t=V ++ [P7 T t]:=by
 unfold pI dV
 rw [h,if_neg (by decide),if_neg (by decide)];exact ⟨rfl,rfl⟩
theorem M3 (r:List Syn):Km T V (t::r)=if (In T V t != 0) then (V,⟨t.pos,In T V t⟩) else Km T (V ++ [P7 T t]) r:=by rw [Km]
theorem oK {l:List Syn}{k:Nat}(h:l[k]? = some t)(he:((pI T V t).err != 0)=true):Km T V (l.drop k)=(dV T V t,pI T V t):=by
 have hx:(In T V t != 0)=true:=by
  unfold pI at he
  cases hq:In T V t != 0 with
  | true=>rfl
  | false=>rw [hq,if_neg (by decide)] at he;exact absurd he (by decide)
 rw [Bj h,M3,if_pos hx]
 unfold pI dV;rw [if_pos hx,if_pos hx]
theorem pX {l:List Syn}{k:Nat}(h:l[k]? = some t)(he:((pI T V t).err != 0)=false):Km T V (l.drop k)=Km T (dV T V t) (l.drop (k+1)):=by
 have hx:(In T V t != 0)=false:=by
  unfold pI at he
  cases hq:In T V t != 0 with
  | false=>rfl
  | true=>rw [hq,if_pos rfl] at he;simp only at he;rw [hq] at he;cases he
 rw [Bj h,M3,Bu hx]
 unfold dV;rw [Bu hx]
theorem zY (h:V.length≤16):(dV T V t).length≤16:=by
  unfold dV
  cases hq:In T V t != 0 with
  | true=>rw [if_pos rfl];exact h
  | false=>
    rw [Bu rfl,List.length_append,List.length_singleton]
    have:V.length≠16:=fun h16=>by
      have:=wN (T:=T) (t:=t) (V:=V) (by simp [h16])
      rw [this] at hq;exact absurd hq (by decide)
    omega
theorem scVa (l:List Va):∀c∈l.map O1,Ba c=true:=fun c hc=>by
 obtain ⟨x,_,rfl⟩:=List.mem_map.1 hc
 rfl
end
section
variable {t:Syn}
theorem Qv (h:Bg t .pats=0):5≤t.kind∧t.kind≤12:=Qx (Hi (Hm h).1).1
theorem Na (h:Bg t .pats=0)(hk:t.kind=10∨t.kind=12):t.kids.length=2:=by
 have hs:=(Hi (Hm h).1).2.1
 unfold Dr at hs
 rcases hk with hk | hk <;> · rw [hk] at hs;simp at hs;omega
theorem M4 (h:Bg t .pats=0)(h5:t.kind≠5){j:Nat}{a:Syn}(ha:t.kids[j]? = some a)(hj:(t.kind=10∨t.kind=12)→j=0):Bg a .pats=0:=by
 have hr:=Qv h
 have hk:=(H1 h ha).1
 have he:Ee t j = .pats:=by
  unfold Ee
  rw [if_neg (by simp;omega),if_neg (by simp;omega),if_neg (by simp;omega)]
  by_cases h10:t.kind=10
  ·
   have:=hj (.inl h10);subst this
   rw [if_pos (by simpa using h10),if_neg (by decide)]
  ·
   rw [if_neg (by simpa using h10)]
   by_cases h12:t.kind=12
   ·
    have:=hj (.inr h12);subst this
    rw [if_pos (by simpa using h12),if_neg (by decide)]
   · rw [if_neg (by simpa using h12),if_neg (by simp;omega),if_neg (by simp;omega)]
 rw [he] at hk;exact hk
theorem Fb (x:Syn)(r:List Syn):Dt (x::r)=Dz x+Dt r:=by rw [Dt]
theorem Xx (t:Syn):(Pb t).length≤Dz t:=by
  induction t using Syn.ind with
  | h t ih=>
    rw [Q1,Du]
    have hh:(rC t.kids).length≤Dt t.kids:=by
      cases hk:t.kids with
      | nil=>rw [rC];simp
      | cons x r=>rw [rC,Fb];have:=ih x (by rw [hk];simp);omega
    have hf:∀l:List Syn,(∀a∈l,(Pb a).length≤Dz a)→(l.flatMap Pb).length≤Dt l:=by
      intro l
      induction l with
      | nil=>intro _;simp
      | cons x r ih2=>intro hl;rw [List.flatMap_cons,List.length_append,Fb];have:=hl x (by simp);have:=ih2 fun a ha=>hl a (by simp [ha]);omega
    split
    · simp
    · split
      · rw [List.length_cons];omega
      · split
        · omega
        · have:=hf _ ih;omega
theorem Ra:∀(l:List Syn) (k:Nat),Dt (l.take k)≤Dt l
 | [],k=>by simp
 | x::r,0=>by rw [List.take_zero,Dt];omega
 | x::r,k+1=>by rw [List.take_succ_cons,Fb,Fb];have:=Ra r k;omega
theorem rP (l:List Syn):(l.flatMap Pb).length≤Dt l:=by
 induction l with
 | nil=>simp
 | cons x r ih=>rw [List.flatMap_cons,List.length_append,Fb];have:=Xx x;omega
theorem rN (ht:Eg t)(k:Nat):(((t.kids.take k).flatMap Pb).map Cl).length≤1000000:=by
 rw [List.length_map]
 have h1:=rP (t.kids.take k)
 have h2:=Ra t.kids k
 have h3:=aW t.kids
 have h4:=Vr t
 unfold Eg at ht
 omega
theorem jJ (ht:Eg t):((Pb t).map Cl).length≤1000000:=by
 rw [List.length_map];exact Nat.le_trans (Xx t) (H8 ht)
theorem nL (l:List Syn):∀c∈l.map Cl,Ba c=true:=fun c hc=>by
 obtain ⟨x,_,rfl⟩:=List.mem_map.1 hc
 rw [Bi];rfl
theorem evs_1 (h1:(t.kind==5)=true):(Pb t).map Cl = [cSyn t]:=by
 rw [Q1,if_pos h1,List.map_cons,List.map_nil,Bi]
theorem evs_2 (h1:(t.kind==5)=false)(h2:(t.kind==10)=true)(hl:0<t.kids.length):(Pb t).map Cl = [cSyn (Bn t 1)]++(Pb (Bn t 0)).map Cl:=by
 rw [Q1,Bu h1,if_pos h2,List.map_cons,Bi,Xs hl];rfl
theorem evs_3 (h1:(t.kind==5)=false)(h2:(t.kind==10)=false)(h3:(t.kind==12)=true)(hl:0<t.kids.length):Pb t=Pb (Bn t 0):=by
 rw [Q1,Bu h1,Bu h2,if_pos h3,Xs hl];rfl
theorem evs_4 (h1:(t.kind==5)=false)(h2:(t.kind==10)=false)(h3:(t.kind==12)=false):Pb t=t.kids.flatMap Pb:=by
 rw [Q1,Bu h1,Bu h2,Bu h3]
end
def opL:List (Int×AV):=[(5,.int .i64 0),(6,.int .i64 1),(7,.int .i64 2),(8,.int .i64 3),(9,.int .i64 4),(10,.int .i64 5),(11,.int .i64 6),(12,.int .i64 7)]
theorem xW {k:Int}(h0:5≤k)(h1:k≤12):Uu opL k=some (.int .i64 (k-5)):=by
 have:k=5∨k=6∨k=7∨k=8∨k=9∨k=10∨k=11∨k=12:=by omega
 rcases this with rfl | rfl | rfl | rfl | rfl | rfl | rfl | rfl <;> rfl
structure NxOK (s:Nx) (n:Nat):Prop where
 a:0≤s.next
 b:0≤s.scopes
 c:s.next+n≤3000000
 d:s.scopes+n≤3000000
section
variable {T:List e8Sc} {V:List Va} {t:Syn}
theorem zC (h:decide ((0:Int)<(t.kids.length:Int))=true):Ju T V t=Eb T V (Bn t 0):=if_pos h
theorem xY (h:decide ((0:Int)<(t.kids.length:Int))=false):Ju T V t=N7:=Bu h
theorem kZ (s:Nx)(xs:List Pt):Ki T V t s xs = { Ki T V t s [] with args:=xs }:=by
 unfold Ki
 split
 · rfl
 ·
  split
  · rfl
  ·
   split
   · rfl
   · split <;> rfl
theorem T4 (t:Syn)(s:Nx):Gl T V t s=({ Ki T V t s [] with args:=(Ek T V (Ew t) (Q9 t s)).1 },(Ek T V (Ew t) (Q9 t s)).2):=by
 rw [eC,kZ]
theorem ptn_5 {s:Nx}(h1:(t.kind==5)=true):Ki T V t s []=⟨0,[],Mi (Gb T) t.text,s.next,0,0,Ju T V t⟩:=if_pos h1
theorem xX {s:Nx}(h1:(t.kind==5)=false)(h2:(t.kind==10)=true):Ki T V t s []=⟨5,[],Mi (Gb T) (Bn t 1).text,s.next,s.scopes,0,Ju T V (Bn t 1)⟩:=(Bu h1).trans (if_pos h2)
theorem yS {s:Nx}(h1:(t.kind==5)=false)(h2:(t.kind==10)=false)(h3:(t.kind==11)=true):Ki T V t s []=⟨6,[],0,0,s.scopes,t.num,Sk⟩:=(Bu h1).trans ((Bu h2).trans (if_pos h3))
theorem yU {s:Nx}(h1:(t.kind==5)=false)(h2:(t.kind==10)=false)(h3:(t.kind==11)=false)(h4:(t.kind==12)=true):Ki T V t s []=⟨7,[],0,0,0,0,Eb T V (Bn t 1)⟩:=(Bu h1).trans ((Bu h2).trans ((Bu h3).trans (if_pos h4)))
theorem ptn_o {s:Nx}(h1:(t.kind==5)=false)(h2:(t.kind==10)=false)(h3:(t.kind==11)=false)(h4:(t.kind==12)=false):Ki T V t s []=⟨t.kind-5,[],0,0,0,0,Sk⟩:=(Bu h1).trans ((Bu h2).trans ((Bu h3).trans (Bu h4)))
theorem pn_5 {s:Nx}(h1:(t.kind==5)=true):(⟨t.kind-5,[],Mi (Gb T) t.text,s.next,0,0,Ju T V t⟩:Pt)=Ki T V t s []:=by
 have:t.kind=5:=by simpa using h1
 rw [ptn_5 h1,this];rfl
theorem pn_10 {s:Nx}(h1:(t.kind==5)=false)(h2:(t.kind==10)=true):(⟨t.kind-5,[],Mi (Gb T) (Bn t 1).text,s.next,s.scopes,0,Ju T V (Bn t 1)⟩:Pt)=Ki T V t s []:=by
 have:t.kind=10:=by simpa using h2
 rw [xX h1 h2,this];rfl
theorem pn_11 {s:Nx}(h1:(t.kind==5)=false)(h2:(t.kind==10)=false)(h3:(t.kind==11)=true):(⟨t.kind-5,[],0,0,s.scopes,t.num,Sk⟩:Pt)=Ki T V t s []:=by
 have:t.kind=11:=by simpa using h3
 rw [yS h1 h2 h3,this];rfl
theorem pn_12 {s:Nx}(h1:(t.kind==5)=false)(h2:(t.kind==10)=false)(h3:(t.kind==11)=false)(h4:(t.kind==12)=true):(⟨t.kind-5,[],0,0,0,0,Eb T V (Bn t 1)⟩:Pt)=Ki T V t s []:=by
 have:t.kind=12:=by simpa using h4
 rw [yU h1 h2 h3 h4,this];rfl
theorem nxn_5 {s:Nx}(h1:(t.kind==5)=true):Q9 t s=⟨s.next+1,s.scopes⟩:=by
 have:t.kind=5:=by simpa using h1
 unfold Q9;rw [this];rfl
theorem yL {s:Nx}(h2:(t.kind==10)=true):Q9 t s=⟨s.next+1,s.scopes+1⟩:=by
 have:t.kind=10:=by simpa using h2
 unfold Q9;rw [this];rfl
theorem zT {s:Nx}(h3:(t.kind==11)=true):Q9 t s=⟨s.next,s.scopes+1⟩:=by
 have:t.kind=11:=by simpa using h3
 unfold Q9;rw [this];rfl
theorem vM {s:Nx}(h1:(t.kind==5)=false)(h2:(t.kind==10)=false)(h3:(t.kind==11)=false):Q9 t s=s:=by
 unfold Q9;rw [h1,h2,h3];rfl
theorem pk_5 (h1:(t.kind==5)=true):Ew t = []:=if_pos h1
theorem pk_10 (h1:(t.kind==5)=false)(h2:(t.kind==10)=true):Ew t=t.kids.take 1:=by
 unfold Ew;rw [Bu h1,h2];rfl
theorem pk_12 (h1:(t.kind==5)=false)(h4:(t.kind==12)=true):Ew t=t.kids.take 1:=by
 unfold Ew;rw [Bu h1,h4];simp
theorem pk_o (h1:(t.kind==5)=false)(h2:(t.kind==10)=false)(h4:(t.kind==12)=false):Ew t=t.kids:=by
 unfold Ew;rw [Bu h1,h2,h4];rfl
theorem Um {a:Syn}(h:a∈Ew t):a∈t.kids:=by
 unfold Ew at h
 split at h
 · cases h
 ·
  split at h
  · exact List.mem_of_mem_take h
  · exact h
theorem Yp (hc:Bg t .pats=0){a:Syn}(h:a∈Ew t):Bg a .pats=0:=by
 have h5:t.kind≠5:=fun e=>by rw [pk_5 (by simpa using e)] at h;cases h
 obtain ⟨j,hj⟩:=List.mem_iff_getElem?.1 h
 unfold Ew at hj
 rw [if_neg (by simpa using h5)] at hj
 split at hj
 ·
  rename_i hq
  have hj0:j=0:=by have:=(List.getElem?_eq_some_iff.1 hj).1;simp at this;omega
  subst hj0
  rw [List.getElem?_take_of_lt (by omega)] at hj
  exact M4 hc h5 hj fun _=>rfl
 ·
  rename_i hq
  exact M4 hc h5 hj fun e=>absurd (by simpa using e) hq
theorem S0 (t:Syn):Dt (Ew t)≤Dt t.kids:=by
 unfold Ew
 split
 · rw [Dt];omega
 ·
  split
  · exact Ra _ _
  · exact Nat.le_refl _
theorem Aag (ht:Eg t):(Ew t).length≤1048576:=by
 have h1:=Mb (Ew t)
 have h2:=S0 t
 have h3:=H8 ht
 rw [Du] at h3
 omega
theorem nQ {s:Nx}(h:NxOK s (Dz t)):NxOK (Q9 t s) (Dt t.kids)∧s.next≤(Q9 t s).next∧s.scopes≤(Q9 t s).scopes∧(Q9 t s).next≤s.next+1∧(Q9 t s).scopes≤s.scopes+1:=by
 obtain ⟨a,b,c,d⟩:=h
 rw [Du] at c d
 unfold Q9
 refine ⟨⟨?_,?_,?_,?_⟩,?_,?_,?_,?_⟩ <;> simp only <;> split <;> omega
theorem kQ:∀t:Syn,∀s:Nx,NxOK s (Dz t)→s.next≤(Gl T V t s).2.next∧s.scopes≤(Gl T V t s).2.scopes∧(Gl T V t s).2.next≤s.next+Dz t∧(Gl T V t s).2.scopes≤s.scopes+Dz t:=by
  intro t
  induction t using Syn.ind with
  | h t ih=>
    intro s hs
    obtain ⟨h1,h2,h3,h4,h5⟩:=nQ hs
    rw [eC,Du]
    have key:∀l:List Syn,(∀a∈l,a∈t.kids)→∀s:Nx,NxOK s (Dt l)→s.next≤(Ek T V l s).2.next∧s.scopes≤(Ek T V l s).2.scopes∧(Ek T V l s).2.next≤s.next+Dt l∧(Ek T V l s).2.scopes≤s.scopes+Dt l:=by
      intro l
      induction l with
      | nil=>intro _ s _;rw [Ek];simp only;omega
      | cons x r ih2=>
        intro hl s hs
        obtain ⟨a,b,c,d⟩:=hs
        rw [Fb] at c d
        have hx:=ih x (hl x (by simp)) s ⟨a,b,by omega,by omega⟩
        have hr:=ih2 (fun a ha=>hl a (by simp [ha])) (Gl T V x s).2 ⟨by omega,by omega,by omega,by omega⟩
        rw [Ek,Fb]
        simp only
        omega
    have hp:=S0 t
    have hk:=key (Ew t) (fun a ha=>Um ha) (Q9 t s) ⟨h1.a,h1.b,by have:=h1.c;omega,by have:=h1.d;omega⟩
    simp only
    omega
theorem Y4 {l:List Syn}{k:Nat}{a:Syn}(h:l[k]? = some a)(s:Nx):Ek T V (l.take (k+1)) s=((Ek T V (l.take k) s).1 ++ [(Gl T V a (Ek T V (l.take k) s).2).1],(Gl T V a (Ek T V (l.take k) s).2).2):=by
 rw [Fs h,Y9,Ek,Ek]
theorem hM {l:List Syn}{k:Nat}{a:Syn}(h:l[k]? = some a):Dt (l.drop k)=Dz a+Dt (l.drop (k+1)):=by rw [Bj h,Fb]
theorem nx_on {l:List Syn}{k:Nat}{a:Syn}(h:l[k]? = some a){s:Nx}(hs:NxOK s (Dt (l.drop k))):NxOK s (Dz a)∧NxOK (Gl T V a s).2 (Dt (l.drop (k+1))):=by
 obtain ⟨x1,x2,x3,x4⟩:=hs
 rw [hM h] at x3 x4
 have ha:NxOK s (Dz a):=⟨x1,x2,by omega,by omega⟩
 have:=kQ (T:=T) (V:=V) a s ha
 exact ⟨ha,by omega,by omega,by omega,by omega⟩
theorem scPt (l:List Pt):∀c∈l.map Si,Ba c=true:=fun c hc=>by
 obtain ⟨x,_,rfl⟩:=List.mem_map.1 hc
 rw [Xc];rfl
theorem Om (hw:(Fj T V t).err=0){j:Nat}(h:j<t.kids.length):(Fj T V (Bn t j)).err=0:=(Gu hw).2 _ (List.mem_of_getElem? (Es h))
theorem Sp (ht:Eg t){j:Nat}(h:j<t.kids.length):Eg (Bn t j):=Ec ht (List.mem_of_getElem? (Es h))
end
end Go.Proofs.YtckhoadldibflaaGreatDoor

namespace Go.Proofs
open Go.Shelf
def Tryz.lays264_ren:Go.Shelf.Ren:=⟨fun | 264=>290 | n=>n,fun | 53=>298 | 46=>271 | n=>n,fun | n=>n⟩
def Tryz.lays212_ren:Go.Shelf.Ren:=⟨fun | 212=>233 | 263=>289 | 264=>290 | n=>n,fun | 46=>271 | 51=>295 | 146=>296 | 53=>298 | 148=>299 | n=>n,fun | n=>n⟩
theorem Tryz.lays212:Go.Proofs.Lays.n212 Tryz.prog Tryz.lays212_ren:={
 mixed:=by kernel_rfl
 f212:=Tryz.func233.trans (congrArg some (by kernel_rfl))
 f263:=Tryz.func289.trans (congrArg some (by kernel_rfl))
 f264:=Tryz.func290.trans (congrArg some (by kernel_rfl))
 t46:=Tryz.underlying271
 a46:=Tryz.isAgg271
 z46:=Tryz.sizeOf271
 v46:=Tryz.zeroValue271
 t51:=Tryz.underlying295
 a51:=Tryz.isAgg295
 z51:=Tryz.sizeOf295
 v51:=Tryz.zeroValue295
 t53:=Tryz.underlying298
 a53:=Tryz.isAgg298
 z53:=Tryz.sizeOf298
 v53:=Tryz.zeroValue298
 t146:=Tryz.underlying296
 a146:=Tryz.isAgg296
 z146:=Tryz.sizeOf296
 v146:=Tryz.zeroValue296
 t148:=Tryz.underlying299
 a148:=Tryz.isAgg299
 z148:=Tryz.sizeOf299
 v148:=Tryz.zeroValue299 }
open Go.RowKit Go.Lib in
theorem Tryz.bits_Mul (x y:Nat)(hx:x<18446744073709551616)(hy:y<18446744073709551616)(w:World) :
 Calls Tryz.prog 233 #[.int .u64 x,.int .u64 y] w fun e w'=>e = .returned (.tuple #[.int .u64 ((x*y / 18446744073709551616:Nat):Int),.int .u64 ((x*y % 18446744073709551616:Nat):Int)])∧w'=w:=Any.bits_Mul Tryz.lays212 x y hx hy w
end Go.Proofs
