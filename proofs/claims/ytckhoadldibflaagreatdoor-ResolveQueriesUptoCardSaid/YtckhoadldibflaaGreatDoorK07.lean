/-
  Several texts in one: Ar, As, R4, R5, R6, Shelm, R7, R8. No condition.
-/
import Derived.Test.YtckhoadldibflaaGreatDoorK06
import Derived.RangeFuncIn
import Derived.RangeFuncLeaves
import Derived.RangeFuncRecord
import Derived.TacticsIn
import Derived.Shelf.Bits.Mul64
import Derived.Test.YtckhoadldibflaaGreatDoorProg
import Derived.IntWalk
import Derived.Test.YtckhoadldibflaaGreatDoorK02
set_option linter.unusedVariables false
set_option linter.unusedSimpArgs false
namespace Go.Aw
open Go

def Sh (l:List Oper):Bool:=l.all fun o=>match o.op with | .defer _=>false | _=>true
theorem Qu {l:List Oper}(h:Sh l=true):∀o∈l,∀c,o.op≠.defer c:=fun o ho c e=>by
 have:=(bS.1 h) o ho;rw [e] at this;cases this

theorem fI {ro:Option Nat}{n:Nat}{P:Program}{o:Oper}{a:Act}{w:World}{next:Act→World→Prop}{Q Q':Exit→Act→World→Prop}(hd:∀c,o.op≠.defer c)
    (hp:∀c a w,Q (.panic c) a w→Q' (.panic c) a w) (ho:LetsOut Q→LetsOut Q') (h:o.wp P a w next Q):o.wpIn { Fence.wide with round:=ro } n P a w next Q':=by
  refine ⟨fun _ _=>trivial,?_⟩;rw [Oper.semAt_eq _ _ _ hd];unfold Oper.wp at h;generalize (execOp a.eval o).run P w=r at h ⊢;cases r with
  | ok x w'=>
    cases x with
    | value v=>exact h
    | skip=>exact h
    | defer d=>exact h
    | enter f args=>
      have h':Calls P f args w' _:=h;refine ⟨fun e=>(by cases e),callsIn_wide.2 (h'.mono ?_)⟩;intro e w'' hr;cases e with
      | returned v=>exact hr
      | panicked c=>exact hp _ _ _ hr
      | outgrown=>exact ho hr
    | row row args=>
      have h':Rows P row args w' _:=h;exact ⟨fun e=>(by cases e),fun c cs _=>let ⟨v,w'',r,s⟩:=h' c cs;⟨v,w'',r,stepsIn_wide.2 s⟩⟩
    | _=>exact h.elim
  | halt e w'=>
    cases e with
    | panic v=>exact hp _ _ _ h
    | _=>exact h.elim

theorem G6 {ro:Option Nat}{n:Nat}{P:Program}{ops:Array Oper}{Q:Exit→Act→World→Prop}:∀(l rest:List Oper) (a:Act) (w:World),(∀o∈l,∀c,o.op≠.defer c)→
    zQ P ops (fun e a w=>match e with | .normal=>wpListIn { Fence.wide with round:=ro } n P ops Q rest a w | e=>Q e a w) l a w→wpListIn { Fence.wide with round:=ro } n P ops Q (l++rest) a w
  | [],rest,a,w,_,h=>h
  | o::r,rest,a,w,hd,h=>by
    unfold zQ at h;show wpListIn _ n P ops Q (o::(r++rest)) a w;unfold wpListIn;split
    · rename_i hw;rw [if_pos hw] at h
      exact fI (hd o (So ..)) (fun c a w h=>h) (fun h=>h) (Oper.wp_mono (fun a' w' h'=>G6 r rest a' w' (fun x hx=>hd x (Pv _ hx)) h') h)
    · rename_i hw;rw [if_neg hw] at h
      exact ⟨fun _ _=>trivial,G6 r rest _ w (fun x hx=>hd x (Pv _ hx)) h⟩

def On (P:Program)(l:Nat)(rec:Loop)(H:List HO)(args:List AV)(R:AV→List HO→Prop):Prop:=
 ∀(n:Nat) (g:Gh) (w:World) (vs:Array Value),HOK g w H→Cx g w vs args→
  RoundIn { Fence.wide with round:=none } n P l rec.fn ((rec.params.zip vs).foldl (fun t (p,v)=>t.setIfInBounds p v) rec.tmps) rec.assign rec.body w
   fun e w'=>∃v g' r H',e = .returned v∧Rep g' w' v r∧HOK g' w' H'∧Ext g w g' w'∧R r H'

theorem wideN:({ Fence.wide with round:=none }:Fence)=Fence.wide:=rfl

def oF (l:Nat)(P:Program)(c:Code)(Q:Exit→St→Prop)(s:St):Prop:=
 ∀(n:Nat) (Q':Exit→Act→World→Prop) (g:Gh) (a:Act) (w:World),Gm g s a w→(∀e g' s' a' w',Gm g' s' a' w'→Ext g w g' w'→Q e s'→Q' e a' w')→c.wpIn { Fence.wide with round:=some l } n P Q' a w

theorem oF.region {l:Nat}{P:Program}{Q:Exit→St→Prop}{s:St}{id:Nat}{ops:Array Oper}(hnd:Sh ops.toList=true)(h:AOL P ops (Q .normal) ops.toList s):oF l P (.region id ops false) Q s:=by
 intro n Q' g a w hG hQ;refine wpIn_region_list ?_;have:=G6 (ro:=some l) (n:=n) (Q:=Q') ops.toList [] a w (Qu hnd) (h.run _ g a w hG fun g' s' a' w' h1 h2 h3=>hQ _ g' s' a' w' h1 h2 h3);simpa using this

theorem oF.block {l:Nat}{P:Program}{Q:Exit→St→Prop}{s:St}{id:Nat}{c:Code}(h:oF l P c (Jl id Q) s):oF l P (.block id c) Q s:=by
  intro n Q' g a w hG hQ;refine wpIn_block (h n _ g a w hG fun e g' s' a' w' hG' hx hq=>?_);cases e with
  | exit j=>
    simp only [Jl] at hq;simp only [Exit.inBlock];by_cases e:j=id
    · subst e;simp at hq;simp;exact hQ _ g' s' a' w' hG' hx hq
    · simp only [e,if_false]
      have:Nat.beq j id=false:=by
        cases hq':Nat.beq j id with
        | false=>rfl
        | true=>exact absurd (I0 hq') e
      simp only [this,cond_false] at hq;exact hQ _ g' s' a' w' hG' hx hq
  | _=>exact hQ _ g' s' a' w' hG' hx hq

theorem Xf {g:Gh}{w:World}{H:List HO}(hH:HOK g w H){i b:Nat}{o:Obj}(o':Obj)(hi:H[i]? = some (.obj b o)) :
  HOK g (w.putObj b o') (H.set i (.obj b o'))∧Ext g w g (w.putObj b o'):=by
 have hob:(HO.obj b o).ok g w:=hH.ok _ (B6 hi);have hlt:b<w.heap.size:=(Array.getElem?_eq_some_iff.1 hob.2).1
 have hx:Ext g w g (w.putObj b o'):=by
  refine ⟨rfl,rfl,rfl,by simp,fun c hc hg=>⟨hg,World.putObj_heap_other (fun e=>by rw [e,hob.1] at hg;cases hg)⟩,fun c n hc hg=>⟨fun m hm=>by rw [hg] at hm;cases hm;exact C6 _,fun x hx=>?_⟩⟩;have hne:c≠b:=fun e=>by rw [e,hob.1] at hg;cases hg;omega
  unfold World.cell?;rw [World.putObj_heap_other hne]
 refine ⟨hH.set hx hi (fun c hc=>.inl hc) ⟨hob.1,World.putObj_heap_same hlt⟩ fun c hc hne _=>⟨rfl,World.putObj_heap_other (fun e=>hne (by rw [e];rfl))⟩,hx⟩

theorem Gm.putObj {g:Gh}{s:St}{a:Act}{w:World}(hG:Gm g s a w){i b:Nat}{o:Obj}(o':Obj)(hi:s.H[i]? = some (.obj b o)) :
  Gm g ⟨s.sl,s.H.set i (.obj b o'),s.n⟩ a (w.putObj b o')∧Ext g w g (w.putObj b o'):=by
 obtain ⟨h1,h2⟩:=Xf hG.heap o' hi;exact ⟨⟨hG.size,hG.defers,fun j=>(hG.sl j).mono h2,h1⟩,h2⟩

def AWX (P:Program)(c:Code)(Q:Exit→St→Prop)(X:Gh→World→Exit→Act→World→Prop)(s:St):Prop:=
 ∀(Q':Exit→Act→World→Prop) (g:Gh) (a:Act) (w:World),Gm g s a w→(∀e g' s' a' w',Gm g' s' a' w'→Ext g w g' w'→Q e s'→Q' e a' w')→(∀e a' w',X g w e a' w'→Q' e a' w')→c.wp P Q' a w

def Vc (D:Nat):Deferred:={ target:=.collected D,args:=#[] }

def lA (P:Program)(fn:Func)(R:AV→List HO→Prop)(g:Gh)(w:World)(e:Exit)(a:Act)(w':World):Prop:=
 e = .ret∧∃D,a.defers = [Vc D]∧w'.heap[D]? = some (.deferred (some []))∧∃v g' r H',(results fn a.tmps).run P (w'.putObj D (.deferred none)) = .ok v (w'.putObj D (.deferred none))∧
  Rep g' (w'.putObj D (.deferred none)) v r∧HOK g' (w'.putObj D (.deferred none)) H'∧Ext g w g' (w'.putObj D (.deferred none))∧R r H'

section
variable {P:Program} {fn:Func} {R:AV→List HO→Prop} {Q:Exit→St→Prop} {s:St}
theorem lA.mono {g g1:Gh}{w w1:World}(h:Ext g w g1 w1){e:Exit}{a:Act}{w':World}(k:lA P fn R g1 w1 e a w'):lA P fn R g w e a w':=by
 obtain ⟨he,D,h1,h2,v,g',r,H',h3,h4,h5,h6,h7⟩:=k;exact ⟨he,D,h1,h2,v,g',r,H',h3,h4,h5,h.trans h6,h7⟩

theorem AWX.seq {x y:Code}(h:AW P x (Ff (AWX P y Q (lA P fn R)) Q) s):AWX P (.seq x y) Q (lA P fn R) s:=by
 intro Q' g a w hG hQ hX;refine wp_seq (h _ g a w hG fun e g' s' a' w' hG' hx hq=>?_);cases e with
 | normal=>exact hq Q' g' a' w' hG' (fun e g'' s'' a'' w'' h1 h2 h3=>hQ e g'' s'' a'' w'' h1 (hx.trans h2) h3) (fun e a'' w'' hk=>hX e a'' w'' (hk.mono hx))
 | _=>exact hQ _ g' s' a' w' hG' hx hq

def AWX2 (P:Program)(y z:Code)(Q:Exit→St→Prop)(X:Gh→World→Exit→Act→World→Prop)(s:St):Prop:=
 ∀(Q':Exit→Act→World→Prop) (g:Gh) (a:Act) (w:World),Gm g s a w→(∀e g' s' a' w',Gm g' s' a' w'→Ext g w g' w'→Q e s'→Q' e a' w')→(∀e a' w',X g w e a' w'→Q' e a' w')→y.wp P (Exit.then (z.wp P Q') Q') a w

theorem AWX.assoc {x y z:Code}(h:AW P x (Ff (AWX2 P y z Q (lA P fn R)) Q) s):AWX P (.seq (.seq x y) z) Q (lA P fn R) s:=by
 intro Q' g a w hG hQ hX;refine wp_seq (wp_seq (h _ g a w hG fun e g' s' a' w' hG' hx hq=>?_));cases e with
 | normal=>exact hq Q' g' a' w' hG' (fun e g'' s'' a'' w'' h1 h2 h3=>hQ e g'' s'' a'' w'' h1 (hx.trans h2) h3) (fun e a'' w'' hk=>hX e a'' w'' (hk.mono hx))
 | _=>exact hQ _ g' s' a' w' hG' hx hq

theorem B5.bodyX {T:List (Nat×TD)}(hT:H5 P T){f:FuncId}{c:Code}{args:List AV}{H:List HO}(hf:P.funcs[f]? = some fn)(hb:fn.body=some c){n:Nat}(hn:fn.ntmps=n)(hle:Nat.ble args.length n=true)
    (h:AWX P c (fun e s=>(e = .normal∨e = .ret)∧∃xs,ResL P T s fn.results.toList xs∧∃H',H'.Sublist s.H∧R (Ag xs) H') (lA P fn R) ⟨Id 0 args,H,n⟩):B5 P f H args R:=by
  intro g w vs hH hr;have hle':=Fr hle;refine (callsIn_wide (n:=1)).1 (callsIn_of_wp_marks hf hb trivial ?_);refine wpIn_wide.2 ?_;refine h _ g _ w ⟨?_,rfl,?_,hH⟩ ?_ ?_
  · simp only [lN,Array.size_replicate,hn,hr.1];omega
  · intro i
    show Rep g w _ (get (Id 0 args) i);rw [Tz];simp only [Dh,if_true,Nat.sub_zero];cases hi:args[i]? with
    | none=>exact .junk _
    | some x=>
      have hlt:i<vs.size:=by rw [hr.1];exact (List.getElem?_eq_some_iff.1 hi).1
      have:=hr.2 i x hi;simp only [Jg,Array.getElem?_append,hlt,if_true] at this ⊢;exact this
  · rintro e g' s' a' w' hG' hx ⟨he,xs,hr',H',hs,hq⟩
    obtain ⟨v,h1,h2⟩:=Rn hT hr' hG'
    have key:LeavesInM Fence.wide 1 P fn a'.tmps (fun e w'=>∃v g' r H',e = .returned v∧Rep g' w' v r∧HOK g' w' H'∧Ext g w g' w'∧R r H') a'.defers .returning w':=by
      rw [hG'.defers];exact ⟨v,h1,v,g',_,H',rfl,h2,hG'.heap.sub hs,hx,hq⟩
    rcases he with rfl | rfl <;> exact key
  · rintro e a' w' ⟨rfl,D,hD,hk,v,g',r,H',h1,h2,h3,h4,h5⟩
    show LeavesInM Fence.wide 1 P fn a'.tmps _ a'.defers .returning w';rw [hD];exact ⟨by simp,.inl ⟨D,_,rfl,run_takeDeferred hk,v,h1,v,g',r,H',rfl,h2,h3,h4,h5⟩⟩
end

def Act.more (a:Act)(ds:List Deferred):Act:={ a with defers:=a.defers++ds }
theorem Ns (a:Act)(ds:List Deferred)(d:Option Nat)(v:Value):(Act.more a ds).put d v=Act.more (a.put d v) ds:=by cases d <;> rfl
theorem cA (a:Act)(ds:List Deferred):(Act.more a ds).eval=a.eval:=by funext y;cases y <;> rfl

def jH (ds:List Deferred)(Q:Exit→Act→World→Prop)(e:Exit)(a:Act)(w:World):Prop:=∃a0,a=Act.more a0 ds∧Q e a0 w

theorem dR {P:Program}{ops:Array Oper}{Q:Exit→Act→World→Prop}{ds:List Deferred}{i:Nat}{K K':Act→World→Prop}(hK:∀a w,K a w→K' (Act.more a ds) w){a:Act}{w:World}
    (h:wpOp P ops Q i K a w):wpOp P ops (jH ds Q) i K' (Act.more a ds) w:=by
  have hL:LetsOut Q→LetsOut (jH ds Q):=fun ⟨a,w,h⟩=>⟨_,w,a,rfl,h⟩
  unfold wpOp at h ⊢;cases ho:ops[i]? with
  | none=>rw [ho] at h;exact hK _ _ h
  | some o=>
    rw [ho] at h;simp only at h ⊢;have ht:yielded ops (Act.more a ds).tmps=yielded ops a.tmps:=rfl;rw [ht];by_cases hw:Region.wanted o (yielded ops a.tmps)=true
    · rw [if_pos hw] at h ⊢
      rcases h with h | ⟨h,h'⟩
      · left
        unfold Oper.wp at h ⊢;rw [cA];generalize (execOp a.eval o).run P w=r at h ⊢;cases r with
        | ok x w'=>
          cases x with
          | value v=>show K' _ w';rw [Ns];exact hK _ _ h
          | skip=>show K' _ w';rw [Ns];exact hK _ _ h
          | defer d=>
            have:=hK _ _ h;rw [←Ns] at this;exact this
          | enter f args=>
            have h':Calls P f args w' _:=h;show Calls P f args w' _;refine h'.mono ?_;intro e w'' hr;cases e with
            | returned v=>show K' _ w'';rw [Ns];exact hK _ _ hr
            | panicked c=>exact ⟨a,rfl,hr⟩
            | outgrown=>exact hL hr
          | row row args=>
            have h':Rows P row args w' _:=h;show Rows P row args w' _;exact h'.mono fun v w'' hr=>by rw [Ns];exact hK _ _ hr
          | _=>exact h.elim
        | halt e w'=>
          cases e with
          | panic v=>exact ⟨a,rfl,h⟩
          | _=>exact h.elim
      · right
        refine ⟨?_,hL h'⟩;unfold Oper.asks at h ⊢;rw [cA];exact h
    · rw [if_neg hw] at h ⊢
      rw [Ns];exact hK _ _ h

theorem Z5 {P:Program}{md:Region.Mode}{ops:Array Oper}{Q:Exit→Act→World→Prop}{ds:List Deferred}:∀(Bg:Nat) (listed:Array Bool) (a:Act) (w:World),wpAny P md ops Q Bg listed a w→
  wpAny P md ops (jH ds Q) Bg listed (Act.more a ds) w
 | 0,listed,a,w,h=>⟨h.1,a,rfl,h.2⟩
 | Bg+1,listed,a,w,h=>⟨fun hr=>⟨a,rfl,h.1 hr⟩,fun i hi=>dR (fun a w h=>Z5 Bg _ a w h) (h.2 i hi)⟩

section
variable {P:Program} {ops:Array Oper}
theorem uD (hm:P.follows .mixedOrders=true){id:Nat}{Qs:St→Prop}{s:St}(K:List HO→Prop)(hK:K s.H)(hdd:Ep ops=true)(h:Hb P ops K Qs (Array.replicate ops.size false) s)
  {Q':Exit→Act→World→Prop} {g:Gh} {a:Act} {w:World} (hG:Gm g s a w) (ds:List Deferred) (hQ:∀g' s' a' w',Gm g' s' a' w'→Ext g w g' w'→Qs s'→Q' .ret (Act.more a' ds) w') :
  ((Code.region id ops true).seq .ret).wp P Q' (Act.more a ds) w:=by
 have hx:=Ext.drew g w;have hG':Gm g s a w.drew:=⟨hG.size,hG.defers,fun i=>(hG.sl i).mono hx,hG.heap.drew⟩
 have key:=CanonI.any hdd h ops.size [] (Array.replicate ops.size false) s.sl g a w.drew (fun e a' w'=>match e with | .normal=>Q' .ret (Act.more a' ds) w' | _=>False)
  ⟨by simp,by simp,by simp,by simp,fun t _=>rfl,by simp,by simp,by simp,by simp,by simp,by simp,by simp,by simp,fun j o hj hl=>by
   have hlt:j<ops.size:=(Array.getElem?_eq_some_iff.1 hj).1;simp [hlt] at hl⟩ hG' (fun _=>hK) (by
   unfold mD;have:=List.length_filter_le (fun j=>!(Array.replicate ops.size false).getD j true) (List.range ops.size);simpa using this) fun g' s' a' w' k1 k2 k3=>hQ g' s' a' w' k1 (hx.trans k2) k3
 have key2:=Z5 (ds:=ds) _ _ _ _ key;refine wp_seq (wp_mono (wp_region_any hm key2) ?_);rintro e a' w' ⟨a0,rfl,hq⟩;cases e with
 | normal=>exact wp_ret hq
 | _=>exact hq.elim

inductive AWD (P:Program):Code→(St→Prop)→St→Prop where
 | draw (hm:P.follows .mixedOrders=true) {id:Nat} {ops:Array Oper} {Qs:St→Prop} {s:St} (K:List HO→Prop) (hK:K s.H) (hdd:Ep ops=true) (h:Hb P ops K Qs (Array.replicate ops.size false) s):AWD P (.region id ops true) Qs s

def endX (P:Program)(T:List (Nat×TD))(fn:Func)(R:AV→List HO→Prop)(D:Nat)(s:St):Prop:=
 ∃i:Nat,s.H[i]? = some (HO.obj D (Obj.deferred (some [])))∧∃xs,ResL P T ⟨s.sl,s.H.set i (.obj D (.deferred none)),s.n⟩ fn.results.toList xs∧∃H3,H3.Sublist (s.H.set i (.obj D (.deferred none)))∧R (Ag xs) H3

end
end Go.Aw

namespace Go.Aw
open Go
theorem AW.ghostPost {P:Program}{c:Code}{Q:Exit→St→Prop}{s:St}(h:AW P c (fun e s=>∃s',GS s s'∧Q e s') s):AW P c Q s:=by
 intro Q' g a w hG hQ;refine h Q' g a w hG fun e g' s' a' w' h1 h2 ⟨s2,h3,h4⟩=>?_
 obtain ⟨g2,k1,k2⟩:=h3 g' a' w' h1;exact hQ e g2 s2 a' w' k1 (h2.trans k2) h4
def sidx:List (List UInt8×AV)→List UInt8→Option Nat
 | [],_=>none
 | (k,_)::r,n=>if k=n then some 0 else (sidx r n).map (· + 1)
def sput (es:List (List UInt8×AV))(n:List UInt8)(x:AV):List (List UInt8×AV):=match sidx es n with | some j=>es.modify j fun _=>(n,x) | none=>es ++ [(n,x)]
section
variable {P:Program} {T:List (Nat×TD)} {d:Option Nat} {ty:TypeId} {pos:String} {aft:Array Edge} {gd:Option (Nat×Bool)} {ρ:Operand→AV}
end
end Go.Aw

namespace Go.Aw
open Go
theorem GS.heq {sl:List (Nat×AV)}{H H2:List HO}{n:Nat}(h:H=H2):GS ⟨sl,H,n⟩ ⟨sl,H2,n⟩:=by subst h;exact GS.refl _
end Go.Aw
namespace Go.Proofs.YtckhoadldibflaaGreatDoor
open Go Go.Aw
theorem qX {T:List e8Sc}{k:Nat}{s:e8Sc}(h:T[k]? = some s):G8 (T.take k) ++ [s.name]=G8 (T.take (k+1)):=by
 rw [C2 h];simp
theorem nm_new {T:List e8Sc}(hd:(G8 T).Nodup){k:Nat}{s:e8Sc}(h:T[k]? = some s):(G8 (T.take k)).contains s.name=false:=by
 rw [zz45];intro hc
 have h2:(G8 (T.take (k+1))).Nodup:=by
  have:(G8 (T.take (k+1))).Sublist (G8 T):=(List.take_sublist _ _).map _;exact hd.sublist this
 rw [←qX h,List.nodup_append] at h2;exact h2.2.2 _ (List.contains_iff_mem.1 hc) _ (by simp) rfl
section
variable {T:List e8Sc} {V:List Va} {t:Syn}
def dFa (T:List e8Sc)(V:List Va)(t:Syn):Fa:=if (Hy T V t != 0) then ⟨t.pos,Hy T V t⟩ else Mt
def dV (T:List e8Sc)(V:List Va)(t:Syn):List Va:=if (Hy T V t != 0) then V else V ++ [Ki T t]
theorem dec_1 (h1:((V.length:Int)==16)=true):Hy T V t=5:=if_pos h1
theorem dec_2 (h1:((V.length:Int)==16)=false)(h2:(!((G8 T).contains t.text))=true):Hy T V t=8:=(Bi h1).trans (if_pos h2)
theorem dec_3 (h1:((V.length:Int)==16)=false)(h2:(!((G8 T).contains t.text))=false)(h3:(Fq V).contains t.name=true):Hy T V t=7:=(Bi h1).trans ((Bi h2).trans (if_pos h3))
theorem dec_4 (h1:((V.length:Int)==16)=false)(h2:(!((G8 T).contains t.text))=false)(h3:(Fq V).contains t.name=false):Hy T V t=0:=(Bi h1).trans ((Bi h2).trans (Bi h3))
theorem mV {e:Int}(h:Hy T V t=e)(he:e≠0):dFa T V t=⟨t.pos,e⟩∧dV T V t=V:=by
 unfold dFa dV;rw [h,if_pos (by simpa using he),if_pos (by simpa using he)];exact ⟨rfl,rfl⟩
theorem dFa_yes (h:Hy T V t=0):dFa T V t=Mt∧dV T V t=V ++ [Ki T t]:=by
 unfold dFa dV;rw [h,if_neg (by decide),if_neg (by decide)];exact ⟨rfl,rfl⟩
theorem Kg (r:List Syn):K1 T V (t::r)=if (Hy T V t != 0) then (V,⟨t.pos,Hy T V t⟩) else K1 T (V ++ [Ki T t]) r:=by rw [K1]
theorem xW {l:List Syn}{k:Nat}(h:l[k]? = some t)(he:((dFa T V t).err != 0)=true):K1 T V (l.drop k)=(dV T V t,dFa T V t):=by
 have hx:(Hy T V t != 0)=true:=by
  unfold dFa at he;cases hq:Hy T V t != 0 with
  | true=>rfl
  | false=>rw [hq,if_neg (by decide)] at he;exact absurd he (by decide)
 rw [Ax h,Kg,if_pos hx];unfold dFa dV;rw [if_pos hx,if_pos hx]
theorem decS_on {l:List Syn}{k:Nat}(h:l[k]? = some t)(he:((dFa T V t).err != 0)=false):K1 T V (l.drop k)=K1 T (dV T V t) (l.drop (k+1)):=by
 have hx:(Hy T V t != 0)=false:=by
  unfold dFa at he;cases hq:Hy T V t != 0 with
  | false=>rfl
  | true=>rw [hq,if_pos rfl] at he;simp only at he;rw [hq] at he;cases he
 rw [Ax h,Kg,Bi hx];unfold dV;rw [Bi hx]
theorem dV_len (h:V.length≤16):(dV T V t).length≤16:=by
  unfold dV;cases hq:Hy T V t != 0 with
  | true=>rw [if_pos rfl];exact h
  | false=>
    rw [Bi rfl,Cb,K9]
    have:V.length≠16:=fun h16=>by
      have:=dec_1 (T:=T) (t:=t) (V:=V) (by simp [h16]);rw [this] at hq;exact absurd hq (by decide)
    omega
theorem scVa (l:List Va):∀c∈l.map Ls,Bc c=true:=fun c hc=>by
 obtain ⟨x,_,rfl⟩:=M9.1 hc;rfl
end
section
variable {t:Syn}
theorem Lu (h:Ba t .pats=0):5≤t.kind∧t.kind≤12:=Vf (Gg (Gk h).1).1
theorem Hz (h:Ba t .pats=0)(hk:t.kind=10∨t.kind=12):t.kids.length=2:=by
 have hs:=(Gg (Gk h).1).2.1;unfold En at hs;rcases hk with hk | hk <;> · rw [hk] at hs;simp at hs;omega
theorem Mq (h:Ba t .pats=0)(h5:t.kind≠5){j:Nat}{a:Syn}(ha:t.kids[j]? = some a)(hj:(t.kind=10∨t.kind=12)→j=0):Ba a .pats=0:=by
 have hr:=Lu h;have hk:=(Fj h ha).1
 have he:Eh t j = .pats:=by
  unfold Eh;rw [if_neg (by simp;omega),if_neg (by simp;omega),if_neg (by simp;omega)];by_cases h10:t.kind=10
  ·
   have:=hj (.inl h10);subst this;rw [if_pos (by simpa using h10),if_neg (by decide)]
  rw [if_neg (by simpa using h10)];by_cases h12:t.kind=12
  ·
   have:=hj (.inr h12);subst this;rw [if_pos (by simpa using h12),if_neg (by decide)]
  rw [if_neg (by simpa using h12),if_neg (by simp;omega),if_neg (by simp;omega)]
 rw [he] at hk;exact hk
theorem vC (h:Ba t .pats=0)(hk:t.kind=10):Ba (Bb t 1) (.only 5)=0:=by
 have h2:=Hz h (.inl hk);have hg:=Cp (t:=t) (k:=1) (by omega);have hk1:=(Fj h hg).1
 have he:Eh t 1 = .only 5:=by
  unfold Eh;rw [hk];rfl
 rw [he] at hk1;exact hk1
theorem xU (h:Ba t .pats=0)(hk:t.kind=12):Ba (Bb t 1) .exps=0:=by
 have h2:=Hz h (.inr hk);have hg:=Cp (t:=t) (k:=1) (by omega);have hk1:=(Fj h hg).1
 have he:Eh t 1 = .exps:=by
  unfold Eh;rw [hk];rfl
 rw [he] at hk1;exact hk1
theorem Gn (x:Syn)(r:List Syn):E8 (x::r)=Fk x+E8 r:=by rw [E8]
theorem Yp (t:Syn):(Hj t).length≤Fk t:=by
  induction t using Syn.ind with
  | h t ih=>
    rw [M5,E1]
    have hh:(qE t.kids).length≤E8 t.kids:=by
      cases hk:t.kids with
      | nil=>rw [qE];simp
      | cons x r=>rw [qE,Gn];have:=ih x (by rw [hk];simp);omega
    have hf:∀l:List Syn,(∀a∈l,(Hj a).length≤Fk a)→(l.flatMap Hj).length≤E8 l:=by
      intro l
      induction l with
      | nil=>intro _;simp
      | cons x r ih2=>intro hl;rw [bL,Cb,Gn];have:=hl x (by simp);have:=ih2 fun a ha=>hl a (by simp [ha]);omega
    split
    · simp
    · split
      · rw [Cj];omega
      · split
        · omega
        have:=hf _ ih;omega
theorem Vj:∀(l:List Syn) (k:Nat),E8 (l.take k)≤E8 l
 | [],k=>by simp
 | x::r,0=>by rw [hJ,E8];omega
 | x::r,k+1=>by rw [lE,Gn,Gn];have:=Vj r k;omega
theorem evF_len (l:List Syn):(l.flatMap Hj).length≤E8 l:=by
 induction l with
 | nil=>simp
 | cons x r ih=>rw [bL,Cb,Gn];have:=Yp x;omega
theorem pV (ht:Es t)(k:Nat):(((t.kids.take k).flatMap Hj).map Cr).length≤1000000:=by
 rw [D9];have h1:=evF_len (t.kids.take k);have h2:=Vj t.kids k;have h3:=oG t.kids;have h4:=dG t;unfold Es at ht;omega
theorem fZ (ht:Es t):((Hj t).map Cr).length≤1000000:=by
 rw [D9];exact Lq (Yp t) (He ht)
theorem eD (l:List Syn):∀c∈l.map Cr,Bc c=true:=fun c hc=>by
 obtain ⟨x,_,rfl⟩:=M9.1 hc;rw [Bn];rfl
theorem evs_1 (h1:(t.kind==5)=true):(Hj t).map Cr = [cSyn t]:=by
 rw [M5,if_pos h1,E7,Di,Bn]
theorem evs_2 (h1:(t.kind==5)=false)(h2:(t.kind==10)=true)(hl:0<t.kids.length):(Hj t).map Cr = [cSyn (Bb t 1)]++(Hj (Bb t 0)).map Cr:=by
 rw [M5,Bi h1,if_pos h2,E7,Bn,eN hl];rfl
theorem evs_3 (h1:(t.kind==5)=false)(h2:(t.kind==10)=false)(h3:(t.kind==12)=true)(hl:0<t.kids.length):Hj t=Hj (Bb t 0):=by
 rw [M5,Bi h1,Bi h2,if_pos h3,eN hl];rfl
theorem evs_4 (h1:(t.kind==5)=false)(h2:(t.kind==10)=false)(h3:(t.kind==12)=false):Hj t=t.kids.flatMap Hj:=by
 rw [M5,Bi h1,Bi h2,Bi h3]
end
def opL:List (Int×AV):=[(5,.int .i64 0),(6,.int .i64 1),(7,.int .i64 2),(8,.int .i64 3),(9,.int .i64 4),(10,.int .i64 5),(11,.int .i64 6),(12,.int .i64 7)]
theorem op_get {k:Int}(h0:5≤k)(h1:k≤12):Y4 opL k=some (.int .i64 (k-5)):=by
 have:k=5∨k=6∨k=7∨k=8∨k=9∨k=10∨k=11∨k=12:=by omega
 rcases this with rfl | rfl | rfl | rfl | rfl | rfl | rfl | rfl <;> rfl
structure NxOK (s:Nx) (n:Nat):Prop where
 a:0≤s.next
 b:0≤s.scopes
 c:s.next+n≤3000000
 d:s.scopes+n≤3000000
section
variable {T:List e8Sc} {V:List Va} {t:Syn}
theorem wJ (h:decide ((0:Int)<(t.kids.length:Int))=true):H7 T V t=Ds T V (Bb t 0):=if_pos h
theorem vF (h:decide ((0:Int)<(t.kids.length:Int))=false):H7 T V t=P9:=Bi h
theorem Rq (s:Nx)(xs:List Pt):Nf T V t s xs = { Nf T V t s [] with args:=xs }:=by
 unfold Nf;split
 · rfl
 split
 · rfl
 split
 · rfl
 split <;> rfl
theorem Z3 (t:Syn)(s:Nx):Ih T V t s=({ Nf T V t s [] with args:=(F0 T V (C1 t) (Wd t s)).1 },(F0 T V (C1 t) (Wd t s)).2):=by
 rw [eW,Rq]
theorem ptn_5 {s:Nx}(h1:(t.kind==5)=true):Nf T V t s []=⟨0,[],M4 (G8 T) t.text,s.next,0,0,H7 T V t⟩:=if_pos h1
theorem xI {s:Nx}(h1:(t.kind==5)=false)(h2:(t.kind==10)=true):Nf T V t s []=⟨5,[],M4 (G8 T) (Bb t 1).text,s.next,s.scopes,0,H7 T V (Bb t 1)⟩:=(Bi h1).trans (if_pos h2)
theorem vG {s:Nx}(h1:(t.kind==5)=false)(h2:(t.kind==10)=false)(h3:(t.kind==11)=true):Nf T V t s []=⟨6,[],0,0,s.scopes,t.num,Ps⟩:=(Bi h1).trans ((Bi h2).trans (if_pos h3))
theorem vX {s:Nx}(h1:(t.kind==5)=false)(h2:(t.kind==10)=false)(h3:(t.kind==11)=false)(h4:(t.kind==12)=true):Nf T V t s []=⟨7,[],0,0,0,0,Ds T V (Bb t 1)⟩:=(Bi h1).trans ((Bi h2).trans ((Bi h3).trans (if_pos h4)))
theorem ptn_o {s:Nx}(h1:(t.kind==5)=false)(h2:(t.kind==10)=false)(h3:(t.kind==11)=false)(h4:(t.kind==12)=false):Nf T V t s []=⟨t.kind-5,[],0,0,0,0,Ps⟩:=(Bi h1).trans ((Bi h2).trans ((Bi h3).trans (Bi h4)))
theorem pn_5 {s:Nx}(h1:(t.kind==5)=true):(⟨t.kind-5,[],M4 (G8 T) t.text,s.next,0,0,H7 T V t⟩:Pt)=Nf T V t s []:=by
 have:t.kind=5:=by simpa using h1
 rw [ptn_5 h1,this];rfl
theorem pn_10 {s:Nx}(h1:(t.kind==5)=false)(h2:(t.kind==10)=true):(⟨t.kind-5,[],M4 (G8 T) (Bb t 1).text,s.next,s.scopes,0,H7 T V (Bb t 1)⟩:Pt)=Nf T V t s []:=by
 have:t.kind=10:=by simpa using h2
 rw [xI h1 h2,this];rfl
theorem pn_11 {s:Nx}(h1:(t.kind==5)=false)(h2:(t.kind==10)=false)(h3:(t.kind==11)=true):(⟨t.kind-5,[],0,0,s.scopes,t.num,Ps⟩:Pt)=Nf T V t s []:=by
 have:t.kind=11:=by simpa using h3
 rw [vG h1 h2 h3,this];rfl
theorem pn_12 {s:Nx}(h1:(t.kind==5)=false)(h2:(t.kind==10)=false)(h3:(t.kind==11)=false)(h4:(t.kind==12)=true):(⟨t.kind-5,[],0,0,0,0,Ds T V (Bb t 1)⟩:Pt)=Nf T V t s []:=by
 have:t.kind=12:=by simpa using h4
 rw [vX h1 h2 h3 h4,this];rfl
theorem nxn_5 {s:Nx}(h1:(t.kind==5)=true):Wd t s=⟨s.next+1,s.scopes⟩:=by
 have:t.kind=5:=by simpa using h1
 unfold Wd;rw [this];rfl
theorem nxn_10 {s:Nx}(h2:(t.kind==10)=true):Wd t s=⟨s.next+1,s.scopes+1⟩:=by
 have:t.kind=10:=by simpa using h2
 unfold Wd;rw [this];rfl
theorem zY {s:Nx}(h3:(t.kind==11)=true):Wd t s=⟨s.next,s.scopes+1⟩:=by
 have:t.kind=11:=by simpa using h3
 unfold Wd;rw [this];rfl
theorem zV {s:Nx}(h1:(t.kind==5)=false)(h2:(t.kind==10)=false)(h3:(t.kind==11)=false):Wd t s=s:=by
 unfold Wd;rw [h1,h2,h3];rfl
theorem xH (h1:(t.kind==5)=true):C1 t = []:=if_pos h1
theorem pk_10 (h1:(t.kind==5)=false)(h2:(t.kind==10)=true):C1 t=t.kids.take 1:=by
 unfold C1;rw [Bi h1,h2];rfl
theorem pk_12 (h1:(t.kind==5)=false)(h4:(t.kind==12)=true):C1 t=t.kids.take 1:=by
 unfold C1;rw [Bi h1,h4];simp
theorem pk_o (h1:(t.kind==5)=false)(h2:(t.kind==10)=false)(h4:(t.kind==12)=false):C1 t=t.kids:=by
 unfold C1;rw [Bi h1,h2,h4];rfl
theorem Mx {a:Syn}(h:a∈C1 t):a∈t.kids:=by
 unfold C1 at h;split at h
 · cases h
 split at h
 · exact List.mem_of_mem_take h
 exact h
theorem Ue (hc:Ba t .pats=0){a:Syn}(h:a∈C1 t):Ba a .pats=0:=by
 have h5:t.kind≠5:=fun e=>by rw [xH (by simpa using e)] at h;cases h
 obtain ⟨j,hj⟩:=lI.1 h;unfold C1 at hj;rw [if_neg (by simpa using h5)] at hj;split at hj
 ·
  rename_i hq;have hj0:j=0:=by have:=(List.getElem?_eq_some_iff.1 hj).1;simp at this;omega
  subst hj0;rw [List.getElem?_take_of_lt (by omega)] at hj;exact Mq hc h5 hj fun _=>rfl
 rename_i hq;exact Mq hc h5 hj fun e=>absurd (by simpa using e) hq
theorem T3 (t:Syn):E8 (C1 t)≤E8 t.kids:=by
 unfold C1;split
 · rw [E8];omega
 split
 · exact Vj _ _
 exact C6 _
theorem Aag (ht:Es t):(C1 t).length≤1048576:=by
 have h1:=Rs (C1 t);have h2:=T3 t;have h3:=He ht;rw [E1] at h3;omega
theorem nxn_ok {s:Nx}(h:NxOK s (Fk t)):NxOK (Wd t s) (E8 t.kids)∧s.next≤(Wd t s).next∧s.scopes≤(Wd t s).scopes∧(Wd t s).next≤s.next+1∧(Wd t s).scopes≤s.scopes+1:=by
 obtain ⟨a,b,c,d⟩:=h;rw [E1] at c d;unfold Wd;refine ⟨⟨?_,?_,?_,?_⟩,?_,?_,?_,?_⟩ <;> simp only <;> split <;> omega
theorem zD:∀t:Syn,∀s:Nx,NxOK s (Fk t)→s.next≤(Ih T V t s).2.next∧s.scopes≤(Ih T V t s).2.scopes∧(Ih T V t s).2.next≤s.next+Fk t∧(Ih T V t s).2.scopes≤s.scopes+Fk t:=by
  intro t
  induction t using Syn.ind with
  | h t ih=>
    intro s hs;obtain ⟨h1,h2,h3,h4,h5⟩:=nxn_ok hs;rw [eW,E1]
    have key:∀l:List Syn,(∀a∈l,a∈t.kids)→∀s:Nx,NxOK s (E8 l)→s.next≤(F0 T V l s).2.next∧s.scopes≤(F0 T V l s).2.scopes∧(F0 T V l s).2.next≤s.next+E8 l∧(F0 T V l s).2.scopes≤s.scopes+E8 l:=by
      intro l
      induction l with
      | nil=>intro _ s _;rw [F0];simp only;omega
      | cons x r ih2=>
        intro hl s hs;obtain ⟨a,b,c,d⟩:=hs;rw [Gn] at c d;have hx:=ih x (hl x (by simp)) s ⟨a,b,by omega,by omega⟩;have hr:=ih2 (fun a ha=>hl a (by simp [ha])) (Ih T V x s).2 ⟨by omega,by omega,by omega,by omega⟩;rw [F0,Gn];simp only;omega
    have hp:=T3 t;have hk:=key (C1 t) (fun a ha=>Mx ha) (Wd t s) ⟨h1.a,h1.b,by have:=h1.c;omega,by have:=h1.d;omega⟩;simp only;omega
theorem jG {l:List Syn}{k:Nat}{a:Syn}(h:l[k]? = some a)(s:Nx):F0 T V (l.take (k+1)) s=((F0 T V (l.take k) s).1 ++ [(Ih T V a (F0 T V (l.take k) s).2).1],(Ih T V a (F0 T V (l.take k) s).2).2):=by
 rw [C2 h,iF,F0,F0]
theorem tE {l:List Syn}{k:Nat}{a:Syn}(h:l[k]? = some a):E8 (l.drop k)=Fk a+E8 (l.drop (k+1)):=by rw [Ax h,Gn]
theorem nx_on {l:List Syn}{k:Nat}{a:Syn}(h:l[k]? = some a){s:Nx}(hs:NxOK s (E8 (l.drop k))):NxOK s (Fk a)∧NxOK (Ih T V a s).2 (E8 (l.drop (k+1))):=by
 obtain ⟨x1,x2,x3,x4⟩:=hs;rw [tE h] at x3 x4;have ha:NxOK s (Fk a):=⟨x1,x2,by omega,by omega⟩;have:=zD (T:=T) (V:=V) a s ha;exact ⟨ha,by omega,by omega,by omega,by omega⟩
theorem zT (l:List Pt):∀c∈l.map K8,Bc c=true:=fun c hc=>by
 obtain ⟨x,_,rfl⟩:=M9.1 hc;rw [Ok];rfl
theorem N0 (hw:(D0 T V t).err=0){j:Nat}(h:j<t.kids.length):(D0 T V (Bb t j)).err=0:=(Eb hw).2 _ (B6 (Cp h))
theorem Le (ht:Es t){j:Nat}(h:j<t.kids.length):Es (Bb t j):=C4 ht (B6 (Cp h))
end
end Go.Proofs.YtckhoadldibflaaGreatDoor

namespace Go.Proofs
open Go.Shelf
def Tryz.lays264_ren:Go.Shelf.Ren:=⟨fun | 264=>290 | n=>n,fun | 53=>298 | 46=>271 | n=>n,fun | n=>n⟩
def Tryz.lays212_ren:Go.Shelf.Ren:=⟨fun | 212=>233 | 263=>289 | 264=>290 | n=>n,fun | 46=>271 | 51=>295 | 146=>296 | 53=>298 | 148=>299 | n=>n,fun | n=>n⟩
theorem Tryz.lays212:Go.Proofs.Lays.n212 Tryz.prog Tryz.lays212_ren:={
 mixed:=by kernel_rfl
 f212:=Tryz.func233.trans (congrArg some (by kernel_rfl))
 f263:=Tryz.func289.trans (congrArg some (by kernel_rfl))
 f264:=Tryz.func290.trans (congrArg some (by kernel_rfl))
 t46:=Tryz.underlying271
 a46:=Tryz.isAgg271
 z46:=Tryz.sizeOf271
 v46:=Tryz.zeroValue271
 t51:=Tryz.underlying295
 a51:=Tryz.isAgg295
 z51:=Tryz.sizeOf295
 v51:=Tryz.zeroValue295
 t53:=Tryz.underlying298
 a53:=Tryz.isAgg298
 z53:=Tryz.sizeOf298
 v53:=Tryz.zeroValue298
 t146:=Tryz.underlying296
 a146:=Tryz.isAgg296
 z146:=Tryz.sizeOf296
 v146:=Tryz.zeroValue296
 t148:=Tryz.underlying299
 a148:=Tryz.isAgg299
 z148:=Tryz.sizeOf299
 v148:=Tryz.zeroValue299 }
open Go.RowKit Go.Lib in
theorem Tryz.bits_Mul (x y:Nat)(hx:x<18446744073709551616)(hy:y<18446744073709551616)(w:World) :
 Calls Tryz.prog 233 #[.int .u64 x,.int .u64 y] w fun e w'=>e = .returned (.tuple #[.int .u64 ((x*y / 18446744073709551616:Nat):Int),.int .u64 ((x*y % 18446744073709551616:Nat):Int)])∧w'=w:=Any.bits_Mul Tryz.lays212 x y hx hy w
end Go.Proofs

namespace Go.Proofs.YtckhoadldibflaaGreatDoor
open Go Go.Aw
def ixI (l:List Int)(k:Int):Int:=(l[k.toNat]?).getD 0
def bI (l:List Int):List AV:=l.map (AV.int .i64)
def cI (v:Int):List AV:=[.int .i64 v]
theorem aB (l:List Int):(bI l).length=l.length:=D9 ..
theorem bI_sc (l:List Int):Bc (bI l)=true:=by
 induction l with
 | nil=>rfl
 | cons a r ih=>exact ih
theorem yF (l m:List Int):bI (l++m)=bI l++bI m:=Tq ..
theorem rC (l:List Int)(k:Nat):(bI l).take k=bI (l.take k):=(Uk ..).symm
theorem bI_drop (l:List Int)(k:Nat):(bI l).drop k=bI (l.drop k):=(List.map_drop ..).symm
theorem qW (n:Nat):(List.replicate n [AV.int .i64 0]).flatten=bI (List.replicate n 0):=by
 induction n with
 | zero=>rfl
 | succ n ih=>rw [List.replicate_succ,Cv,ih,List.replicate_succ];rfl
theorem pU (l:List Int):(l.map cI).flatten=bI l:=by
 induction l with
 | nil=>rfl
 | cons a r ih=>rw [E7,Cv,ih];rfl
theorem iB {α:Type}{f:α→List AV}(hf:∀x,(f x).length=1)(l:List α):∀e∈l.map f,e.length=1:=fun e he=>by
 obtain ⟨x,_,rfl⟩:=M9.1 he;exact hf x
theorem gJ:∀{l:List Int} {k:Nat} {v:Int},k<l.length→Ia (bI l) k [AV.int .i64 v]=bI (l.set k v)
  | [],k,v,h=>absurd h (by simp)
  | a::r,0,v,h=>by simp [Ia,bI]
  | a::r,k+1,v,h=>by
    have ih:=gJ (l:=r) (k:=k) (v:=v) (by simpa using h);show AV.int .i64 a::Ia (bI r) k [AV.int .i64 v]=_;rw [ih];rfl
theorem wT (n:Nat):0+n*1=n:=by omega
theorem gA {l:List Int}{k:Nat}(h:k<l.length):Nat.ble (k+1) (bI l).length=true:=Nat.ble_eq_true_of_le (by rw [aB];omega)

def aX (n:Nat):List Int:=List.replicate n (-1)
def Jh (n k:Nat):List Int:=List.replicate k (-1)++List.replicate (n-k) 0
theorem Qd {n k:Nat}(h:k≤n):(Jh n k).length=n:=by unfold Jh;simp;omega
theorem cU (n:Nat):Jh n n=aX n:=by unfold Jh aX;simp
theorem sU {n k m:Nat}(hk:k+m≤n)(hm:m≤k):Ia (bI (Jh n k)) k (((bI (Jh n k)).drop 0).take m)=bI (Jh n (k+m)):=by
 rw [Sj,rC]
 have h1:(Jh n k).take m=List.replicate m (-1):=by
  unfold Jh;rw [List.take_append_of_le_length (by rw [gB];exact hm),List.take_replicate,Nat.min_eq_left hm]
 have h2:(Jh n k).take k=List.replicate k (-1):=by
  unfold Jh;rw [List.take_append_of_le_length (by rw [gB];omega),List.take_replicate,Nat.min_self]
 have h3:(Jh n k).drop (k+m)=List.replicate (n-(k+m)) 0:=by
  unfold Jh;rw [List.drop_append,gB,List.drop_of_length_le (by rw [gB];omega),J4,List.drop_replicate]
  congr 1;omega
 unfold Ia;rw [h1,aB,gB,rC,bI_drop,h2,h3,←yF,←yF]
 congr 1
 unfold Jh;rw [List.replicate_append_replicate]
theorem oQ {n:Nat}(hn:0<n):Ia (bI (Jh n 0)) 0 ((([[AV.int .i64 (-1)]]:List (List AV)).flatten).take 1)=bI (Jh n 1):=by
 unfold Jh;obtain ⟨m,rfl⟩:∃m,n=m+1:=⟨n-1,by omega⟩;simp [Ia,bI,List.replicate_succ]
theorem kMul (x y:Nat)(hx:x<18446744073709551616)(hy:y<18446744073709551616):An Tryz.prog 233 [.int .u64 (x:Int),.int .u64 (y:Int)] (.tuple [.int .u64 ((x*y / 18446744073709551616:Nat):Int),.int .u64 ((x*y % 18446744073709551616:Nat):Int)]):=
 .of_same fun g w vs hg ha=>by
  obtain ⟨u,v,rfl,h1,h2⟩:=ha.inv2;have e1:=h1.inv_int;have e2:=h2.inv_int;subst e1 e2
  exact ⟨_,fun g' w'=>.tuple _ _ rfl (fun i c hc=>by
   match i,hc with
   | 0,hc=>cases hc;exact .int _ _
   | 1,hc=>cases hc;exact .int _ _
   | i+2,hc=>simp at hc),Tryz.bits_Mul x y hx hy w⟩
theorem kMul1 (n:Nat)(hn:n≤1048576):An Tryz.prog 233 [.int .u64 1,.int .u64 (n:Int)] (.tuple [.int .u64 0,.int .u64 (n:Int)]):=by
 have h:=kMul 1 n (by decide) (by omega);rw [Nat.one_mul,Nat.div_eq_of_lt (by omega),Nat.mod_eq_of_lt (by omega)] at h;exact h
theorem u64_in {n:Nat}(h:n≤1048576):IntKind.wrap .u64 (n:Int)=(n:Int):=by
 unfold IntKind.wrap;simp [IntKind.bits,IntKind.signed];omega
theorem i64_in {n:Nat}(h:n≤1048576):IntKind.wrap .i64 (n:Int)=(n:Int):=IntWalk.i64_in _ (by omega)
theorem dM {l:List Int}{k:Nat}{v:Int}(h:k<l.length):(bI (l.set k v))[k]? = some (.int .i64 v):=by
 unfold bI;rw [List.getElem?_map,List.getElem?_set_self h];rfl
section
variable {T:List e8Sc} {n:A1} {va:Va} {sc:e8Sc}
theorem oZ {l:List Va}{k:Nat}{out:List Int}(h:l[k]? = some va)(hs:T[va.type.toNat]? = some sc)(hq:decide (Gj sc n<0)=true):W0 T n (l.drop k) out=([],false):=by
 rw [Ax h,W0,hs];exact if_pos hq
theorem wM {l:List Va}{k:Nat}{out:List Int}(h:l[k]? = some va)(hs:T[va.type.toNat]? = some sc)(hq:decide (Gj sc n<0)=false):W0 T n (l.drop k) out=W0 T n (l.drop (k+1)) (out.set va.type.toNat (Gj sc n)):=by
 rw [Ax h,W0,hs];exact Bi hq
end
end Go.Proofs.YtckhoadldibflaaGreatDoor

namespace Go.Aw
open Go
section
variable {P:Program} {T:List (Nat×TD)} {d:Option Nat} {ty:TypeId} {pos:String} {aft:Array Edge} {gd:Option (Nat×Bool)} {ρ:Operand→AV} {K:List HO→Prop}
theorem Nu {i:Operand}{t e len:Nat}{td te:TD}{k:IntKind}{n:Int}{gl:Nat}{l cs':List AV}(hT:H5 P T)(hg:∃c,(gl,c)∈globals∧∀cs,c cs→cs=l)(hi:ρ i = .int k n)(ht:Br T t=some td)(hk:td.kind = .array len e)
  (hte:Br T e=some te) (h0:0≤n) (hc:n<len) (ho:l.drop (n.toNat*te.size)=cs') (hρ:ρ (.global gl) = .val (.pointer (some ⟨gl,0,none⟩))):Cz P ⟨d,.indexAddr t (.global gl) i,ty,pos,aft,gd⟩ ρ K (.ptr cs'):=by
 intro g w a H next Q hr hH hK hn
 obtain ⟨c,hc',hcl⟩:=hg;obtain ⟨cs,h1,h2⟩:=hH.glob.vars _ hc';obtain rfl:=hcl cs h1;obtain ⟨b,o,he,fv,h3,h4⟩:=h2.inv_ptr;simp only [Value.pointer.injEq,Option.some.injEq,Addr.mk.injEq,and_true] at he;obtain ⟨rfl,rfl⟩:=he;have he:=(hρ▸hr (.global gl) (by simp [Op.operands]):Rep g w _ _).inv_val;have h5:=(hi▸hr i (by simp [Op.operands]):Rep g w _ _).inv_int;have hu:=Lr (hT t td ht) hk
 have hrun:(execOp a.eval ⟨d,.indexAddr t (.global gl) i,ty,pos,aft,gd⟩).run P w = .ok (.value (.pointer (some ⟨gl,0+n.toNat*te.size,none⟩))) w:=by
  simp only [execOp,he,h5,Instr.indexAt,asIntOf,Sem.run_bind,Sem.run_pure,Result.andThen_ok,Bd hu,Instr.sureAddr];simp [h0,hc,Fc (hT e te hte),Fl]
 unfold Oper.wp;rw [hrun];subst ho;refine hn g w _ (.ptr gl (0+n.toNat*te.size) _ (fun j=>fv (n.toNat*te.size+j)) (fun j x hj=>?_) (fun j x hj=>?_)) hH (Ext.refl g w)
 ·
  rw [List.getElem?_drop] at hj;have:=h3 (n.toNat*te.size+j) x hj
  rwa [Nat.add_assoc]
 rw [List.getElem?_drop] at hj;exact h4 (n.toNat*te.size+j) x hj
end
end Go.Aw
namespace Go.Proofs.YtckhoadldibflaaGreatDoor
open Go Go.Aw

mutual
def F2:Pt→List Pt
 | ⟨o,xs,t,v,s,n,c⟩=>⟨o,xs,t,v,s,n,c⟩::zG xs
def zG:List Pt→List Pt
 | []=>[]
 | a::r=>F2 a++zG r
end
theorem lW:∀l:List Pt,zG l=l.flatMap F2
 | []=>by rw [zG];rfl
 | a::r=>by rw [zG,lW r,bL]
theorem Rm (p:Pt):F2 p=p::p.args.flatMap F2:=by cases p;rw [F2,lW]
mutual
def Z8:Pt→Nat
 | ⟨_,xs,_,_,_,_,_⟩=>Tj xs+1
def Tj:List Pt→Nat
 | []=>0
 | a::r=>max (Z8 a) (Tj r)
end
theorem Z0 (p:Pt):Z8 p=Tj p.args+1:=by cases p;rw [Z8]
theorem Wf:∀(l:List Pt) (a:Pt),Tj (l ++ [a])=max (Tj l) (Z8 a)
 | [],a=>by simp [Tj]
 | x::r,a=>by rw [Kv,Tj,Wf r a,Tj];omega
theorem dp_le:∀p:Pt,Z8 p≤Gr p:=by
  intro p
  induction p using Pt.ind with
  | h p ih=>
    rw [Z0,Ix]
    have:∀l:List Pt,(∀a∈l,Z8 a≤Gr a)→Tj l≤(l.map Gr).sum:=by
      intro l
      induction l with
      | nil=>intro _;rw [Tj];simp
      | cons x r ih2=>intro h;rw [Tj,E7,J3];have:=h x (by simp);have:=ih2 fun a ha=>h a (by simp [ha]);omega
    have:=this _ ih;omega
theorem P6 {p a:Pt}(h:a∈p.args):Gr a<Gr p:=by
  rw [Ix p]
  have:∀l:List Pt,a∈l→Gr a≤(l.map Gr).sum:=by
    intro l
    induction l with
    | nil=>intro h;cases h
    | cons x r ih => intro h; rw [E7, J3]; rcases Hp.1 h with rfl | h
                     · omega
                     have:=ih h;omega
  have:=this _ h;omega
theorem Mw (p:Pt):p.args.length<Gr p:=by
  rw [Ix]
  have:∀l:List Pt,l.length≤(l.map Gr).sum:=by
    intro l
    induction l with
    | nil=>simp
    | cons x r ih => rw [Cj, E7, J3]; have : 1 ≤ Gr x := by rw [Ix]; omega
                     omega
  have:=this p.args;omega
theorem oY:∀(l:List Pt) (k:Nat),((l.take k).map Gr).sum≤(l.map Gr).sum
 | [],k=>by simp
 | x::r,0=>by simp
 | x::r,k+1=>by rw [lE,E7,E7,J3,J3];have:=oY r k;omega
theorem fH:∀p:Pt,(F2 p).length=Gr p:=by
  intro p
  induction p using Pt.ind with
  | h p ih=>
    rw [Rm,Ix,Cj]
    have:∀l:List Pt,(∀a∈l,(F2 a).length=Gr a)→(l.flatMap F2).length=(l.map Gr).sum:=by
      intro l
      induction l with
      | nil=>intro _;rfl
      | cons x r ih2=>intro h;rw [bL,Cb,E7,J3,h x (by simp),ih2 fun a ha=>h a (by simp [ha])]
    rw [this _ ih]
theorem nd_mem {p a q:Pt}(h:a∈p.args)(hq:q∈F2 a):q∈F2 p:=by
 rw [Rm];exact Pv _ (List.mem_flatMap.2 ⟨a,h,hq⟩)
theorem qZ (p:Pt):p∈F2 p:=by rw [Rm];exact So ..
theorem Um {l:List Pt}{k:Nat}{a:Pt}(h:l[k]? = some a):(l.map K8)[k]? = some (cPt a):=by rw [List.getElem?_map,h];exact congrArg some (Ok a)

structure Shp where
 least:Int
 most:Int
 typed:Bool
 cond:Bool
 scope:Bool
 span:Bool
def cShp (s:Shp):List AV:=[.int .i64 s.least,.int .i64 s.most,.bool s.typed,.bool s.cond,.bool s.scope,.bool s.span]
def shpL:List Shp:=[⟨0,0,true,true,false,false⟩,⟨2,64,false,false,false,false⟩,⟨2,64,false,false,false,false⟩,⟨2,64,false,false,false,false⟩,⟨1,1,false,false,false,false⟩,⟨1,1,true,true,true,false⟩,⟨1,1,false,false,true,true⟩,⟨1,1,false,true,false,false⟩,⟨2,2,false,false,false,false⟩,⟨1,1,true,true,true,false⟩,⟨1,1,false,false,true,true⟩]
def M1 (o:Int):Shp:=(shpL[o.toNat]?).getD ⟨0,0,false,false,false,false⟩
theorem wN {o:Int}(h0:0≤o)(h1:o<11):∃rest,Tb.drop (o.toNat*6)=cShp (M1 o)++rest:=by
 have:o=0∨o=1∨o=2∨o=3∨o=4∨o=5∨o=6∨o=7∨o=8∨o=9∨o=10:=by omega
 rcases this with rfl | rfl | rfl | rfl | rfl | rfl | rfl | rfl | rfl | rfl | rfl <;> exact ⟨_,rfl⟩
def wth (u:Bool)(n m:Int):Bool:=!u||(decide (0≤n)&&decide (n≤m))
def unu (u:Bool)(n:Int):Bool:=u||(n==0)
def ckB (p:Pt)(s:Shp):Bool:=(((!wth s.typed p.type 15) || !wth s.typed p.var 15) || !wth s.scope p.scope 63) || !wth s.span p.span 1099511627776
def ckU (p:Pt)(s:Shp):Bool:=(((((!s.cond) && !Gs p.cond Ps) || !unu s.typed p.type) || !unu s.typed p.var) || !unu s.scope p.scope) || !unu s.span p.span
def ckR (p:Pt)(s:Shp):Int:=
 if decide ((p.args.length:Int)<s.least)||decide (s.most<(p.args.length:Int)) then 15
 else if ckB p s then 2
 else if s.cond&&(De p.cond != 0) then De p.cond
 else if ckU p s then 3 else 0
def X5 (p:Pt):Int:=if decide (p.op<0)||decide (11≤p.op) then 1 else ckR p (M1 p.op)
section
variable {p:Pt}
theorem ck_1 (h:(decide (p.op<0)||decide (11≤p.op))=true):X5 p=1:=if_pos h
theorem ck_2 (h:(decide (p.op<0)||decide (11≤p.op))=false)(h2:(decide ((p.args.length:Int)<(M1 p.op).least)||decide ((M1 p.op).most<(p.args.length:Int)))=true):X5 p=15:=(Bi h).trans (if_pos h2)
theorem ck_3 (h:(decide (p.op<0)||decide (11≤p.op))=false)(h2:(decide ((p.args.length:Int)<(M1 p.op).least)||decide ((M1 p.op).most<(p.args.length:Int)))=false)(h3:ckB p (M1 p.op)=true):X5 p=2:=(Bi h).trans ((Bi h2).trans (if_pos h3))
theorem ck_4 (h:(decide (p.op<0)||decide (11≤p.op))=false)(h2:(decide ((p.args.length:Int)<(M1 p.op).least)||decide ((M1 p.op).most<(p.args.length:Int)))=false)(h3:ckB p (M1 p.op)=false)(h4:(M1 p.op).cond=true)(h5:(De p.cond != 0)=true):X5 p=De p.cond:=by
 refine (Bi h).trans ((Bi h2).trans ((Bi h3).trans (if_pos ?_)));rw [h4,h5];rfl
theorem ck_n (h:(decide (p.op<0)||decide (11≤p.op))=false)(h2:(decide ((p.args.length:Int)<(M1 p.op).least)||decide ((M1 p.op).most<(p.args.length:Int)))=false)(h3:ckB p (M1 p.op)=false)(h4:((M1 p.op).cond&&(De p.cond != 0))=false):X5 p=if ckU p (M1 p.op) then 3 else 0:=(Bi h).trans ((Bi h2).trans ((Bi h3).trans (Bi h4)))
end

def J7 (p:Pt):Int:=if decide ((64:Int)<(Gr p:Int)) then 5 else if decide ((12:Int)<(Z8 p:Int)) then 12 else B3 X5 (F2 p)
def Ph (p:Pt):Int:=if (J7 p != 0) then J7 p else if (F2 p).any (fun q=>decide (8≤q.op)) then 1 else 0
structure Cnt where
 vars:Int
 scopes:Int
 ok:Bool
def Il (c:Cnt)(q:Pt):Cnt:=
 ⟨if (M1 q.op).typed then c.vars+1 else c.vars,if (M1 q.op).scope then c.scopes+1 else c.scopes,(c.ok&&(!(M1 q.op).typed||(q.var==c.vars)))&&(!(M1 q.op).scope||(q.scope==c.scopes))⟩
def Nj (p:Pt):Cnt:=(F2 p).foldl Il ⟨0,0,true⟩
def Pc (p:Pt):Int:=if (Ph p != 0) then Ph p else if !(Nj p).ok then 14 else 0

section
variable {S:Type} (live:S→Bool) (step:S→Pt→S)
def Qv:S→List Pt→S
 | s,[]=>s
 | s,p::r=>if live s then Qv (step s p) r else s
theorem Ut {s:S}(h:live s=false):∀l,Qv live step s l=s
 | []=>rfl
 | p::r=>by rw [Qv,if_neg (by rw [h];decide)]
theorem fM:∀(l m:List Pt) (s:S),Qv live step s (l++m)=Qv live step (Qv live step s l) m
  | [],m,s=>rfl
  | p::r,m,s=>by
    rw [Kv,Qv,Qv];cases h:live s with
    | true=>rw [if_pos rfl,if_pos rfl];exact fM r m _
    | false=>rw [if_neg (by decide),if_neg (by decide),Ut live step h]
theorem mB {s:S}(hs:live s=true)(p:Pt):Qv live step s (F2 p)=Qv live step (step s p) (p.args.flatMap F2):=by
 rw [Rm,Qv,if_pos hs]
theorem cW {Good:S→Nat→Prop}(hmo:∀s n m,Good s n→m≤n→Good s m)(hgo:∀s q n,Good s (n+1)→Good (step s q) n):∀(l:List Pt) (s:S) (m:Nat),Good s (l.length+m)→Good (Qv live step s l) m
  | [],s,m,h=>by rw [Qv];simpa using h
  | p::r,s,m,h=>by
    rw [Qv];cases hl:live s with
    | false=>rw [if_neg (by decide)];exact hmo _ _ _ h (by omega)
    | true=>
      rw [if_pos rfl];exact cW hmo hgo r _ m (hgo _ _ _ (by rw [Cj] at h;rw [show r.length+m+1=r.length+1+m by omega];exact h))
theorem goY_stop {s:S}(hs:live s=true){p:Pt}(h:live (step s p)=false):Qv live step s (F2 p)=step s p:=by
 rw [mB live step hs,Ut live step h]
theorem Zi {s:S}{l:List Pt}{k:Nat}{a:Pt}(h:l[k]? = some a):Qv live step s ((l.take (k+1)).flatMap F2)=Qv live step (Qv live step s ((l.take k).flatMap F2)) (F2 a):=by
 rw [C2 h,List.flatMap_append,fM];simp
theorem goY_cut {s:S}{l:List Pt}{k:Nat}{a:Pt}(h:l[k]? = some a)(hd:live (Qv live step s ((l.take (k+1)).flatMap F2))=false):Qv live step s (l.flatMap F2)=Qv live step s ((l.take (k+1)).flatMap F2):=by
 conv=>lhs;rw [←List.take_append_drop (k+1) l,List.flatMap_append,fM]
 rw [Ut live step hd]
end
end Go.Proofs.YtckhoadldibflaaGreatDoor
