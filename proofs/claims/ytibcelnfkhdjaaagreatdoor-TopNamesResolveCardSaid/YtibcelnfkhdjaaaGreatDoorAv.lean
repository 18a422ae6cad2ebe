/-
  The abstract layer: abstract values, what represents them, states, operations, code, calls. No condition.
-/
import Derived.Orders
import Derived.RowKit3
import Derived.Laws.AppendOwn
import Derived.Laws.CopyRow
import Derived.IntWalk
import Derived.Laws.Strings
import Derived.Laws.StructEq
import Derived.Laws.Tables
import Derived.Carry
import Derived.ChangeArms
import Derived.ChangeSame
import Derived.OpenShut
import Derived.Laws.MakeOwn
import Derived.Laws.IdiomStrings
import Derived.Below
import Derived.Lib.Builder
import Derived.Lib.UnsafeStr
import Derived.Lib.AppendStr
import Derived.Laws.Externs
set_option linter.unusedVariables false
set_option linter.unusedSimpArgs false
namespace Go.Aw
abbrev Aj:=@List.mem_of_getElem?
abbrev Al:=@Bool.false_eq_true
abbrev Ao:=@List.length_append
abbrev A1:=@List.length_cons
abbrev A5:=@Bool.not_eq_true'
abbrev A7:=@Nat.zero_le
abbrev Be:=@List.map_cons
abbrev Bg:=@Bool.not_eq_false'
abbrev Bi:=@List.length_nil
abbrev Bk:=@Bool.not_false
abbrev Av:=@Bool.not_true
abbrev A3:=@List.append_nil
abbrev Bc:=@Nat.le_refl
abbrev Bd:=@List.flatten_cons
abbrev Bs:=@List.flatten_nil
abbrev Bw:=@List.map_nil
abbrev By:=@List.length_map
abbrev B9:=@Nat.le_of_ble_eq_true
abbrev Cn:=@List.mem_cons
abbrev Ct:=@Array.getD_eq_getD_getElem?
abbrev Cy:=@Bool.and_eq_true
abbrev C4:=@List.length_drop
abbrev C6:=@of_decide_eq_true
abbrev C9:=@List.mem_map
abbrev Da:=@Bool.and_true
abbrev Df:=@List.length_take
abbrev Dn:=@List.cons_append
abbrev Do:=@Nat.zero_add
abbrev Du:=@List.nil_append
abbrev Dy:=@List.append_assoc
abbrev D2:=@List.length_singleton
abbrev D6:=@Nat.eq_of_beq_eq_true
abbrev Ea:=@decide_eq_true_eq
abbrev Ep:=@List.mem_singleton
abbrev Oe:=@Bool.eq_false_iff
abbrev Er:=@of_decide_eq_false
abbrev E5:=@List.map_append
abbrev E6:=@List.getD_eq_getElem?_getD
abbrev E7:=@Nat.le_trans
abbrev Fj:=@Bool.true_and
abbrev Fr:=@Int.le_refl
abbrev Fs:=@beq_eq_false_iff_ne
abbrev Ft:=@Bool.or_eq_false_iff
abbrev Gc:=@decide_eq_true
abbrev Gd:=@List.mem_append
abbrev Ha:=@List.mem_cons_of_mem
abbrev Ht:=@List.all_eq_true
abbrev Hu:=@List.sum_cons
abbrev Hv:=@Option.map_some
abbrev Hw:=@Nat.mul_le_mul_right
abbrev Ii:=@Bool.or_eq_true
abbrev Ij:=@Nat.add_mul
abbrev I5:=@decide_eq_false
abbrev I6:=@decide_eq_false_iff_not
abbrev I7:=@List.mem_cons_self
abbrev I8:=@List.size_toArray
abbrev Jo:=@List.nodup_append
abbrev Jp:=@List.mem_iff_getElem?
abbrev Jq:=@List.mem_filter
abbrev Jr:=@List.nodup_cons
abbrev Ke:=@Bool.false_or
abbrev Kf:=@List.flatMap_cons
abbrev K9:=@List.mem_range
abbrev Lz:=@List.all_cons
abbrev L0:=@List.any_cons
abbrev L2:=@List.length_replicate
abbrev L3:=@Array.size_append
abbrev L4:=@List.drop_eq_getElem_cons
abbrev L5:=@List.filterMap_cons
abbrev Mt:=@Bool.false_and
abbrev Mu:=@List.take_length
abbrev Of:=@List.nodup_nil
abbrev Og:=@List.not_mem_nil
abbrev Oh:=@Nat.lt_or_ge
abbrev Oi:=@List.drop_zero
abbrev Oj:=@Bool.and_false
abbrev Pn:=@Bool.or_false
abbrev Po:=@List.take_append_drop
abbrev Pp:=@Array.toList_inj
abbrev Sq:=@Int.toNat_natCast
abbrev Sr:=@List.length_set
abbrev Ss:=@List.drop_eq_nil_of_le
abbrev Su:=@List.length_pos_of_mem
abbrev Sv:=@List.take_of_length_le
abbrev Ua:=@List.filter_cons
abbrev Ub:=@List.getElem_mem
abbrev Uc:=@List.ext_getElem?
abbrev Ud:=@Option.isSome_iff_exists
abbrev Ue:=@List.take_succ_cons
abbrev Uf:=@List.flatMap_append
abbrev Ug:=@List.mem_filterMap
abbrev Wy:=@List.map_singleton
abbrev Wz:=@Option.map_eq_some_iff
abbrev W0:=@Array.length_toList
abbrev Z6:=@List.isPrefixOf_iff_prefix
abbrev Z7:=@Array.foldl_toList
abbrev Z8:=@List.eraseIdx_sublist
abbrev Z9:=@List.mem_append_right
abbrev aA:=@List.replicate_succ
abbrev aB:=@List.flatten_append
abbrev Vb:=@Nat.lt_of_lt_of_le
abbrev Ym:=@Nat.lt_succ_iff_lt_or_eq
abbrev bT:=@List.take_append_of_le_length

inductive AV where
 | junk
 | bool (b:Bool)
 | int (k:IntKind) (n:Int)
 | str (s:List UInt8)
 | agg (cs:List AV)
 | tuple (vs:List AV)
 | sl (z:Nat) (es:List (List AV))
 | row (v:Value) (z:Nat) (es:List (List AV))
 | ptr (cs:List AV)
 | val (v:Value)
 | fn (f:Fn) (first captured:List AV)
 | mapv (es:List (Int×AV))
 | smapv (es:List (List UInt8×AV))
 | opt (G:List (Bool×Bool)) (x:AV)

instance:Inhabited AV:=⟨.junk⟩

abbrev Gh:=Nat->Option Nat

def D4 (g:Gh)(b o:Nat):Prop:=match g b with | none=>True | some n=>o<n

inductive Rep (g:Gh) (w:World):Value->AV->Prop where
 | junk (v:Value):Rep g w v .junk
 | bool (b:Bool):Rep g w (.bool b) (.bool b)
 | int (k:IntKind) (n:Int):Rep g w (.int k n) (.int k n)
 | str (b:ByteArray) (s:List UInt8) (h:b.data.toList=s) (hm:s.length<=maxLen):Rep g w (.string b) (.str s)
 | agg (vs:Array Value) (cs:List AV) (h:vs.size=cs.length) (hc:∀i x,cs[i]? = some x->Rep g w (vs.getD i undef) x):Rep g w (.agg vs) (.agg cs)
 | tuple (vs:Array Value) (cs:List AV) (h:vs.size=cs.length) (hc:∀i x,cs[i]? = some x->Rep g w (vs.getD i undef) x):Rep g w (.tuple vs) (.tuple cs)
 | sl0 (a:Option Addr) (cap:Nat) (z:Nat) (hm:cap<=maxLen):Rep g w (.slice a 0 cap) (.sl z [])
 | sl (b o n cap:Nat) (z:Nat) (es:List (List AV)) (hn:n=es.length) (hc:n<=cap) (hm:cap<=maxLen) (hz:∀e∈es,e.length=z) (f:Nat->Nat->Value)
  (hs:∀i e,es[i]? = some e->∀j x,e[j]? = some x->D4 g b (o+i*z+j)/\w.cell? ⟨b,o+i*z+j,none⟩=some (f i j))
  (hr:∀i e,es[i]? = some e->∀j x,e[j]? = some x->Rep g w (f i j) x):Rep g w (.slice (some ⟨b,o,none⟩) n cap) (.sl z es)
 | row (v:Value) (z:Nat) (es:List (List AV)) (h:Rep g w v (.sl z es)):Rep g w v (.row v z es)
 | ptr (b o:Nat) (cs:List AV) (f:Nat->Value)
  (hs:∀j x,cs[j]? = some x->D4 g b (o+j)/\w.cell? ⟨b,o+j,none⟩=some (f j))
  (hr:∀j x,cs[j]? = some x->Rep g w (f j) x):Rep g w (.pointer (some ⟨b,o,none⟩)) (.ptr cs)
 | val (v:Value):Rep g w v (.val v)
 | fn (f:Fn) (vs us:Array Value) (cs ds:List AV) (h:vs.size=cs.length) (hc:∀i x,cs[i]? = some x->Rep g w (vs.getD i undef) x)
  (h':us.size=ds.length) (hc':∀i x,ds[i]? = some x->Rep g w (us.getD i undef) x):Rep g w (.func f vs us) (.fn f cs ds)
 | mapv (b:Nat) (ms:Array MapEntry) (clock:Nat) (es:List (Int×AV)) (hg:g b=none) (hb:b<w.heap.size) (hh:w.heap[b]? = some (.map ms clock)) (hl:ms.size=es.length)
  (hk:∀i k x,es[i]? = some (k,x)->(ms.getD i default).key = .int .i64 k)
  (hv:∀i k x,es[i]? = some (k,x)->Rep g w (ms.getD i default).val x):Rep g w (.map (some b)) (.mapv es)
 | smapv (b:Nat) (ms:Array MapEntry) (clock:Nat) (es:List (List UInt8×AV)) (hg:g b=none) (hb:b<w.heap.size) (hh:w.heap[b]? = some (.map ms clock)) (hl:ms.size=es.length)
  (hk:∀i k x,es[i]? = some (k,x)->(ms.getD i default).key = .string ⟨k.toArray⟩)
  (hv:∀i k x,es[i]? = some (k,x)->Rep g w (ms.getD i default).val x):Rep g w (.map (some b)) (.smapv es)
 | opt (v:Value) (G:List (Bool×Bool)) (x:AV) (h:(∀p∈G,p.1=p.2)->Rep g w v x) (h':¬(∀p∈G,p.1=p.2)->v=undef):Rep g w v (.opt G x)

structure Ext (g:Gh) (w:World) (g':Gh) (w':World):Prop where
 os:w'.os=w.os
 tape:w'.tape=w.tape
 output:w'.output=w.output
 size:w.heap.size<=w'.heap.size
 full:∀b,b<w.heap.size->g b=none->g' b=none/\w'.heap[b]? = w.heap[b]?
 part:∀b n,b<w.heap.size->g b=some n->(∀m,g' b=some m->n<=m)/\∀o,o<n->w'.cell? ⟨b,o,none⟩=w.cell? ⟨b,o,none⟩

theorem Ext.refl (g:Gh)(w:World):Ext g w g w:=
 ⟨rfl,rfl,rfl,Bc _,fun _ _ h=>⟨h,rfl⟩,fun _ _ _ h=>⟨fun m hm=>(by rw [h] at hm;cases hm;exact Bc _),fun _ _=>rfl⟩⟩

theorem Ext.trans {g g' g'':Gh}{w w' w'':World}(h:Ext g w g' w')(k:Ext g' w' g'' w''):Ext g w g'' w'':=by
  refine ⟨k.os.trans h.os,k.tape.trans h.tape,k.output.trans h.output,E7 h.size k.size,?_,?_⟩
  . intro b hb hg
    obtain ⟨h1,h2⟩:=h.full b hb hg;obtain ⟨k1,k2⟩:=k.full b (Vb hb h.size) h1;exact ⟨k1,k2.trans h2⟩
  . intro b n hb hg
    obtain ⟨h1,h2⟩:=h.part b n hb hg;have hb':=Vb hb h.size;cases hg':g' b with
    | none=>
      obtain ⟨k1,k2⟩:=k.full b hb' hg';refine ⟨fun m hm=>(by rw [k1] at hm;cases hm),fun o ho=>?_⟩;rw [<-h2 o ho];unfold World.cell?;simp only [k2]
    | some m'=>
      obtain ⟨k1,k2⟩:=k.part b m' hb' hg';have:=h1 m' hg';exact ⟨fun m hm=>E7 this (k1 m hm),fun o ho=>(k2 o (Vb ho this)).trans (h2 o ho)⟩

theorem Ext.cell {g g':Gh}{w w':World}(h:Ext g w g' w'){b o:Nat}{v:Value}(hs:D4 g b o)(hc:w.cell? ⟨b,o,none⟩=some v) :
    D4 g' b o/\w'.cell? ⟨b,o,none⟩=some v:=by
  have hb:b<w.heap.size:=World.block_lt_of_cell? _ _ hc;unfold D4 at hs ⊢;cases hg:g b with
  | none=>
    obtain ⟨h1,h2⟩:=h.full b hb hg;simp only [h1,true_and];rw [<-hc];unfold World.cell?;simp only [h2]
  | some n=>
    simp only [hg] at hs;obtain ⟨h1,h2⟩:=h.part b n hb hg;refine ⟨?_,by rw [h2 o hs];exact hc⟩;cases hg':g' b with
    | none=>trivial
    | some m=>exact Vb hs (h1 m hg')

theorem Rep.mono {g g':Gh}{w w':World}(h:Ext g w g' w'){v:Value}{x:AV}(r:Rep g w v x):Rep g' w' v x:=by
  induction r with
  | junk v=>exact .junk v
  | bool b=>exact .bool b
  | int k n=>exact .int k n
  | str b s e hm=>exact .str b s e hm
  | agg vs cs e _ ih=>exact .agg vs cs e ih
  | tuple vs cs e _ ih=>exact .tuple vs cs e ih
  | sl0 a cap z hm=>exact .sl0 a cap z hm
  | sl b o n cap z es hn hc hm hz f hs _ ih=>
    exact .sl b o n cap z es hn hc hm hz f (fun i e hi j x hj=>h.cell (hs i e hi j x hj).1 (hs i e hi j x hj).2) ih
  | row v z es _ ih=>exact .row v z es ih
  | ptr b o cs f hs _ ih=>exact .ptr b o cs f (fun j x hj=>h.cell (hs j x hj).1 (hs j x hj).2) ih
  | val v=>exact .val v
  | fn f vs us cs ds e _ e' _ ih ih'=>exact .fn f vs us cs ds e ih e' ih'
  | mapv b ms clock es hg hb hh hl hk _ ih=>
    obtain ⟨h1,h2⟩:=h.full b hb hg;exact .mapv b ms clock es h1 (Vb hb h.size) (h2.trans hh) hl hk ih
  | smapv b ms clock es hg hb hh hl hk _ ih=>
    obtain ⟨h1,h2⟩:=h.full b hb hg;exact .smapv b ms clock es h1 (Vb hb h.size) (h2.trans hh) hl hk ih
  | opt v G x _ h' ih=>exact .opt v G x ih h'

def Di (g:Gh)(w:World)(vs:Array Value)(cs:List AV):Prop:=vs.size=cs.length/\∀i x,cs[i]? = some x->Rep g w (vs.getD i undef) x

theorem Di.mono {g g':Gh}{w w':World}(h:Ext g w g' w'){vs:Array Value}{cs:List AV}(r:Di g w vs cs):Di g' w' vs cs:=
 ⟨r.1,fun i x hi=>(r.2 i x hi).mono h⟩

theorem Rep.inv_bool {g:Gh}{w:World}{v:Value}{b:Bool}(r:Rep g w v (.bool b)):v = .bool b:=by cases r;rfl
theorem Rep.inv_int {g:Gh}{w:World}{v:Value}{k:IntKind}{n:Int}(r:Rep g w v (.int k n)):v = .int k n:=by cases r;rfl
theorem Rep.inv_val {g:Gh}{w:World}{v u:Value}(r:Rep g w v (.val u)):v=u:=by cases r;rfl
theorem Rep.inv_str {g:Gh}{w:World}{v:Value}{s:List UInt8}(r:Rep g w v (.str s)):v = .string ⟨s.toArray⟩/\s.length<=maxLen:=by
 cases r with | str b _ h hm=>subst h;exact ⟨rfl,hm⟩
theorem Rep.inv_agg {g:Gh}{w:World}{v:Value}{cs:List AV}(r:Rep g w v (.agg cs)):∃vs,v = .agg vs/\Di g w vs cs:=by
 cases r with | agg vs _ h hc=>exact ⟨vs,rfl,h,hc⟩
theorem Rep.inv_tuple {g:Gh}{w:World}{v:Value}{cs:List AV}(r:Rep g w v (.tuple cs)):∃vs,v = .tuple vs/\Di g w vs cs:=by
 cases r with | tuple vs _ h hc=>exact ⟨vs,rfl,h,hc⟩
theorem Rep.inv_fn {g:Gh}{w:World}{v:Value}{f:Fn}{cs ds:List AV}(r:Rep g w v (.fn f cs ds)):∃vs us,v = .func f vs us/\Di g w vs cs/\Di g w us ds:=by
 cases r with | fn _ vs us _ _ h hc h' hc'=>exact ⟨vs,us,rfl,⟨h,hc⟩,h',hc'⟩
theorem Rep.inv_row {g:Gh}{w:World}{v u:Value}{z:Nat}{es:List (List AV)}(r:Rep g w v (.row u z es)):v=u/\Rep g w v (.sl z es):=by
 cases r with | row _ _ _ h=>exact ⟨rfl,h⟩
theorem Rep.inv_sl {g:Gh}{w:World}{v:Value}{z:Nat}{es:List (List AV)}(r:Rep g w v (.sl z es)) :
  ∃a n cap,v = .slice a n cap/\n=es.length/\n<=cap/\cap<=maxLen/\(es = []\/∃b o,a=some ⟨b,o,none⟩/\(∀e∈es,e.length=z)/\∃f:Nat->Nat->Value,
   (∀i e,es[i]? = some e->∀j x,e[j]? = some x->D4 g b (o+i*z+j)/\w.cell? ⟨b,o+i*z+j,none⟩=some (f i j))/\
   (∀i e,es[i]? = some e->∀j x,e[j]? = some x->Rep g w (f i j) x)):=by
 cases r with
 | sl0 a cap _ hm=>exact ⟨a,0,cap,rfl,rfl,A7 _,hm,.inl rfl⟩
 | sl b o n cap _ es hn hc hm hz f hs hr=>exact ⟨_,n,cap,rfl,hn,hc,hm,.inr ⟨b,o,rfl,hz,f,hs,hr⟩⟩
theorem Rep.inv_opt {g:Gh}{w:World}{v:Value}{G:List (Bool×Bool)}{x:AV}(r:Rep g w v (.opt G x)):((∀p∈G,p.1=p.2)->Rep g w v x)/\(¬(∀p∈G,p.1=p.2)->v=undef):=by
 cases r with | opt _ _ _ h h'=>exact ⟨h,h'⟩
theorem Rep.inv_ptr {g:Gh}{w:World}{v:Value}{cs:List AV}(r:Rep g w v (.ptr cs)) :
  ∃b o,v = .pointer (some ⟨b,o,none⟩)/\∃f:Nat->Value,(∀j x,cs[j]? = some x->D4 g b (o+j)/\w.cell? ⟨b,o+j,none⟩=some (f j))/\(∀j x,cs[j]? = some x->Rep g w (f j) x):=by
 cases r with | ptr b o _ f hs hr=>exact ⟨b,o,rfl,f,hs,hr⟩

inductive HO where
 | box (b:Nat) (T:TypeId) (cs:List AV)
 | row (v:Value) (n:Nat) (E:TypeId) (z:Nat)
 | mapo (b:Nat) (es:List (Int×AV))
 | smap (b:Nat) (es:List (List UInt8×AV))
 | kmap (b:Nat) (es:List (List AV×AV))
 | app (b m cap:Nat) (es:List (List AV)) (E:TypeId) (z:Nat)
 | buf (v:Value) (es:List (List AV)) (E:TypeId) (z:Nat)
 | obj (b:Nat) (o:Obj)
 | since (g:Gh) (w:World)

def HO.blk:HO->Option Nat
 | .box b _ _=>some b
 | .row (.slice (some a) _ _) _ _ _=>some a.block
 | .row _ _ _ _=>none
 | .mapo b _=>some b
 | .smap b _=>some b
 | .kmap b _=>some b
 | .app b _ _ _ _ _=>some b
 | .buf (.slice (some a) _ _) _ _ _=>some a.block
 | .buf _ _ _ _=>none
 | .obj b _=>some b
 | .since _ _=>none

def HO.ok (g:Gh)(w:World):HO->Prop
 | .box b T cs=>g b=some 0/\∃vs,w.heap[b]? = some (.cells vs T (0,0))/\Di g w vs cs
 | .row v n E z=>(v = .slice none 0 0/\n=0)\/∃b cap cur,v = .slice (some ⟨b,0,none⟩) n cap/\g b=some (n*z)/\w.heap[b]? = some (.cells cur E (0,0))/\cur.size=cap*z/\n<=cap/\cap<=maxLen
 | .mapo b es=>g b=some 0/\∃ms clock,w.heap[b]? = some (.map ms clock)/\ms.size=es.length/\(∀i k x,es[i]? = some (k,x)->(ms.getD i default).key = .int .i64 k)/\(∀i k x,es[i]? = some (k,x)->Rep g w (ms.getD i default).val x)
 | .smap b es=>g b=some 0/\∃ms clock,w.heap[b]? = some (.map ms clock)/\ms.size=es.length/\(∀i k x,es[i]? = some (k,x)->(ms.getD i default).key = .string ⟨k.toArray⟩)/\(∀i k x,es[i]? = some (k,x)->Rep g w (ms.getD i default).val x)
 | .kmap b es=>g b=some 0/\∃ms clock,w.heap[b]? = some (.map ms clock)/\ms.size=es.length/\(clock=ms.size/\∀i,i<ms.size->(ms.getD i default).born=i)/\(∀i k x,es[i]? = some (k,x)->∃us,(ms.getD i default).key = .agg us/\Di g w us k)/\(∀i k x,es[i]? = some (k,x)->Rep g w (ms.getD i default).val x)
 | .app b m cap es E z=>g b=some (es.length*z)/\∃cur,w.heap[b]? = some (.cells cur E (0,0))/\cur.size=cap*z/\es.length<=m/\m<=cap/\cap<=maxLen/\Rep g w (.slice (some ⟨b,0,none⟩) es.length cap) (.sl z es)
 | .buf v es E z=>(v = .slice none 0 0/\es = [])\/∃b cap cur,v = .slice (some ⟨b,0,none⟩) es.length cap/\g b=some 0/\w.heap[b]? = some (.cells cur E (0,0))/\cur.size=cap*z/\es.length<=cap/\cap<=maxLen/\(∀e∈es,e.length=z)/\∀i x,es.flatten[i]? = some x->Rep g w (cur.getD i undef) x
 | .obj b o=>g b=some 0/\w.heap[b]? = some o
 | .since g0 w0=>∀v x,Rep g0 w0 v x->Rep g w v x

def Lv:List AV:=[.str [60,61],.str [62,61],.str [61,61],.str [33,61],.str [40],.str [41],.str [123],.str [125],.str [44],.str [46],.str [58],.str [59],.str [43],.str [45],.str [60],.str [62],.str [61]]
def Tx:List AV:=[.str [111,114],.int .i64 11]
def P0:List AV:=[.str [97,110,100],.int .i64 10]
def Qz:List AV:=[.str [43],.int .i64 5,.str [45],.int .i64 6]
def Lq:List AV:=[.str [105,110,116],.str [98,111,111,108],.str [115,116,114,105,110,103]]
def Kl:List AV:=[.str [109,105,110],.int .i64 2,.str [109,97,120],.int .i64 3,.str [102,105,114,115,116],.int .i64 4,.str [108,97,115,116],.int .i64 5]
def Wh:List AV:=[.int .u64 1,.int .u64 10,.int .u64 100,.int .u64 1000,.int .u64 10000,.int .u64 100000,.int .u64 1000000,.int .u64 10000000,.int .u64 100000000,.int .u64 1000000000,.int .u64 10000000000,.int .u64 100000000000,.int .u64 1000000000000,.int .u64 10000000000000,.int .u64 100000000000000,.int .u64 1000000000000000,.int .u64 10000000000000000,.int .u64 100000000000000000,.int .u64 1000000000000000000,.int .u64 10000000000000000000]
def Nl:List AV:=[.str [105,110,116],.str [98,111,111,108],.str [115,116,114,105,110,103]]
def Wp:List AV:=[.int .i64 0,.int .i64 0,.bool true,.bool true,.bool false,.bool false,.int .i64 2,.int .i64 64,.bool false,.bool false,.bool false,.bool false,.int .i64 2,.int .i64 64,.bool false,.bool false,.bool false,.bool false,.int .i64 2,.int .i64 64,.bool false,.bool false,.bool false,.bool false,.int .i64 1,.int .i64 1,.bool false,.bool false,.bool false,.bool false,.int .i64 1,.int .i64 1,.bool true,.bool true,.bool true,.bool false,.int .i64 1,.int .i64 1,.bool false,.bool false,.bool true,.bool true,.int .i64 1,.int .i64 1,.bool false,.bool true,.bool false,.bool false,.int .i64 2,.int .i64 2,.bool false,.bool false,.bool false,.bool false,.int .i64 1,.int .i64 1,.bool true,.bool true,.bool true,.bool false,.int .i64 1,.int .i64 1,.bool false,.bool false,.bool true,.bool true]
def globals:List (Nat×(List AV->Prop)):=[(4,fun cs=>cs=Lv),(2,fun cs=>cs=Tx),(5,fun cs=>cs=P0),(9,fun cs=>cs=Qz),(1,fun cs=>cs=Lq),(11,fun cs=>cs=Kl),(10,fun cs=>cs=Wh),(0,fun cs=>cs=Nl),(3,fun cs=>cs=Wp),(6,fun cs=>∃m,cs = [AV.int .i64 m])]
def tables:List (Nat×Array Value):=[(10,#[.int .u64 1,.int .u64 10,.int .u64 100,.int .u64 1000,.int .u64 10000,.int .u64 100000,.int .u64 1000000,.int .u64 10000000,.int .u64 100000000,.int .u64 1000000000,.int .u64 10000000000,.int .u64 100000000000,.int .u64 1000000000000,.int .u64 10000000000000,.int .u64 100000000000000,.int .u64 1000000000000000,.int .u64 10000000000000000,.int .u64 100000000000000000,.int .u64 1000000000000000000,.int .u64 10000000000000000000])]

structure GlobOK (g:Gh) (w:World):Prop where
 vars:∀p∈globals,∃cs,p.2 cs/\Rep g w (.pointer (some ⟨p.1,0,none⟩)) (.ptr cs)
 tabs:∀p∈tables,g p.1=none/\∃T fr,w.heap[p.1]? = some (.cells p.2 T fr)

theorem GlobOK.mono {g g':Gh}{w w':World}(h:Ext g w g' w')(r:GlobOK g w):GlobOK g' w':=by
 refine ⟨fun p hp=>?_,fun p hp=>?_⟩
 .
  obtain ⟨cs,h1,h2⟩:=r.vars p hp;exact ⟨cs,h1,h2.mono h⟩
 obtain ⟨h1,T,fr,h2⟩:=r.tabs p hp;obtain ⟨k1,k2⟩:=h.full p.1 (Array.getElem?_eq_some_iff.1 h2).1 h1;exact ⟨k1,T,fr,k2.trans h2⟩
structure HOK (g:Gh) (w:World) (H:List HO):Prop where
 nodup:(H.filterMap HO.blk).Nodup
 ok:∀o∈H,o.ok g w
 glob:GlobOK g w

theorem HOK.nil {g:Gh}{w:World}(h:GlobOK g w):HOK g w []:=⟨by simp,by simp,h⟩

theorem HO.ok_lt {g:Gh}{w:World}{o:HO}(h:o.ok g w){b:Nat}(hb:o.blk=some b):b<w.heap.size/\g b≠none:=by
  have lt:∀{o:Obj},w.heap[b]? = some o->b<w.heap.size:=fun h=>(Array.getElem?_eq_some_iff.1 h).1
  cases o with
  | box b' T cs=>
    simp only [HO.blk,Option.some.injEq] at hb;subst hb;obtain ⟨h1,vs,h2,_⟩:=h;exact ⟨lt h2,by rw [h1];simp⟩
  | row v n E z=>
    rcases h with ⟨rfl,_⟩ | ⟨b',cap,cur,rfl,h1,h2,_⟩
    . simp [HO.blk] at hb
    . simp only [HO.blk,Option.some.injEq] at hb;subst hb
      exact ⟨lt h2,by rw [h1];simp⟩
  | mapo b' es=>
    simp only [HO.blk,Option.some.injEq] at hb;subst hb;obtain ⟨h1,ms,c,h2,_⟩:=h;exact ⟨lt h2,by rw [h1];simp⟩
  | smap b' es=>
    simp only [HO.blk,Option.some.injEq] at hb;subst hb;obtain ⟨h1,ms,c,h2,_⟩:=h;exact ⟨lt h2,by rw [h1];simp⟩
  | kmap b' es=>
    simp only [HO.blk,Option.some.injEq] at hb;subst hb;obtain ⟨h1,ms,c,h2,_⟩:=h;exact ⟨lt h2,by rw [h1];simp⟩
  | app b' m cap es E z=>
    simp only [HO.blk,Option.some.injEq] at hb;subst hb;obtain ⟨h1,cur,h2,_⟩:=h;exact ⟨lt h2,by rw [h1];simp⟩
  | buf v es E z=>
    rcases h with ⟨rfl,_⟩ | ⟨b',cap,cur,rfl,h1,h2,_⟩
    . simp [HO.blk] at hb
    . simp only [HO.blk,Option.some.injEq] at hb;subst hb
      exact ⟨lt h2,by rw [h1];simp⟩
  | obj b' o=>
    simp only [HO.blk,Option.some.injEq] at hb;subst hb;exact ⟨lt h.2,by rw [h.1];simp⟩
  | since _ _=>simp [HO.blk] at hb

theorem HO.ok_of_same {g g':Gh}{w w':World}(h:Ext g w g' w'){o:HO}(ho:o.ok g w)
    (hs:∀b,o.blk=some b->g' b=g b/\w'.heap[b]? = w.heap[b]?):o.ok g' w':=by
  cases o with
  | box b T cs=>
    obtain ⟨h1,vs,h2,h3⟩:=ho;obtain ⟨e1,e2⟩:=hs b rfl;exact ⟨e1.trans h1,vs,e2.trans h2,h3.mono h⟩
  | row v n E z=>
    rcases ho with ho | ⟨b,cap,cur,rfl,h1,h2,h3⟩
    . exact .inl ho
    . obtain ⟨e1,e2⟩:=hs b rfl
      exact .inr ⟨b,cap,cur,rfl,e1.trans h1,e2.trans h2,h3⟩
  | mapo b es=>
    obtain ⟨h1,ms,c,h2,h3,h4,h5⟩:=ho;obtain ⟨e1,e2⟩:=hs b rfl;exact ⟨e1.trans h1,ms,c,e2.trans h2,h3,h4,fun i k x hi=>(h5 i k x hi).mono h⟩
  | smap b es=>
    obtain ⟨h1,ms,c,h2,h3,h4,h5⟩:=ho;obtain ⟨e1,e2⟩:=hs b rfl;exact ⟨e1.trans h1,ms,c,e2.trans h2,h3,h4,fun i k x hi=>(h5 i k x hi).mono h⟩
  | kmap b es=>
    obtain ⟨h1,ms,c,h2,h3,h6,h4,h5⟩:=ho;obtain ⟨e1,e2⟩:=hs b rfl
    exact ⟨e1.trans h1,ms,c,e2.trans h2,h3,h6,fun i k x hi=>by
      obtain ⟨us,k1,k2⟩:=h4 i k x hi;exact ⟨us,k1,k2.mono h⟩,fun i k x hi=>(h5 i k x hi).mono h⟩
  | app b m cap es E z=>
    obtain ⟨h1,cur,h2,h3,h4,h5,h6,h7⟩:=ho;obtain ⟨e1,e2⟩:=hs b rfl;exact ⟨e1.trans h1,cur,e2.trans h2,h3,h4,h5,h6,h7.mono h⟩
  | buf v es E z=>
    rcases ho with ho | ⟨b,cap,cur,rfl,h1,h2,h3,h4,h5,h6,h7⟩
    . exact .inl ho
    . obtain ⟨e1,e2⟩:=hs b rfl
      exact .inr ⟨b,cap,cur,rfl,e1.trans h1,e2.trans h2,h3,h4,h5,h6,fun i x hi=>(h7 i x hi).mono h⟩
  | obj b o=>
    obtain ⟨e1,e2⟩:=hs b rfl;exact ⟨e1.trans ho.1,e2.trans ho.2⟩
  | since _ _=>exact fun v x r=>(ho v x r).mono h

theorem HOK.of_same {g g':Gh}{w w':World}(h:Ext g w g' w'){H:List HO}(hH:HOK g w H)
  (hs:∀o∈H,∀b,o.blk=some b->g' b=g b/\w'.heap[b]? = w.heap[b]?):HOK g' w' H:=
 ⟨hH.nodup,fun o ho=>HO.ok_of_same h (hH.ok o ho) (hs o ho),hH.glob.mono h⟩

theorem HOK.sub {g:Gh}{w:World}{H H':List HO}(hH:HOK g w H)(hs:H'.Sublist H):HOK g w H':=
 ⟨hH.nodup.sublist (hs.filterMap _),fun o ho=>hH.ok o (hs.subset ho),hH.glob⟩


theorem Ext.drew (g:Gh)(w:World):Ext g w g w.drew:=
 ⟨rfl,rfl,rfl,Bc _,fun _ _ h=>⟨h,rfl⟩,fun _ _ _ h=>⟨fun m hm=>(by rw [h] at hm;cases hm;exact Bc _),fun _ _=>rfl⟩⟩

def Gh.put (g:Gh)(b:Nat)(n:Option Nat):Gh:=fun x=>if x=b then n else g x
theorem Gh.Aaw (g:Gh)(b:Nat)(n:Option Nat):Gh.put g b n b=n:=by simp [Gh.put]
theorem Gh.Aa0 (g:Gh){b c:Nat}(n:Option Nat)(h:c≠b):Gh.put g b n c=g c:=by simp [Gh.put,h]

theorem Gf (w:World)(o:Obj){b:Nat}(h:b<w.heap.size):(w.alloc o).heap[b]? = w.heap[b]? :=by
 show (w.heap.push o)[b]? = _;rw [Array.getElem?_push,if_neg (by omega)]
theorem Ce (w:World)(o:Obj):(w.alloc o).heap[w.heap.size]? = some o:=by
 show (w.heap.push o)[w.heap.size]? = _;simp
theorem Bj {w:World}{b:Nat}{vs:Array Value}{T:TypeId}{fr:Nat×Nat}(h:w.heap[b]? = some (.cells vs T fr))(o:Nat):w.cell? ⟨b,o,none⟩=vs[o]? :=by
 unfold World.cell?;simp [h]

theorem Ext.alloc (g:Gh)(w:World)(o:Obj)(n:Option Nat):Ext g w (g.put w.heap.size n) (w.alloc o):=by
 refine ⟨rfl,rfl,rfl,by simp,?_,?_⟩
 .
  intro b hb hg;exact ⟨by rw [Gh.Aa0 _ _ (by omega)];exact hg,Gf w o hb⟩
 intro b m hb hg;refine ⟨fun m' hm=>(by rw [Gh.Aa0 _ _ (by omega),hg] at hm;cases hm;exact Bc _),fun x _=>?_⟩;unfold World.cell?;rw [Gf w o hb]
theorem HOK.alloc {g:Gh}{w:World}{H:List HO}(hH:HOK g w H)(o:Obj)(n:Option Nat):HOK (g.put w.heap.size n) (w.alloc o) H:=
 hH.of_same (Ext.alloc g w o n) fun x hx b hb=>by
  have:=(HO.ok_lt (hH.ok x hx) hb).1;exact ⟨Gh.Aa0 _ _ (by omega),Gf w o this⟩

theorem HOK.drew {g:Gh}{w:World}{H:List HO}(hH:HOK g w H):HOK g w.drew H:=
 hH.of_same (Ext.drew g w) fun _ _ _ _=>⟨rfl,rfl⟩

theorem HOK.cons {g:Gh}{w:World}{H:List HO}(hH:HOK g w H){o:HO}(ho:o.ok g w)(hb:∀b,o.blk=some b->∀x∈H,x.blk≠some b):HOK g w (o::H):=by
  refine ⟨?_,fun x hx=>?_,hH.glob⟩
  . cases hk:o.blk with
    | none=>simpa [L5,hk] using hH.nodup
    | some b=>
      simp only [L5,hk,Jr];refine ⟨fun hm=>?_,hH.nodup⟩;obtain ⟨x,hx,he⟩:=Ug.1 hm;exact hb b hk x hx he
  . rcases Cn.1 hx with rfl | hx
    . exact ho
    exact hH.ok x hx
end Go.Aw
namespace Go.Aw

def get:List (Nat×AV)->Nat->AV
 | [],_=>.junk
 | (j,x)::r,i=>bif Nat.beq j i then x else get r i

def avc:Value->AV
 | .bool b=>.bool b
 | .int k n=>.int k n
 | .string b=>bif Nat.ble b.data.toList.length 4096 then .str b.data.toList else .val (.string b)
 | v=>.val v

def El (sl:List (Nat×AV)):Operand->AV
 | .tmp t=>get sl t
 | .const v=>avc v
 | .global g=>.val (.pointer (some ⟨g,0,none⟩))
 | .func f=>.fn (.func f) [] []

structure St where
 sl:List (Nat×AV)
 H:List HO
 n:Nat

def D9 (d:Option Nat)(x:AV)(sl:List (Nat×AV)):List (Nat×AV):=match d with | none=>sl | some d=>(d,x)::sl
def Mx (d:Option Nat)(n:Nat):Bool:=match d with | none=>true | some d=>Nat.ble (d+1) n

structure Gm (g:Gh) (s:St) (a:Act) (w:World):Prop where
 size:a.tmps.size=s.n
 defers:a.defers = []
 sl:∀i,Rep g w (a.tmps.getD i undef) (get s.sl i)
 heap:HOK g w s.H

theorem E3 (j:Nat)(x:AV)(r:List (Nat×AV))(i:Nat):get ((j,x)::r) i=if j=i then x else get r i:=by
 show (bif Nat.beq j i then x else get r i)=_;by_cases h:j=i
 . subst h;simp
 have hb:Nat.beq j i=false:=by
  cases hq:Nat.beq j i with
  | false=>rfl
  | true=>exact absurd (D6 hq) h
 simp [h,hb]
theorem Fv (g:Gh)(w:World)(v:Value):Rep g w v (avc v):=by
  cases v with
  | string b=>
    simp only [avc];cases h:Nat.ble b.data.toList.length 4096 with
    | true=>exact .str b _ rfl (E7 (B9 h) (by decide))
    | false=>exact .val _
  | bool b=>exact .bool b
  | int k n=>exact .int k n
  | _=>exact .val _

theorem Gm.eval {g:Gh}{s:St}{a:Act}{w:World}(h:Gm g s a w)(y:Operand):Rep g w (a.eval y) (El s.sl y):=by
 cases y with
 | tmp t=>exact h.sl t
 | const v=>exact Fv g w v
 | global n=>exact .val _
 | func f=>exact .fn _ _ _ _ _ rfl (by simp) rfl (by simp)

theorem getD_put (a:Act)(d:Nat)(v:Value)(h:d<a.tmps.size)(i:Nat):(a.put (some d) v).tmps.getD i undef=if d=i then v else a.tmps.getD i undef:=by
 simp only [Act.put,Ct,Array.getElem?_setIfInBounds];by_cases e:d=i
 . subst e;simp [h]
 simp [e]
theorem Gm.put {g g':Gh}{s:St}{a:Act}{w w':World}(h:Gm g s a w)(hx:Ext g w g' w'){d:Option Nat}(hd:Mx d s.n=true){v:Value}{x:AV}(hv:Rep g' w' v x)
    {H':List HO} (hH:HOK g' w' H'):Gm g' ⟨D9 d x s.sl,H',s.n⟩ (a.put d v) w':=by
  cases d with
  | none=>exact ⟨h.size,h.defers,fun i=>(h.sl i).mono hx,hH⟩
  | some d=>
    have hd':d<a.tmps.size:=by have:=B9 hd;rw [h.size];exact this
    refine ⟨by simpa [Act.put] using h.size,h.defers,fun i=>?_,hH⟩;rw [getD_put a d v hd'];show Rep g' w' _ (get ((d,x)::s.sl) i);rw [E3];by_cases e:d=i
    . simp only [e,if_true];exact hv
    simp only [e,if_false];exact (h.sl i).mono hx
def zV (g:Gh)(w:World)(a:Act)(o:Oper)(ρ:Operand->AV):Prop:=∀y∈o.op.operands,Rep g w (a.eval y) (ρ y)

def L7 (P:Program)(o:Oper)(ρ:Operand->AV)(H:List HO)(R:AV->List HO->Prop):Prop:=
 ∀(g:Gh) (w:World) (a:Act) (next:Act->World->Prop) (Q:Exit->Act->World->Prop),zV g w a o ρ->HOK g w H->
  (∀g' w' v x H',R x H'->Rep g' w' v x->HOK g' w' H'->Ext g w g' w'->next (a.put o.dst v) w')->o.wp P a w next Q

def Db (P:Program)(o:Oper)(ρ:Operand->AV)(K:List HO->Prop)(x:AV):Prop:=
 ∀(g:Gh) (w:World) (a:Act) (H:List HO) (next:Act->World->Prop) (Q:Exit->Act->World->Prop),zV g w a o ρ->HOK g w H->K H->
  (∀g' w' v,Rep g' w' v x->HOK g' w' H->Ext g w g' w'->next (a.put o.dst v) w')->o.wp P a w next Q

theorem Db.e {P:Program}{o:Oper}{ρ:Operand->AV}{K:List HO->Prop}{x:AV}(h:Db P o ρ K x){H:List HO}(hK:K H):L7 P o ρ H (fun x' H'=>x'=x/\H'=H):=
 fun g w a next Q hr hH hn=>h g w a H next Q hr hH hK fun g' w' v hv hH' hx=>hn g' w' v x H ⟨rfl,rfl⟩ hv hH' hx

theorem Db.of_run {P:Program}{o:Oper}{ρ:Operand->AV}{K:List HO->Prop}{x:AV}
  (h:∀g w a,zV g w a o ρ->∃v,(execOp a.eval o).run P w = .ok (.value v) w/\Rep g w v x):Db P o ρ K x:=by
 intro g w a H next Q hr hH _ hn
 obtain ⟨v,hv,hx⟩:=h g w a hr;unfold Oper.wp;rw [hv];exact hn g w v hx hH (Ext.refl g w)

def zW (P:Program)(ops:Array Oper)(Q:Exit->Act->World->Prop):List Oper->Act->World->Prop
 | [],a,w=>Q .normal a w
 | o::r,a,w=>if Region.wanted o (yielded ops a.tmps) then o.wp P a w (zW P ops Q r) Q else zW P ops Q r (a.put o.dst undef) w

theorem K7 {P:Program}{ops:Array Oper}{Q:Exit->Act->World->Prop}:∀(l:List Oper) (k:Nat) (a:Act) (w:World),(∀j,l[j]? = ops[k+j]?)->
    zW P ops Q l a w->wpOps P ops Q (List.range' k l.length) a w
  | [],_,_,_,_,h=>h
  | o::r,k,a,w,hl,h=>by
    have h0:ops[k]? = some o:=by simpa using (hl 0).symm
    have hr:∀j,r[j]? = ops[k+1+j]? :=fun j=>by have:=hl (j+1);simpa [Nat.add_assoc,Nat.add_comm 1 j] using this
    simp only [A1,List.range'_succ,wpOps,h0];unfold zW at h;split
    . rename_i hw;rw [if_pos hw] at h
      exact .inl (Oper.wp_mono (fun a' w' h'=>K7 r (k+1) a' w' hr h') h)
    . rename_i hw;rw [if_neg hw] at h
      exact K7 r (k+1) _ w hr h

structure AOL (P:Program) (ops:Array Oper) (K:St->Prop) (l:List Oper) (s:St):Prop where
 run:∀(Q:Exit->Act->World->Prop) (g:Gh) (a:Act) (w:World),Gm g s a w->(∀g' s' a' w',Gm g' s' a' w'->Ext g w g' w'->K s'->Q .normal a' w')->zW P ops Q l a w

theorem AOL.nil {P:Program}{ops:Array Oper}{K:St->Prop}{s:St}(h:K s):AOL P ops K [] s:=
 ⟨fun _ g a w hg hQ=>hQ g s a w hg (Ext.refl g w) h⟩

theorem E4 {o:Oper}{y:Nat->Option Bool}(h:o.guard=none):Region.wanted o y=true:=by simp [Region.wanted,h]

theorem AOL.cons {P:Program}{ops:Array Oper}{K:St->Prop}{s:St}{o:Oper}{r:List Oper}(hg:o.guard=none){R:AV->List HO->Prop}
  (h:L7 P o (El s.sl) s.H R) (hd:Mx o.dst s.n=true) (k:∀x H',R x H'->AOL P ops K r ⟨D9 o.dst x s.sl,H',s.n⟩):AOL P ops K (o::r) s:=by
 refine ⟨fun Q g a w hG hQ=>?_⟩;unfold zW;rw [if_pos (E4 hg)];refine h g w a _ _ (fun y _=>hG.eval y) hG.heap fun g' w' v x H' hR hv hH hx=>?_
 exact (k x H' hR).run Q g' _ w' (hG.put hx hd hv hH) fun g'' s'' a'' w'' h1 h2 h3=>hQ g'' s'' a'' w'' h1 (hx.trans h2) h3

theorem AOL.p {P:Program}{ops:Array Oper}{K:St->Prop}{s:St}{d:Option Nat}{op:Op}{t:TypeId}{pos:String}{after:Array Edge}{r:List Oper}{x:AV}
  (h:Db P ⟨d,op,t,pos,after,none⟩ (El s.sl) (fun _=>True) x) (hd:Mx d s.n=true) (k:AOL P ops K r ⟨D9 d x s.sl,s.H,s.n⟩):AOL P ops K (⟨d,op,t,pos,after,none⟩::r) s:=
 AOL.cons rfl (h.e trivial) hd fun _ _ ⟨hx,hH⟩=>by subst hx;subst hH;exact k

theorem AOL.Aaz {P:Program}{ops:Array Oper}{K:St->Prop}{s:St}{d:Option Nat}{op:Op}{t:TypeId}{pos:String}{after:Array Edge}{r:List Oper}{x:AV}{C:List HO->Prop}
  (h:Db P ⟨d,op,t,pos,after,none⟩ (El s.sl) C x) (hC:C s.H) (hd:Mx d s.n=true) (k:AOL P ops K r ⟨D9 d x s.sl,s.H,s.n⟩):AOL P ops K (⟨d,op,t,pos,after,none⟩::r) s:=
 AOL.cons rfl (h.e hC) hd fun _ _ ⟨hx,hH⟩=>by subst hx;subst hH;exact k

theorem AOL.e {P:Program}{ops:Array Oper}{K:St->Prop}{s:St}{d:Option Nat}{op:Op}{t:TypeId}{pos:String}{after:Array Edge}{r:List Oper}{R:AV->List HO->Prop}
  (h:L7 P ⟨d,op,t,pos,after,none⟩ (El s.sl) s.H R) (hd:Mx d s.n=true) (k:∀x H',R x H'->AOL P ops K r ⟨D9 d x s.sl,H',s.n⟩):AOL P ops K (⟨d,op,t,pos,after,none⟩::r) s:=
 AOL.cons rfl h hd k

def aM (ops:Array Oper)(j:Nat):Option Nat:=(ops[j]?).bind (·.dst)

theorem tO {ops:Array Oper}{j d:Nat}(h:aM ops j=some d){g:Gh}{w:World}{tmps:Array Value}{b:Bool}(r:Rep g w (tmps.getD d undef) (.bool b)):yielded ops tmps j=some b:=by
 have:=r.inv_bool;unfold yielded aM at *;rw [Ct] at this;simp only [h,Option.bind_some];cases ht:tmps[d]? with
 | none=>rw [ht] at this;simp [undef] at this
 | some u=>rw [ht] at this;simp at this;subst this;rfl

theorem aV {ops:Array Oper}{o:Oper}{j d:Nat}{want b:Bool}(hg:o.guard=some (j,want))(h:aM ops j=some d){g:Gh}{w:World}{tmps:Array Value}
  (r:Rep g w (tmps.getD d undef) (.bool b)):Region.wanted o (yielded ops tmps)=(b==want):=by
 simp [Region.wanted,hg,tO h r]

def Mn (G:List (Bool×Bool)):Prop:=∀p∈G,p.1=p.2

def tQ (G:List (Bool×Bool))(x y:AV):Prop:=∀g w v,Mn G->Rep g w v x->Rep g w v y

theorem Ent.Aax (G:List (Bool×Bool))(x:AV):tQ G (.opt G x) x:=fun _ _ _ h r=>r.inv_opt.1 h
theorem tQ.suf (G G':List (Bool×Bool))(x:AV):tQ G (.opt (G++G') x) (.opt G' x):=fun _ _ _ h r=>by
 refine .opt _ _ _ (fun h'=>r.inv_opt.1 fun p hp=>?_) (fun h'=>r.inv_opt.2 fun h2=>h' fun p hp=>h2 p (Z9 _ hp));rcases Gd.1 hp with hp | hp
 . exact h p hp
 exact h' p hp
def F2 (ops:Array Oper)(o:Oper)(sl:List (Nat×AV)):Option (List (Bool×Bool)):=
  match o.guard with
  | none=>some []
  | some (j,want)=>match aM ops j with
    | some d=>match get sl d with
      | .bool b=>some [(b,want)]
      | .opt G (.bool b)=>some (G ++ [(b,want)])
      | _=>none
    | none=>none

inductive PStep (P:Program) (ops:Array Oper) (o:Oper) (sl:List (Nat×AV)) (K:List HO->Prop) (x:AV):Prop where
 | run (hg:o.guard=none) (h:Db P o (El sl) K x)
 | opt (G:List (Bool×Bool)) (y:AV) (L:List (Nat×AV)) (hw:F2 ops o sl=some G) (hL:∀p∈L,tQ G (get sl p.1) p.2) (h:Mn G->Db P o (El (L++sl)) K y) (hx:x = .opt G y)

theorem Ci {ops:Array Oper}{o:Oper}{t:Nat}(h : .tmp t∈o.op.operands):t∈o.looksAt ops:=
 List.mem_append_left _ (Ug.2 ⟨.tmp t,by simpa using h,rfl⟩)

theorem Tt {ops:Array Oper}{o:Oper}{j d:Nat}{want:Bool}(hg:o.guard=some (j,want))(h:aM ops j=some d):d∈o.looksAt ops:=by
 unfold Oper.looksAt aM at *;simp [hg,h]

theorem Oz {ops:Array Oper}{o:Oper}{sl:List (Nat×AV)}{G:List (Bool×Bool)}(h:F2 ops o sl=some G){g:Gh}{w:World}{a:Act}
    (hr:∀d,d∈o.looksAt ops->Rep g w (a.tmps.getD d undef) (get sl d)):(Mn G->Region.wanted o (yielded ops a.tmps)=true)/\(¬Mn G->Region.wanted o (yielded ops a.tmps)=false):=by
  unfold F2 at h;cases hg:o.guard with
  | none=>
    simp only [hg,Option.some.injEq] at h;subst h;exact ⟨fun _=>E4 hg,fun h=>absurd (fun p hp=>by cases hp) h⟩
  | some jw=>
    obtain ⟨j,want⟩:=jw;simp only [hg] at h;cases hs:aM ops j with
    | none=>simp [hs] at h
    | some d=>
      simp only [hs] at h;have hr':=hr d (Tt hg hs);cases hv:get sl d with
      | bool c=>
        rw [hv] at hr';simp only [hv,Option.some.injEq] at h;subst h;rw [aV hg hs hr'];simp [Mn]
      | opt G' y=>
        rw [hv] at hr';cases y with
        | bool c=>
          simp only [hv,Option.some.injEq] at h;subst h;obtain ⟨h1,h2⟩:=hr'.inv_opt;by_cases hG:∀p∈G',p.1=p.2
          . rw [aV hg hs (h1 hG)]
            refine ⟨fun h=>?_,fun h=>?_⟩
            . have:=h (c,want) (by simp);simpa using this
            . cases hb:c==want with
              | false=>rfl
              | true=>
                exfalso;apply h;intro p hp;rcases Gd.1 hp with hp | hp
                . exact hG p hp
                simp only [Ep] at hp;subst hp;simpa using hb
          . refine ⟨fun h=>absurd (fun p hp=>h p (List.mem_append_left _ hp)) hG,fun _=>?_⟩
            have hu:=h2 hG
            have:yielded ops a.tmps j=none:=by
              unfold yielded;unfold aM at hs;rw [Ct] at hu;simp only [hs,Option.bind_some];cases ht:a.tmps[d]? with
              | none=>rfl
              | some u=>rw [ht] at hu;simp [undef] at hu;subst hu;rfl
            simp [Region.wanted,hg,this]
        | _=>simp [hv] at h
      | _=>simp [hv] at h

theorem R0 (L sl:List (Nat×AV))(t:Nat):(∃x,(t,x)∈L/\get (L++sl) t=x)\/get (L++sl) t=get sl t:=by
  induction L with
  | nil=>exact .inr rfl
  | cons p r ih=>
    obtain ⟨j,x⟩:=p;simp only [Dn,E3];by_cases e:j=t
    . subst e;exact .inl ⟨x,by simp,by simp⟩
    . simp only [e,if_false]
      rcases ih with ⟨y,hy,h⟩ | h
      . exact .inl ⟨y,Ha _ hy,h⟩
      exact .inr h
theorem PStep.go {P:Program}{ops:Array Oper}{K:List HO->Prop}{o:Oper}{sl:List (Nat×AV)}{x:AV}(hp:PStep P ops o sl K x){g:Gh}{st:St}{a:Act}{w:World}(hG:Gm g st a w)
    (hK:K st.H) (hd:Mx o.dst st.n=true) (hs:∀t∈o.looksAt ops,get st.sl t=get sl t) {next:Act->World->Prop} {Q:Exit->Act->World->Prop}
    (hn:∀g' a' w',Gm g' ⟨D9 o.dst x st.sl,st.H,st.n⟩ a' w'->Ext g w g' w'->next a' w') :
    (Region.wanted o (yielded ops a.tmps)=true->o.wp P a w next Q)/\(Region.wanted o (yielded ops a.tmps)=false->next (a.put o.dst undef) w):=by
  have hr:∀d,d∈o.looksAt ops->Rep g w (a.tmps.getD d undef) (get sl d):=fun d hd=>by rw [<-hs d hd];exact hG.sl d
  cases hp with
  | run hg h=>
    refine ⟨fun _=>h g w a st.H next Q (fun y hy=>?_) hG.heap hK fun g' w' v hv hH hx=>hn g' _ w' (hG.put hx hd hv hH) hx,fun h'=>by rw [E4 hg] at h';cases h'⟩;cases y with
    | tmp t=>exact hr t (Ci hy)
    | const v=>exact Fv g w v
    | global n=>exact .val _
    | func f=>exact .fn _ _ _ _ _ rfl (by simp) rfl (by simp)
  | opt G y L hw hL h hx=>
    subst hx;obtain ⟨h1,h2⟩:=Oz hw hr;by_cases hG':Mn G
    . refine ⟨fun _=>?_,fun h'=>by rw [h1 hG'] at h';cases h'⟩
      refine h hG' g w a st.H next Q (fun y hy=>?_) hG.heap hK fun g' w' v hv hH hx=>hn g' _ w' (hG.put hx hd (.opt _ _ _ (fun _=>hv) (fun h=>absurd hG' h)) hH) hx
      cases y with
      | tmp t=>
        have h3:=hr t (Ci hy);show Rep g w _ (get (L++sl) t);rcases R0 L sl t with ⟨x,hx,e⟩ | e
        . rw [e];exact hL (t,x) hx g w _ hG' h3
        rw [e];exact h3
      | const v=>exact Fv g w v
      | global n=>exact .val _
      | func f=>exact .fn _ _ _ _ _ rfl (by simp) rfl (by simp)
    . refine ⟨fun h'=>(by rw [h2 hG'] at h';cases h'),fun _=>?_⟩
      exact hn g _ w (hG.put (Ext.refl g w) hd (.opt _ _ _ (fun h=>absurd h hG') (fun _=>rfl)) hG.heap) (Ext.refl g w)

theorem AOL.ps {P:Program}{ops:Array Oper}{K:St->Prop}{s:St}{o:Oper}{r:List Oper}{x:AV}{C:List HO->Prop}
  (h:PStep P ops o s.sl C x) (hC:C s.H) (hd:Mx o.dst s.n=true) (k:AOL P ops K r ⟨D9 o.dst x s.sl,s.H,s.n⟩):AOL P ops K (o::r) s:=by
 refine ⟨fun Q g a w hG hQ=>?_⟩;unfold zW
 have hk:∀g' a' w',Gm g' ⟨D9 o.dst x s.sl,s.H,s.n⟩ a' w'->Ext g w g' w'->zW P ops Q r a' w':=fun g' a' w' hG' hx=>
  k.run Q g' a' w' hG' fun g'' s'' a'' w'' h1 h2 h3=>hQ g'' s'' a'' w'' h1 (hx.trans h2) h3
 obtain ⟨h1,h2⟩:=h.go (Q:=Q) hG hC hd (fun _ _=>rfl) hk;cases hw:Region.wanted o (yielded ops a.tmps) with
 | true=>rw [if_pos rfl];exact h1 hw
 | false=>simp only [Al,if_false];exact h2 hw

theorem AOL.Aa1 {P:Program}{ops:Array Oper}{K:St->Prop}{s:St}{o:Oper}{r:List Oper}{y:AV}(G:List (Bool×Bool))(L:List (Nat×AV))(hw:F2 ops o s.sl=some G)
  (hL:∀p∈L,tQ G (get s.sl p.1) p.2) (h:Mn G->Db P o (El (L++s.sl)) (fun _=>True) y) (hd:Mx o.dst s.n=true) (k:AOL P ops K r ⟨D9 o.dst (.opt G y) s.sl,s.H,s.n⟩):AOL P ops K (o::r) s:=
 AOL.ps (.opt G y L hw hL h rfl) trivial hd k


def AW (P:Program)(c:Code)(Q:Exit->St->Prop)(s:St):Prop:=
 ∀(Q':Exit->Act->World->Prop) (g:Gh) (a:Act) (w:World),Gm g s a w->(∀e g' s' a' w',Gm g' s' a' w'->Ext g w g' w'->Q e s'->Q' e a' w')->c.wp P Q' a w

def Ej (N:St->Prop)(Q:Exit->St->Prop):Exit->St->Prop
 | .normal,s=>N s
 | e,s=>Q e s

def Ji (id:Nat)(Q:Exit->St->Prop):Exit->St->Prop
 | .exit j,s=>bif Nat.beq j id then Q .normal s else Q (.exit j) s
 | e,s=>Q e s

section
variable {P:Program} {Q:Exit->St->Prop} {s:St}

theorem AW.skip (h:Q .normal s):AW P .skip Q s:=fun _ g a w hG hQ=>wp_skip (hQ _ g s a w hG (Ext.refl g w) h)
theorem AW.exit {id:Nat}(h:Q (.exit id) s):AW P (.exit id) Q s:=fun _ g a w hG hQ=>wp_exit (hQ _ g s a w hG (Ext.refl g w) h)
theorem AW.ret (h:Q .ret s):AW P .ret Q s:=fun _ g a w hG hQ=>wp_ret (hQ _ g s a w hG (Ext.refl g w) h)

theorem AW.seq {x y:Code}(h:AW P x (Ej (AW P y Q) Q) s):AW P (.seq x y) Q s:=by
 intro Q' g a w hG hQ;refine wp_seq (h _ g a w hG fun e g' s' a' w' hG' hx hq=>?_);cases e with
 | normal=>exact hq Q' g' a' w' hG' fun e g'' s'' a'' w'' h1 h2 h3=>hQ e g'' s'' a'' w'' h1 (hx.trans h2) h3
 | _=>exact hQ _ g' s' a' w' hG' hx hq

theorem AW.cond {c:Operand}{x y:Code}{b:Bool}(hb:El s.sl c = .bool b)(ht:b=true->AW P x Q s)(hf:b=false->AW P y Q s):AW P (.cond c x y) Q s:=by
 intro Q' g a w hG hQ;have hr:=hG.eval c;rw [hb] at hr;exact wp_cond_split hr.inv_bool (fun h=>ht h Q' g a w hG hQ) (fun h=>hf h Q' g a w hG hQ)

theorem AW.block {id:Nat}{c:Code}(h:AW P c (Ji id Q) s):AW P (.block id c) Q s:=by
  intro Q' g a w hG hQ;refine wp_block (h _ g a w hG fun e g' s' a' w' hG' hx hq=>?_);cases e with
  | exit j=>
    simp only [Ji] at hq;simp only [Exit.inBlock];by_cases e:j=id
    . subst e;simp at hq;simp;exact hQ _ g' s' a' w' hG' hx hq
    . simp only [e,if_false]
      have:Nat.beq j id=false:=by
        cases hq':Nat.beq j id with
        | false=>rfl
        | true=>exact absurd (D6 hq') e
      simp only [this,cond_false] at hq;exact hQ _ g' s' a' w' hG' hx hq
  | _=>exact hQ _ g' s' a' w' hG' hx hq

theorem AW.region {id:Nat}{ops:Array Oper}(h:AOL P ops (Q .normal) ops.toList s):AW P (.region id ops false) Q s:=by
 intro Q' g a w hG hQ;refine wp_region ?_;have:=K7 (P:=P) (ops:=ops) (Q:=Q') ops.toList 0 a w (by simp) (h.run Q' g a w hG fun g' s' a' w' h1 h2 h3=>hQ _ g' s' a' w' h1 h2 h3);rw [<-List.range_eq_range'] at this;simpa using this

theorem AW.loop {c:Code}(I:Nat->St->Prop)(n:Nat)(h0:I n s)(round:∀n s,I n s->AW P c (Ej (fun s'=>∃m,m<n/\I m s') Q) s):AW P (.loop c) Q s:=by
  intro Q' g a w hG hQ b k cs
  have key:∀n g' s' a' w',I n s'->Gm g' s' a' w'->Ext g w g' w'->
      ∃e a'' w'',Q' e a'' w''/\Arrives P (lone (b.at a' (.code c :: .inLoop c::k)) cs w') b k cs e a'' w'':=by
    intro n
    induction n using Nat.strongRecOn with
    | _ n ih=>
      intro g' s' a' w' hI hG' hx
      obtain ⟨e,a₁,w₁,hq,harr⟩:=round n s' hI (fun e a₁ w₁=>∃g₁ s₁,Gm g₁ s₁ a₁ w₁/\Ext g w g₁ w₁/\Ej (fun s'=>∃m,m<n/\I m s') Q e s₁) g' a' w' hG'
        (fun e g₁ s₁ a₁ w₁ h1 h2 h3=>⟨g₁,s₁,h1,hx.trans h2,h3⟩) b (.inLoop c::k) cs
      obtain ⟨g₁,s₁,hG₁,hx₁,hT⟩:=hq;cases e with
      | normal=>
        obtain ⟨m,hm,hI₁⟩:=hT;obtain ⟨e₂,a₂,w₂,hq₂,harr₂⟩:=ih m hm g₁ s₁ a₁ w₁ hI₁ hG₁ hx₁;exact ⟨e₂,a₂,w₂,hq₂,.of_steps (Steps.trans harr (.one step_inLoop)) harr₂⟩
      | exit id=>exact ⟨_,a₁,w₁,hQ _ g₁ s₁ a₁ w₁ hG₁ hx₁ hT,.pass (x:=.inLoop c) rfl (fun _ _=>.inl (by simp)) harr⟩
      | goto l=>exact ⟨_,a₁,w₁,hQ _ g₁ s₁ a₁ w₁ hG₁ hx₁ hT,.pass (x:=.inLoop c) rfl (fun _ _=>.inl (by simp)) harr⟩
      | ret=>exact ⟨_,a₁,w₁,hQ _ g₁ s₁ a₁ w₁ hG₁ hx₁ hT,.pass (x:=.inLoop c) rfl (fun _ _=>.inl (by simp)) harr⟩
      | panic ch=>exact ⟨_,a₁,w₁,hQ _ g₁ s₁ a₁ w₁ hG₁ hx₁ hT,.pass (x:=.inLoop c) rfl (fun _ _=>.inl (by simp)) harr⟩
      | outgrown=>exact ⟨_,a₁,w₁,hQ _ g₁ s₁ a₁ w₁ hG₁ hx₁ hT,.pass (x:=.inLoop c) rfl (fun _ _=>.inl (by simp)) harr⟩
  obtain ⟨e,a',w',hq,harr⟩:=key n g s a w h0 hG (Ext.refl g w);exact ⟨e,a',w',hq,.of_steps (.one step_loop) harr⟩

theorem AW.mono {c:Code}{Q':Exit->St->Prop}(h:AW P c Q' s)(hq:∀e s,Q' e s->Q e s):AW P c Q s:=
 fun Q₁ g a w hG hQ=>h Q₁ g a w hG fun e g' s' a' w' h1 h2 h3=>hQ e g' s' a' w' h1 h2 (hq e s' h3)

def GS (s s':St):Prop:=∀g a w,Gm g s a w->∃g',Gm g' s' a w/\Ext g w g' w

theorem AW.ghost {c:Code}{s':St}(h:GS s s')(k:AW P c Q s'):AW P c Q s:=by
 intro Q' g a w hG hQ;obtain ⟨g',hG',hx⟩:=h g a w hG;exact k Q' g' a w hG' fun e g'' s'' a'' w'' h1 h2 h3=>hQ e g'' s'' a'' w'' h1 (hx.trans h2) h3

theorem AOL.ghost {ops:Array Oper}{K:St->Prop}{l:List Oper}{s':St}(h:GS s s')(k:AOL P ops K l s'):AOL P ops K l s:=by
 refine ⟨fun Q' g a w hG hQ=>?_⟩;obtain ⟨g',hG',hx⟩:=h g a w hG;exact k.run Q' g' a w hG' fun g'' s'' a'' w'' h1 h2 h3=>hQ g'' s'' a'' w'' h1 (hx.trans h2) h3
end


def Bt (P:Program)(f:FuncId)(H:List HO)(args:List AV)(Q:AV->List HO->Prop):Prop:=
 ∀(g:Gh) (w:World) (vs:Array Value),HOK g w H->Di g w vs args->
  Calls P f vs w fun e w'=>∃v g' r H',e = .returned v/\Rep g' w' v r/\HOK g' w' H'/\Ext g w g' w'/\Q r H'

def Ap (P:Program)(f:FuncId)(args:List AV)(r:AV):Prop:=∀H,Bt P f H args fun r' H'=>r'=r/\H'=H

def Gg:Nat->List AV->List (Nat×AV)
 | _,[]=>[]
 | i,x::r=>(i,x)::Gg (i+1) r

theorem Sa (l:List AV):∀(k i:Nat),get (Gg k l) i=if k<=i then (l[i-k]?).getD .junk else .junk:=by
  induction l with
  | nil=>intro k i;simp [Gg,get]
  | cons x r ih=>
    intro k i;rw [Gg,E3,ih (k+1) i];by_cases h:k=i
    . subst h;simp
    . simp only [h,if_false]
      by_cases h1:k<=i
      . have h2:k+1<=i:=by omega
        have h3:i-k=(i-(k+1))+1:=by omega
        simp [h1,h2,h3]
      . have h2:¬k+1<=i:=by omega
        simp [h1,h2]

theorem Bt.of_wp {P:Program}{f:FuncId}{fn:Func}{c:Code}{args:List AV}{H:List HO}{Q:AV->List HO->Prop}(hf:P.funcs[f]? = some fn)(hb:fn.body=some c){n:Nat}(hn:fn.ntmps=n)(hle:args.length<=n)
    (h:AW P c (fun e s=>(e = .normal\/e = .ret)/\∀g a w,Gm g s a w->∃v g' r H',(results fn a.tmps).run P w = .ok v w/\Rep g' w v r/\HOK g' w H'/\Ext g w g' w/\Q r H') ⟨Gg 0 args,H,n⟩):Bt P f H args Q:=by
  intro g w vs hH hr;refine calls_of_wp hf hb ?_;refine h _ g _ w ⟨?_,rfl,?_,hH⟩ ?_
  . simp only [L3,Array.size_replicate,hn,hr.1];omega
  . intro i
    show Rep g w _ (get (Gg 0 args) i);rw [Sa];simp only [A7,if_true,Nat.sub_zero];cases hi:args[i]? with
    | none=>exact .junk _
    | some x=>
      have hlt:i<vs.size:=by rw [hr.1];exact (List.getElem?_eq_some_iff.1 hi).1
      have:=hr.2 i x hi;simp only [Ct,Array.getElem?_append,hlt,if_true] at this ⊢;exact this
  . intro e g' s' a' w' hG' hx ⟨he,hq⟩
    obtain ⟨v,g'',r,H',h1,h2,h3,h4,h5⟩:=hq g' a' w' hG'
    have:a'.defers = []/\∃v,(results fn a'.tmps).run P w' = .ok v w'/\∃v_1 g' r H',Ending.returned v = .returned v_1/\Rep g' w' v_1 r/\HOK g' w' H'/\Ext g w g' w'/\Q r H':=
      ⟨hG'.defers,v,h1,v,g'',r,H',rfl,h2,h3,hx.trans h4,h5⟩
    rcases he with rfl | rfl <;> exact this

end Go.Aw
namespace Go.Aw

section
variable {P:Program} {ops:Array Oper}

def Yk (o:Oper)(i:Nat):Prop:=∃e∈o.after,Region.binds .any e=true/\e.on=i

def bM (o:Oper)(j:Nat):Bool:=o.after.any fun e=>Region.binds .any e&&Nat.beq e.on j
def N8 (ops:Array Oper):Nat->Oper->Nat->Bool
 | 0,o,j=>bM o j
 | f+1,o,j=>bM o j||o.after.any fun e=>Region.binds .any e&&(match ops[e.on]? with | some o'=>N8 ops f o' j | none=>false)

def lastB (ops:Array Oper)(listed:Array Bool)(o:Oper)(i:Nat):Bool:=(List.range ops.size).all fun j=>Nat.beq j i||(listed.getD j false&&N8 ops 7 o j)

def syncB (ops:Array Oper)(listed:Array Bool)(o:Oper):Bool:=(List.range ops.size).all fun j=>!(listed.getD j false)||N8 ops 7 o j

inductive CanonI (P:Program) (ops:Array Oper):(Nat->List HO->Prop)->(St->Prop)->Array Bool->St->Prop where
 | done {K:Nat->List HO->Prop} {Q:St->Prop} (listed:Array Bool) (s:St) (hr:Region.ready .any ops listed = []) (h:Q s):CanonI P ops K Q listed s
 | pure {K:Nat->List HO->Prop} {Q:St->Prop} (listed:Array Bool) (s:St) (i:Nat) (o:Oper) (x:AV) (ho:ops[i]? = some o) (hr:(Region.ready .any ops listed).contains i=true) (hf:Region.free .any ops listed i=true)
  (hd:Mx o.dst s.n=true) (hp:PStep P ops o s.sl (K i) x) (h:CanonI P ops K Q (listed.setIfInBounds i true) ⟨D9 o.dst x s.sl,s.H,s.n⟩):CanonI P ops K Q listed s
 | eff {K:Nat->List HO->Prop} {Q:St->Prop} (listed:Array Bool) (s:St) (i:Nat) (o:Oper) (R:AV->List HO->Prop) (ho:ops[i]? = some o) (hr:Region.ready .any ops listed = [i])
  (hd:Mx o.dst s.n=true) (hw:o.guard=none) (hp:L7 P o (El s.sl) s.H R)
  (hK:∀x H',R x H'->∀j,K j H') (h:∀x H',R x H'->CanonI P ops K Q (listed.setIfInBounds i true) ⟨D9 o.dst x s.sl,H',s.n⟩):CanonI P ops K Q listed s

 | last {K:Nat->List HO->Prop} {Q:St->Prop} (listed:Array Bool) (s:St) (i:Nat) (o:Oper) (R:AV->List HO->Prop) (ho:ops[i]? = some o) (hr:Region.ready .any ops listed = [i])
  (hd:Mx o.dst s.n=true) (hw:o.guard=none) (hp:L7 P o (El s.sl) s.H R) (hl:lastB ops listed o i=true)
  (h:∀x H',R x H'->Q ⟨D9 o.dst x s.sl,H',s.n⟩):CanonI P ops K Q listed s
 | sync {K:Nat->List HO->Prop} {Q:St->Prop} (K':Nat->List HO->Prop) (listed:Array Bool) (s:St) (i:Nat) (o:Oper) (R:AV->List HO->Prop) (ho:ops[i]? = some o) (hr:Region.ready .any ops listed = [i])
  (hd:Mx o.dst s.n=true) (hw:o.guard=none) (hp:L7 P o (El s.sl) s.H R) (hl:syncB ops listed o=true) (hK:∀x H',R x H'->∀j,K' j H')
  (h:∀x H',R x H'->CanonI P ops K' Q (listed.setIfInBounds i true) ⟨D9 o.dst x s.sl,H',s.n⟩):CanonI P ops K Q listed s
 | two {K:Nat->List HO->Prop} {Q:St->Prop} (listed:Array Bool) (s:St) (i j:Nat) (o o':Oper) (R R':AV->List HO->Prop) (ho:ops[i]? = some o) (ho':ops[j]? = some o') (hr:Region.ready .any ops listed = [i,j])
  (hd:Mx o.dst s.n=true) (hd':Mx o'.dst s.n=true) (hw:o.guard=none) (hw':o'.guard=none) (hp:L7 P o (El s.sl) s.H R) (hp':L7 P o' (El s.sl) s.H R')
  (hK:∀x H',R x H'->∀j,K j H') (hK':∀x H',R' x H'->∀j,K j H') (h:∀x H',R x H'->CanonI P ops K Q (listed.setIfInBounds i true) ⟨D9 o.dst x s.sl,H',s.n⟩)
  (h':∀x H',R' x H'->CanonI P ops K Q (listed.setIfInBounds j true) ⟨D9 o'.dst x s.sl,H',s.n⟩):CanonI P ops K Q listed s
 | many {K:Nat->List HO->Prop} {Q:St->Prop} (listed:Array Bool) (s:St) (i0:Nat) (L:List Nat) (O:Nat->Oper) (R:Nat->AV->List HO->Prop) (hr:Region.ready .any ops listed=i0::L)
  (hp:∀i∈i0::L,ops[i]? = some (O i)/\Mx (O i).dst s.n=true/\(O i).guard=none/\L7 P (O i) (El s.sl) s.H (R i)/\∀x H',R i x H'->∀j,K j H')
  (h:∀i∈i0::L,∀x H',R i x H'->CanonI P ops K Q (listed.setIfInBounds i true) ⟨D9 (O i).dst x s.sl,H',s.n⟩):CanonI P ops K Q listed s
 | effg {K:Nat->List HO->Prop} {Q:St->Prop} (listed:Array Bool) (s:St) (i:Nat) (o:Oper) (G:List (Bool×Bool)) (L:List (Nat×AV)) (x:AV) (H2:List HO) (ho:ops[i]? = some o) (hr:Region.ready .any ops listed = [i])
  (hd:Mx o.dst s.n=true) (hw:F2 ops o s.sl=some G) (hL:∀p∈L,tQ G (get s.sl p.1) p.2) (hp:Mn G->L7 P o (El (L++s.sl)) s.H fun x' H'=>x'=x/\H'=H2) (hn:¬Mn G->s.H=H2)
  (hK:∀j,K j H2) (h:CanonI P ops K Q (listed.setIfInBounds i true) ⟨D9 o.dst (.opt G x) s.sl,H2,s.n⟩):CanonI P ops K Q listed s
 | phase {K:Nat->List HO->Prop} {Q:St->Prop} (K':Nat->List HO->Prop) (listed:Array Bool) (s:St) (i:Nat) (o:Oper) (R:AV->List HO->Prop) (ho:ops[i]? = some o) (hr:Region.ready .any ops listed = [i])
  (hd:Mx o.dst s.n=true) (hw:o.guard=none) (hp:L7 P o (El s.sl) s.H R) (hl:∀j,j<ops.size->listed.getD j false=true->N8 ops 7 o j=false->∀H,K' j H->K j H) (hK:∀x H',R x H'->∀j,K' j H')
  (h:∀x H',R x H'->CanonI P ops K' Q (listed.setIfInBounds i true) ⟨D9 o.dst x s.sl,H',s.n⟩):CanonI P ops K Q listed s
 | phaseg {K:Nat->List HO->Prop} {Q:St->Prop} (K':Nat->List HO->Prop) (listed:Array Bool) (s:St) (i:Nat) (o:Oper) (G:List (Bool×Bool)) (L:List (Nat×AV)) (x:AV) (H2:List HO) (ho:ops[i]? = some o) (hr:Region.ready .any ops listed = [i])
  (hd:Mx o.dst s.n=true) (hw:F2 ops o s.sl=some G) (hL:∀p∈L,tQ G (get s.sl p.1) p.2) (hp:Mn G->L7 P o (El (L++s.sl)) s.H fun x' H'=>x'=x/\H'=H2) (hn:¬Mn G->s.H=H2)
  (hl:∀j,j<ops.size->listed.getD j false=true->N8 ops 7 o j=false->∀H,K' j H->K j H) (hK:∀j,K' j H2) (h:CanonI P ops K' Q (listed.setIfInBounds i true) ⟨D9 o.dst (.opt G x) s.sl,H2,s.n⟩):CanonI P ops K Q listed s

theorem PStep.weaken {P:Program}{ops:Array Oper}{o:Oper}{sl:List (Nat×AV)}{K K':List HO->Prop}{x:AV}(h:PStep P ops o sl K x)(hK:∀H,K' H->K H):PStep P ops o sl K' x:=by
 cases h with
 | run hg hp=>exact .run hg fun g w a H next Q hr hH hk hn=>hp g w a H next Q hr hH (hK H hk) hn
 | opt G y L hw hL hp hx=>exact .opt G y L hw hL (fun hg g w a H next Q hr hH hk hn=>hp hg g w a H next Q hr hH (hK H hk) hn) hx

def Em (ops:Array Oper):Bool:=(ops.toList.filterMap (·.dst)).Nodup

structure Pd where
 i:Nat
 o:Oper
 x:AV
 sl:List (Nat×AV)

structure Inv (P:Program) (ops:Array Oper) (K:Nat->List HO->Prop) (listed:Array Bool) (s:St) (pend:List Pd) (listed':Array Bool) (sl':List (Nat×AV)):Prop where
 size:listed.size=ops.size
 size':listed'.size=ops.size
 lst:∀j,j<ops.size->(listed'.getD j true=true↔listed.getD j true=true/\∀p∈pend,p.i≠j)
 op:∀p∈pend,ops[p.i]? = some p.o/\listed.getD p.i true=true/\PStep P ops p.o p.sl (K p.i) p.x/\Mx p.o.dst s.n=true
 slot:∀t,(∀p∈pend,p.o.dst≠some t)->get sl' t=get s.sl t
 val:∀p∈pend,∀t,p.o.dst=some t->get s.sl t=p.x
 rd:∀q∈pend,∀t∈q.o.looksAt ops,(∃p∈pend,p.o.dst=some t/\Yk q.o p.i)\/get sl' t=get q.sl t
 rv:∀q∈pend,∀t∈q.o.looksAt ops,∀p∈pend,p.i≠q.i->p.o.dst=some t->(Yk q.o p.i/\p.x=get q.sl t)\/Yk p.o q.i
 ap:∀p∈pend,∀j o,ops[j]? = some o->listed.getD j true=false->Yk o p.i\/p.o.apart ops o=true
 ord:pend.Pairwise fun q p=>¬Yk p.o q.i
 slf:∀p∈pend,¬Yk p.o p.i
 dep:∀p∈pend,∀e∈p.o.after,Region.binds .any e=true->listed.getD e.on false=true
 idx:(pend.map (·.i)).Nodup
 cl:∀j o,ops[j]? = some o->listed'.getD j true=true->∀e∈o.after,Region.binds .any e=true->listed'.getD e.on false=true

theorem cO (hd:Em ops=true){i j:Nat}{o o':Oper}{t:Nat}(hi:ops[i]? = some o)(hj:ops[j]? = some o')(h:o.dst=some t)(h':o'.dst=some t):i=j:=by
  simp only [Em,Ea] at hd
  have key:∀(l:List Oper) (i j:Nat) (o o':Oper),(l.filterMap (·.dst)).Nodup->l[i]? = some o->l[j]? = some o'->o.dst=some t->o'.dst=some t->i=j:=by
    intro l
    induction l with
    | nil=>intro i j o o' _ h1;simp at h1
    | cons y r ih=>
      intro i j o o' hn h1 h2 e1 e2;have hmem:∀(k:Nat) (z:Oper),r[k]? = some z->z.dst=some t->t∈r.filterMap (·.dst):=fun k z hk hz=>Ug.2 ⟨z,Aj hk,hz⟩
      cases i with
      | zero=>
        simp only [List.getElem?_cons_zero,Option.some.injEq] at h1;subst h1;cases j with
        | zero=>rfl
        | succ j=>
          simp only [List.getElem?_cons_succ] at h2;rw [L5,e1] at hn;exact absurd (hmem j o' h2 e2) (Jr.1 hn).1
      | succ i=>
        simp only [List.getElem?_cons_succ] at h1;cases j with
        | zero=>
          simp only [List.getElem?_cons_zero,Option.some.injEq] at h2;subst h2;rw [L5,e2] at hn;exact absurd (hmem i o h1 e1) (Jr.1 hn).1
        | succ j=>
          simp only [List.getElem?_cons_succ] at h2
          have hn':(r.filterMap (·.dst)).Nodup:=by
            rw [L5] at hn;cases hy:y.dst with
            | none=>rw [hy] at hn;exact hn
            | some d=>rw [hy] at hn;exact (Jr.1 hn).2
          rw [ih i j o o' hn' h1 h2 e1 e2]
  exact key ops.toList i j o o' hd (by simpa using hi) (by simpa using hj) h h'

theorem C0 {a:Array Bool}{j:Nat}(h:j<a.size):a.getD j true=a.getD j false:=by simp [h]

variable {K:Nat->List HO->Prop} {K0:List HO->Prop} {listed listed':Array Bool} {s:St} {pend:List Pd} {sl':List (Nat×AV)}

theorem Inv.reads (I:Inv P ops K listed s pend listed' sl'){q:Pd}(hq:q∈pend)(hr:q.i∈Region.ready .any ops listed'){t:Nat}(ht:t∈q.o.looksAt ops):get sl' t=get q.sl t:=by
 rcases I.rd q hq t ht with ⟨p,hp,_,e,he,hb,ho⟩ | h
 .
  obtain ⟨_,o,ho',hall⟩:=mem_ready.1 hr;rw [(I.op q hq).1] at ho';cases ho'
  have h1:=hall e he hb;rw [ho] at h1;have hlt:p.i<ops.size:=(Array.getElem?_eq_some_iff.1 (I.op p hp).1).1;rw [<-C0 (by rw [I.size'];exact hlt)] at h1;exact absurd rfl (((I.lst p.i hlt).1 h1).2 p hp)
 exact h
theorem PStep.wpOp {o:Oper}{i:Nat}{sl:List (Nat×AV)}{x:AV}(hp:PStep P ops o sl K0 x)(ho:ops[i]? = some o){g:Gh}{st:St}{a:Act}{w:World}(hG:Gm g st a w)
  (hK:K0 st.H) (hd:Mx o.dst st.n=true) (hs:∀t∈o.looksAt ops,get st.sl t=get sl t) {next:Act->World->Prop} {Q:Exit->Act->World->Prop}
  (hn:∀g' a' w',Gm g' ⟨D9 o.dst x st.sl,st.H,st.n⟩ a' w'->Ext g w g' w'->next a' w'):wpOp P ops Q i next a w:=by
 unfold Go.wpOp;simp only [ho];obtain ⟨h1,h2⟩:=hp.go (Q:=Q) hG hK hd hs hn;cases hw:Region.wanted o (yielded ops a.tmps) with
 | true=>rw [if_pos rfl];exact .inl (h1 hw)
 | false=>simp only [Al,if_false];exact h2 hw

theorem Mg (d:Option Nat)(x:AV)(sl:List (Nat×AV))(t:Nat):get (D9 d x sl) t=if d=some t then x else get sl t:=by
  cases d with
  | none=>simp [D9]
  | some d=>
    simp only [D9,E3,Option.some.injEq]

theorem Inv.exec (hdd:Em ops=true)(I:Inv P ops K listed s pend listed' sl'){q:Pd}(hq:q∈pend)(hr:q.i∈Region.ready .any ops listed') :
  Inv P ops K listed s (pend.filter fun p=>p.i != q.i) (listed'.setIfInBounds q.i true) (D9 q.o.dst q.x sl'):=by
 have hlt:q.i<ops.size:=(Array.getElem?_eq_some_iff.1 (I.op q hq).1).1;have hsub:∀p,p∈pend.filter (fun p=>p.i != q.i)↔p∈pend/\p.i≠q.i:=fun p=>by simp [Jq]
 have same:∀p∈pend,p.i=q.i->p.o=q.o:=fun p hp h=>by
  have h1:=(I.op p hp).1;rw [h,(I.op q hq).1] at h1;exact (Option.some.inj h1).symm
 have uq:∀p∈pend,∀t,p.o.dst=some t->q.o.dst=some t->p.i=q.i:=fun p hp t h1 h2=>cO hdd (I.op p hp).1 (I.op q hq).1 h1 h2
 refine ⟨I.size,by simpa using I.size',?_,fun p hp=>I.op p ((hsub p).1 hp).1,?_,fun p hp=>I.val p ((hsub p).1 hp).1,?_,fun a ha t ht p hp=>I.rv a ((hsub a).1 ha).1 t ht p ((hsub p).1 hp).1,
  fun p hp=>I.ap p ((hsub p).1 hp).1,I.ord.filter _,fun p hp=>I.slf p ((hsub p).1 hp).1,fun p hp=>I.dep p ((hsub p).1 hp).1,?_,?_⟩
 .
  intro j hj;by_cases e:j=q.i
  .
   subst e;refine ⟨fun _=>⟨(I.op q hq).2.1,fun p hp=>((hsub p).1 hp).2⟩,fun _=>?_⟩;have:q.i<listed'.size:=by rw [I.size'];exact hlt
   simp [this]
  rw [getD_set_ne true (Ne.symm e),I.lst j hj];refine ⟨fun ⟨h1,h2⟩=>⟨h1,fun p hp=>h2 p ((hsub p).1 hp).1⟩,fun ⟨h1,h2⟩=>⟨h1,fun p hp=>?_⟩⟩;by_cases e2:p.i=q.i
  . rw [e2];exact fun h=>e h.symm
  exact h2 p ((hsub p).2 ⟨hp,e2⟩)
 .
  intro t ht;rw [Mg];by_cases e:q.o.dst=some t
  . rw [if_pos e,I.val q hq t e]
  rw [if_neg e];refine I.slot t fun p hp=>?_
  by_cases e2:p.i=q.i
  . rw [same p hp e2];exact e
  exact ht p ((hsub p).2 ⟨hp,e2⟩)
 .
  intro a ha t ht;obtain ⟨ha1,ha2⟩:=(hsub a).1 ha;rw [Mg];by_cases e:q.o.dst=some t
  .
   rw [if_pos e];rcases I.rv a ha1 t ht q hq (Ne.symm ha2) e with ⟨_,h⟩ | ⟨e',he',hb,ho⟩
   . exact .inr h
   exfalso;obtain ⟨_,o,ho',hall⟩:=mem_ready.1 hr;rw [(I.op q hq).1] at ho';cases ho'
   have h1:=hall e' he' hb;rw [ho] at h1;have hlta:a.i<ops.size:=(Array.getElem?_eq_some_iff.1 (I.op a ha1).1).1;rw [<-C0 (by rw [I.size'];exact hlta)] at h1;exact ((I.lst a.i hlta).1 h1).2 a ha1 rfl
  rw [if_neg e];rcases I.rd a ha1 t ht with ⟨p,hp,hpd,hw⟩ | h
  .
   refine .inl ⟨p,(hsub p).2 ⟨hp,fun e2=>e ?_⟩,hpd,hw⟩;rw [<-same p hp e2];exact hpd
  exact .inr h
 . exact I.idx.sublist (List.Sublist.map _ List.filter_sublist)
 intro j o hj hl e he hb;by_cases ej:j=q.i
 .
  obtain ⟨_,o',ho',hall⟩:=mem_ready.1 hr;rw [<-ej,hj] at ho';cases ho';exact getD_set_true (hall e he hb)
 rw [getD_set_ne true (Ne.symm ej)] at hl;exact getD_set_true (I.cl j o hj hl e he hb)
theorem Inv.push (hdd:Em ops=true)(I:Inv P ops K listed s pend listed' sl'){i:Nat}{o:Oper}{x:AV}(ho:ops[i]? = some o)(hr:i∈Region.ready .any ops listed)
    (hf:Region.free .any ops listed i=true) (hd:Mx o.dst s.n=true) (hp:PStep P ops o s.sl (K i) x) :
    Inv P ops K (listed.setIfInBounds i true) ⟨D9 o.dst x s.sl,s.H,s.n⟩ (⟨i,o,x,s.sl⟩::pend) listed' sl':=by
  obtain ⟨hun,o',ho',hall⟩:=mem_ready.1 hr;rw [ho] at ho';cases ho';have hlt:i<ops.size:=(Array.getElem?_eq_some_iff.1 ho).1
  have hne:∀p∈pend,p.i≠i:=fun p hp e=>by
    have:=(I.op p hp).2.1;rw [e,hun] at this;cases this
  have hset:(listed.setIfInBounds i true).getD i true=true:=by
    have:i<listed.size:=by rw [I.size];exact hlt
    simp [this]
  have hfree:=fun j oj=>Region.free_spec ho hf j oj
  -- how the new one and a pending one stand
  have stand:∀p∈pend,Yk o p.i\/p.o.apart ops o=true:=fun p hp=>I.ap p hp i o ho hun
  refine ⟨by simpa using I.size,I.size',?_,?_,?_,?_,?_,?_,?_,?_,?_,?_,?_,I.cl⟩
  . intro j hj
    rw [I.lst j hj];by_cases e:j=i
    . subst e
      refine ⟨fun ⟨h1,_⟩=>(by rw [hun] at h1;cases h1),fun ⟨_,h2⟩=>absurd rfl (h2 _ (I7 ..))⟩
    . rw [getD_set_ne true (Ne.symm e)]
      refine ⟨fun ⟨h1,h2⟩=>⟨h1,fun p hp=>?_⟩,fun ⟨h1,h2⟩=>⟨h1,fun p hp=>h2 p (Ha _ hp)⟩⟩;rcases Cn.1 hp with rfl | hp
      . exact fun h=>e h.symm
      exact h2 p hp
  . intro p hp'
    rcases Cn.1 hp' with rfl | hp'
    . exact ⟨ho,hset,hp,hd⟩
    . obtain ⟨h1,h2,h3,h4⟩:=I.op p hp'
      exact ⟨h1,by rw [getD_set_ne true (Ne.symm (hne p hp'))];exact h2,h3,h4⟩
  . intro t ht
    have h1:=ht ⟨i,o,x,s.sl⟩ (I7 ..);show _=get (D9 o.dst x s.sl) t;rw [Mg,if_neg h1];exact I.slot t fun p hp=>ht p (Ha _ hp)
  . intro p hp' t ht
    show get (D9 o.dst x s.sl) t=_;rw [Mg];rcases Cn.1 hp' with rfl | hp'
    . rw [if_pos ht]
    . rw [if_neg fun h=>hne p hp' (cO hdd (I.op p hp').1 ho ht h)]
      exact I.val p hp' t ht
  . intro q hq t ht
    rcases Cn.1 hq with rfl | hq
    . by_cases h:∃p∈pend,p.o.dst=some t
      . obtain ⟨p,hp',hpd⟩:=h
        refine .inl ⟨p,Ha _ hp',hpd,?_⟩;rcases stand p hp' with h | h
        . exact h
        exact absurd ht ((Oper.apart_spec h).1 t hpd)
      exact .inr (I.slot t fun p hp' h'=>h ⟨p,hp',h'⟩)
    . rcases I.rd q hq t ht with ⟨p,hp',h⟩ | h
      . exact .inl ⟨p,Ha _ hp',h⟩
      exact .inr h
  . intro q hq t ht p hp' hpi hpd
    rcases Cn.1 hq with rfl | hq
    . rcases Cn.1 hp' with rfl | hp'
      . exact absurd rfl hpi
      . rcases stand p hp' with h | h
        . exact .inl ⟨h,(I.val p hp' t hpd).symm⟩
        exact absurd ht ((Oper.apart_spec h).1 t hpd)
    . rcases Cn.1 hp' with rfl | hp'
      . rcases stand q hq with h | h
        . exact .inr h
        exact absurd ht ((Oper.apart_spec h).2.2 t hpd)
      exact I.rv q hq t ht p hp' hpi hpd
  . intro p hp' j oj hj hu
    have hju:listed.getD j true=false/\j≠i:=by
      by_cases e:j=i
      . subst e;rw [hset] at hu;cases hu
      rw [getD_set_ne true (Ne.symm e)] at hu;exact ⟨hu,e⟩
    rcases Cn.1 hp' with rfl | hp'
    . by_cases h:∃e∈oj.after,Region.binds .any e=true/\e.on=i
      . exact .inl h
      exact .inr (hfree j oj hj hju.2 hju.1 fun e he hb hon=>h ⟨e,he,hb,hon⟩)
    exact I.ap p hp' j oj hj hju.1
  . refine List.pairwise_cons.2 ⟨fun p hp' ⟨e,he,_,ho'⟩=>?_,I.ord⟩
    have h1:=I.dep p hp' e he (by assumption);rw [ho',<-C0 (by rw [I.size];exact hlt),hun] at h1;cases h1
  . intro p hp'
    rcases Cn.1 hp' with rfl | hp'
    . rintro ⟨e,he,hb,hon⟩
      have h1:=hall e he hb;rw [hon,<-C0 (by rw [I.size];exact hlt),hun] at h1;cases h1
    exact I.slf p hp'
  . intro p hp' e he hb
    rcases Cn.1 hp' with rfl | hp'
    . exact getD_set_true (hall e he hb)
    exact getD_set_true (I.dep p hp' e he hb)
  . simp only [Be,Jr]
    refine ⟨fun hm=>?_,I.idx⟩;obtain ⟨p,hp',h⟩:=C9.1 hm;exact hne p hp' h

theorem Inv.ready_of (I:Inv P ops K listed s pend listed' sl'){j:Nat}(hj:j∈Region.ready .any ops listed')(hp:∀p∈pend,p.i≠j):j∈Region.ready .any ops listed:=by
 obtain ⟨hu,o,ho,hall⟩:=mem_ready.1 hj;have hlt:j<ops.size:=(Array.getElem?_eq_some_iff.1 ho).1;refine mem_ready.2 ⟨?_,o,ho,fun e he hb=>?_⟩
 .
  cases h:listed.getD j true with
  | false=>rfl
  | true=>rw [(I.lst j hlt).2 ⟨h,hp⟩] at hu;cases hu
 have h1:=hall e he hb
 have h2:e.on<ops.size:=by
  rcases Oh e.on ops.size with h' | h'
  . exact h'
  have:listed'.size<=e.on:=by rw [I.size'];exact h'
  simp [Array.getElem?_eq_none this] at h1
 rw [<-C0 (by rw [I.size'];exact h2)] at h1;rw [<-C0 (by rw [I.size];exact h2)];exact ((I.lst _ h2).1 h1).1
theorem nM {α:Type}{R:α->α->Prop}:∀(l:List α),l.Pairwise R->l≠[]->∃q∈l,∀p∈l,p=q\/R p q
  | [],_,h=>absurd rfl h
  | [a],_,_=>⟨a,by simp,fun p hp=>.inl (by simpa using hp)⟩
  | a::b::r,hp,_=>by
    obtain ⟨h1,h2⟩:=List.pairwise_cons.1 hp;obtain ⟨q,hq,hall⟩:=nM (b::r) h2 (by simp);refine ⟨q,Ha _ hq,fun p hp=>?_⟩;rcases Cn.1 hp with rfl | hp
    . exact .inr (h1 q hq)
    exact hall p hp
theorem Inv.oldest (I:Inv P ops K listed s pend listed' sl')(hne:pend≠[]):∃q∈pend,q.i∈Region.ready .any ops listed':=by
 obtain ⟨q,hq,hall⟩:=nM pend I.ord hne;have hlt:q.i<ops.size:=(Array.getElem?_eq_some_iff.1 (I.op q hq).1).1;refine ⟨q,hq,mem_ready.2 ⟨?_,q.o,(I.op q hq).1,fun e he hb=>?_⟩⟩
 .
  cases h:listed'.getD q.i true with
  | false=>rfl
  | true=>exact absurd rfl (((I.lst q.i hlt).1 h).2 q hq)
 have h1:=I.dep q hq e he hb
 have h2:e.on<ops.size:=by
  rcases Oh e.on ops.size with h' | h'
  . exact h'
  have:listed.size<=e.on:=by rw [I.size];exact h'
  simp [Array.getElem?_eq_none this] at h1
 rw [<-C0 (by rw [I.size];exact h2)] at h1;rw [<-C0 (by rw [I.size'];exact h2)];refine (I.lst _ h2).2 ⟨h1,fun p hp hpe=>?_⟩;have hw:Yk q.o p.i:=⟨e,he,hb,hpe.symm⟩;rcases hall p hp with rfl | h
 . exact I.slf _ hq hw
 exact h hw
theorem Inv.eff (hdd:Em ops=true)(I:Inv P ops K listed s pend listed' sl'){i:Nat}{o:Oper}(ho:ops[i]? = some o)(hr:i∈Region.ready .any ops listed)(hr':i∈Region.ready .any ops listed')(x:AV)(H':List HO) :
  (∀p∈pend,p.o.apart ops o=true)/\Inv P ops K (listed.setIfInBounds i true) ⟨D9 o.dst x s.sl,H',s.n⟩ pend (listed'.setIfInBounds i true) (D9 o.dst x sl'):=by
 obtain ⟨hun,o',ho',hall⟩:=mem_ready.1 hr;rw [ho] at ho';cases ho';obtain ⟨hun',o',ho',hall'⟩:=mem_ready.1 hr';rw [ho] at ho';cases ho';have hlt:i<ops.size:=(Array.getElem?_eq_some_iff.1 ho).1
 have hne:∀p∈pend,p.i≠i:=fun p hp e=>by
  have:=(I.op p hp).2.1;rw [e,hun] at this;cases this
 have nw:∀p∈pend,¬Yk o p.i:=fun p hp ⟨e,he,hb,hon⟩=>by
  have h1:=hall' e he hb;have hltp:p.i<ops.size:=(Array.getElem?_eq_some_iff.1 (I.op p hp).1).1;rw [hon,<-C0 (by rw [I.size'];exact hltp)] at h1;exact ((I.lst p.i hltp).1 h1).2 p hp rfl
 have hap:∀p∈pend,p.o.apart ops o=true:=fun p hp=>(I.ap p hp i o ho hun).resolve_left (nw p hp)
 refine ⟨hap,by simpa using I.size,by simpa using I.size',?_,?_,?_,?_,?_,I.rv,?_,I.ord,I.slf,fun p hp e he hb=>getD_set_true (I.dep p hp e he hb),I.idx,fun j oj hj hl e he hb=>?_⟩
 .
  intro j hj;by_cases e:j=i
  .
   subst e;have h1:j<listed.size:=by rw [I.size];exact hlt
   have h2:j<listed'.size:=by rw [I.size'];exact hlt
   simp [h1,h2];exact hne
  rw [getD_set_ne true (Ne.symm e),getD_set_ne true (Ne.symm e)];exact I.lst j hj
 .
  intro p hp;obtain ⟨h1,h2,h3,h4⟩:=I.op p hp;exact ⟨h1,by rw [getD_set_ne true (Ne.symm (hne p hp))];exact h2,h3,h4⟩
 .
  intro t ht;show _=get (D9 o.dst x s.sl) t;rw [Mg,Mg];by_cases e:o.dst=some t
  . simp [e]
  simp only [e,if_false];exact I.slot t ht
 .
  intro p hp t ht;show get (D9 o.dst x s.sl) t=_;rw [Mg,if_neg fun h=>(Oper.apart_spec (hap p hp)).2.1 t ht h];exact I.val p hp t ht
 .
  intro q hq t ht;rcases I.rd q hq t ht with h | h
  . exact .inl h
  refine .inr ?_;rw [Mg,if_neg fun h'=>(Oper.apart_spec (hap q hq)).2.2 t h' ht];exact h
 .
  intro p hp j oj hj hu;refine I.ap p hp j oj hj ?_;by_cases e:j=i
  .
   subst e;have:j<listed.size:=by rw [I.size];exact hlt
   simp [this] at hu
  rw [getD_set_ne true (Ne.symm e)] at hu;exact hu
 by_cases ej:j=i
 .
  rw [ej,ho] at hj;cases hj;exact getD_set_true (hall' e he hb)
 rw [getD_set_ne true (Ne.symm ej)] at hl;exact getD_set_true (I.cl j oj hj hl e he hb)
theorem Inv.reach (I:Inv P ops K listed s pend listed' sl'):∀(f:Nat) (o:Oper) (j:Nat),(∀e∈o.after,Region.binds .any e=true->listed'.getD e.on false=true)->N8 ops f o j=true->listed'.getD j false=true:=by
  have dir:∀(o:Oper) (j:Nat),(∀e∈o.after,Region.binds .any e=true->listed'.getD e.on false=true)->bM o j=true->listed'.getD j false=true:=fun o j hall h=>by
    obtain ⟨k,hk,he⟩:=Array.any_eq_true.1 h;simp only [Cy] at he;have:=hall _ (Array.getElem_mem hk) he.1
    rwa [D6 he.2] at this
  intro f
  induction f with
  | zero=>exact dir
  | succ f ih=>
    intro o j hall h;rcases (Ii _ _▸h:bM o j=true\/_) with h | h
    . exact dir o j hall h
    . obtain ⟨k,hk,he⟩:=Array.any_eq_true.1 h
      simp only [Cy] at he;have h1:=hall _ (Array.getElem_mem hk) he.1;have h2:=he.2;split at h2
      . rename_i o' ho'
        have hlt:(o.after[k]).on<ops.size:=(Array.getElem?_eq_some_iff.1 ho').1;rw [<-C0 (by rw [I.size'];exact hlt)] at h1;exact ih o' j (I.cl _ o' ho' h1) h2
      cases h2
def tB (ops:Array Oper)(listed:Array Bool):Nat:=((List.range ops.size).filter fun j=>!listed.getD j true).length

theorem filt_lt {p p':Nat->Bool}{l:List Nat}(h:∀x,p' x=true->p x=true){y:Nat}(hy:y∈l)(h1:p y=true)(h2:p' y=false):(l.filter p').length<(l.filter p).length:=by
  have le:∀l:List Nat,(l.filter p').length<=(l.filter p).length:=by
    intro l
    induction l with
    | nil=>simp
    | cons a r ih=>
      cases e':p' a with
      | true=>simp [Ua,e',h a e',ih]
      | false=>cases e:p a <;> simp [Ua,e',e] <;> omega
  induction l with
  | nil=>cases hy
  | cons a r ih=>
    rcases Cn.1 hy with rfl | hy
    . have:=le r
      simp [Ua,h1,h2];omega
    . have:=ih hy
      cases e':p' a with
      | true=>simp [Ua,e',h a e',this]
      | false=>cases e:p a <;> simp [Ua,e',e] <;> omega

theorem Fc {i:Nat}(hr:i∈Region.ready .any ops listed')(hs:listed'.size=ops.size):tB ops (listed'.setIfInBounds i true)<tB ops listed':=by
 obtain ⟨hu,o,ho,_⟩:=mem_ready.1 hr;have hlt:i<ops.size:=(Array.getElem?_eq_some_iff.1 ho).1;refine filt_lt (y:=i) (fun x hx=>?_) (by simpa using hlt) (by simp only [hu,Bk]) ?_
 .
  by_cases e:x=i
  . subst e;simp only [hu,Bk]
  rw [getD_set_ne true (Ne.symm e)] at hx;exact hx
 have:i<listed'.size:=by rw [hs];exact hlt
 simp [this]
theorem G8 {i:Nat}(hr:i∈Region.ready .any ops listed'):0<tB ops listed':=by
 obtain ⟨hu,o,ho,_⟩:=mem_ready.1 hr;have hlt:i<ops.size:=(Array.getElem?_eq_some_iff.1 ho).1;exact Su (Jq.2 ⟨K9.2 hlt,by simp only [hu,Bk]⟩)

theorem Gm.congr {g:Gh}{a:Act}{w:World}{sl sl':List (Nat×AV)}{H:List HO}{n:Nat}(h:Gm g ⟨sl',H,n⟩ a w)(e:∀t,get sl' t=get sl t):Gm g ⟨sl,H,n⟩ a w:=
 ⟨h.size,h.defers,fun i=>by have:=h.sl i;rw [<-e i];exact this,h.heap⟩

theorem done_any {Qs:St->Prop}(hr:Region.ready .any ops listed = [])(h:Qs s):∀(B1:Nat) (listed':Array Bool) (sl':List (Nat×AV)) (g:Gh) (a:Act) (w:World) (Q':Exit->Act->World->Prop),
    Inv P ops K listed s [] listed' sl'->Gm g ⟨sl',s.H,s.n⟩ a w->tB ops listed'<=B1->
    (∀g' s' a' w',Gm g' s' a' w'->Ext g w g' w'->Qs s'->Q' .normal a' w')->wpAny P .any ops Q' B1 listed' a w:=by
  intro B1;cases B1 with
  | zero=>
    intro listed' sl' g a w Q' I hG hf hQ;refine ⟨?_,hQ g s a w (hG.congr fun t=>I.slot t (by simp)) (Ext.refl g w) h⟩;cases hrr:Region.ready .any ops listed' with
    | nil=>rfl
    | cons x r=>have:=G8 (i:=x) (listed':=listed') (by rw [hrr];simp);omega
  | succ B1=>
    intro listed' sl' g a w Q' I hG hf hQ;refine ⟨fun h0=>hQ g s a w (hG.congr fun t=>I.slot t (by simp)) (Ext.refl g w) h,fun j hj=>?_⟩;have:=I.ready_of hj (fun p hp=>by cases hp);rw [hr] at this;cases this

theorem CanonI.any (hdd:Em ops=true){Qs:St->Prop}(hC:CanonI P ops K Qs listed s):∀(B1:Nat) (pend:List Pd) (listed':Array Bool) (sl':List (Nat×AV)) (g:Gh) (a:Act) (w:World) (Q':Exit->Act->World->Prop),
    Inv P ops K listed s pend listed' sl'->Gm g ⟨sl',s.H,s.n⟩ a w->(∀j,K j s.H)->tB ops listed'<=B1->
    (∀g' s' a' w',Gm g' s' a' w'->Ext g w g' w'->Qs s'->Q' .normal a' w')->wpAny P .any ops Q' B1 listed' a w:=by
  induction hC with
  | done listed s hr h=>
    intro B1
    induction B1 with
    | zero=>
      intro pend listed' sl' g a w Q' I hG hK hf hQ
      have hp:pend = []:=by
        cases hp:pend with
        | nil=>rfl
        | cons x r=>obtain ⟨q,_,hq⟩:=I.oldest (by simp [hp]);have:=G8 hq;omega
      subst hp;refine ⟨?_,hQ g s a w (hG.congr fun t=>I.slot t (by simp)) (Ext.refl g w) h⟩;cases hrr:Region.ready .any ops listed' with
      | nil=>rfl
      | cons x r=>have:=G8 (i:=x) (listed':=listed') (by rw [hrr];simp);omega
    | succ B1 ih=>
      intro pend listed' sl' g a w Q' I hG hK hf hQ;refine ⟨fun h0=>?_,fun j hj=>?_⟩
      . have hp:pend = []:=by
          cases hp:pend with
          | nil=>rfl
          | cons x r=>obtain ⟨q,_,hq⟩:=I.oldest (by simp [hp]);rw [h0] at hq;cases hq
        subst hp;exact hQ g s a w (hG.congr fun t=>I.slot t (by simp)) (Ext.refl g w) h
      . by_cases e:∃q∈pend,q.i=j
        . obtain ⟨q,hq,rfl⟩:=e
          obtain ⟨h1,_,h3,h4⟩:=I.op q hq;refine h3.wpOp h1 hG (hK _) h4 (fun t ht=>I.reads hq hj ht) fun g' a' w' hG' hx=>?_
          exact ih _ _ _ g' a' w' Q' (I.exec hdd hq hj) hG' hK (by have:=Fc hj I.size';omega) fun g'' s'' a'' w'' k1 k2 k3=>hQ g'' s'' a'' w'' k1 (hx.trans k2) k3
        . have:=I.ready_of hj (fun p hp hpe=>e ⟨p,hp,hpe⟩)
          rw [hr] at this;cases this
  | pure listed s i o x ho hr hf hd hp _ ih=>
    intro B1 pend listed' sl' g a w Q' I hG hK hfu hQ;exact ih B1 _ _ _ g a w Q' (I.push hdd ho (by simpa using hr) hf hd hp) hG hK hfu hQ
  | eff listed s i o R ho hr hd hgd hp hKK _ ih=>
    intro B1
    induction B1 with
    | zero=>
      intro pend listed' sl' g a w Q' I hG hK hf hQ;exfalso
      have hp:pend = []:=by
        cases hp:pend with
        | nil=>rfl
        | cons x r=>obtain ⟨q,_,hq⟩:=I.oldest (by simp [hp]);have:=G8 hq;omega
      subst hp;have hri:i∈Region.ready .any ops listed:=by rw [hr];simp
      have hu:=(mem_ready.1 hri).1;have hlt:i<ops.size:=(Array.getElem?_eq_some_iff.1 ho).1
      have hu':listed'.getD i true=false:=by
        cases h:listed'.getD i true with
        | false=>rfl
        | true=>rw [((I.lst i hlt).1 h).1] at hu;cases hu
      have:0<tB ops listed':=Su (Jq.2 ⟨K9.2 hlt,by simp only [hu',Bk]⟩);omega
    | succ B1 ihf=>
      intro pend listed' sl' g a w Q' I hG hK hf hQ;have hri:i∈Region.ready .any ops listed:=by rw [hr];simp
      refine ⟨fun h0=>?_,fun j hj=>?_⟩
      . exfalso
        have hp:pend = []:=by
          cases hp:pend with
          | nil=>rfl
          | cons x r=>obtain ⟨q,_,hq⟩:=I.oldest (by simp [hp]);rw [h0] at hq;cases hq
        subst hp;obtain ⟨hu,o',ho',hall⟩:=mem_ready.1 hri;have hlt:i<ops.size:=(Array.getElem?_eq_some_iff.1 ho).1
        have:i∈Region.ready .any ops listed':=by
          refine mem_ready.2 ⟨?_,o',ho',fun e he hb=>?_⟩
          . cases h:listed'.getD i true with
            | false=>rfl
            | true=>rw [((I.lst i hlt).1 h).1] at hu;cases hu
          . have h1:=hall e he hb
            have h2:e.on<ops.size:=by
              rcases Oh e.on ops.size with h' | h'
              . exact h'
              . have:listed.size<=e.on:=by rw [I.size];exact h'
                simp [Array.getElem?_eq_none this] at h1
            rw [<-C0 (by rw [I.size];exact h2)] at h1;rw [<-C0 (by rw [I.size'];exact h2)];exact (I.lst _ h2).2 ⟨h1,by simp⟩
        rw [h0] at this;cases this
      . by_cases e:∃q∈pend,q.i=j
        . obtain ⟨q,hq,rfl⟩:=e
          obtain ⟨h1,_,h3,h4⟩:=I.op q hq;refine h3.wpOp h1 hG (hK _) h4 (fun t ht=>I.reads hq hj ht) fun g' a' w' hG' hx=>?_
          exact ihf _ _ _ g' a' w' Q' (I.exec hdd hq hj) hG' hK (by have:=Fc hj I.size';omega) fun g'' s'' a'' w'' k1 k2 k3=>hQ g'' s'' a'' w'' k1 (hx.trans k2) k3
        . have hj':=I.ready_of hj (fun p hp hpe=>e ⟨p,hp,hpe⟩)
          rw [hr] at hj';obtain rfl:j=i:=by simpa using hj'
          have hap:=(I.eff hdd ho hri hj .junk s.H).1;unfold wpOp;simp only [ho];rw [if_pos (E4 hgd)];refine .inl (hp g w a _ _ (fun y hy=>?_) hG.heap fun g' w' v x H' hR hv hH hx=>?_)
          . cases y with
            | tmp t=>
              have ht:=Ci (ops:=ops) hy;have h1:get sl' t=get s.sl t:=I.slot t fun p hp' hpd=>(Oper.apart_spec (hap p hp')).1 t hpd ht
              have:=hG.sl t;show Rep g w _ (get s.sl t);rw [<-h1];exact this
            | const v=>exact Fv g w v
            | global n=>exact .val _
            | func f=>exact .fn _ _ _ _ _ rfl (by simp) rfl (by simp)
          exact ih x H' hR B1 pend _ _ g' _ w' Q' (I.eff hdd ho hri hj x H').2 (hG.put hx hd hv hH) (hKK x H' hR) (by have:=Fc hj I.size';omega) fun g'' s'' a'' w'' k1 k2 k3=>hQ g'' s'' a'' w'' k1 (hx.trans k2) k3
  | last listed s i o R ho hr hd hgd hp hl h=>
    intro B1
    induction B1 with
    | zero=>
      intro pend listed' sl' g a w Q' I hG hK hf hQ;exfalso
      have hp:pend = []:=by
        cases hp:pend with
        | nil=>rfl
        | cons x r=>obtain ⟨q,_,hq⟩:=I.oldest (by simp [hp]);have:=G8 hq;omega
      subst hp;have hri:i∈Region.ready .any ops listed:=by rw [hr];simp
      have hu:=(mem_ready.1 hri).1;have hlt:i<ops.size:=(Array.getElem?_eq_some_iff.1 ho).1
      have hu':listed'.getD i true=false:=by
        cases h:listed'.getD i true with
        | false=>rfl
        | true=>rw [((I.lst i hlt).1 h).1] at hu;cases hu
      have:0<tB ops listed':=Su (Jq.2 ⟨K9.2 hlt,by simp only [hu',Bk]⟩);omega
    | succ B1 ihf=>
      intro pend listed' sl' g a w Q' I hG hK hf hQ;have hri:i∈Region.ready .any ops listed:=by rw [hr];simp
      have hlast:∀j,j<ops.size->j≠i->listed.getD j false=true/\N8 ops 7 o j=true:=by
        intro j hj hne;have h1:=Ht.1 hl j (K9.2 hj)
        have h2:Nat.beq j i=false:=by
          cases hq:Nat.beq j i with
          | false=>rfl
          | true=>exact absurd (D6 hq) hne
        rw [h2,Ke,Cy] at h1;exact h1
      refine ⟨fun h0=>?_,fun j hj=>?_⟩
      . exfalso
        have hp:pend = []:=by
          cases hp:pend with
          | nil=>rfl
          | cons x r=>obtain ⟨q,_,hq⟩:=I.oldest (by simp [hp]);rw [h0] at hq;cases hq
        subst hp;obtain ⟨hu,o',ho',hall⟩:=mem_ready.1 hri;have hlt:i<ops.size:=(Array.getElem?_eq_some_iff.1 ho).1
        have:i∈Region.ready .any ops listed':=by
          refine mem_ready.2 ⟨?_,o',ho',fun e he hb=>?_⟩
          . cases h:listed'.getD i true with
            | false=>rfl
            | true=>rw [((I.lst i hlt).1 h).1] at hu;cases hu
          . have h1:=hall e he hb
            have h2:e.on<ops.size:=by
              rcases Oh e.on ops.size with h' | h'
              . exact h'
              . have:listed.size<=e.on:=by rw [I.size];exact h'
                simp [Array.getElem?_eq_none this] at h1
            rw [<-C0 (by rw [I.size];exact h2)] at h1;rw [<-C0 (by rw [I.size'];exact h2)];exact (I.lst _ h2).2 ⟨h1,by simp⟩
        rw [h0] at this;cases this
      . by_cases e:∃q∈pend,q.i=j
        . obtain ⟨q,hq,rfl⟩:=e
          obtain ⟨h1,_,h3,h4⟩:=I.op q hq;refine h3.wpOp h1 hG (hK _) h4 (fun t ht=>I.reads hq hj ht) fun g' a' w' hG' hx=>?_
          exact ihf _ _ _ g' a' w' Q' (I.exec hdd hq hj) hG' hK (by have:=Fc hj I.size';omega) fun g'' s'' a'' w'' k1 k2 k3=>hQ g'' s'' a'' w'' k1 (hx.trans k2) k3
        . have hj':=I.ready_of hj (fun p hp hpe=>e ⟨p,hp,hpe⟩)
          rw [hr] at hj';obtain rfl:j=i:=by simpa using hj'
          obtain ⟨hu,o1,ho1,hall⟩:=mem_ready.1 hri;obtain ⟨hu',o2,ho2,hall'⟩:=mem_ready.1 hj;rw [ho] at ho2;cases ho2
          have hpn:pend = []:=by
            cases hp:pend with
            | nil=>rfl
            | cons x r=>
              exfalso;have hx:x∈pend:=by simp [hp]
              obtain ⟨q1,q2,_⟩:=I.op x hx;have hxl:x.i<ops.size:=(Array.getElem?_eq_some_iff.1 q1).1;have hne:x.i≠j:=fun he=>by rw [he,hu] at q2;cases q2
              have h3:=I.reach 7 _ x.i hall' (hlast x.i hxl hne).2;rw [<-C0 (by rw [I.size'];exact hxl)] at h3;exact ((I.lst _ hxl).1 h3).2 x hx rfl
          subst hpn;unfold wpOp;simp only [ho];rw [if_pos (E4 hgd)];refine .inl (hp g w a _ _ (fun y hy=>?_) hG.heap fun g' w' v x H' hR hv hH hx=>?_)
          . cases y with
            | tmp t=>
              have h1:get sl' t=get s.sl t:=I.slot t (by simp);have:=hG.sl t;show Rep g w _ (get s.sl t);rw [<-h1];exact this
            | const v=>exact Fv g w v
            | global n=>exact .val _
            | func f=>exact .fn _ _ _ _ _ rfl (by simp) rfl (by simp)
          . refine done_any ?_ (h x H' hR) B1 _ _ g' _ w' Q' (I.eff hdd ho hri hj x H').2 (hG.put hx hd hv hH) (by have:=Fc hj I.size';omega) fun g'' s'' a'' w'' k1 k2 k3=>hQ g'' s'' a'' w'' k1 (hx.trans k2) k3
            cases hrr:Region.ready .any ops (listed.setIfInBounds j true) with
            | nil=>rfl
            | cons y r=>
              exfalso;obtain ⟨h1,o3,ho3,_⟩:=mem_ready.1 (show y∈Region.ready .any ops (listed.setIfInBounds j true) by rw [hrr];simp);have hyl:y<ops.size:=(Array.getElem?_eq_some_iff.1 ho3).1;by_cases e:y=j
              . subst e
                have:y<listed.size:=by rw [I.size];exact hyl
                simp [this] at h1
              . rw [getD_set_ne true (Ne.symm e)] at h1
                have:=(hlast y hyl e).1;rw [<-C0 (by rw [I.size];exact hyl)] at this;rw [this] at h1;cases h1
  | sync K' listed s i o R ho hr hd hgd hp hl hKK _ ih=>
    intro B1
    induction B1 with
    | zero=>
      intro pend listed' sl' g a w Q' I hG hK hf hQ;exfalso
      have hp:pend = []:=by
        cases hp:pend with
        | nil=>rfl
        | cons x r=>obtain ⟨q,_,hq⟩:=I.oldest (by simp [hp]);have:=G8 hq;omega
      subst hp;have hri:i∈Region.ready .any ops listed:=by rw [hr];simp
      have hu:=(mem_ready.1 hri).1;have hlt:i<ops.size:=(Array.getElem?_eq_some_iff.1 ho).1
      have hu':listed'.getD i true=false:=by
        cases h:listed'.getD i true with
        | false=>rfl
        | true=>rw [((I.lst i hlt).1 h).1] at hu;cases hu
      have:0<tB ops listed':=Su (Jq.2 ⟨K9.2 hlt,by simp only [hu',Bk]⟩);omega
    | succ B1 ihf=>
      intro pend listed' sl' g a w Q' I hG hK hf hQ;have hri:i∈Region.ready .any ops listed:=by rw [hr];simp
      have hlast:∀j,j<ops.size->listed.getD j true=true->N8 ops 7 o j=true:=by
        intro j hj hjl;have h1:=Ht.1 hl j (K9.2 hj);rw [<-C0 (by rw [I.size];exact hj),hjl] at h1;simp only [Av,Ke] at h1;exact h1
      refine ⟨fun h0=>?_,fun j hj=>?_⟩
      . exfalso
        have hp:pend = []:=by
          cases hp:pend with
          | nil=>rfl
          | cons x r=>obtain ⟨q,_,hq⟩:=I.oldest (by simp [hp]);rw [h0] at hq;cases hq
        subst hp;obtain ⟨hu,o',ho',hall⟩:=mem_ready.1 hri;have hlt:i<ops.size:=(Array.getElem?_eq_some_iff.1 ho).1
        have:i∈Region.ready .any ops listed':=by
          refine mem_ready.2 ⟨?_,o',ho',fun e he hb=>?_⟩
          . cases h:listed'.getD i true with
            | false=>rfl
            | true=>rw [((I.lst i hlt).1 h).1] at hu;cases hu
          . have h1:=hall e he hb
            have h2:e.on<ops.size:=by
              rcases Oh e.on ops.size with h' | h'
              . exact h'
              . have:listed.size<=e.on:=by rw [I.size];exact h'
                simp [Array.getElem?_eq_none this] at h1
            rw [<-C0 (by rw [I.size];exact h2)] at h1;rw [<-C0 (by rw [I.size'];exact h2)];exact (I.lst _ h2).2 ⟨h1,by simp⟩
        rw [h0] at this;cases this
      . by_cases e:∃q∈pend,q.i=j
        . obtain ⟨q,hq,rfl⟩:=e
          obtain ⟨h1,_,h3,h4⟩:=I.op q hq;refine h3.wpOp h1 hG (hK _) h4 (fun t ht=>I.reads hq hj ht) fun g' a' w' hG' hx=>?_
          exact ihf _ _ _ g' a' w' Q' (I.exec hdd hq hj) hG' hK (by have:=Fc hj I.size';omega) fun g'' s'' a'' w'' k1 k2 k3=>hQ g'' s'' a'' w'' k1 (hx.trans k2) k3
        . have hj':=I.ready_of hj (fun p hp hpe=>e ⟨p,hp,hpe⟩)
          rw [hr] at hj';obtain rfl:j=i:=by simpa using hj'
          obtain ⟨hu,o1,ho1,hall⟩:=mem_ready.1 hri;obtain ⟨hu',o2,ho2,hall'⟩:=mem_ready.1 hj;rw [ho] at ho2;cases ho2
          have hpn:pend = []:=by
            cases hp:pend with
            | nil=>rfl
            | cons x r=>
              exfalso;have hx:x∈pend:=by simp [hp]
              obtain ⟨q1,q2,_⟩:=I.op x hx;have hxl:x.i<ops.size:=(Array.getElem?_eq_some_iff.1 q1).1;have hne:x.i≠j:=fun he=>by rw [he,hu] at q2;cases q2
              have h3:=I.reach 7 _ x.i hall' (hlast x.i hxl q2);rw [<-C0 (by rw [I.size'];exact hxl)] at h3;exact ((I.lst _ hxl).1 h3).2 x hx rfl
          subst hpn;unfold wpOp;simp only [ho];rw [if_pos (E4 hgd)];refine .inl (hp g w a _ _ (fun y hy=>?_) hG.heap fun g' w' v x H' hR hv hH hx=>?_)
          . cases y with
            | tmp t=>
              have h1:get sl' t=get s.sl t:=I.slot t (by simp);have:=hG.sl t;show Rep g w _ (get s.sl t);rw [<-h1];exact this
            | const v=>exact Fv g w v
            | global n=>exact .val _
            | func f=>exact .fn _ _ _ _ _ rfl (by simp) rfl (by simp)
          . have I2:=(I.eff hdd ho hri hj x H').2
            exact ih x H' hR B1 [] _ _ g' _ w' Q' ⟨I2.size,I2.size',I2.lst,by simp,I2.slot,by simp,by simp,by simp,by simp,by simp,by simp,by simp,by simp,I2.cl⟩ (hG.put hx hd hv hH) (hKK x H' hR) (by have:=Fc hj I.size';omega) fun g'' s'' a'' w'' k1 k2 k3=>hQ g'' s'' a'' w'' k1 (hx.trans k2) k3
  | phase K' listed s i o R ho hr hd hgd hp hl hKK _ ih=>
    intro B1
    induction B1 with
    | zero=>
      intro pend listed' sl' g a w Q' I hG hK hf hQ;exfalso
      have hp:pend = []:=by
        cases hp:pend with
        | nil=>rfl
        | cons x r=>obtain ⟨q,_,hq⟩:=I.oldest (by simp [hp]);have:=G8 hq;omega
      subst hp;have hri:i∈Region.ready .any ops listed:=by rw [hr];simp
      have hu:=(mem_ready.1 hri).1;have hlt:i<ops.size:=(Array.getElem?_eq_some_iff.1 ho).1
      have hu':listed'.getD i true=false:=by
        cases h:listed'.getD i true with
        | false=>rfl
        | true=>rw [((I.lst i hlt).1 h).1] at hu;cases hu
      have:0<tB ops listed':=Su (Jq.2 ⟨K9.2 hlt,by simp only [hu',Bk]⟩);omega
    | succ B1 ihf=>
      intro pend listed' sl' g a w Q' I hG hK hf hQ;have hri:i∈Region.ready .any ops listed:=by rw [hr];simp
      refine ⟨fun h0=>?_,fun j hj=>?_⟩
      . exfalso
        have hp:pend = []:=by
          cases hp:pend with
          | nil=>rfl
          | cons x r=>obtain ⟨q,_,hq⟩:=I.oldest (by simp [hp]);rw [h0] at hq;cases hq
        subst hp;obtain ⟨hu,o',ho',hall⟩:=mem_ready.1 hri;have hlt:i<ops.size:=(Array.getElem?_eq_some_iff.1 ho).1
        have:i∈Region.ready .any ops listed':=by
          refine mem_ready.2 ⟨?_,o',ho',fun e he hb=>?_⟩
          . cases h:listed'.getD i true with
            | false=>rfl
            | true=>rw [((I.lst i hlt).1 h).1] at hu;cases hu
          . have h1:=hall e he hb
            have h2:e.on<ops.size:=by
              rcases Oh e.on ops.size with h' | h'
              . exact h'
              . have:listed.size<=e.on:=by rw [I.size];exact h'
                simp [Array.getElem?_eq_none this] at h1
            rw [<-C0 (by rw [I.size];exact h2)] at h1;rw [<-C0 (by rw [I.size'];exact h2)];exact (I.lst _ h2).2 ⟨h1,by simp⟩
        rw [h0] at this;cases this
      . by_cases e:∃q∈pend,q.i=j
        . obtain ⟨q,hq,rfl⟩:=e
          obtain ⟨h1,_,h3,h4⟩:=I.op q hq;refine h3.wpOp h1 hG (hK _) h4 (fun t ht=>I.reads hq hj ht) fun g' a' w' hG' hx=>?_
          exact ihf _ _ _ g' a' w' Q' (I.exec hdd hq hj) hG' hK (by have:=Fc hj I.size';omega) fun g'' s'' a'' w'' k1 k2 k3=>hQ g'' s'' a'' w'' k1 (hx.trans k2) k3
        . have hj':=I.ready_of hj (fun p hp hpe=>e ⟨p,hp,hpe⟩)
          rw [hr] at hj';obtain rfl:j=i:=by simpa using hj'
          obtain ⟨hu,o1,ho1,hall⟩:=mem_ready.1 hri;obtain ⟨hu',o2,ho2,hall'⟩:=mem_ready.1 hj;rw [ho] at ho2;cases ho2;have hap:=(I.eff hdd ho hri hj .junk s.H).1;unfold wpOp;simp only [ho];rw [if_pos (E4 hgd)];refine .inl (hp g w a _ _ (fun y hy=>?_) hG.heap fun g' w' v x H' hR hv hH hx=>?_)
          . cases y with
            | tmp t=>
              have ht:=Ci (ops:=ops) hy;have h1:get sl' t=get s.sl t:=I.slot t fun p hp' hpd=>(Oper.apart_spec (hap p hp')).1 t hpd ht
              have:=hG.sl t;show Rep g w _ (get s.sl t);rw [<-h1];exact this
            | const v=>exact Fv g w v
            | global n=>exact .val _
            | func f=>exact .fn _ _ _ _ _ rfl (by simp) rfl (by simp)
          . have I2:=(I.eff hdd ho hri hj x H').2
            refine ih x H' hR B1 pend _ _ g' _ w' Q' ⟨I2.size,I2.size',I2.lst,fun p hp'=>?_,I2.slot,I2.val,I2.rd,I2.rv,I2.ap,I2.ord,I2.slf,I2.dep,I2.idx,I2.cl⟩ (hG.put hx hd hv hH) (hKK x H' hR) (by have:=Fc hj I.size';omega) fun g'' s'' a'' w'' k1 k2 k3=>hQ g'' s'' a'' w'' k1 (hx.trans k2) k3
            obtain ⟨q1,q2,q3,q4⟩:=I2.op p hp';refine ⟨q1,q2,q3.weaken ?_,q4⟩;obtain ⟨r1,r2,_⟩:=I.op p hp';have hxl:p.i<ops.size:=(Array.getElem?_eq_some_iff.1 r1).1;refine hl p.i hxl (by rw [<-C0 (by rw [I.size];exact hxl)];exact r2) ?_;cases hrch:N8 ops 7 _ p.i with
            | false=>rfl
            | true=>
              have h3:=I.reach 7 _ p.i hall' hrch;rw [<-C0 (by rw [I.size'];exact hxl)] at h3;exact absurd rfl (((I.lst _ hxl).1 h3).2 p hp')
  | two listed s i i2 o o2 R R2 ho hob hr hd hd2 hgd hgd2 hp hp2 hKK hKK2 _ _ ih ih2=>
    intro B1
    induction B1 with
    | zero=>
      intro pend listed' sl' g a w Q' I hG hK hf hQ;exfalso
      have hp:pend = []:=by
        cases hp:pend with
        | nil=>rfl
        | cons x r=>obtain ⟨q,_,hq⟩:=I.oldest (by simp [hp]);have:=G8 hq;omega
      subst hp;have hri:i∈Region.ready .any ops listed:=by rw [hr];simp
      have hu:=(mem_ready.1 hri).1;have hlt:i<ops.size:=(Array.getElem?_eq_some_iff.1 ho).1
      have hu':listed'.getD i true=false:=by
        cases h:listed'.getD i true with
        | false=>rfl
        | true=>rw [((I.lst i hlt).1 h).1] at hu;cases hu
      have:0<tB ops listed':=Su (Jq.2 ⟨K9.2 hlt,by simp only [hu',Bk]⟩);omega
    | succ B1 ihf=>
      intro pend listed' sl' g a w Q' I hG hK hf hQ;have hri:i∈Region.ready .any ops listed:=by rw [hr];simp
      refine ⟨fun h0=>?_,fun j hj=>?_⟩
      . exfalso
        have hp:pend = []:=by
          cases hp:pend with
          | nil=>rfl
          | cons x r=>obtain ⟨q,_,hq⟩:=I.oldest (by simp [hp]);rw [h0] at hq;cases hq
        subst hp;obtain ⟨hu,o',ho',hall⟩:=mem_ready.1 hri;have hlt:i<ops.size:=(Array.getElem?_eq_some_iff.1 ho).1
        have:i∈Region.ready .any ops listed':=by
          refine mem_ready.2 ⟨?_,o',ho',fun e he hb=>?_⟩
          . cases h:listed'.getD i true with
            | false=>rfl
            | true=>rw [((I.lst i hlt).1 h).1] at hu;cases hu
          . have h1:=hall e he hb
            have h2:e.on<ops.size:=by
              rcases Oh e.on ops.size with h' | h'
              . exact h'
              . have:listed.size<=e.on:=by rw [I.size];exact h'
                simp [Array.getElem?_eq_none this] at h1
            rw [<-C0 (by rw [I.size];exact h2)] at h1;rw [<-C0 (by rw [I.size'];exact h2)];exact (I.lst _ h2).2 ⟨h1,by simp⟩
        rw [h0] at this;cases this
      . by_cases e:∃q∈pend,q.i=j
        . obtain ⟨q,hq,rfl⟩:=e
          obtain ⟨h1,_,h3,h4⟩:=I.op q hq;refine h3.wpOp h1 hG (hK _) h4 (fun t ht=>I.reads hq hj ht) fun g' a' w' hG' hx=>?_
          exact ihf _ _ _ g' a' w' Q' (I.exec hdd hq hj) hG' hK (by have:=Fc hj I.size';omega) fun g'' s'' a'' w'' k1 k2 k3=>hQ g'' s'' a'' w'' k1 (hx.trans k2) k3
        . have hj':=I.ready_of hj (fun p hp hpe=>e ⟨p,hp,hpe⟩)
          rw [hr] at hj';have hor:j=i\/j=i2:=by simpa using hj'
          rcases hor with rfl | rfl
          . skip
            have hap:=(I.eff hdd ho hri hj .junk s.H).1;unfold wpOp;simp only [ho];rw [if_pos (E4 hgd)];refine .inl (hp g w a _ _ (fun y hy=>?_) hG.heap fun g' w' v x H' hR hv hH hx=>?_)
            . cases y with
              | tmp t=>
                have ht:=Ci (ops:=ops) hy;have h1:get sl' t=get s.sl t:=I.slot t fun p hp' hpd=>(Oper.apart_spec (hap p hp')).1 t hpd ht
                have:=hG.sl t;show Rep g w _ (get s.sl t);rw [<-h1];exact this
              | const v=>exact Fv g w v
              | global n=>exact .val _
              | func f=>exact .fn _ _ _ _ _ rfl (by simp) rfl (by simp)
            exact ih x H' hR B1 pend _ _ g' _ w' Q' (I.eff hdd ho hri hj x H').2 (hG.put hx hd hv hH) (hKK x H' hR) (by have:=Fc hj I.size';omega) fun g'' s'' a'' w'' k1 k2 k3=>hQ g'' s'' a'' w'' k1 (hx.trans k2) k3
          . have hri2:j∈Region.ready .any ops listed:=by rw [hr];simp
            have hap:=(I.eff hdd hob hri2 hj .junk s.H).1;unfold wpOp;simp only [hob];rw [if_pos (E4 hgd2)];refine .inl (hp2 g w a _ _ (fun y hy=>?_) hG.heap fun g' w' v x H' hR hv hH hx=>?_)
            . cases y with
              | tmp t=>
                have ht:=Ci (ops:=ops) hy;have h1:get sl' t=get s.sl t:=I.slot t fun p hp' hpd=>(Oper.apart_spec (hap p hp')).1 t hpd ht
                have:=hG.sl t;show Rep g w _ (get s.sl t);rw [<-h1];exact this
              | const v=>exact Fv g w v
              | global n=>exact .val _
              | func f=>exact .fn _ _ _ _ _ rfl (by simp) rfl (by simp)
            exact ih2 x H' hR B1 pend _ _ g' _ w' Q' (I.eff hdd hob hri2 hj x H').2 (hG.put hx hd2 hv hH) (hKK2 x H' hR) (by have:=Fc hj I.size';omega) fun g'' s'' a'' w'' k1 k2 k3=>hQ g'' s'' a'' w'' k1 (hx.trans k2) k3
  | many listed s i L O R hr hall _ ih=>
    intro B1
    induction B1 with
    | zero=>
      intro pend listed' sl' g a w Q' I hG hK hf hQ;exfalso
      have hp:pend = []:=by
        cases hp:pend with
        | nil=>rfl
        | cons x r=>obtain ⟨q,_,hq⟩:=I.oldest (by simp [hp]);have:=G8 hq;omega
      subst hp;have hri:i∈Region.ready .any ops listed:=by rw [hr];simp
      have ho:=(hall i (I7 ..)).1;have hu:=(mem_ready.1 hri).1;have hlt:i<ops.size:=(Array.getElem?_eq_some_iff.1 ho).1
      have hu':listed'.getD i true=false:=by
        cases h:listed'.getD i true with
        | false=>rfl
        | true=>rw [((I.lst i hlt).1 h).1] at hu;cases hu
      have:0<tB ops listed':=Su (Jq.2 ⟨K9.2 hlt,by simp only [hu',Bk]⟩);omega
    | succ B1 ihf=>
      intro pend listed' sl' g a w Q' I hG hK hf hQ;have hri:i∈Region.ready .any ops listed:=by rw [hr];simp
      have ho:=(hall i (I7 ..)).1;refine ⟨fun h0=>?_,fun j hj=>?_⟩
      . exfalso
        have hp:pend = []:=by
          cases hp:pend with
          | nil=>rfl
          | cons x r=>obtain ⟨q,_,hq⟩:=I.oldest (by simp [hp]);rw [h0] at hq;cases hq
        subst hp;obtain ⟨hu,o',ho',hall2⟩:=mem_ready.1 hri;have hlt:i<ops.size:=(Array.getElem?_eq_some_iff.1 ho).1
        have:i∈Region.ready .any ops listed':=by
          refine mem_ready.2 ⟨?_,o',ho',fun e he hb=>?_⟩
          . cases h:listed'.getD i true with
            | false=>rfl
            | true=>rw [((I.lst i hlt).1 h).1] at hu;cases hu
          . have h1:=hall2 e he hb
            have h2:e.on<ops.size:=by
              rcases Oh e.on ops.size with h' | h'
              . exact h'
              . have:listed.size<=e.on:=by rw [I.size];exact h'
                simp [Array.getElem?_eq_none this] at h1
            rw [<-C0 (by rw [I.size];exact h2)] at h1;rw [<-C0 (by rw [I.size'];exact h2)];exact (I.lst _ h2).2 ⟨h1,by simp⟩
        rw [h0] at this;cases this
      . by_cases e:∃q∈pend,q.i=j
        . obtain ⟨q,hq,rfl⟩:=e
          obtain ⟨h1,_,h3,h4⟩:=I.op q hq;refine h3.wpOp h1 hG (hK _) h4 (fun t ht=>I.reads hq hj ht) fun g' a' w' hG' hx=>?_
          exact ihf _ _ _ g' a' w' Q' (I.exec hdd hq hj) hG' hK (by have:=Fc hj I.size';omega) fun g'' s'' a'' w'' k1 k2 k3=>hQ g'' s'' a'' w'' k1 (hx.trans k2) k3
        . have hj':=I.ready_of hj (fun p hp hpe=>e ⟨p,hp,hpe⟩)
          have hri2:j∈Region.ready .any ops listed:=hj';rw [hr] at hj';obtain ⟨hob,hd2,hgd2,hp2,hKK2⟩:=hall j hj';have hap:=(I.eff hdd hob hri2 hj .junk s.H).1;unfold wpOp;simp only [hob];rw [if_pos (E4 hgd2)];refine .inl (hp2 g w a _ _ (fun y hy=>?_) hG.heap fun g' w' v x H' hR hv hH hx=>?_)
          . cases y with
            | tmp t=>
              have ht:=Ci (ops:=ops) hy;have h1:get sl' t=get s.sl t:=I.slot t fun p hp' hpd=>(Oper.apart_spec (hap p hp')).1 t hpd ht
              have:=hG.sl t;show Rep g w _ (get s.sl t);rw [<-h1];exact this
            | const v=>exact Fv g w v
            | global n=>exact .val _
            | func f=>exact .fn _ _ _ _ _ rfl (by simp) rfl (by simp)
          exact ih j hj' x H' hR B1 pend _ _ g' _ w' Q' (I.eff hdd hob hri2 hj x H').2 (hG.put hx hd2 hv hH) (hKK2 x H' hR) (by have:=Fc hj I.size';omega) fun g'' s'' a'' w'' k1 k2 k3=>hQ g'' s'' a'' w'' k1 (hx.trans k2) k3
  | effg listed s i o G L x H2 ho hr hd hgw hL hp hnG hKK _ ih=>
    intro B1
    induction B1 with
    | zero=>
      intro pend listed' sl' g a w Q' I hG hK hf hQ;exfalso
      have hp:pend = []:=by
        cases hp:pend with
        | nil=>rfl
        | cons x r=>obtain ⟨q,_,hq⟩:=I.oldest (by simp [hp]);have:=G8 hq;omega
      subst hp;have hri:i∈Region.ready .any ops listed:=by rw [hr];simp
      have hu:=(mem_ready.1 hri).1;have hlt:i<ops.size:=(Array.getElem?_eq_some_iff.1 ho).1
      have hu':listed'.getD i true=false:=by
        cases h:listed'.getD i true with
        | false=>rfl
        | true=>rw [((I.lst i hlt).1 h).1] at hu;cases hu
      have:0<tB ops listed':=Su (Jq.2 ⟨K9.2 hlt,by simp only [hu',Bk]⟩);omega
    | succ B1 ihf=>
      intro pend listed' sl' g a w Q' I hG hK hf hQ;have hri:i∈Region.ready .any ops listed:=by rw [hr];simp
      refine ⟨fun h0=>?_,fun j hj=>?_⟩
      . exfalso
        have hp:pend = []:=by
          cases hp:pend with
          | nil=>rfl
          | cons x r=>obtain ⟨q,_,hq⟩:=I.oldest (by simp [hp]);rw [h0] at hq;cases hq
        subst hp;obtain ⟨hu,o',ho',hall⟩:=mem_ready.1 hri;have hlt:i<ops.size:=(Array.getElem?_eq_some_iff.1 ho).1
        have:i∈Region.ready .any ops listed':=by
          refine mem_ready.2 ⟨?_,o',ho',fun e he hb=>?_⟩
          . cases h:listed'.getD i true with
            | false=>rfl
            | true=>rw [((I.lst i hlt).1 h).1] at hu;cases hu
          . have h1:=hall e he hb
            have h2:e.on<ops.size:=by
              rcases Oh e.on ops.size with h' | h'
              . exact h'
              . have:listed.size<=e.on:=by rw [I.size];exact h'
                simp [Array.getElem?_eq_none this] at h1
            rw [<-C0 (by rw [I.size];exact h2)] at h1;rw [<-C0 (by rw [I.size'];exact h2)];exact (I.lst _ h2).2 ⟨h1,by simp⟩
        rw [h0] at this;cases this
      . by_cases e:∃q∈pend,q.i=j
        . obtain ⟨q,hq,rfl⟩:=e
          obtain ⟨h1,_,h3,h4⟩:=I.op q hq;refine h3.wpOp h1 hG (hK _) h4 (fun t ht=>I.reads hq hj ht) fun g' a' w' hG' hx=>?_
          exact ihf _ _ _ g' a' w' Q' (I.exec hdd hq hj) hG' hK (by have:=Fc hj I.size';omega) fun g'' s'' a'' w'' k1 k2 k3=>hQ g'' s'' a'' w'' k1 (hx.trans k2) k3
        . have hj':=I.ready_of hj (fun p hp hpe=>e ⟨p,hp,hpe⟩)
          rw [hr] at hj';obtain rfl:j=i:=by simpa using hj'
          have hap:=(I.eff hdd ho hri hj .junk s.H).1
          have hsl:∀t∈o.looksAt ops,Rep g w (a.tmps.getD t undef) (get s.sl t):=fun t ht=>by
            have h1:get sl' t=get s.sl t:=I.slot t fun p hp' hpd=>(Oper.apart_spec (hap p hp')).1 t hpd ht
            have:=hG.sl t;rw [<-h1];exact this
          obtain ⟨k1,k2⟩:=Oz hgw hsl;unfold wpOp;simp only [ho];by_cases hg:Mn G
          . rw [if_pos (k1 hg)]
            refine .inl (hp hg g w a _ _ (fun y hy=>?_) hG.heap fun g' w' v x' H' ⟨e1,e2⟩ hv hH hx=>?_)
            . cases y with
              | tmp t=>
                have ht:=Ci (ops:=ops) hy;show Rep g w _ (get (L++s.sl) t);rcases R0 L s.sl t with ⟨z,hz,e⟩ | e
                . rw [e];exact hL (t,z) hz g w _ hg (hsl t ht)
                rw [e];exact hsl t ht
              | const v=>exact Fv g w v
              | global n=>exact .val _
              | func f=>exact .fn _ _ _ _ _ rfl (by simp) rfl (by simp)
            . subst e1;subst e2
              exact ih B1 pend _ _ g' _ w' Q' (I.eff hdd ho hri hj _ _).2 (hG.put hx hd (.opt _ _ _ (fun _=>hv) (fun h=>absurd hg h)) hH) hKK (by have:=Fc hj I.size';omega) fun g'' s'' a'' w'' k1 k2 k3=>hQ g'' s'' a'' w'' k1 (hx.trans k2) k3
          . rw [if_neg (by rw [k2 hg];decide)]
            have hH:HOK g w H2:=by have:=hG.heap;rwa [show s.H=H2 from hnG hg] at this
            exact ih B1 pend _ _ g _ w Q' (I.eff hdd ho hri hj _ _).2 (hG.put (Ext.refl g w) hd (.opt _ _ _ (fun h=>absurd h hg) (fun _=>rfl)) hH) hKK (by have:=Fc hj I.size';omega) hQ
  | phaseg K' listed s i o G L x H2 ho hr hd hgw hL hp hnG hl hKK _ ih=>
    intro B1
    induction B1 with
    | zero=>
      intro pend listed' sl' g a w Q' I hG hK hf hQ;exfalso
      have hp:pend = []:=by
        cases hp:pend with
        | nil=>rfl
        | cons x r=>obtain ⟨q,_,hq⟩:=I.oldest (by simp [hp]);have:=G8 hq;omega
      subst hp;have hri:i∈Region.ready .any ops listed:=by rw [hr];simp
      have hu:=(mem_ready.1 hri).1;have hlt:i<ops.size:=(Array.getElem?_eq_some_iff.1 ho).1
      have hu':listed'.getD i true=false:=by
        cases h:listed'.getD i true with
        | false=>rfl
        | true=>rw [((I.lst i hlt).1 h).1] at hu;cases hu
      have:0<tB ops listed':=Su (Jq.2 ⟨K9.2 hlt,by simp only [hu',Bk]⟩);omega
    | succ B1 ihf=>
      intro pend listed' sl' g a w Q' I hG hK hf hQ;have hri:i∈Region.ready .any ops listed:=by rw [hr];simp
      refine ⟨fun h0=>?_,fun j hj=>?_⟩
      . exfalso
        have hp:pend = []:=by
          cases hp:pend with
          | nil=>rfl
          | cons x r=>obtain ⟨q,_,hq⟩:=I.oldest (by simp [hp]);rw [h0] at hq;cases hq
        subst hp;obtain ⟨hu,o',ho',hall⟩:=mem_ready.1 hri;have hlt:i<ops.size:=(Array.getElem?_eq_some_iff.1 ho).1
        have:i∈Region.ready .any ops listed':=by
          refine mem_ready.2 ⟨?_,o',ho',fun e he hb=>?_⟩
          . cases h:listed'.getD i true with
            | false=>rfl
            | true=>rw [((I.lst i hlt).1 h).1] at hu;cases hu
          . have h1:=hall e he hb
            have h2:e.on<ops.size:=by
              rcases Oh e.on ops.size with h' | h'
              . exact h'
              . have:listed.size<=e.on:=by rw [I.size];exact h'
                simp [Array.getElem?_eq_none this] at h1
            rw [<-C0 (by rw [I.size];exact h2)] at h1;rw [<-C0 (by rw [I.size'];exact h2)];exact (I.lst _ h2).2 ⟨h1,by simp⟩
        rw [h0] at this;cases this
      . by_cases e:∃q∈pend,q.i=j
        . obtain ⟨q,hq,rfl⟩:=e
          obtain ⟨h1,_,h3,h4⟩:=I.op q hq;refine h3.wpOp h1 hG (hK _) h4 (fun t ht=>I.reads hq hj ht) fun g' a' w' hG' hx=>?_
          exact ihf _ _ _ g' a' w' Q' (I.exec hdd hq hj) hG' hK (by have:=Fc hj I.size';omega) fun g'' s'' a'' w'' k1 k2 k3=>hQ g'' s'' a'' w'' k1 (hx.trans k2) k3
        . have hj':=I.ready_of hj (fun p hp hpe=>e ⟨p,hp,hpe⟩)
          rw [hr] at hj';obtain rfl:j=i:=by simpa using hj'
          obtain ⟨hu,o1,ho1,hall⟩:=mem_ready.1 hri;obtain ⟨hu',o2,ho2,hall'⟩:=mem_ready.1 hj;rw [ho] at ho2;cases ho2;have hap:=(I.eff hdd ho hri hj .junk s.H).1
          have hwk:∀p∈pend,p.i<ops.size/\listed.getD p.i false=true/\N8 ops 7 o p.i=false:=fun p hp'=>by
            obtain ⟨r1,r2,_⟩:=I.op p hp';have hxl:p.i<ops.size:=(Array.getElem?_eq_some_iff.1 r1).1;refine ⟨hxl,by rw [<-C0 (by rw [I.size];exact hxl)];exact r2,?_⟩;cases hrch:N8 ops 7 o p.i with
            | false=>rfl
            | true=>
              have h3:=I.reach 7 _ p.i hall' hrch;rw [<-C0 (by rw [I.size'];exact hxl)] at h3;exact absurd rfl (((I.lst _ hxl).1 h3).2 p hp')
          have hsl:∀t∈o.looksAt ops,Rep g w (a.tmps.getD t undef) (get s.sl t):=fun t ht=>by
            have h1:get sl' t=get s.sl t:=I.slot t fun p hp' hpd=>(Oper.apart_spec (hap p hp')).1 t hpd ht
            have:=hG.sl t;rw [<-h1];exact this
          obtain ⟨k1,k2⟩:=Oz hgw hsl;unfold wpOp;simp only [ho];by_cases hg:Mn G
          . rw [if_pos (k1 hg)]
            refine .inl (hp hg g w a _ _ (fun y hy=>?_) hG.heap fun g' w' v x' H' ⟨e1,e2⟩ hv hH hx=>?_)
            . cases y with
              | tmp t=>
                have ht:=Ci (ops:=ops) hy;show Rep g w _ (get (L++s.sl) t);rcases R0 L s.sl t with ⟨z,hz,e⟩ | e
                . rw [e];exact hL (t,z) hz g w _ hg (hsl t ht)
                rw [e];exact hsl t ht
              | const v=>exact Fv g w v
              | global n=>exact .val _
              | func f=>exact .fn _ _ _ _ _ rfl (by simp) rfl (by simp)
            . subst e1;subst e2
              exact ih B1 pend _ _ g' _ w' Q' (let I2:=(I.eff hdd ho hri hj _ _).2;⟨I2.size,I2.size',I2.lst,fun p hp'=>⟨(I2.op p hp').1,(I2.op p hp').2.1,(I2.op p hp').2.2.1.weaken (hl p.i (hwk p hp').1 (hwk p hp').2.1 (hwk p hp').2.2),(I2.op p hp').2.2.2⟩,I2.slot,I2.val,I2.rd,I2.rv,I2.ap,I2.ord,I2.slf,I2.dep,I2.idx,I2.cl⟩) (hG.put hx hd (.opt _ _ _ (fun _=>hv) (fun h=>absurd hg h)) hH) hKK (by have:=Fc hj I.size';omega) fun g'' s'' a'' w'' k1 k2 k3=>hQ g'' s'' a'' w'' k1 (hx.trans k2) k3
          . rw [if_neg (by rw [k2 hg];decide)]
            have hH:HOK g w H2:=by have:=hG.heap;rwa [show s.H=H2 from hnG hg] at this
            exact ih B1 pend _ _ g _ w Q' (let I2:=(I.eff hdd ho hri hj _ _).2;⟨I2.size,I2.size',I2.lst,fun p hp'=>⟨(I2.op p hp').1,(I2.op p hp').2.1,(I2.op p hp').2.2.1.weaken (hl p.i (hwk p hp').1 (hwk p hp').2.1 (hwk p hp').2.2),(I2.op p hp').2.2.2⟩,I2.slot,I2.val,I2.rd,I2.rv,I2.ap,I2.ord,I2.slf,I2.dep,I2.idx,I2.cl⟩) (hG.put (Ext.refl g w) hd (.opt _ _ _ (fun h=>absurd h hg) (fun _=>rfl)) hH) hKK (by have:=Fc hj I.size';omega) hQ

def F3 (P:Program)(ops:Array Oper)(K:List HO->Prop)(Q:St->Prop)(listed:Array Bool)(s:St):Prop:=CanonI P ops (fun _=>K) Q listed s
section
variable {P:Program} {ops:Array Oper} {K:List HO->Prop} {Q:St->Prop}
theorem F3.done (listed:Array Bool)(s:St)(hr:Region.ready .any ops listed = [])(h:Q s):F3 P ops K Q listed s:=CanonI.done listed s hr h
theorem F3.pure (listed:Array Bool)(s:St)(i:Nat)(o:Oper)(x:AV)(ho:ops[i]? = some o)(hr:(Region.ready .any ops listed).contains i=true)(hf:Region.free .any ops listed i=true)
 (hd:Mx o.dst s.n=true) (hp:PStep P ops o s.sl K x) (h:F3 P ops K Q (listed.setIfInBounds i true) ⟨D9 o.dst x s.sl,s.H,s.n⟩):F3 P ops K Q listed s:=CanonI.pure listed s i o x ho hr hf hd hp h
theorem F3.eff (listed:Array Bool)(s:St)(i:Nat)(o:Oper)(R:AV->List HO->Prop)(ho:ops[i]? = some o)(hr:Region.ready .any ops listed = [i])
 (hd:Mx o.dst s.n=true) (hw:o.guard=none) (hp:L7 P o (El s.sl) s.H R)
 (hK:∀x H',R x H'->K H') (h:∀x H',R x H'->F3 P ops K Q (listed.setIfInBounds i true) ⟨D9 o.dst x s.sl,H',s.n⟩):F3 P ops K Q listed s:=CanonI.eff listed s i o R ho hr hd hw hp (fun x H' hR _=>hK x H' hR) h
theorem F3.last (listed:Array Bool)(s:St)(i:Nat)(o:Oper)(R:AV->List HO->Prop)(ho:ops[i]? = some o)(hr:Region.ready .any ops listed = [i])
 (hd:Mx o.dst s.n=true) (hw:o.guard=none) (hp:L7 P o (El s.sl) s.H R) (hl:lastB ops listed o i=true)
 (h:∀x H',R x H'->Q ⟨D9 o.dst x s.sl,H',s.n⟩):F3 P ops K Q listed s:=CanonI.last listed s i o R ho hr hd hw hp hl h
theorem F3.sync (K':List HO->Prop)(listed:Array Bool)(s:St)(i:Nat)(o:Oper)(R:AV->List HO->Prop)(ho:ops[i]? = some o)(hr:Region.ready .any ops listed = [i])
 (hd:Mx o.dst s.n=true) (hw:o.guard=none) (hp:L7 P o (El s.sl) s.H R) (hl:syncB ops listed o=true) (hK:∀x H',R x H'->K' H')
 (h:∀x H',R x H'->F3 P ops K' Q (listed.setIfInBounds i true) ⟨D9 o.dst x s.sl,H',s.n⟩):F3 P ops K Q listed s:=CanonI.sync (fun _=>K') listed s i o R ho hr hd hw hp hl (fun x H' hR _=>hK x H' hR) h
theorem F3.two (listed:Array Bool)(s:St)(i j:Nat)(o o':Oper)(R R':AV->List HO->Prop)(ho:ops[i]? = some o)(ho':ops[j]? = some o')(hr:Region.ready .any ops listed = [i,j])
 (hd:Mx o.dst s.n=true) (hd':Mx o'.dst s.n=true) (hw:o.guard=none) (hw':o'.guard=none) (hp:L7 P o (El s.sl) s.H R) (hp':L7 P o' (El s.sl) s.H R')
 (hK:∀x H',R x H'->K H') (hK':∀x H',R' x H'->K H') (h:∀x H',R x H'->F3 P ops K Q (listed.setIfInBounds i true) ⟨D9 o.dst x s.sl,H',s.n⟩)
 (h':∀x H',R' x H'->F3 P ops K Q (listed.setIfInBounds j true) ⟨D9 o'.dst x s.sl,H',s.n⟩):F3 P ops K Q listed s:=CanonI.two listed s i j o o' R R' ho ho' hr hd hd' hw hw' hp hp' (fun x H' hR _=>hK x H' hR) (fun x H' hR _=>hK' x H' hR) h h'
end

section
variable {P:Program} {ops:Array Oper} {K:List HO->Prop} {Q:St->Prop}
end

theorem AW.drawI (hm:P.follows .mixedOrders=true){id:Nat}{Q:Exit->St->Prop}{s:St}(K:Nat->List HO->Prop)(hK:∀j,K j s.H)(hdd:Em ops=true)
  (h:CanonI P ops K (Q .normal) (Array.replicate ops.size false) s):AW P (.region id ops true) Q s:=by
 intro Q' g a w hG hQ;refine wp_region_any hm ?_;have hx:=Ext.drew g w;have hG':Gm g s a w.drew:=⟨hG.size,hG.defers,fun i=>(hG.sl i).mono hx,hG.heap.drew⟩;refine CanonI.any hdd h ops.size [] (Array.replicate ops.size false) s.sl g a w.drew Q' ?_ hG' hK ?_ fun g' s' a' w' k1 k2 k3=>hQ _ g' s' a' w' k1 (hx.trans k2) k3
 .
  exact ⟨by simp,by simp,by simp,by simp,fun t _=>rfl,by simp,by simp,by simp,by simp,by simp,by simp,by simp,by simp,fun j o hj hl=>by
   have hlt:j<ops.size:=(Array.getElem?_eq_some_iff.1 hj).1;simp [hlt] at hl⟩
 unfold tB;have:=List.length_filter_le (fun j=>!(Array.replicate ops.size false).getD j true) (List.range ops.size);simpa using this
theorem AW.draw (hm:P.follows .mixedOrders=true){id:Nat}{Q:Exit->St->Prop}{s:St}(K:List HO->Prop)(hK:K s.H)(hdd:Em ops=true)
  (h:F3 P ops K (Q .normal) (Array.replicate ops.size false) s):AW P (.region id ops true) Q s:=
 AW.drawI hm (fun _=>K) (fun _=>hK) hdd h

end
end Go.Aw
namespace Go.Aw


inductive DK where
 | int (k:IntKind)
 | bool
 | str
 | slice (e:Nat)
 | struct (fs:List (Nat×Nat×Bool×Nat))
 | array (len e:Nat)
 | map (k e:Nat)
 | other

structure TD where
 size:Nat
 bytes:Nat
 agg:Bool
 zero:List AV
 kind:DK

def Pb (P:Program)(t:TypeId):TypeDesc->DK->Prop
 | .int k,.int k'=>k=k'
 | .bool,.bool=>True
 | .string,.str=>True
 | .slice e,.slice e'=>e=e'
 | .struct fs, .struct gs => fs.toList.map (fun f => (f.offset, P.cellsOf f.type, f.name != "_", f.type)) = gs /\ P.stoodInHeld t = false /\ P.eqGuardType P.depth t = false /\ (fs.toList.all fun f => (P.info? f.type).isSome) = true
 | .array n e,.array n' e'=>n=n'/\e=e'
 | .map k e,.map k' e'=>k=k'/\e=e'
 | .pointer _,.other | .func ..,.other | .interface _,.other | .tuple _,.other=>True
 | _,_=>False

def isAggD:TypeDesc->Bool
 | .struct _ | .array _ _=>true
 | _=>false

structure TyOK (P:Program) (t:TypeId) (d:TD):Prop where
 info:∃i,P.info? t=some i/\i.size=d.size/\i.bytes=d.bytes/\∃z,i.zero=some z/\z.cells.size=d.size/\∀g w,Di g w z.cells d.zero
 desc:∃u,P.underlying t=some u/\isAggD u=d.agg/\Pb P t u d.kind

def zB:Value->AV->Bool
 | .bool b,.bool b'=>b==b'
 | .int k n,.int k' n'=>decide (k=k')&&decide (n=n')
 | .string s,.str l=>s.data.toList==l&&Nat.ble l.length 4096
 | .slice none 0 0,.sl _ []=>true
 | .slice none 0 0,.val (.slice none 0 0)=>true
 | .nilFunc,.val .nilFunc=>true
 | .pointer none,.val (.pointer none)=>true
 | .map none,.val (.map none)=>true
 | .nilIface,.val .nilIface=>true
 | _,_=>false

theorem zB_rep {v:Value}{x:AV}(h:zB v x=true)(g:Gh)(w:World):Rep g w v x:=by
 unfold zB at h;split at h
 . simp only [beq_iff_eq] at h;subst h;exact .bool _
 . simp only [Cy,Ea] at h;obtain ⟨rfl,rfl⟩:=h;exact .int _ _
 .
  simp only [Cy,beq_iff_eq] at h;exact .str _ _ h.1 (E7 (B9 h.2) (by decide))
 . exact .sl0 _ _ _ (A7 _)
 . exact .val _
 . exact .val _
 . exact .val _
 . exact .val _
 . exact .val _
 cases h
def zsB:List Value->List AV->Bool
 | [],[]=>true
 | v::vs,x::xs=>zB v x&&zsB vs xs
 | _,_=>false

theorem bU:∀{vs:List Value} {xs:List AV},zsB vs xs=true->∀g w,vs.length=xs.length/\∀i x,xs[i]? = some x->Rep g w (vs.getD i undef) x
  | [],[],_,_,_=>⟨rfl,by simp⟩
  | v::vs,x::xs,h,g,w=>by
    simp only [zsB,Cy] at h;obtain ⟨h1,h2⟩:=bU h.2 g w;refine ⟨by simp [h1],fun i y hi=>?_⟩;cases i with
    | zero=>simp at hi;subst hi;exact zB_rep h.1 g w
    | succ i=>simp at hi;simpa using h2 i y hi
  | [],_::_,h,_,_=>by simp [zsB] at h
  | _::_,[],h,_,_=>by simp [zsB] at h

def fsB (P:Program):List Field->List (Nat×Nat×Bool×Nat)->Bool
 | [],[]=>true
 | f :: fs, (o, z, n, t) :: gs => Nat.beq f.offset o && Nat.beq (P.cellsOf f.type) z && ((f.name != "_") == n) && Nat.beq f.type t && fsB P fs gs
 | _,_=>false

theorem fsB_ok {P : Program} : ∀ {fs : List Field} {gs : List (Nat × Nat × Bool × Nat)}, fsB P fs gs = true -> fs.map (fun f => (f.offset, P.cellsOf f.type, f.name != "_", f.type)) = gs
  | [],[],_=>rfl
  | f::fs,(o,z,n,t)::gs,h=>by
    simp only [fsB,Cy,beq_iff_eq] at h;obtain ⟨⟨⟨⟨h1,h2⟩,h3⟩,h4⟩,h5⟩:=h;obtain rfl:=D6 h1;obtain rfl:=D6 h2;obtain rfl:=D6 h4;simp only [Be,h3,fsB_ok h5]
  | [],_::_,h=>by simp [fsB] at h
  | _::_,[],h=>by simp [fsB] at h

def kindB (P:Program)(t:TypeId):TypeDesc->DK->Bool
 | .int k,.int k'=>decide (k=k')
 | .bool,.bool=>true
 | .string,.str=>true
 | .slice e,.slice e'=>Nat.beq e e'
 | .struct fs,.struct gs=>fsB P fs.toList gs && !P.stoodInHeld t && !P.eqGuardType P.depth t&&fs.toList.all fun f=>(P.info? f.type).isSome
 | .array n e,.array n' e'=>Nat.beq n n'&&Nat.beq e e'
 | .map k e,.map k' e'=>Nat.beq k k'&&Nat.beq e e'
 | .pointer _,.other | .func ..,.other | .interface _,.other | .tuple _,.other=>true
 | _,_=>false

theorem kindB_ok {P:Program}{t:TypeId}{u:TypeDesc}{d:DK}(h:kindB P t u d=true):Pb P t u d:=by
 unfold kindB at h;split at h <;> simp only [Pb]
 . simpa using h
 . exact D6 h
 .
  simp only [Cy,A5] at h;exact ⟨fsB_ok h.1.1.1,h.1.1.2,h.1.2,h.2⟩
 . simp only [Cy] at h;exact ⟨D6 h.1,D6 h.2⟩
 . simp only [Cy] at h;exact ⟨D6 h.1,D6 h.2⟩
 cases h
def tyB (P:Program)(t:TypeId)(d:TD):Bool:=
 match P.info? t,P.underlying t with
 | some i,some u=>Nat.beq i.size d.size&&Nat.beq i.bytes d.bytes&&(match i.zero with | some z=>Nat.beq z.cells.size d.size&&zsB z.cells.toList d.zero | none=>false)&&(isAggD u==d.agg)&&kindB P t u d.kind
 | _,_=>false

theorem tyB_ok {P:Program}{t:TypeId}{d:TD}(h:tyB P t d=true):TyOK P t d:=by
 unfold tyB at h;split at h
 .
  rename_i i u hi hu;simp only [Cy,beq_iff_eq] at h;obtain ⟨⟨⟨⟨h1,h2⟩,h3⟩,h4⟩,h5⟩:=h;refine ⟨⟨i,hi,D6 h1,D6 h2,?_⟩,u,hu,h4,kindB_ok h5⟩;split at h3
  .
   rename_i z hz;simp only [Cy] at h3;refine ⟨z,hz,D6 h3.1,fun g w=>?_⟩;obtain ⟨k1,k2⟩:=bU h3.2 g w;refine ⟨by simpa using k1,fun i x hx=>?_⟩;have:=k2 i x hx;simpa using this
  cases h3
 cases h
def Bl:List (Nat×TD)->Nat->Option TD
 | [],_=>none
 | (j,x)::r,i=>bif Nat.beq j i then some x else Bl r i

def H6 (P:Program)(T:List (Nat×TD)):Prop:=∀t d,Bl T t=some d->TyOK P t d

def tabB (P:Program):List (Nat×TD)->Bool
 | []=>true
 | (t,d)::r=>tyB P t d&&tabB P r

theorem H6.of_tab {P:Program}:∀{T:List (Nat×TD)},tabB P T=true->H6 P T
  | [],_=>fun t d h=>by cases h
  | (j,x)::r,h=>fun t d hd=>by
    simp only [tabB,Cy] at h;simp only [Bl] at hd;cases e:Nat.beq j t with
    | true=>
      rw [e] at hd;simp only [cond_true,Option.some.injEq] at hd;subst hd;obtain rfl:j=t:=D6 e;exact tyB_ok h.1
    | false=>rw [e] at hd;exact H6.of_tab h.2 t d hd

section
variable {P:Program} {T:List (Nat×TD)} {d:Option Nat} {ty:TypeId} {pos:String} {aft:Array Edge} {gd:Option (Nat×Bool)} {ρ:Operand->AV} {K:List HO->Prop}

theorem Fb (b o n:Nat):(⟨b,o,none⟩:Addr).add n=⟨b,o+n,none⟩:=by
 unfold Addr.add;split
 . subst_vars;rfl
 rfl

theorem Ab {x:Operand}{v:AV}(h:ρ x=v):Db P ⟨d,.move x,ty,pos,aft,gd⟩ ρ K v:=
 .of_run fun g w a hr=>⟨_,rfl,h▸hr x (by simp [Op.operands])⟩

theorem Ad {x:Operand}{v:AV}(h:ρ x=v):Db P ⟨d,.assign x,ty,pos,aft,gd⟩ ρ K v:=
 .of_run fun g w a hr=>⟨_,rfl,h▸hr x (by simp [Op.operands])⟩

theorem Cb {x:Operand}{z:Nat}(h:ρ x = .val (.slice none 0 0)):Db P ⟨d,.assign x,ty,pos,aft,gd⟩ ρ K (.sl z []):=
 .of_run fun g w a hr=>⟨_,rfl,by have:=(h▸hr x (by simp [Op.operands]):Rep g w _ _).inv_val;rw [this];exact .sl0 _ _ _ (A7 _)⟩

theorem J7 {c a y:Operand}{b x:Bool}(hc:ρ c = .bool b)(ha:ρ a = .opt [(b,true)] (.bool x))(hy:ρ y = .bool false) :
    Db P ⟨d,.pick c a y,ty,pos,aft,gd⟩ ρ K (.bool (b&&x)):=
  .of_run fun g w A hr=>by
    have h1:=(hc▸hr c (by simp [Op.operands]):Rep g w _ _).inv_bool;have h2:=(ha▸hr a (by simp [Op.operands]):Rep g w _ _).inv_opt;have h3:=(hy▸hr y (by simp [Op.operands]):Rep g w _ _).inv_bool;refine ⟨.bool (b&&x),?_,.bool _⟩;cases b with
    | false=>simp [execOp,h1,h3,asBool]
    | true=>
      have:=(h2.1 (by simp)).inv_bool;simp [execOp,h1,this,asBool]

theorem Ja {c a y:Operand}{b x:Bool}(hc:ρ c = .bool b)(ha:ρ a = .bool true)(hy:ρ y = .opt [(b,false)] (.bool x)) :
    Db P ⟨d,.pick c a y,ty,pos,aft,gd⟩ ρ K (.bool (b||x)):=
  .of_run fun g w A hr=>by
    have h1:=(hc▸hr c (by simp [Op.operands]):Rep g w _ _).inv_bool;have h2:=(ha▸hr a (by simp [Op.operands]):Rep g w _ _).inv_bool;have h3:=(hy▸hr y (by simp [Op.operands]):Rep g w _ _).inv_opt;refine ⟨.bool (b||x),?_,.bool _⟩;cases b with
    | true=>simp [execOp,h1,h2,asBool]
    | false=>
      have:=(h3.1 (by simp)).inv_bool;simp [execOp,h1,this,asBool]

theorem A6 {x:Operand}{i:Nat}{vs:List AV}{v:AV}(h:ρ x = .tuple vs)(hv:vs[i]? = some v):Db P ⟨d,.extract x i,ty,pos,aft,gd⟩ ρ K v:=
 .of_run fun g w a hr=>by
  obtain ⟨us,he,hl,hu⟩:=(h▸hr x (by simp [Op.operands]):Rep g w _ _).inv_tuple;have hlt:i<us.size:=by rw [hl];exact (List.getElem?_eq_some_iff.1 hv).1
  refine ⟨us.getD i undef,?_,hu i v hv⟩;simp [execOp,he,Instr.extract,hlt]


theorem A8 {t:TypeId}{u:TypeDesc}(h:P.underlying t=some u)(w:World):(underlying t).run P w = .ok u w:=by simp [underlying,h]
theorem Qj {t:TypeId}{i:TypeInfo}(h:P.info? t=some i)(w:World):(typeInfo t).run P w = .ok i w:=by simp [typeInfo,h]
theorem F0 {t:TypeId}{x:TD}(h:TyOK P t x)(w:World):(sizeOf t).run P w = .ok x.size w:=by
 obtain ⟨i,hi,hs,_⟩:=h.info;simp [sizeOf,Qj hi,hs]
theorem Ni {t:TypeId}{x:TD}(h:TyOK P t x)(w:World):(isAgg t).run P w = .ok x.agg w:=by
 obtain ⟨u,hu,ha,_⟩:=h.desc;unfold isAgg;rw [Sem.run_bind,A8 hu];simp only [Result.andThen_ok,<-ha];cases u <;> rfl

theorem Ob {t:TypeId}{x:TD}{gs:List (Nat×Nat×Bool×Nat)}(h:TyOK P t x)(hk:x.kind = .struct gs) :
  ∃ fs, P.underlying t = some (.struct fs) /\ fs.toList.map (fun f => (f.offset, P.cellsOf f.type, f.name != "_", f.type)) = gs /\ P.stoodInHeld t = false /\ P.eqGuardType P.depth t = false /\ (fs.toList.all fun f => (P.info? f.type).isSome) = true := by
 obtain ⟨u,hu,_,hk'⟩:=h.desc;rw [hk] at hk';cases u <;> simp only [Pb] at hk' <;> first | exact hk'.elim | exact ⟨_,hu,hk'⟩
theorem Ee {t:TypeId}{x:TD}{e:Nat}(h:TyOK P t x)(hk:x.kind = .slice e):P.underlying t=some (.slice e):=by
 obtain ⟨u,hu,_,hk'⟩:=h.desc;rw [hk] at hk';cases u <;> simp only [Pb] at hk' <;> first | exact hk'.elim | (subst hk';exact hu)
theorem Nc {t:TypeId}{x:TD}{n e:Nat}(h:TyOK P t x)(hk:x.kind = .array n e):P.underlying t=some (.array n e):=by
 obtain ⟨u,hu,_,hk'⟩:=h.desc;rw [hk] at hk';cases u <;> simp only [Pb] at hk' <;> first | exact hk'.elim | (obtain ⟨rfl,rfl⟩:=hk';exact hu)
theorem L9 {t:TypeId}{x:TD}(h:TyOK P t x)(hk:x.kind = .str):P.underlying t=some .string:=by
 obtain ⟨u,hu,_,hk'⟩:=h.desc;rw [hk] at hk';cases u <;> simp only [Pb] at hk' <;> first | exact hk'.elim | exact hu

theorem Y2 {fs : Array Field} {gs : List (Nat × Nat × Bool × Nat)} (h : fs.toList.map (fun f => (f.offset, P.cellsOf f.type, f.name != "_", f.type)) = gs) {f off z ft : Nat} {nm : Bool} (hf : gs[f]? = some (off, z, nm, ft)) :
    ∃fd,fs[f]? = some fd/\fd.offset=off/\P.cellsOf fd.type=z/\fd.type=ft:=by
  subst h;simp only [List.getElem?_map] at hf;cases e:fs.toList[f]? with
  | none=>simp [e] at hf
  | some fd=>
    simp only [e,Hv,Option.some.injEq,Prod.mk.injEq] at hf;exact ⟨fd,by simpa using e,hf.1,hf.2.1,hf.2.2.2⟩

theorem aJ {t z:Nat}(h:P.cellsOf t=z)(hz:0<z)(w:World):(sizeOf t).run P w = .ok z w:=by
 unfold Program.cellsOf at h;cases hi:P.info? t with
 | none=>simp [hi] at h;omega
 | some i=>simp [hi] at h;simp [sizeOf,typeInfo,hi,h]

theorem aS {s f off z ft b o:Nat}{nm:Bool}{x:TD}{gs:List (Nat×Nat×Bool×Nat)}(hT:TyOK P s x)(hk:x.kind = .struct gs)(hf:gs[f]? = some (off,z,nm,ft))(hz:Nat.blt 0 z=true)(w:World) :
  (Instr.fieldAt s (.pointer (some ⟨b,o,none⟩)) f).run P w = .ok (.pointer (some ⟨b,o+off,none⟩)) w:=by
 obtain ⟨fs,hu,hm,_⟩:=Ob hT hk;obtain ⟨fd,h1,h2,h3,_⟩:=Y2 hm hf;have hz':0<z:=by simpa using hz
 have h4:=aJ h3 hz' w;unfold Instr.fieldAt;rw [Sem.run_bind,A8 hu];simp only [Result.andThen_ok,h1,Instr.sureAddr];simp only [Sem.run_bind,Sem.run_pure,Result.andThen_ok,fieldPlace,h4];rw [if_neg (by omega)];simp [h2,Fb]

theorem Ai {s f off z ft:Nat}{nm:Bool}{x:Operand}{cs cs':List AV}{td:TD}{gs:List (Nat×Nat×Bool×Nat)}(hT:H6 P T)(h:ρ x = .ptr cs)(ht:Bl T s=some td)(hk:td.kind = .struct gs)
  (hf:gs[f]? = some (off,z,nm,ft)) (hz:Nat.blt 0 z=true) (hc:cs.drop off=cs'):Db P ⟨d,.fieldAddr s x f,ty,pos,aft,gd⟩ ρ K (.ptr cs'):=
 .of_run fun g w a hr=>by
  obtain ⟨b,o,he,fv,h1,h2⟩:=(h▸hr x (by simp [Op.operands]):Rep g w _ _).inv_ptr;refine ⟨.pointer (some ⟨b,o+off,none⟩),?_,?_⟩
  . simp only [execOp,he,Sem.run_bind,aS (hT s td ht) hk hf hz,Result.andThen_ok,Sem.run_pure]
  subst hc;refine .ptr b (o+off) _ (fun j=>fv (off+j)) (fun j x hj=>?_) (fun j x hj=>?_)
  .
   rw [List.getElem?_drop] at hj;have:=h1 (off+j) x hj
   rwa [Nat.add_assoc]
  rw [List.getElem?_drop] at hj;exact h2 (off+j) x hj
theorem Hz {s f off z ft b o:Nat}{nm:Bool}{x:Operand}{td:TD}{gs:List (Nat×Nat×Bool×Nat)}(hT:H6 P T)(h:ρ x = .val (.pointer (some ⟨b,o,none⟩)))(ht:Bl T s=some td)(hk:td.kind = .struct gs)
  (hf:gs[f]? = some (off,z,nm,ft)) (hz:Nat.blt 0 z=true) {o':Nat} (ho:o+off=o'):Db P ⟨d,.fieldAddr s x f,ty,pos,aft,gd⟩ ρ K (.val (.pointer (some ⟨b,o',none⟩))):=
 .of_run fun g w a hr=>by
  have he:=(h▸hr x (by simp [Op.operands]):Rep g w _ _).inv_val;refine ⟨.pointer (some ⟨b,o+off,none⟩),?_,ho▸.val _⟩;simp only [execOp,he,Sem.run_bind,aS (hT s td ht) hk hf hz,Result.andThen_ok,Sem.run_pure]

theorem N3 {t:TypeId}{td:TD}(hT:TyOK P t td)(ha:td.agg=false){w:World}{b o:Nat}{v:Value}(h:w.cell? ⟨b,o,none⟩=some v):(loadVar t ⟨b,o,none⟩).run P w = .ok v w:=by
 unfold loadVar;rw [Sem.run_bind,Ni hT,Result.andThen_ok,ha];simp [h]

theorem Ou {t:TypeId}{td:TD}(hT:TyOK P t td)(ha:td.agg=true){w:World}{b o:Nat}(f:Nat->Value)(h:∀j,j<td.size->w.cell? ⟨b,o+j,none⟩=some (f j)) :
  (loadVar t ⟨b,o,none⟩).run P w = .ok (.agg ((List.range td.size).map f).toArray) w:=by
 unfold loadVar;rw [Sem.run_bind,Ni hT,Result.andThen_ok,ha];simp only [if_true,Sem.run_bind,F0 hT,Result.andThen_ok];rw [run_loadCells w ⟨b,o,none⟩ td.size f (fun j hj=>by rw [Fb];exact h j hj)];rfl

theorem Sj {g:Gh}{w:World}{n:Nat}{f:Nat->Value}{l:List AV}(hl:l.length=n)(h:∀j x,l[j]? = some x->Rep g w (f j) x):Di g w ((List.range n).map f).toArray l:=by
 refine ⟨by simp [hl],fun i x hi=>?_⟩;have hlt:i<n:=by rw [<-hl];exact (List.getElem?_eq_some_iff.1 hi).1
 have:(((List.range n).map f).toArray).getD i undef=f i:=by simp [hlt]
 rw [this];exact h i x hi

theorem Aq {t:TypeId}{td:TD}{x:Operand}{c:AV}{cs:List AV}(hT:H6 P T)(h:ρ x = .ptr (c::cs))(ht:Bl T t=some td)(ha:td.agg=false):Db P ⟨d,.load t x,ty,pos,aft,gd⟩ ρ K c:=
 .of_run fun g w a hr=>by
  obtain ⟨b,o,he,fv,h1,h2⟩:=(h▸hr x (by simp [Op.operands]):Rep g w _ _).inv_ptr;refine ⟨fv 0,?_,h2 0 c rfl⟩;have:=(h1 0 c rfl).2;simp only [execOp,he,Instr.loadAt,Instr.sureAddr,Sem.run_bind,Sem.run_pure,Result.andThen_ok,N3 (hT t td ht) ha (by simpa using this)]

theorem Cq {t:TypeId}{td:TD}{x:Operand}{cs l:List AV}(hT:H6 P T)(h:ρ x = .ptr cs)(ht:Bl T t=some td)(ha:td.agg=true)(hl:cs.take td.size=l)(hs:Nat.beq l.length td.size=true) :
    Db P ⟨d,.load t x,ty,pos,aft,gd⟩ ρ K (.agg l):=
  .of_run fun g w a hr=>by
    obtain ⟨b,o,he,fv,h1,h2⟩:=(h▸hr x (by simp [Op.operands]):Rep g w _ _).inv_ptr;have hs':l.length=td.size:=by simpa using hs
    have hget:∀j,j<td.size->∃y,cs[j]? = some y:=fun j hj=>by
      have : j < cs.length := by have := List.length_take_le td.size cs; rw [hl, hs'] at this; have h3 : (cs.take td.size).length = td.size := by rw [hl, hs']
                                 rw [Df] at h3;omega
      exact ⟨_,List.getElem?_eq_getElem this⟩
    have hrep:=Sj (g:=g) (w:=w) (n:=td.size) (f:=fv) (l:=l) hs' (fun j y hj=>by
      rw [<-hl,List.getElem?_take] at hj;split at hj
      . exact h2 j y hj
      cases hj)
    refine ⟨_,?_,.agg ((List.range td.size).map fv).toArray l hrep.1 hrep.2⟩;simp only [execOp,he,Instr.loadAt,Instr.sureAddr,Sem.run_bind,Sem.run_pure,Result.andThen_ok,Ou (hT t td ht) ha fv (fun j hj=>by obtain ⟨y,hy⟩:=hget j hj;exact (h1 j y hy).2)]
theorem B8 {t:TypeId}{b o:Nat}{td:TD}{x:Operand}{c:AV}{k:Nat}{TT:TypeId}{cs:List AV}(hT:H6 P T)(h:ρ x = .val (.pointer (some ⟨b,o,none⟩)))(ht:Bl T t=some td)(ha:td.agg=false)(hc:cs[o]? = some c) :
  Db P ⟨d,.load t x,ty,pos,aft,gd⟩ ρ (fun H=>H[k]? = some (.box b TT cs)) c:=by
 intro g w a H next Q hr hH hK hn
 have he:=(h▸hr x (by simp [Op.operands]):Rep g w _ _).inv_val;obtain ⟨_,vs,h1,h2⟩:=hH.ok _ (Aj hK);have h3:=h2.2 o c hc;have hlt:o<vs.size:=by rw [h2.1];exact (List.getElem?_eq_some_iff.1 hc).1
 have hcell:w.cell? ⟨b,o,none⟩=some (vs.getD o undef):=by rw [Bj h1];simp [hlt]
 unfold Oper.wp;simp only [execOp,he,Instr.loadAt,Instr.sureAddr,Sem.run_bind,Sem.run_pure,Result.andThen_ok,N3 (hT t td ht) ha hcell];exact hn g w _ h3 hH (Ext.refl g w)

theorem Iu {t:TypeId}{b o:Nat}{td:TD}{x:Operand}{k:Nat}{TT:TypeId}{cs l:List AV}(hT:H6 P T)(h:ρ x = .val (.pointer (some ⟨b,o,none⟩)))(ht:Bl T t=some td)(ha:td.agg=true)
  (hl:(cs.drop o).take td.size=l) (hs:Nat.beq l.length td.size=true) :
  Db P ⟨d,.load t x,ty,pos,aft,gd⟩ ρ (fun H=>H[k]? = some (.box b TT cs)) (.agg l):=by
 intro g w a H next Q hr hH hK hn
 have he:=(h▸hr x (by simp [Op.operands]):Rep g w _ _).inv_val;obtain ⟨_,vs,h1,h2⟩:=hH.ok _ (Aj hK);have hs':l.length=td.size:=by simpa using hs
 have hle:o+td.size<=cs.length\/td.size=0:=by
  have h3:((cs.drop o).take td.size).length=td.size:=by rw [hl,hs']
  rw [Df,C4] at h3;omega
 have hcell:∀j,j<td.size->w.cell? ⟨b,o+j,none⟩=some (vs.getD (o+j) undef):=fun j hj=>by
  have:o+j<vs.size:=by rw [h2.1];omega
  rw [Bj h1];simp [this]
 unfold Oper.wp;simp only [execOp,he,Instr.loadAt,Instr.sureAddr,Sem.run_bind,Sem.run_pure,Result.andThen_ok,Ou (hT t td ht) ha (fun j=>vs.getD (o+j) undef) hcell]
 have hrep:=Sj (g:=g) (w:=w) (n:=td.size) (f:=fun j=>vs.getD (o+j) undef) hs' (fun j y hj=>by
  rw [<-hl,List.getElem?_take] at hj;split at hj
  . rw [List.getElem?_drop] at hj;exact h2.2 _ y hj
  cases hj)
 exact hn g w _ (.agg _ _ hrep.1 hrep.2) hH (Ext.refl g w)

end
end Go.Aw
namespace Go.Aw

section
variable {P:Program} {T:List (Nat×TD)} {d:Option Nat} {ty:TypeId} {pos:String} {aft:Array Edge} {gd:Option (Nat×Bool)} {ρ:Operand->AV} {K:List HO->Prop}


theorem Ix {op:BinOp}{t:TypeId}{x y:Operand}{a b:Value}(h:(match a,b with | .nilIface,.nilIface=>false | .agg _,.agg _=>false | _,_=>true)=true)(w:World):(eqGuard op t x y a b).run P w = .ok () w:=by
 unfold eqGuard;cases a <;> cases b <;> first | (cases h;done) | (split <;> rfl)

theorem Mv {op:BinOp}{x y:Operand}{t yt:TypeId}{u v:AV}{r:AV}(hx:ρ x=u)(hy:ρ y=v)
  (h:∀(g:Gh) (w:World) (a b:Value),Rep g w a u->Rep g w b v->∃c,(do eqGuard op t x y a b;binOp op t a b).run P w = .ok c w/\Rep g w c r):Db P ⟨d,.binOp op t x y yt,ty,pos,aft,gd⟩ ρ K r:=
 .of_run fun g w a hr=>by
  obtain ⟨c,hc,hrep⟩:=h g w _ _ (hx▸hr x (by simp [Op.operands])) (hy▸hr y (by simp [Op.operands]));refine ⟨c,?_,hrep⟩;simp only [execOp];rw [Sem.run_bind,hc];rfl

theorem Kt {op:BinOp}{t:TypeId}{x y:Operand}{k:IntKind}{n m:Int}{c:Value}{w:World}(h:(binOp op t (.int k n) (.int k m)).run P w = .ok c w) :
  (do eqGuard op t x y (.int k n) (.int k m);binOp op t (.int k n) (.int k m)).run P w = .ok c w:=by
 rw [Sem.run_bind,Ix rfl];exact h

section ints
variable {x y:Operand} {t yt:TypeId} {k:IntKind} {n m:Int} (hx:ρ x = .int k n) (hy:ρ y = .int k m)
include hx hy
theorem aF:Db P ⟨d,.binOp .eql t x y yt,ty,pos,aft,gd⟩ ρ K (.bool (n==m)):=
 Mv hx hy fun g w a b ha hb=>by rw [ha.inv_int,hb.inv_int];exact ⟨_,Kt (by simp [binOp,Op.intCmp]),.bool _⟩
theorem Nq:Db P ⟨d,.binOp .neq t x y yt,ty,pos,aft,gd⟩ ρ K (.bool (n != m)):=
 Mv hx hy fun g w a b ha hb=>by rw [ha.inv_int,hb.inv_int];exact ⟨_,Kt (by simp [binOp,Op.intCmp]),.bool _⟩
theorem Np:Db P ⟨d,.binOp .lss t x y yt,ty,pos,aft,gd⟩ ρ K (.bool (decide (n<m))):=
 Mv hx hy fun g w a b ha hb=>by rw [ha.inv_int,hb.inv_int];exact ⟨_,Kt (by simp [binOp,Op.intCmp]),.bool _⟩
theorem P_leq:Db P ⟨d,.binOp .leq t x y yt,ty,pos,aft,gd⟩ ρ K (.bool (decide (n<=m))):=
 Mv hx hy fun g w a b ha hb=>by rw [ha.inv_int,hb.inv_int];exact ⟨_,Kt (by simp [binOp,Op.intCmp]),.bool _⟩
theorem zS:Db P ⟨d,.binOp .gtr t x y yt,ty,pos,aft,gd⟩ ρ K (.bool (decide (m<n))):=
 Mv hx hy fun g w a b ha hb=>by rw [ha.inv_int,hb.inv_int];exact ⟨_,Kt (by simp [binOp,Op.intCmp]),.bool _⟩
theorem tS:Db P ⟨d,.binOp .geq t x y yt,ty,pos,aft,gd⟩ ρ K (.bool (decide (m<=n))):=
 Mv hx hy fun g w a b ha hb=>by rw [ha.inv_int,hb.inv_int];exact ⟨_,Kt (by simp [binOp,Op.intCmp]),.bool _⟩
theorem zR:Db P ⟨d,.binOp .add t x y yt,ty,pos,aft,gd⟩ ρ K (.int k (k.wrap (n+m))):=
 Mv hx hy fun g w a b ha hb=>by rw [ha.inv_int,hb.inv_int];exact ⟨_,Kt (by simp [binOp,Op.intArith]),.int _ _⟩
theorem qK:Db P ⟨d,.binOp .sub t x y yt,ty,pos,aft,gd⟩ ρ K (.int k (k.wrap (n-m))):=
 Mv hx hy fun g w a b ha hb=>by rw [ha.inv_int,hb.inv_int];exact ⟨_,Kt (by simp [binOp,Op.intArith]),.int _ _⟩
theorem P_mulw:Db P ⟨d,.binOp .mul t x y yt,ty,pos,aft,gd⟩ ρ K (.int k (k.wrap (n*m))):=
 Mv hx hy fun g w a b ha hb=>by rw [ha.inv_int,hb.inv_int];exact ⟨_,Kt (by simp [binOp,Op.intArith]),.int _ _⟩
theorem P_rem (hm:m≠0):Db P ⟨d,.binOp .rem t x y yt,ty,pos,aft,gd⟩ ρ K (.int k (n.tmod m)):=
 Mv hx hy fun g w a b ha hb=>by rw [ha.inv_int,hb.inv_int];exact ⟨_,Kt (by simp [binOp,Op.intDiv,hm]),.int _ _⟩
theorem P_quow (hm:m≠0):Db P ⟨d,.binOp .quo t x y yt,ty,pos,aft,gd⟩ ρ K (.int k (k.wrap (n.tdiv m))):=
 Mv hx hy fun g w a b ha hb=>by rw [ha.inv_int,hb.inv_int];exact ⟨_,Kt (by simp [binOp,Op.intDiv,hm]),.int _ _⟩
end ints

theorem Js {x y:Operand}{t yt:TypeId}{n m r:Int}(hx:ρ x = .int .i64 n)(hy:ρ y = .int .i64 m)(hr:n+m=r)(hb : -9223372036854775808<=r/\r<=9223372036854775807) :
  Db P ⟨d,.binOp .add t x y yt,ty,pos,aft,gd⟩ ρ K (.int .i64 r):=by
 have:=zR (P:=P) (d:=d) (ty:=ty) (pos:=pos) (aft:=aft) (gd:=gd) (K:=K) (t:=t) (yt:=yt) hx hy
 rwa [hr,IntWalk.i64_in r hb] at this
theorem zU {x y:Operand}{t yt:TypeId}{n m r:Int}(hx:ρ x = .int .i64 n)(hy:ρ y = .int .i64 m)(hr:n-m=r)(hb : -9223372036854775808<=r/\r<=9223372036854775807) :
  Db P ⟨d,.binOp .sub t x y yt,ty,pos,aft,gd⟩ ρ K (.int .i64 r):=by
 have:=qK (P:=P) (d:=d) (ty:=ty) (pos:=pos) (aft:=aft) (gd:=gd) (K:=K) (t:=t) (yt:=yt) hx hy
 rwa [hr,IntWalk.i64_in r hb] at this
theorem P_mul {x y:Operand}{t yt:TypeId}{n m r:Int}(hx:ρ x = .int .i64 n)(hy:ρ y = .int .i64 m)(hr:n*m=r)(hb : -9223372036854775808<=r/\r<=9223372036854775807) :
  Db P ⟨d,.binOp .mul t x y yt,ty,pos,aft,gd⟩ ρ K (.int .i64 r):=by
 have:=P_mulw (P:=P) (d:=d) (ty:=ty) (pos:=pos) (aft:=aft) (gd:=gd) (K:=K) (t:=t) (yt:=yt) hx hy
 rwa [hr,IntWalk.i64_in r hb] at this

theorem uI (a b:List UInt8):((⟨a.toArray⟩:ByteArray).toList==(⟨b.toArray⟩:ByteArray).toList)=(a==b):=by
 rw [ByteArray.toList_mk,ByteArray.toList_mk]

theorem Dx {x y:Operand}{t yt:TypeId}{a b:List UInt8}(hx:ρ x = .str a)(hy:ρ y = .str b):Db P ⟨d,.binOp .eql t x y yt,ty,pos,aft,gd⟩ ρ K (.bool (a==b)):=
 Mv hx hy fun g w u v hu hv=>by
  rw [hu.inv_str.1,hv.inv_str.1];refine ⟨.bool (a==b),?_,.bool _⟩;rw [Sem.run_bind,Ix rfl];simp only [Result.andThen_ok,binOp,Op.stringOp,uI,Sem.run_pure]
theorem Ge {x y:Operand}{t yt:TypeId}{a b:List UInt8}(hx:ρ x = .str a)(hy:ρ y = .str b):Db P ⟨d,.binOp .neq t x y yt,ty,pos,aft,gd⟩ ρ K (.bool (!(a==b))):=
 Mv hx hy fun g w u v hu hv=>by
  rw [hu.inv_str.1,hv.inv_str.1];refine ⟨.bool (!(a==b)),?_,.bool _⟩;rw [Sem.run_bind,Ix rfl];simp only [Result.andThen_ok,binOp,Op.stringOp,uI,Sem.run_pure]
theorem Pu {x y:Operand}{t yt:TypeId}{a b r:List UInt8}(hx:ρ x = .str a)(hy:ρ y = .str b)(hr:a++b=r)(hl:r.length<=maxLen):Db P ⟨d,.binOp .add t x y yt,ty,pos,aft,gd⟩ ρ K (.str r):=
 Mv hx hy fun g w u v hu hv=>by
  rw [hu.inv_str.1,hv.inv_str.1];have hl':(a.length+b.length:Nat)<=maxLen:=by rw [<-Ao,hr];exact hl
  refine ⟨.string ⟨r.toArray⟩,?_,.str _ _ (by simp) hl⟩;rw [Sem.run_bind,Ix rfl];simp only [Result.andThen_ok,binOp,Op.stringOp];rw [if_neg]
  .
   simp only [Sem.run_pure]
   congr 2
   apply ByteArray.ext
   simp [<-hr]
  have e1:(⟨a.toArray⟩:ByteArray).size=a.length:=by simp [ByteArray.size]
  have e2:(⟨b.toArray⟩:ByteArray).size=b.length:=by simp [ByteArray.size]
  rw [e1,e2];have:IntKind.i64.max=(maxLen:Int):=by decide
  rw [this];omega
theorem Vv {n:Nat}{t:TypeId}(hu:P.underlying t=some .bool)(a b:Bool)(w:World):(Op.equalIn (n+1) t (.bool a) (.bool b)).run P w = .ok (a==b) w:=by
 unfold Op.equalIn;rw [Sem.run_bind,A8 hu];rfl
theorem gZ {n:Nat}{t:TypeId}{k':IntKind}(hu:P.underlying t=some (.int k'))(k:IntKind)(a b:Int)(w:World):(Op.equalIn (n+1) t (.int k a) (.int k b)).run P w = .ok (a==b) w:=by
 unfold Op.equalIn;rw [Sem.run_bind,A8 hu];simp
theorem hU {n:Nat}{t:TypeId}(hu:P.underlying t=some .string)(a b:List UInt8)(w:World):(Op.equalIn (n+1) t (.string ⟨a.toArray⟩) (.string ⟨b.toArray⟩)).run P w = .ok (a==b) w:=by
 unfold Op.equalIn;rw [Sem.run_bind,A8 hu];simp only [Result.andThen_ok,Sem.run_pure,beq_toListBytes,ByteArray.toList_mk]

theorem Za {t:TypeId}{x:TD}(h:TyOK P t x)(hk:x.kind = .bool):P.underlying t=some .bool:=by
 obtain ⟨u,hu,_,hk'⟩:=h.desc;rw [hk] at hk';cases u <;> simp only [Pb] at hk' <;> first | exact hk'.elim | exact hu
theorem Kz {t:TypeId}{x:TD}{k:IntKind}(h:TyOK P t x)(hk:x.kind = .int k):P.underlying t=some (.int k):=by
 obtain ⟨u,hu,_,hk'⟩:=h.desc;rw [hk] at hk';cases u <;> simp only [Pb] at hk' <;> first | exact hk'.elim | (subst hk';exact hu)

theorem qI {x y:Operand}{t yt:TypeId}{td:TD}{a b:Bool}(hT:H6 P T)(hx:ρ x = .bool a)(hy:ρ y = .bool b)(ht:Bl T t=some td)(hk:td.kind = .bool):Db P ⟨d,.binOp .neq t x y yt,ty,pos,aft,gd⟩ ρ K (.bool (!(a==b))):=
 Mv hx hy fun g w u v hu hv=>by
  rw [hu.inv_bool,hv.inv_bool];refine ⟨.bool (!(a==b)),?_,.bool _⟩;rw [Sem.run_bind,Ix rfl];have:=Vv (n:=9999) (Za (hT t td ht) hk) a b w;simp only [Result.andThen_ok,binOp,Op.equal,Op.maxDepth,Sem.run_bind,this,Sem.run_pure]

def cD (T:List (Nat×TD)):List (Nat×Nat×Bool×Nat)->List AV->List AV->Option Bool
  | [],_,_=>some true
  | (off,_,nm,ft)::gs,xs,ys=>
    bif nm then
      match Bl T ft,xs[off]?,ys[off]?,cD T gs xs ys with
      | some ⟨_,_,false,_,.int _⟩,some (.int k n),some (.int k' m),some r=>bif decide (k=k') then some ((n==m)&&r) else none
      | some ⟨_,_,false,_,.str⟩,some (.str a),some (.str b),some r=>some ((a==b)&&r)
      | some ⟨_,_,false,_,.bool⟩,some (.bool a),some (.bool b),some r=>some ((a==b)&&r)
      | _,_,_,_=>none
    else none

theorem Eo {t:TypeId}{x:TD}(h:TyOK P t x)(ha:x.agg=false){vs:Array Value}{o:Nat}(ho:o<vs.size)(w:World):(part t vs o).run P w = .ok (vs.getD o undef) w:=by
 unfold part;rw [Sem.run_bind,Ni h,Result.andThen_ok,ha];simp [ho]

theorem Ru (N:Nat)(hT:H6 P T){g:Gh}{w:World}{us vs:Array Value}{xs ys:List AV}(hu:Di g w us xs)(hv:Di g w vs ys):∀(fs:List Field) (r:Bool),
    cD T (fs.map (fun f => (f.offset, P.cellsOf f.type, f.name != "_", f.type))) xs ys = some r ->
    Sem.run P (forIn fs ((none,()):Option Bool×Unit) fun f _=>
            if f.name = "_" then pure (ForInStep.yield (none, ()))
            else do
              let a <-part f.type us f.offset
              let b <-part f.type vs f.offset
              let c <-Op.equalIn (N+1) f.type a b
              if c=false then pure (ForInStep.done (some false,())) else pure (ForInStep.yield (none,()))) w = .ok (if r then (none,()) else (some false,())) w
  | [],r,h=>by
    simp only [Bw,cD,Option.some.injEq] at h;subst h;simp
  | f::fs,r,h=>by
    simp only [Be,cD] at h;cases hn : (f.name != "_") with
    | false=>simp [hn] at h
    | true=>
      have hn' : f.name ≠ "_" := by simpa using hn
      simp only [hn,cond_true] at h;rw [List.forIn_cons];simp only [hn',if_false];have hlu:∀{c},xs[f.offset]? = some c->f.offset<us.size:=fun hc=>by rw [hu.1];exact (List.getElem?_eq_some_iff.1 hc).1
      have hlv:∀{c},ys[f.offset]? = some c->f.offset<vs.size:=fun hc=>by rw [hv.1];exact (List.getElem?_eq_some_iff.1 hc).1
      split at h
      . rename_i hty hx hy hrec
        rename_i z b zz k0 k n k' m r0;cases hkk:decide (k=k') with
        | false=>simp [hkk] at h
        | true=>
          simp only [hkk,cond_true,Option.some.injEq] at h;have hkk':k=k':=by simpa using hkk
          subst hkk';have e1:=(hu.2 _ _ hx).inv_int;have e2:=(hv.2 _ _ hy).inv_int;simp only [Sem.run_bind,Eo (hT _ _ hty) rfl (hlu hx),Eo (hT _ _ hty) rfl (hlv hy),Result.andThen_ok,e1,e2,gZ (n:=N) (Kz (hT _ _ hty) rfl)];cases hb:(n==m) with
          | false=>simp [hb] at h;subst h;simp
          | true=>
            simp only [hb,Fj] at h;subst h;have ih:=Ru N hT hu hv fs _ hrec;simpa using ih
      . rename_i hty hx hy hrec
        simp only [Option.some.injEq] at h;have e1:=(hu.2 _ _ hx).inv_str.1;have e2:=(hv.2 _ _ hy).inv_str.1;simp only [Sem.run_bind,Eo (hT _ _ hty) rfl (hlu hx),Eo (hT _ _ hty) rfl (hlv hy),Result.andThen_ok,e1,e2,hU (n:=N) (L9 (hT _ _ hty) rfl)];rename_i a b _;cases hb:(a==b) with
        | false=>simp [hb] at h;subst h;simp
        | true=>
          simp only [hb,Fj] at h;subst h;have ih:=Ru N hT hu hv fs _ hrec;simpa using ih
      . rename_i hty hx hy hrec
        simp only [Option.some.injEq] at h;have e1:=(hu.2 _ _ hx).inv_bool;have e2:=(hv.2 _ _ hy).inv_bool;simp only [Sem.run_bind,Eo (hT _ _ hty) rfl (hlu hx),Eo (hT _ _ hty) rfl (hlv hy),Result.andThen_ok,e1,e2,Vv (n:=N) (Za (hT _ _ hty) rfl)];rename_i a b _;cases hb:(a==b) with
        | false=>simp [hb] at h;subst h;simp
        | true=>
          simp only [hb,Fj] at h;subst h;have ih:=Ru N hT hu hv fs _ hrec;simpa using ih
      cases h
theorem jT (N:Nat)(hT:H6 P T){t:TypeId}{td:TD}{gs:List (Nat×Nat×Bool×Nat)}(ht:Bl T t=some td)(hk:td.kind = .struct gs){g:Gh}{w:World}{us vs:Array Value}{xs ys:List AV}(hu:Di g w us xs)(hv:Di g w vs ys)
  {r:Bool} (h:cD T gs xs ys=some r):(Op.equalIn (N+2) t (.agg us) (.agg vs)).run P w = .ok r w:=by
 obtain ⟨fs,hfu,hm,hs,hg,_⟩:=Ob (hT t td ht) hk;have key:=Ru N hT hu hv fs.toList r (by rw [hm];exact h);unfold Op.equalIn;simp only [Sem.run_bind,A8 hfu,Result.andThen_ok,run_program,hs,Al,if_false];rw [<-Array.forIn_toList];simp only [ne_eq,ite_not] at key ⊢;simp only [A5,bind_pure_comp] at key ⊢
 erw [key]
 cases r <;> rfl
theorem part_agg {t:TypeId}{x:TD}(h:TyOK P t x)(ha:x.agg=true){vs:Array Value}{o:Nat}(w:World):(part t vs o).run P w = .ok (.agg (vs.extract o (o+x.size))) w:=by
 unfold part;rw [Sem.run_bind,Ni h,Result.andThen_ok,ha];simp [F0 h]
theorem X4 {g:Gh}{w:World}{us:Array Value}{xs:List AV}(hu:Di g w us xs)(o n:Nat):Di g w (us.extract o (o+n)) ((xs.drop o).take n):=by
 refine ⟨by simp [hu.1];omega,fun i x hi=>?_⟩;rw [List.getElem?_take] at hi;split at hi
 .
  rename_i hlt;rw [List.getElem?_drop] at hi;have h1:=hu.2 _ _ hi;have hl:=(List.getElem?_eq_some_iff.1 hi).1;rw [<-hu.1] at hl
  have:(us.extract o (o+n)).getD i undef=us.getD (o+i) undef:=by
   simp only [Ct,Array.getElem?_extract];rw [if_pos (by omega)]
  rw [this];exact h1
 cases hi
def wX (T:List (Nat×TD)):List (Nat×Nat×Bool×Nat)->List AV->List AV->Option Bool
  | [],_,_=>some true
  | (off,_,nm,ft)::gs,xs,ys=>
    bif nm then
      match Bl T ft,xs[off]?,ys[off]?,wX T gs xs ys with
      | some ⟨_,_,false,_,.int _⟩,some (.int k n),some (.int k' m),some r=>bif decide (k=k') then some ((n==m)&&r) else none
      | some ⟨_,_,false,_,.str⟩,some (.str a),some (.str b),some r=>some ((a==b)&&r)
      | some ⟨_,_,false,_,.bool⟩,some (.bool a),some (.bool b),some r=>some ((a==b)&&r)
      | some ⟨z,_,true,_,.struct gs'⟩,_,_,some r=>match cD T gs' ((xs.drop off).take z) ((ys.drop off).take z) with | some q=>some (q&&r) | none=>none
      | _,_,_,_=>none
    else none

theorem Qh (hT:H6 P T){g:Gh}{w:World}{us vs:Array Value}{xs ys:List AV}(hu:Di g w us xs)(hv:Di g w vs ys):∀(fs:List Field) (r:Bool),
    wX T (fs.map (fun f => (f.offset, P.cellsOf f.type, f.name != "_", f.type))) xs ys = some r ->
    Sem.run P (forIn fs ((none,()):Option Bool×Unit) fun f _=>
            if f.name = "_" then pure (ForInStep.yield (none, ()))
            else do
              let a <-part f.type us f.offset
              let b <-part f.type vs f.offset
              let c <-Op.equalIn 9999 f.type a b
              if c=false then pure (ForInStep.done (some false,())) else pure (ForInStep.yield (none,()))) w = .ok (if r then (none,()) else (some false,())) w
  | [],r,h=>by
    simp only [Bw,wX,Option.some.injEq] at h;subst h;simp
  | f::fs,r,h=>by
    simp only [Be,wX] at h;cases hn : (f.name != "_") with
    | false=>simp [hn] at h
    | true=>
      have hn' : f.name ≠ "_" := by simpa using hn
      simp only [hn,cond_true] at h;rw [List.forIn_cons];simp only [hn',if_false];have hlu:∀{c},xs[f.offset]? = some c->f.offset<us.size:=fun hc=>by rw [hu.1];exact (List.getElem?_eq_some_iff.1 hc).1
      have hlv:∀{c},ys[f.offset]? = some c->f.offset<vs.size:=fun hc=>by rw [hv.1];exact (List.getElem?_eq_some_iff.1 hc).1
      split at h
      . rename_i hty hx hy hrec
        rename_i z b zz k0 k n k' m r0;cases hkk:decide (k=k') with
        | false=>simp [hkk] at h
        | true=>
          simp only [hkk,cond_true,Option.some.injEq] at h;have hkk':k=k':=by simpa using hkk
          subst hkk';have e1:=(hu.2 _ _ hx).inv_int;have e2:=(hv.2 _ _ hy).inv_int;simp only [Sem.run_bind,Eo (hT _ _ hty) rfl (hlu hx),Eo (hT _ _ hty) rfl (hlv hy),Result.andThen_ok,e1,e2,gZ (n:=9998) (Kz (hT _ _ hty) rfl)];cases hb:(n==m) with
          | false=>simp [hb] at h;subst h;simp
          | true=>
            simp only [hb,Fj] at h;subst h;have ih:=Qh hT hu hv fs _ hrec;simpa using ih
      . rename_i hty hx hy hrec
        simp only [Option.some.injEq] at h;have e1:=(hu.2 _ _ hx).inv_str.1;have e2:=(hv.2 _ _ hy).inv_str.1;simp only [Sem.run_bind,Eo (hT _ _ hty) rfl (hlu hx),Eo (hT _ _ hty) rfl (hlv hy),Result.andThen_ok,e1,e2,hU (n:=9998) (L9 (hT _ _ hty) rfl)];rename_i a b _;cases hb:(a==b) with
        | false=>simp [hb] at h;subst h;simp
        | true=>
          simp only [hb,Fj] at h;subst h;have ih:=Qh hT hu hv fs _ hrec;simpa using ih
      . rename_i hty hx hy hrec
        simp only [Option.some.injEq] at h;have e1:=(hu.2 _ _ hx).inv_bool;have e2:=(hv.2 _ _ hy).inv_bool;simp only [Sem.run_bind,Eo (hT _ _ hty) rfl (hlu hx),Eo (hT _ _ hty) rfl (hlv hy),Result.andThen_ok,e1,e2,Vv (n:=9998) (Za (hT _ _ hty) rfl)];rename_i a b _;cases hb:(a==b) with
        | false=>simp [hb] at h;subst h;simp
        | true=>
          simp only [hb,Fj] at h;subst h;have ih:=Qh hT hu hv fs _ hrec;simpa using ih
      . rename_i hty hrec
        rename_i z bb zz gs' r0;cases hq:cD T gs' ((xs.drop f.offset).take z) ((ys.drop f.offset).take z) with
        | none=>simp [hq] at h
        | some q=>
          simp only [hq,Option.some.injEq] at h;have h2:=jT 9997 hT hty rfl (X4 hu f.offset z) (X4 hv f.offset z) hq;simp only [Sem.run_bind,part_agg (hT _ _ hty) rfl,Result.andThen_ok,h2];cases q with
          | false=>simp at h;subst h;simp
          | true=>
            simp only [Fj] at h;subst h;have ih:=Qh hT hu hv fs _ hrec;simpa using ih
      cases h
theorem xF (hT:H6 P T){t:TypeId}{td:TD}{gs:List (Nat×Nat×Bool×Nat)}(ht:Bl T t=some td)(hk:td.kind = .struct gs){g:Gh}{w:World}{us vs:Array Value}{xs ys:List AV}(hu:Di g w us xs)(hv:Di g w vs ys)
  {r:Bool} (h:wX T gs xs ys=some r) {x y:Operand} {op:BinOp}:(eqGuard op t x y (.agg us) (.agg vs)).run P w = .ok () w/\(Op.equal t (.agg us) (.agg vs)).run P w = .ok r w:=by
 obtain ⟨fs,hfu,hm,hs,hg,_⟩:=Ob (hT t td ht) hk
 constructor
 .
  unfold eqGuard;split <;> simp [hg]
 have key:=Qh hT hu hv fs.toList r (by rw [hm];exact h);unfold Op.equal Op.maxDepth Op.equalIn;simp only [Sem.run_bind,A8 hfu,Result.andThen_ok,run_program,hs,Al,if_false];rw [<-Array.forIn_toList];simp only [ne_eq,ite_not] at key ⊢;simp only [A5,bind_pure_comp] at key ⊢;rw [show (Op.equalIn 9999)=(Op.equalIn 9999) from rfl] at key
 erw [key]
 cases r <;> rfl
theorem Pw {x y:Operand}{t yt:TypeId}{td:TD}{gs:List (Nat×Nat×Bool×Nat)}{xs ys:List AV}{r:Bool}(hT:H6 P T)(hx:ρ x = .agg xs)(hy:ρ y = .agg ys)(ht:Bl T t=some td)(hk:td.kind = .struct gs)(h:wX T gs xs ys=some r) :
  Db P ⟨d,.binOp .neq t x y yt,ty,pos,aft,gd⟩ ρ K (.bool (!r)):=
 Mv hx hy fun g w u v hu hv=>by
  obtain ⟨us,rfl,hu'⟩:=hu.inv_agg;obtain ⟨vs,rfl,hv'⟩:=hv.inv_agg;obtain ⟨h1,h2⟩:=xF hT ht hk hu' hv' h (x:=x) (y:=y) (op:=.neq);exact ⟨.bool (!r),by simp only [Sem.run_bind,h1,Result.andThen_ok,binOp,h2,Sem.run_pure],.bool _⟩

theorem cB {x:Operand}{t:TypeId}{b:Bool}(hx:ρ x = .bool b):Db P ⟨d,.unOp .not t x,ty,pos,aft,gd⟩ ρ K (.bool (!b)):=
 .of_run fun g w a hr=>by
  have h1:=(hx▸hr x (by simp [Op.operands]):Rep g w _ _).inv_bool;exact ⟨.bool (!b),by simp [execOp,h1,Op.unary],.bool _⟩
theorem P_neg {x:Operand}{t:TypeId}{n r:Int}(hx:ρ x = .int .i64 n)(hr':0-n=r)(hb : -9223372036854775808<=r/\r<=9223372036854775807):Db P ⟨d,.unOp .neg t x,ty,pos,aft,gd⟩ ρ K (.int .i64 r):=
 .of_run fun g w a hr=>by
  have h1:=(hx▸hr x (by simp [Op.operands]):Rep g w _ _).inv_int;refine ⟨.int .i64 r,?_,.int _ _⟩;simp only [execOp,h1,Op.unary,Op.intArith,hr',IntWalk.i64_in r hb,Sem.run_bind,Sem.run_pure,Result.andThen_ok]

end
end Go.Aw
namespace Go.Aw

section
variable {P:Program} {T:List (Nat×TD)} {d:Option Nat} {ty:TypeId} {pos:String} {aft:Array Edge} {gd:Option (Nat×Bool)} {ρ:Operand->AV} {K:List HO->Prop}


theorem Je {b:Builtin}{args:Array Operand}{ats:Array TypeId}{a:Act}{w:World}{v:Value}
  (h:(builtin b ats ty (args.map fun | .const _=>true | _=>false) (args.map a.eval)).run P w = .ok (.value v) w) :
  (execOp a.eval ⟨d,.call ⟨.builtin b,args,ats⟩,ty,pos,aft,gd⟩).run P w = .ok (.value v) w:=by
 simp only [execOp,resolve,Sem.run_bind,Sem.run_pure,Result.andThen_ok,invoke];exact h

theorem Cz {x:Operand}{t n:Nat}{td:TD}{s:List UInt8}(hT:H6 P T)(h:ρ x = .str s)(ht:Bl T t=some td)(hk:td.kind = .str)(hn:s.length=n) :
  Db P ⟨d,.call ⟨.builtin .len,#[x],#[t]⟩,ty,pos,aft,gd⟩ ρ K (.int .i64 n):=
 .of_run fun g w a hr=>by
  have h1:=(h▸hr x (by simp [Op.operands,Call.operands]):Rep g w _ _).inv_str.1;refine ⟨.int .i64 n,Je ?_,.int _ _⟩;have hu:=L9 (hT t td ht) hk;have hsz:(⟨s.toArray⟩:ByteArray).size=n:=by rw [<-hn];exact I8
  simp only [builtin,Builtin.len_,List.map_toArray,Be,Bw,h1,Sem.run_bind];simp [A8 hu,goInt,hsz]

theorem Dz {x:Operand}{t e z n:Nat}{td:TD}{es:List (List AV)}(hT:H6 P T)(h:ρ x = .sl z es)(ht:Bl T t=some td)(hk:td.kind = .slice e)(hn:es.length=n) :
  Db P ⟨d,.call ⟨.builtin .len,#[x],#[t]⟩,ty,pos,aft,gd⟩ ρ K (.int .i64 n):=
 .of_run fun g w a hr=>by
  obtain ⟨a0,m,cap,h1,h2,_⟩:=(h▸hr x (by simp [Op.operands,Call.operands]):Rep g w _ _).inv_sl;refine ⟨.int .i64 n,Je ?_,.int _ _⟩;have hu:=Ee (hT t td ht) hk;simp only [builtin,Builtin.len_,List.map_toArray,Be,Bw,h1,Sem.run_bind];simp [A8 hu,goInt,h2,hn]

theorem E8 {x:Operand}{t e z n:Nat}{td:TD}{v:Value}{es:List (List AV)}(hT:H6 P T)(h:ρ x = .row v z es)(ht:Bl T t=some td)(hk:td.kind = .slice e)(hn:es.length=n) :
  Db P ⟨d,.call ⟨.builtin .len,#[x],#[t]⟩,ty,pos,aft,gd⟩ ρ K (.int .i64 n):=
 .of_run fun g w a hr=>by
  obtain ⟨a0,m,cap,h1,h2,_⟩:=(h▸hr x (by simp [Op.operands,Call.operands]):Rep g w _ _).inv_row.2.inv_sl;refine ⟨.int .i64 n,Je ?_,.int _ _⟩;have hu:=Ee (hT t td ht) hk;simp only [builtin,Builtin.len_,List.map_toArray,Be,Bw,h1,Sem.run_bind];simp [A8 hu,goInt,h2,hn]

theorem Pv {x:Operand}{t e n c:Nat}{td:TD}{a0:Option Addr}(hT:H6 P T)(h:ρ x = .val (.slice a0 n c))(ht:Bl T t=some td)(hk:td.kind = .slice e) :
  Db P ⟨d,.call ⟨.builtin .len,#[x],#[t]⟩,ty,pos,aft,gd⟩ ρ K (.int .i64 n):=
 .of_run fun g w a hr=>by
  have h1:=(h▸hr x (by simp [Op.operands,Call.operands]):Rep g w _ _).inv_val;refine ⟨.int .i64 n,Je ?_,.int _ _⟩;have hu:=Ee (hT t td ht) hk;simp only [builtin,Builtin.len_,List.map_toArray,Be,Bw,h1,Sem.run_bind];simp [A8 hu,goInt]

theorem tT {x y:Operand}{ats:Array TypeId}{n m:Int}{k:IntKind}(hx:ρ x = .int k n)(hy:ρ y = .int k m):Db P ⟨d,.call ⟨.builtin .max,#[x,y],ats⟩,ty,pos,aft,gd⟩ ρ K (.int k (max n m)):=
 .of_run fun g w a hr=>by
  have h1:=(hx▸hr x (by simp [Op.operands,Call.operands]):Rep g w _ _).inv_int;have h2:=(hy▸hr y (by simp [Op.operands,Call.operands]):Rep g w _ _).inv_int;refine ⟨.int k (max n m),Je ?_,.int _ _⟩;have:max n m=if m > n then m else n:=by omega
  rw [this];simp [builtin,Builtin.max_,h1,h2,Builtin.max2]

theorem Cm {x i:Operand}{t:Nat}{td:TD}{s:List UInt8}{k:IntKind}{n:Int}{b:UInt8}(hT:H6 P T)(h:ρ x = .str s)(hi:ρ i = .int k n)(ht:Bl T t=some td)(hk:td.kind = .str)
  (h0:0<=n) (hb:s[n.toNat]? = some b):Db P ⟨d,.index t x i,ty,pos,aft,gd⟩ ρ K (.int .u8 b.toNat):=
 .of_run fun g w a hr=>by
  have h1:=(h▸hr x (by simp [Op.operands]):Rep g w _ _).inv_str.1;have h2:=(hi▸hr i (by simp [Op.operands]):Rep g w _ _).inv_int;refine ⟨.int .u8 b.toNat,?_,.int _ _⟩;have hu:=L9 (hT t td ht) hk;have hlt:n.toNat<s.length:=(List.getElem?_eq_some_iff.1 hb).1
  have e:(⟨s.toArray⟩:ByteArray)[n.toNat]? = some b:=by
   have hsz:n.toNat<(⟨s.toArray⟩:ByteArray).size:=by show n.toNat<s.toArray.size;simpa using hlt
   rw [getElem?_pos (⟨s.toArray⟩:ByteArray) n.toNat hsz];have:=(List.getElem?_eq_some_iff.1 hb).2;simp only [Option.some.injEq];rw [<-this];rfl
  simp [execOp,Instr.index,h1,h2,asIntOf,A8 hu,h0,e]

theorem Ec {x i:Operand}{t e z:Nat}{td te:TD}{k:IntKind}{n:Int}{es:List (List AV)}{c:List AV}(hT:H6 P T)(h:ρ x = .sl z es)(hi:ρ i = .int k n)(ht:Bl T t=some td)(hk:td.kind = .slice e)
  (hte:Bl T e=some te) (hz:te.size=z) (h0:0<=n) (hc:es[n.toNat]? = some c):Db P ⟨d,.indexAddr t x i,ty,pos,aft,gd⟩ ρ K (.ptr c):=
 .of_run fun g w a hr=>by
  obtain ⟨a0,m,cap,h1,h2,_,_,h3⟩:=(h▸hr x (by simp [Op.operands]):Rep g w _ _).inv_sl;have h4:=(hi▸hr i (by simp [Op.operands]):Rep g w _ _).inv_int;have hlt:n.toNat<es.length:=(List.getElem?_eq_some_iff.1 hc).1;rcases h3 with rfl | ⟨b,o,rfl,hzz,f,hs,hf⟩
  . simp at hlt
  have hu:=Ee (hT t td ht) hk;refine ⟨.pointer (some ⟨b,o+n.toNat*z,none⟩),?_,.ptr b _ c (f n.toNat) (hs _ c hc) (hf _ c hc)⟩;have hlt':n<(m:Int):=by rw [h2];omega
  simp only [execOp,h1,h4,Instr.indexAt,asIntOf,Sem.run_bind,Sem.run_pure,Result.andThen_ok,A8 hu];simp [h0,hlt',F0 (hT e te hte),hz,Fb]

theorem Cp {x i:Operand}{t e b o len cap:Nat}{td te:TD}{k:IntKind}{n:Int}{o':Nat}(hT:H6 P T)(h:ρ x = .val (.slice (some ⟨b,o,none⟩) len cap))(hi:ρ i = .int k n)(ht:Bl T t=some td)(hk:td.kind = .slice e)
  (hte:Bl T e=some te) (h0:0<=n) (hc:n<len) (ho:o+n.toNat*te.size=o'):Db P ⟨d,.indexAddr t x i,ty,pos,aft,gd⟩ ρ K (.val (.pointer (some ⟨b,o',none⟩))):=
 .of_run fun g w a hr=>by
  have h1:=(h▸hr x (by simp [Op.operands]):Rep g w _ _).inv_val;have h4:=(hi▸hr i (by simp [Op.operands]):Rep g w _ _).inv_int;have hu:=Ee (hT t td ht) hk;refine ⟨.pointer (some ⟨b,o',none⟩),?_,.val _⟩;simp only [execOp,h1,h4,Instr.indexAt,asIntOf,Sem.run_bind,Sem.run_pure,Result.andThen_ok,A8 hu];simp [h0,hc,F0 (hT e te hte),Fb,ho]

theorem aX {x i:Operand}{t e b o len:Nat}{td te:TD}{k:IntKind}{n:Int}{o':Nat}(hT:H6 P T)(h:ρ x = .val (.pointer (some ⟨b,o,none⟩)))(hi:ρ i = .int k n)(ht:Bl T t=some td)(hk:td.kind = .array len e)
  (hte:Bl T e=some te) (h0:0<=n) (hc:n<len) (ho:o+n.toNat*te.size=o'):Db P ⟨d,.indexAddr t x i,ty,pos,aft,gd⟩ ρ K (.val (.pointer (some ⟨b,o',none⟩))):=
 .of_run fun g w a hr=>by
  have h1:=(h▸hr x (by simp [Op.operands]):Rep g w _ _).inv_val;have h4:=(hi▸hr i (by simp [Op.operands]):Rep g w _ _).inv_int;have hu:=Nc (hT t td ht) hk;refine ⟨.pointer (some ⟨b,o',none⟩),?_,.val _⟩;simp only [execOp,h1,h4,Instr.indexAt,asIntOf,Sem.run_bind,Sem.run_pure,Result.andThen_ok,A8 hu,Instr.sureAddr];simp [h0,hc,F0 (hT e te hte),Fb,ho]


theorem mP (s:List UInt8)(l h:Nat):((⟨s.toArray⟩:ByteArray).extract l h)=⟨((s.take h).drop l).toArray⟩:=by
 apply ByteArray.ext
 apply Pp.1
 simp [ByteArray.data_extract,List.extract_eq_take_drop,List.drop_take]

theorem Ei {n:Int}{y:Nat}{k:IntKind}{c:BoundsCode}(h0:0<=n)(h1:n<=y)(w:World):(Instr.sliceBound (.int k n) y c).run P w = .ok n.toNat w:=by
 simp [Instr.sliceBound,asIntOf,h0,h1]

theorem Iv {x:Operand}{lo hi:Option Operand}{t:Nat}{td:TD}{s r:List UInt8}{l h:Nat}(hT:H6 P T)(hx:ρ x = .str s)(ht:Bl T t=some td)(hk:td.kind = .str)
    (hl:match lo with | some y=>∃k,ρ y = .int k l | none=>l=0) (hh:match hi with | some y=>∃k,ρ y = .int k h | none=>h=s.length) (hlh:l<=h) (hhs:h<=s.length) (hr':(s.take h).drop l=r) :
    Db P ⟨d,.slice t x lo hi none,ty,pos,aft,gd⟩ ρ K (.str r):=
  .of_run fun g w a hr=>by
    obtain ⟨h1,hm⟩:=(hx▸hr x (by simp [Op.operands]):Rep g w _ _).inv_str;have hu:=L9 (hT t td ht) hk;refine ⟨.string ⟨r.toArray⟩,?_,.str _ _ (by simp) (by rw [<-hr',C4,Df];omega)⟩;have hsz:(⟨s.toArray⟩:ByteArray).size=s.length:=I8
    have e1:∀v,lo.map a.eval=some v->∃k,v = .int k l:=fun v hv=>by
      cases lo with
      | none=>cases hv
      | some y=>
        obtain ⟨k,hk⟩:=hl;simp only [Hv,Option.some.injEq] at hv;subst hv;exact ⟨k,(hk▸hr y (by simp [Op.operands]):Rep g w _ _).inv_int⟩
    have e2:∀v,hi.map a.eval=some v->∃k,v = .int k h:=fun v hv=>by
      cases hi with
      | none=>cases hv
      | some y=>
        obtain ⟨k,hk⟩:=hh;simp only [Hv,Option.some.injEq] at hv;subst hv;exact ⟨k,(hk▸hr y (by simp [Op.operands]):Rep g w _ _).inv_int⟩
    have key:(Instr.sliceBounds false s.length s.length (lo.map a.eval) (hi.map a.eval) none).run P w = .ok (l,h,s.length) w:=by
      unfold Instr.sliceBounds;simp only [Sem.run_bind,Sem.run_pure,Result.andThen_ok];cases hhi:hi.map a.eval with
      | none=>
        have:h=s.length:=by cases hi with | none=>exact hh | some y=>cases hhi
        subst this;simp only [Sem.run_pure,Result.andThen_ok];cases hlo:lo.map a.eval with
        | none=>
          have:l=0:=by cases lo with | none=>exact hl | some y=>cases hlo
          subst this;rfl
        | some v=>obtain ⟨k,rfl⟩:=e1 v hlo;simp [Ei (P:=P) (k:=k) (n:=(l:Int)) (y:=s.length) (by omega) (by omega)]
      | some v=>
        obtain ⟨k,rfl⟩:=e2 v hhi;simp only [Ei (P:=P) (k:=k) (n:=(h:Int)) (y:=s.length) (by omega) (by omega),Sem.run_bind,Result.andThen_ok,Sq];cases hlo:lo.map a.eval with
        | none=>
          have:l=0:=by cases lo with | none=>exact hl | some y=>cases hlo
          subst this;rfl
        | some v=>obtain ⟨k,rfl⟩:=e1 v hlo;simp [Ei (P:=P) (k:=k) (n:=(l:Int)) (y:=h) (by omega) (by omega)]
    simp only [execOp,h1,Instr.sliceAt,Sem.run_bind,A8 hu,Result.andThen_ok,Instr.slice,Option.map_none,Option.isSome_none,Al,if_false,Sem.run_pure,hsz,key,mP,hr']

theorem Nr {x:Operand}{lo hi:Option Operand}{t e z:Nat}{td te:TD}{es r:List (List AV)}{l h:Nat}(hT:H6 P T)(hx:ρ x = .sl z es)(ht:Bl T t=some td)(hk:td.kind = .slice e)(hte:Bl T e=some te)(hz:te.size=z)
    (hl:match lo with | some y=>∃k,ρ y = .int k l | none=>l=0) (hh:match hi with | some y=>∃k,ρ y = .int k h | none=>h=es.length) (hlh:l<=h) (hhs:h<=es.length) (hr':(es.take h).drop l=r) :
    Db P ⟨d,.slice t x lo hi none,ty,pos,aft,gd⟩ ρ K (.sl z r):=
  .of_run fun g w a hr=>by
    obtain ⟨a0,m,cap,h1,h2,h3,h4,h5⟩:=(hx▸hr x (by simp [Op.operands]):Rep g w _ _).inv_sl;have hu:=Ee (hT t td ht) hk
    have e1:∀v,lo.map a.eval=some v->∃k,v = .int k l:=fun v hv=>by
      cases lo with
      | none=>cases hv
      | some y=>
        obtain ⟨k,hk⟩:=hl;simp only [Hv,Option.some.injEq] at hv;subst hv;exact ⟨k,(hk▸hr y (by simp [Op.operands]):Rep g w _ _).inv_int⟩
    have e2:∀v,hi.map a.eval=some v->∃k,v = .int k h:=fun v hv=>by
      cases hi with
      | none=>cases hv
      | some y=>
        obtain ⟨k,hk⟩:=hh;simp only [Hv,Option.some.injEq] at hv;subst hv;exact ⟨k,(hk▸hr y (by simp [Op.operands]):Rep g w _ _).inv_int⟩
    have key:(Instr.sliceBounds true m cap (lo.map a.eval) (hi.map a.eval) none).run P w = .ok (l,h,cap) w:=by
      unfold Instr.sliceBounds;simp only [Sem.run_bind,Sem.run_pure,Result.andThen_ok];cases hhi:hi.map a.eval with
      | none=>
        have:h=es.length:=by cases hi with | none=>exact hh | some y=>cases hhi
        subst this;simp only [Sem.run_pure,Result.andThen_ok];cases hlo:lo.map a.eval with
        | none=>
          have:l=0:=by cases lo with | none=>exact hl | some y=>cases hlo
          subst this;subst h2;rfl
        | some v=>obtain ⟨k,rfl⟩:=e1 v hlo;subst h2;simp [Ei (P:=P) (k:=k) (n:=(l:Int)) (y:=es.length) (by omega) (by omega)]
      | some v=>
        obtain ⟨k,rfl⟩:=e2 v hhi;simp only [Ei (P:=P) (k:=k) (n:=(h:Int)) (y:=cap) (by omega) (by omega),Sem.run_bind,Result.andThen_ok,Sq];cases hlo:lo.map a.eval with
        | none=>
          have:l=0:=by cases lo with | none=>exact hl | some y=>cases hlo
          subst this;rfl
        | some v=>obtain ⟨k,rfl⟩:=e1 v hlo;simp [Ei (P:=P) (k:=k) (n:=(l:Int)) (y:=h) (by omega) (by omega)]
    refine ⟨.slice (if cap=l then a0 else a0.map (·.add (l*z))) (h-l) (cap-l),?_,?_⟩
    . simp only [execOp,h1,Instr.sliceAt,Sem.run_bind,A8 hu,Result.andThen_ok,Instr.slice,Option.map_none,key,F0 (hT e te hte),hz,Sem.run_pure]
    . have hlen:r.length=h-l:=by rw [<-hr',C4,Df];omega
      by_cases hr0:r = []
      . subst hr0
        have:h-l=0:=by simpa using hlen.symm
        rw [this];exact .sl0 _ _ _ (by omega)
      . have hpos:0<r.length:=List.length_pos_iff.2 hr0
        rcases h5 with rfl | ⟨b,o,rfl,hzz,f,hs,hf⟩
        . simp at hhs;omega
        . have hne:¬cap=l:=by omega
          have hget:∀i e,r[i]? = some e->es[l+i]? = some e:=fun i e hi=>by
            rw [<-hr',List.getElem?_drop,List.getElem?_take] at hi;split at hi
            . exact hi
            cases hi
          rw [if_neg hne];simp only [Hv,Fb];refine .sl b (o+l*z) (h-l) (cap-l) z r hlen.symm (by omega) (by omega) (fun e he=>?_) (fun i=>f (l+i)) (fun i e hi j x hj=>?_) (fun i e hi j x hj=>hf (l+i) e (hget i e hi) j x hj)
          . obtain ⟨i,hi⟩:=List.getElem?_of_mem he
            exact hzz e (Aj (hget i e hi))
          . have:=hs (l+i) e (hget i e hi) j x hj
            have e3:o+l*z+i*z+j=o+(l+i)*z+j:=by rw [Ij];omega
            rw [e3];exact this

end
end Go.Aw
namespace Go.Aw

def Cl:AV->List AV
 | .agg cs=>cs
 | x=>[x]

def eV:AV->Bool
 | .bool _ | .int _ _ | .str _ | .sl _ _ | .row _ _ _ | .ptr _ | .fn _ _ _ | .mapv _ | .smapv _=>true
 | .val v=>v.oneCell'
 | _=>false

def Au:List AV->Bool
 | []=>true
 | x::r=>eV x&&Au r

theorem Ml:∀{l:List AV},Au l=true->∀x∈l,eV x=true
  | [],_,x,hx=>by cases hx
  | y::r,h,x,hx=>by
    simp only [Au,Cy] at h;rcases Cn.1 hx with rfl | hx
    . exact h.1
    exact Ml h.2 x hx
theorem Sg {g:Gh}{w:World}{v:Value}{x:AV}(r:Rep g w v x)(h:eV x=true):v.oneCell'=true:=by
 cases r <;> first | rfl | exact h | (rename_i r;cases r <;> rfl) | cases h

theorem Nk {g:Gh}{w:World}{v:Value}{x:AV}(r:Rep g w v x)(h:Au (Cl x)=true):Di g w v.cells (Cl x)/\∀u∈v.cells.toList,u.oneCell'=true:=by
  have key:Di g w v.cells (Cl x):=by
    cases x with
    | agg cs=>obtain ⟨vs,rfl,h'⟩:=r.inv_agg;exact h'
    | _=>
      have h1:v.oneCell'=true:=Sg r (Ml h _ (by simp [Cl]));have hc:v.cells = #[v]:=by cases v <;> first | rfl | cases h1
      rw [hc];refine ⟨rfl,fun i y hi=>?_⟩;cases i with
      | zero=>simp [Cl] at hi;subst hi;exact r
      | succ i=>simp [Cl] at hi
  refine ⟨key,fun u hu=>?_⟩;obtain ⟨i,hi⟩:=List.getElem?_of_mem hu;have hlt:i<v.cells.size:=by have:=(List.getElem?_eq_some_iff.1 hi).1;simpa using this
  obtain ⟨y,hy⟩:∃y,(Cl x)[i]? = some y:=⟨_,List.getElem?_eq_getElem (by rw [<-key.1];exact hlt)⟩;have h1:=key.2 i y hy
  have h2:v.cells.getD i undef=u:=by
    simp only [Array.getElem?_toList] at hi;simp [Ct,hi]
  rw [h2] at h1;exact Sg h1 (Ml h y (Aj hy))

theorem Di.append {g:Gh}{w:World}{us vs:Array Value}{xs ys:List AV}(h:Di g w us xs)(k:Di g w vs ys):Di g w (us++vs) (xs++ys):=by
 refine ⟨by simp [h.1,k.1],fun i x hi=>?_⟩;rw [List.getElem?_append] at hi;simp only [Ct,Array.getElem?_append];rw [h.1];split at hi
 .
  rename_i hlt;rw [if_pos hlt,<-Ct];exact h.2 i x hi
 rename_i hlt;rw [if_neg hlt,<-Ct];exact k.2 _ x hi
theorem Di.take {g:Gh}{w:World}{us:Array Value}{xs:List AV}(h:Di g w us xs)(n:Nat):Di g w (us.toList.take n).toArray (xs.take n):=by
 refine ⟨by simp [h.1],fun i x hi=>?_⟩;rw [List.getElem?_take] at hi;split at hi
 .
  rename_i hlt;have:=h.2 i x hi;simp only [Ct,List.getElem?_toArray,List.getElem?_take,hlt,if_true,Array.getElem?_toList] at this ⊢;exact this
 cases hi
theorem Di.drop {g:Gh}{w:World}{us:Array Value}{xs:List AV}(h:Di g w us xs)(n:Nat):Di g w (us.toList.drop n).toArray (xs.drop n):=by
 refine ⟨by simp [h.1],fun i x hi=>?_⟩;rw [List.getElem?_drop] at hi;have:=h.2 _ x hi;simp only [Ct,List.getElem?_toArray,List.getElem?_drop,Array.getElem?_toList] at this ⊢;exact this

def Gb (l:List AV)(off:Nat)(cs:List AV):List AV:=l.take off++cs++l.drop (off+cs.length)

theorem Y5 (off:Nat):∀(vs:List Value) (k:Nat) (cells:Array Value),off+k+vs.length<=cells.size->
    (vs.zipIdx k).foldl (fun cs (c,j)=>cs.setIfInBounds (off+j) c) cells=(cells.toList.take (off+k)++vs++cells.toList.drop (off+k+vs.length)).toArray
  | [],k,cells,_=>by simp
  | v::r,k,cells,h=>by
    simp only [A1] at h;simp only [List.zipIdx_cons,List.foldl_cons];rw [Y5 off r (k+1) _ (by simp;omega)]
    congr 1
    apply Uc
    intro i;simp only [Array.toList_setIfInBounds,Dy,Dn,List.getElem?_append,Df,Sr,W0,List.getElem?_take,List.getElem?_set,List.getElem?_drop,A1];by_cases h1:i<off+k
    . have e1:i<min (off+(k+1)) cells.size:=by omega
      have e2:i<min (off+k) cells.size:=by omega
      simp [e1,e2,h1,show i<off+(k+1) by omega,show ¬off+k=i by omega]
    . by_cases h2:i=off+k
      . subst h2
        have e1:off+k<min (off+(k+1)) cells.size:=by omega
        have e2:¬off+k<min (off+k) cells.size:=by omega
        have e3:off+k-min (off+k) cells.size=0:=by omega
        simp [e1,e2,e3,show off+k<off+(k+1) by omega,show off+k<cells.size by omega]
      . have e1:¬i<min (off+(k+1)) cells.size:=by omega
        have e2:¬i<min (off+k) cells.size:=by omega
        have e3:i-min (off+k) cells.size=(i-min (off+(k+1)) cells.size)+1:=by omega
        simp only [e1,e2,if_false,e3,List.getElem?_cons_succ];have e4:min (off+(k+1)) cells.size=off+k+1:=by omega
        rw [e4];by_cases h3:i-(off+k+1)<r.length
        . simp only [h3,if_true,List.getElem?_append]
        . simp only [h3,if_false,List.getElem?_append,List.getElem?_drop]
          have e6:off+(k+1)+r.length+(i-(off+k+1)-r.length)=i:=by omega
          have e7:off+k+(r.length+1)+(i-(off+k+1)-r.length)=i:=by omega
          rw [e6,e7,if_neg (by omega)]

def aH (fs:List (Nat×Nat×Bool×Nat)):List AV->List (Nat×AV)->Option (List AV)
  | cells,[]=>some cells
  | cells,(i,v)::r=>
    match fs[i]? with
    | none=>none
    | some (off,z,_,_)=>bif Au (Cl v)&&Nat.beq (Cl v).length z&&Nat.ble (off+z) cells.length then aH fs (Gb cells off (Cl v)) r else none

theorem bO {g:Gh}{w:World}{fs:List (Nat×Nat×Bool×Nat)}{place:Nat->Option (Nat×Nat)}(hp:∀i:Nat,∀off z nm ft,fs[i]? = some (off,z,nm,ft)->place i=some (off,z)):∀(ps:List (Nat×Value)) (qs:List (Nat×AV)) (cells:Array Value) (l l':List AV),
    ps.length=qs.length->(∀(k:Nat) p q,ps[k]? = some p->qs[k]? = some q->p.1=q.1/\Rep g w p.2 q.2)->Di g w cells l->aH fs l qs=some l'->∃cells',Instr.fill place cells ps=some cells'/\Di g w cells' l'
  | [],[],cells,l,l',_,_,hr,h=>by simp only [aH,Option.some.injEq] at h;subst h;exact ⟨cells,rfl,hr⟩
  | (i,v)::ps,(i',x)::qs,cells,l,l',hl,hq,hr,h=>by
    obtain ⟨h1,h2⟩:=hq 0 (i,v) (i',x) rfl rfl;simp only at h1;subst h1;simp only [aH] at h;cases hf:fs[i]? with
    | none=>simp [hf] at h
    | some q=>
      obtain ⟨off,z,nm,ft⟩:=q;simp only [hf] at h;cases hc:(Au (Cl x)&&Nat.beq (Cl x).length z&&Nat.ble (off+z) l.length) with
      | false=>simp [hc] at h
      | true=>
        simp only [hc,cond_true] at h;simp only [Cy] at hc;obtain ⟨⟨hs,hz⟩,hb⟩:=hc;have hz':=D6 hz;have hb':=B9 hb;obtain ⟨hcr,_⟩:=Nk h2 hs;have hsz:v.cells.size=z:=by rw [hcr.1,hz']
        have hcl:cells.size=l.length:=hr.1
        have hrep:Di g w (v.cells.toList.zipIdx.foldl (fun cs (c,j)=>cs.setIfInBounds (off+j) c) cells) (Gb l off (Cl x)):=by
          have:=Y5 off v.cells.toList 0 cells (by simp;omega);simp only [Nat.add_zero] at this;rw [this];have e1:=((hr.take off).append hcr).append (hr.drop (off+(Cl x).length));unfold Gb
          have e2:(List.take off cells.toList++v.cells.toList++List.drop (off+v.cells.toList.length) cells.toList).toArray=(cells.toList.take off).toArray++v.cells++(cells.toList.drop (off+(Cl x).length)).toArray:=by
            apply Pp.1
            simp [hcr.1]
          rw [e2];exact e1
        obtain ⟨cells',k1,k2⟩:=bO hp ps qs _ _ l' (by simpa using hl) (fun k p q hk hk'=>hq (k+1) p q hk hk') hrep h;refine ⟨cells',?_,k2⟩;unfold Instr.fill;simp only [hp i off z nm ft hf];rw [if_neg (by simp only [Ii,Ea,not_or];constructor <;> omega)]
        have e:v.cells.zipIdx.foldl (fun cs (c,j)=>cs.setIfInBounds (off+j) c) cells=v.cells.toList.zipIdx.foldl (fun cs (c,j)=>cs.setIfInBounds (off+j) c) cells:=by
          rw [<-Z7,Array.toList_zipIdx]
        rw [e];exact k1
  | [],_::_,_,_,_,h,_,_,_=>by simp at h
  | _::_,[],_,_,_,h,_,_,_=>by simp at h

section
variable {P:Program} {T:List (Nat×TD)} {d:Option Nat} {ty:TypeId} {pos:String} {aft:Array Edge} {gd:Option (Nat×Bool)} {ρ:Operand->AV} {K:List HO->Prop}

theorem qC {t:TypeId}{x:TD}(h:TyOK P t x)(w:World):∃z,(zeroValue t).run P w = .ok z w/\z.cells.size=x.size/\∀g w,Di g w z.cells x.zero:=by
 obtain ⟨i,hi,_,_,z,hz,h1,h2⟩:=h.info;exact ⟨z,by simp [zeroValue,Qj hi,hz],h1,h2⟩

def Pf (ρ:Operand->AV):List (Nat×Operand)->List (Nat×AV)
 | []=>[]
 | (i,x)::r=>(i,ρ x)::Pf ρ r

theorem Ls (ρ:Operand->AV):∀l:List (Nat×Operand),Pf ρ l=l.map fun p=>(p.1,ρ p.2)
 | []=>rfl
 | (i,x)::r=>by simp [Pf,Ls ρ r]

theorem tR {t:TypeId}{td:TD}{gs:List (Nat×Nat×Bool×Nat)}{parts:Array (Nat×Operand)}{l:List AV}(hT:H6 P T)(ht:Bl T t=some td)(hk:td.kind = .struct gs)
    (h:aH gs td.zero (Pf ρ parts.toList)=some l):Db P ⟨d,.build t parts,ty,pos,aft,gd⟩ ρ K (.agg l):=
  .of_run fun g w a hr=>by
    obtain ⟨fs,hu,hm,_,_,hall⟩:=Ob (hT t td ht) hk;obtain ⟨it,hit,_,_,z,hz,hzs,hzr⟩:=(hT t td ht).info
    have hmm:∀(l:List Field),(l.all fun f=>(P.info? f.type).isSome)=true->l.mapM (fun f=>(P.info? f.type).map fun i=>(f.offset,i.size))=some (l.map fun f=>(f.offset,P.cellsOf f.type)):=by
      intro l
      induction l with
      | nil=>intro _;rfl
      | cons f r ih=>
        intro hl;simp only [Lz,Cy] at hl;obtain ⟨i,hi⟩:=Ud.1 hl.1;simp [List.mapM_cons,hi,ih hl.2,Program.cellsOf]
    obtain ⟨cells',h1,h2⟩:=bO (g:=g) (w:=w) (fs:=gs) (place:=((fs.toList.map fun f=>(f.offset,P.cellsOf f.type)).toArray[·]?)) (fun i off zz nm ft hf=>by
        obtain ⟨fd,k1,k2,k3,_⟩:=Y2 hm hf;have:fs.toList[i]? = some fd:=by simpa using k1
        simp [this,k2,k3]) (parts.toList.map fun p=>(p.1,a.eval p.2)) (Pf ρ parts.toList) z.cells td.zero l (by simp [Ls]) (fun k p q hp hq=>by
        rw [Ls,List.getElem?_map] at hq;rw [List.getElem?_map] at hp;cases hk':parts.toList[k]? with
        | none=>simp [hk'] at hp
        | some r=>
          simp only [hk',Hv,Option.some.injEq] at hp hq;subst hp;subst hq;exact ⟨rfl,hr r.2 (by simp only [Op.operands,List.mem_toArray,C9];exact ⟨r,Aj hk',rfl⟩)⟩) (hzr g w) h
    refine ⟨.agg cells',?_,.agg _ _ h2.1 h2.2⟩
    have hb:P.built t (parts.map fun (i,x)=>(i,a.eval x)).toList=some cells':=by
      unfold Program.built;simp only [hit,hu,hz,hmm fs.toList hall];simpa using h1
    simp only [execOp,Sem.run_bind,run_build w t _ _ hb,Result.andThen_ok,Sem.run_pure]

end
end Go.Aw
namespace Go.Aw

theorem Hg {z:Nat}:∀{es:List (List AV)},(∀e∈es,e.length=z)->∀{i j:Nat} {e:List AV} {x:AV},es[i]? = some e->e[j]? = some x->es.flatten[i*z+j]? = some x
  | [],_,i,j,e,x,h,_=>by simp at h
  | c::r,hz,i,j,e,x,h,hx=>by
    have hc:c.length=z:=hz c (by simp);cases i with
    | zero=>
      simp only [List.getElem?_cons_zero,Option.some.injEq] at h;subst h;have:j<c.length:=(List.getElem?_eq_some_iff.1 hx).1;simp only [Bd,Nat.zero_mul,Do,List.getElem?_append,this,if_true];exact hx
    | succ i=>
      simp only [List.getElem?_cons_succ] at h;have ih:=Hg (fun e he=>hz e (by simp [he])) h hx;have e1:¬(i+1)*z+j<c.length:=by rw [hc,Ij];omega
      have e2:(i+1)*z+j-c.length=i*z+j:=by rw [hc,Ij];omega
      simp only [Bd,List.getElem?_append,e1,if_false,e2];exact ih

theorem Ds {z:Nat}:∀{es:List (List AV)},(∀e∈es,e.length=z)->es.flatten.length=es.length*z
  | [],_=>by simp
  | c::r,hz=>by
    have ih:=Ds (es:=r) (fun e he=>hz e (by simp [he]));simp only [Bd,Ao,A1,ih,hz c (by simp),Ij,Nat.one_mul];omega

theorem Dv {g:Gh}{w:World}{b o n cap z:Nat}{es:List (List AV)}(hn:n=es.length)(hc:n<=cap)(hm:cap<=maxLen)(hz:∀e∈es,e.length=z){vs:Array Value}(hv:Di g w vs es.flatten)
  (hs:∀k,k<n*z->D4 g b (o+k)) (hcell:∀k u,vs[k]? = some u->w.cell? ⟨b,o+k,none⟩=some u):Rep g w (.slice (some ⟨b,o,none⟩) n cap) (.sl z es):=by
 have key:∀i e,es[i]? = some e->∀j x,e[j]? = some x->i*z+j<n*z/\i*z+j<vs.size:=fun i e hi j x hj=>by
  have h1:=Hg hz hi hj;have h2:=(List.getElem?_eq_some_iff.1 h1).1;rw [hv.1,hn,<-Ds hz];exact ⟨h2,h2⟩
 refine .sl b o n cap z es hn hc hm hz (fun i j=>vs.getD (i*z+j) undef) (fun i e hi j x hj=>?_) (fun i e hi j x hj=>hv.2 _ x (Hg hz hi hj));obtain ⟨k1,k2⟩:=key i e hi j x hj;rw [Nat.add_assoc];exact ⟨hs _ k1,hcell _ _ (by simp [k2])⟩

theorem Sx {g:Gh}{w:World}{v:Value}{z:Nat}{es:List (List AV)}(r:Rep g w v (.sl z es))(hpos:0<z) :
    ∃a n cap,v = .slice a n cap/\n=es.length/\n<=cap/\cap<=maxLen/\(es = []\/∃b o,a=some ⟨b,o,none⟩/\(∀e∈es,e.length=z)/\
      ∃vs:List Value,vs.length=n*z/\Di g w vs.toArray es.flatten/\∀k u,vs[k]? = some u->D4 g b (o+k)/\w.cell? ⟨b,o+k,none⟩=some u):=by
  obtain ⟨a,n,cap,h1,h2,h3,h4,h5⟩:=r.inv_sl;refine ⟨a,n,cap,h1,h2,h3,h4,h5.imp id ?_⟩;rintro ⟨b,o,ha,hz,f,hs,hf⟩
  have get:∀k,k<n*z->∃e x,es[k / z]? = some e/\e[k % z]? = some x:=fun k hk=>by
    have h6:k / z<es.length:=by rw [<-h2];exact Nat.div_lt_of_lt_mul (by rw [Nat.mul_comm];exact hk)
    have h7:k % z<(es[k / z]).length:=by rw [hz _ (Ub h6)];exact Nat.mod_lt _ hpos
    exact ⟨_,_,List.getElem?_eq_getElem h6,List.getElem?_eq_getElem h7⟩
  have split:∀k,k / z*z+k % z=k:=fun k=>by rw [Nat.mul_comm];exact Nat.div_add_mod k z
  refine ⟨b,o,ha,hz,(List.range (n*z)).map fun k=>f (k / z) (k % z),by simp,⟨by simp [Ds hz,h2],fun k x hx=>?_⟩,fun k u hu=>?_⟩
  . have hk:k<n*z:=by have:=(List.getElem?_eq_some_iff.1 hx).1;rwa [Ds hz,<-h2] at this
    obtain ⟨e,y,he,hy⟩:=get k hk;have h8:=Hg hz he hy;rw [split,hx] at h8;cases h8
    have:=hf _ e he _ x hy;simpa [hk] using this
  . rw [List.getElem?_map] at hu
    cases hk:(List.range (n*z))[k]? with
    | none=>simp [hk] at hu
    | some k'=>
      have hlt:k<n*z:=by have:=(List.getElem?_eq_some_iff.1 hk).1;simpa using this
      have:k'=k:=by rw [List.getElem?_range hlt] at hk;exact (Option.some.inj hk).symm
      subst this;simp only [hk,Hv,Option.some.injEq] at hu;obtain ⟨e,y,he,hy⟩:=get k' hlt;have h9:=hs _ e he _ y hy;rw [Nat.add_assoc,split] at h9;rw [<-hu];exact h9


def Qk (ρ:Operand->AV):List (Nat×Operand)->List (List AV)
 | []=>[]
 | (_,x)::r=>Cl (ρ x)::Qk ρ r

def Vm (z:Nat)(ρ:Operand->AV):Nat->List (Nat×Operand)->Bool
 | _,[]=>true
 | k,(i,x)::r=>Nat.beq i k&&Nat.beq (Cl (ρ x)).length z&&Au (Cl (ρ x))&&Vm z ρ (k+1) r

theorem Zj {z:Nat}{ρ:Operand->AV}:∀(k:Nat) (l:List (Nat×Operand)),Vm z ρ k l=true->∀e∈Qk ρ l,e.length=z
  | _,[],_,e,he=>by cases he
  | k,(i,x)::r,h,e,he=>by
    simp only [Vm,Cy] at h;rcases Cn.1 he with rfl | he
    . exact D6 h.1.1.2
    exact Zj (k+1) r h.2 e he
theorem Sb (ρ:Operand->AV):∀l:List (Nat×Operand),(Qk ρ l).length=l.length
 | []=>rfl
 | (_,_)::r=>by simp [Qk,Sb ρ r]

theorem nS {g:Gh}{w:World}{a:Act}{z n:Nat}{ρ:Operand->AV}:∀(l:List (Nat×Operand)) (k:Nat) (cells:Array Value) (es:List (List AV)),Vm z ρ k l=true->(∀p∈l,Rep g w (a.eval p.2) (ρ p.2))->
    cells.size=n*z->k+l.length<=n->es.length=k->(∀e∈es,e.length=z)->Di g w (cells.toList.take (k*z)).toArray es.flatten->
    ∃cells',Instr.fill (fun i=>some (i*z,z)) cells (l.map fun p=>(p.1,a.eval p.2))=some cells'/\cells'.size=n*z/\Di g w (cells'.toList.take ((k+l.length)*z)).toArray (es++Qk ρ l).flatten
  | [],k,cells,es,_,_,hsz,_,_,_,hr=>⟨cells,rfl,hsz,by simpa [Qk] using hr⟩
  | (i,x)::r,k,cells,es,hok,hp,hsz,hle,hlen,hes,hr=>by
    simp only [Vm,Cy] at hok;obtain ⟨⟨⟨hi,hz⟩,hs⟩,hok⟩:=hok;obtain rfl:=D6 hi;have hz':=D6 hz;obtain ⟨hc,_⟩:=Nk (hp (i,x) (by simp)) hs;simp only [A1] at hle;have hcs:(a.eval x).cells.size=z:=by rw [hc.1,hz']
    have hbound:i*z+z<=cells.size:=by
      rw [hsz];have:(i+1)*z<=n*z:=Hw z (by omega);rw [Ij,Nat.one_mul] at this;exact this
    have hfold:=Y5 (i*z) (a.eval x).cells.toList 0 cells (by simp;omega);simp only [Nat.add_zero] at hfold
    have hsz':((cells.toList.take (i*z)++(a.eval x).cells.toList++cells.toList.drop (i*z+(a.eval x).cells.toList.length)).toArray).size=n*z:=by
      simp [hcs];omega
    have hes':∀e∈es ++ [Cl (ρ x)],e.length=z:=fun e he=>by
      rcases Gd.1 he with he | he
      . exact hes e he
      simp only [Ep] at he;subst he;exact hz'
    have hr':Di g w ((cells.toList.take (i*z)++(a.eval x).cells.toList++cells.toList.drop (i*z+(a.eval x).cells.toList.length)).toArray.toList.take ((i+1)*z)).toArray (es ++ [Cl (ρ x)]).flatten:=by
      have e1:(cells.toList.take (i*z)++(a.eval x).cells.toList++cells.toList.drop (i*z+(a.eval x).cells.toList.length)).toArray.toList.take ((i+1)*z)=cells.toList.take (i*z)++(a.eval x).cells.toList:=by
        rw [List.toList_toArray,bT (by simp [hcs,Ij];omega)];exact Sv (by simp [hcs,Ij];omega)
      rw [e1]
      have e2:(cells.toList.take (i*z)++(a.eval x).cells.toList).toArray=(cells.toList.take (i*z)).toArray++(a.eval x).cells:=by
        apply Pp.1;simp
      rw [e2];have e3:(es ++ [Cl (ρ x)]).flatten=es.flatten++Cl (ρ x):=by simp
      rw [e3];exact hr.append hc
    obtain ⟨cells',h1,h2,h3⟩:=nS (g:=g) (w:=w) (a:=a) (z:=z) (n:=n) (ρ:=ρ) r (i+1) _ (es ++ [Cl (ρ x)]) hok (fun p hp'=>hp p (by simp [hp'])) hsz' (by omega) (by simp [hlen]) hes' hr';refine ⟨cells',?_,h2,?_⟩
    . simp only [Be]
      unfold Instr.fill;simp only;rw [if_neg (by simp only [Ii,Ea,not_or];constructor <;> omega)]
      have e:(a.eval x).cells.zipIdx.foldl (fun cs (c,j)=>cs.setIfInBounds (i*z+j) c) cells=(a.eval x).cells.toList.zipIdx.foldl (fun cs (c,j)=>cs.setIfInBounds (i*z+j) c) cells:=by
        rw [<-Z7,Array.toList_zipIdx]
      rw [e,hfold];exact h1
    . have e4:(i+((i,x)::r).length)*z=(i+1+r.length)*z:=by simp only [A1];congr 1;omega
      rw [e4];have e5:es++Qk ρ ((i,x)::r)=es ++ [Cl (ρ x)]++Qk ρ r:=by simp [Qk]
      rw [e5];exact h3

section
variable {P:Program} {T:List (Nat×TD)} {d:Option Nat} {ty:TypeId} {pos:String} {aft:Array Edge} {gd:Option (Nat×Bool)} {ρ:Operand->AV} {K:List HO->Prop}

theorem zI {t:TypeId}{x:TD}(h:TyOK P t x):∃z,(∀w,(zeroValue t).run P w = .ok z w)/\z.cells.size=x.size/\∀g w,Di g w z.cells x.zero:=by
 obtain ⟨i,hi,_,_,z,hz,h1,h2⟩:=h.info;exact ⟨z,fun w=>by simp [zeroValue,Qj hi,hz],h1,h2⟩

theorem T2 {t e n z:Nat}{td te:TD}{parts:Array (Nat×Operand)}(hT:H6 P T)(ht:Bl T t=some td)(hk:td.kind = .slice e)(hte:Bl T e=some te)(hz:te.size=z)(hn:Nat.beq parts.toList.length n=true)
  (hb:Nat.ble (n*z) 16777216=true) (hok:Vm z ρ 0 parts.toList=true) {g:Gh} {w:World} {a:Act} (hr:∀p∈parts.toList,Rep g w (a.eval p.2) (ρ p.2)) :
  ∃cells:Array Value,(Instr.buildSlice t n (parts.map fun (i,x)=>(i,a.eval x))).run P w = .ok (.slice (some ⟨w.heap.size,0,none⟩) n n) (w.alloc (.cells cells e))/\cells.size=n*z/\Di g w cells (Qk ρ parts.toList).flatten:=by
 have hu:=Ee (hT t td ht) hk;obtain ⟨zv,hzv,hzs,_⟩:=zI (hT e te hte);have hn':=D6 hn;have hb':=B9 hb;obtain ⟨cells,h1,h2,h3⟩:=nS (g:=g) (w:=w) (a:=a) (z:=z) (n:=n) (ρ:=ρ) parts.toList 0 ((Array.range (n*z)).map (fun i=>(if n*z=0 then (#[]:Array Value) else zv.cells)[i % (if n*z=0 then (#[]:Array Value) else zv.cells).size]!)) [] hok hr (by simp) (by omega) rfl (by simp) (by simp [Di]);refine ⟨cells,?_,h2,?_⟩
 .
  have hm:(parts.map fun (i,x)=>(i,a.eval x)).toList=parts.toList.map fun p=>(p.1,a.eval p.2):=by simp
  unfold Instr.buildSlice;simp only [Sem.run_bind,A8 hu,Result.andThen_ok,F0 (hT e te hte),hz];rw [if_neg (by omega)];simp only [Sem.run_bind,Sem.run_ite,Sem.run_pure,hzv,Result.andThen_ok,hm];by_cases h0:n*z=0
  .
   simp only [h0,if_true,Result.andThen_ok] at h1 ⊢;simp only [Sem.run_bind,Sem.run_pure,Result.andThen_ok,h1,newRow,run_newObj];rfl
  simp only [h0,if_false,Result.andThen_ok,Sem.run_bind,Sem.run_pure] at h1 ⊢;simp only [Result.andThen_ok,h1,newRow,Sem.run_bind,run_newObj,Sem.run_pure];rfl
 simp only [Do,Du,hn'] at h3;rw [Sv (by simp [h2])] at h3;simpa using h3
theorem Mz {t e n z:Nat}{td te:TD}{parts:Array (Nat×Operand)}{es:List (List AV)}(hT:H6 P T)(ht:Bl T t=some td)(hk:td.kind = .slice e)(hte:Bl T e=some te)(hz:te.size=z)(hn:Nat.beq parts.toList.length n=true)
  (hb:Nat.ble (n*z) 16777216=true) (hok:Vm z ρ 0 parts.toList=true) (hp:Nat.blt 0 z=true) (hes:Qk ρ parts.toList=es):Db P ⟨d,.buildSlice t n parts,ty,pos,aft,gd⟩ ρ K (.sl z es):=by
 intro g w a H next Q hr hH _ hnx
 have hn':=D6 hn;obtain ⟨cells,h1,h2,h3⟩:=T2 (g:=g) (w:=w) (a:=a) hT ht hk hte hz hn hb hok (fun p hp=>hr p.2 (by simp only [Op.operands,List.mem_toArray,C9];exact ⟨p,hp,rfl⟩));unfold Oper.wp;simp only [execOp,Sem.run_bind,h1,Result.andThen_ok,Sem.run_pure];have hx:=Ext.alloc g w (.cells cells e) none;refine hnx _ _ _ ?_ (hH.alloc _ _) hx;have hlen:es.length=n:=by rw [<-hes,Sb,hn']
 have hzz:∀c∈es,c.length=z:=by rw [<-hes];exact Zj 0 _ hok
 by_cases h0:n=0
 .
  subst h0;have:es = []:=by simpa using hlen
  subst this;exact .sl0 _ _ _ (A7 _)
 refine Dv hlen.symm (Bc _) ?_ hzz (vs:=cells) ?_ ?_ ?_
 .
  have hz0:0<z:=by simpa using hp
  have:n*1<=n*z:=Nat.mul_le_mul_left n (by omega);have:=B9 hb;have:maxLen=9223372036854775807:=rfl;omega
 . rw [<-hes];exact h3.mono hx
 . intro k _;unfold D4;rw [Gh.Aaw];trivial
 intro k u hu;rw [Do,Bj (Ce w _)];exact hu
theorem Hk {t e n z:Nat}{td te:TD}{parts:Array (Nat×Operand)}{es:List (List AV)}{H:List HO}(hT:H6 P T)(ht:Bl T t=some td)(hk:td.kind = .slice e)(hte:Bl T e=some te)(hz:te.size=z)(hn:Nat.beq parts.toList.length n=true)
  (hb:Nat.ble (n*z) 16777216=true) (hok:Vm z ρ 0 parts.toList=true) (hp:Nat.blt 0 z=true) (hes:Qk ρ parts.toList=es) :
  L7 P ⟨d,.buildSlice t n parts,ty,pos,aft,gd⟩ ρ H (fun x H'=>∃v,x = .row v z es/\H' = .row v es.length e z::H):=by
 intro g w a next Q hr hH hnx
 have hn':=D6 hn;obtain ⟨cells,h1,h2,h3⟩:=T2 (g:=g) (w:=w) (a:=a) hT ht hk hte hz hn hb hok (fun p hp=>hr p.2 (by simp only [Op.operands,List.mem_toArray,C9];exact ⟨p,hp,rfl⟩));unfold Oper.wp;simp only [execOp,Sem.run_bind,h1,Result.andThen_ok,Sem.run_pure];have hx:=Ext.alloc g w (.cells cells e) (some (n*z));have hlen:es.length=n:=by rw [<-hes,Sb,hn']
 have hzz:∀c∈es,c.length=z:=by rw [<-hes];exact Zj 0 _ hok
 have hmax:n<=maxLen:=by
  have hz0:0<z:=by simpa using hp
  have:n*1<=n*z:=Nat.mul_le_mul_left n (by omega);have:=B9 hb;have:maxLen=9223372036854775807:=rfl;omega
 refine hnx (g.put w.heap.size (some (n*z))) _ _ _ _ ⟨_,rfl,rfl⟩ (.row _ _ _ ?_) ((hH.alloc _ _).cons ?_ ?_) hx
 .
  refine Dv hlen.symm (Bc _) hmax hzz (vs:=cells) ?_ ?_ ?_
  . rw [<-hes];exact h3.mono hx
  . intro k hk;unfold D4;rw [Gh.Aaw];show 0+k<n*z;omega
  intro k u hu;rw [Do,Bj (Ce w _)];exact hu
 . exact .inr ⟨w.heap.size,n,cells,by rw [hlen],by rw [Gh.Aaw,hlen],Ce w _,h2,by rw [hlen];exact Bc _,hmax⟩
 intro b hb x hx' hb';simp only [HO.blk,Option.some.injEq] at hb;have:=(HO.ok_lt (hH.ok x hx') hb').1;omega

theorem Sw {t:TypeId}{x:Operand}{v:AV}{cs:List AV}(h:ρ x=v)(hc:Cl v=cs)(hs:Au cs=true):Db P ⟨d,.box t x,ty,pos,aft,gd⟩ ρ K (.ptr cs):=by
 intro g w a H next Q hr hH _ hn
 have h1:=h▸hr x (by simp [Op.operands]);obtain ⟨h2,_⟩:=Nk h1 (by rw [hc];exact hs);rw [hc] at h2;unfold Oper.wp;simp only [execOp,Instr.box,newVar,newRow,Sem.run_bind,run_newObj,Result.andThen_ok,Sem.run_pure];have hx:=Ext.alloc g w (.cells (a.eval x).cells t) none;refine hn _ _ _ ?_ (hH.alloc _ none) hx;refine .ptr w.heap.size 0 cs (fun j=>(a.eval x).cells.getD j undef) (fun j y hj=>?_) (fun j y hj=>(h2.2 j y hj).mono hx);have hlt:j<(a.eval x).cells.size:=by rw [h2.1];exact (List.getElem?_eq_some_iff.1 hj).1
 refine ⟨by unfold D4;rw [Gh.Aaw];trivial,?_⟩;rw [Do,show ({ w with heap:=w.heap.push (.cells (a.eval x).cells t) }:World)=w.alloc (.cells (a.eval x).cells t) from rfl,Bj (Ce w _)];simp [hlt]

theorem zN {t:TypeId}{x:Operand}{v:AV}{cs:List AV}{H:List HO}(h:ρ x=v)(hc:Cl v=cs)(hs:Au cs=true) :
  L7 P ⟨d,.box t x,ty,pos,aft,gd⟩ ρ H (fun y H'=>∃b,y = .val (.pointer (some ⟨b,0,none⟩))/\H' = .box b t cs::H):=by
 intro g w a next Q hr hH hn
 have h1:=h▸hr x (by simp [Op.operands]);obtain ⟨h2,_⟩:=Nk h1 (by rw [hc];exact hs);rw [hc] at h2;unfold Oper.wp;simp only [execOp,Instr.box,newVar,newRow,Sem.run_bind,run_newObj,Result.andThen_ok,Sem.run_pure];have hx:=Ext.alloc g w (.cells (a.eval x).cells t) (some 0);refine hn (g.put w.heap.size (some 0)) _ _ _ _ ⟨w.heap.size,rfl,rfl⟩ (.val _) ((hH.alloc _ (some 0)).cons ⟨Gh.Aaw _ _ _,_,Ce w _,h2.mono hx⟩ ?_) hx;intro b hb x hx' hb';simp only [HO.blk,Option.some.injEq] at hb;have:=(HO.ok_lt (hH.ok x hx') hb').1;omega

def zOK (P:Program)(t:TypeId)(l:List AV):Bool:=
 match P.info? t with
 | some i=>match i.zero with | some z=>zsB z.cells.toList l | none=>false
 | none=>false

theorem Dg {t:TypeId}{l:List AV}{H:List HO}(hz:zOK P t l=true):L7 P ⟨d,.alloc t,ty,pos,aft,gd⟩ ρ H (fun y H'=>∃b,y = .val (.pointer (some ⟨b,0,none⟩))/\H' = .box b t l::H):=by
  intro g w a next Q hr hH hn
  unfold zOK at hz;cases hi:P.info? t with
  | none=>simp [hi] at hz
  | some i=>
    cases hzz:i.zero with
    | none=>simp [hi,hzz] at hz
    | some z=>
      simp only [hi,hzz] at hz;obtain ⟨k1,k2⟩:=bU hz (g.put w.heap.size (some 0)) (w.alloc (.cells z.cells t));unfold Oper.wp
      have hrun:(Instr.alloc t true (.tuple #[])).run P w = .ok (.pointer (some ⟨w.heap.size,0,none⟩)) (w.alloc (.cells z.cells t)):=by
        simp [Instr.alloc,zeroValue,Qj hi,hzz,newVar,newRow]
      simp only [execOp,Sem.run_bind,hrun,Result.andThen_ok,Sem.run_pure];have hx:=Ext.alloc g w (.cells z.cells t) (some 0);refine hn (g.put w.heap.size (some 0)) _ _ _ _ ⟨w.heap.size,rfl,rfl⟩ (.val _) ((hH.alloc _ (some 0)).cons ⟨Gh.Aaw _ _ _,_,Ce w _,by simpa using k1,fun i x hi=>by simpa using k2 i x hi⟩ ?_) hx;intro b hb x hx' hb';simp only [HO.blk,Option.some.injEq] at hb;have:=(HO.ok_lt (hH.ok x hx') hb').1;omega

theorem Ext.setRow {g:Gh}{w:World}{b:Nat}{cs:Array Value}(hb:g b=some 0):Ext g w g (w.setRow b cs):=by
 refine ⟨rfl,rfl,rfl,by simp [World.setRow],fun c hc hg=>⟨hg,setRow_other w b c cs (fun e=>by rw [e,hb] at hg;cases hg)⟩,fun c n hc hg=>⟨fun m hm=>by rw [hg] at hm;cases hm;exact Bc _,fun o ho=>?_⟩⟩;have hne:c≠b:=fun e=>by rw [e,hb] at hg;cases hg;omega
 unfold World.cell?;rw [setRow_other w b c cs hne]

theorem HOK.nodup_blk {g:Gh}{w:World}{H:List HO}(hH:HOK g w H){i j:Nat}{x y:HO}{b:Nat}(hi:H[i]? = some x)(hj:H[j]? = some y)(hx:x.blk=some b)(hy:y.blk=some b):i=j:=by
  have key:∀(H:List HO) (i j:Nat),(H.filterMap HO.blk).Nodup->H[i]? = some x->H[j]? = some y->i=j:=by
    intro H
    induction H with
    | nil=>intro i j _ h;simp at h
    | cons o r ih=>
      intro i j hn h1 h2;have hmem:∀{k:Nat} {z:HO},r[k]? = some z->z.blk=some b->b∈r.filterMap HO.blk:=fun hk hz=>Ug.2 ⟨_,Aj hk,hz⟩
      cases i with
      | zero=>
        simp only [List.getElem?_cons_zero,Option.some.injEq] at h1;subst h1;cases j with
        | zero=>rfl
        | succ j=>
          simp only [List.getElem?_cons_succ] at h2;rw [L5,hx] at hn;exact absurd (hmem h2 hy) (Jr.1 hn).1
      | succ i=>
        simp only [List.getElem?_cons_succ] at h1;cases j with
        | zero=>
          simp only [List.getElem?_cons_zero,Option.some.injEq] at h2;subst h2;rw [L5,hy] at hn;exact absurd (hmem h1 hx) (Jr.1 hn).1
        | succ j=>
          simp only [List.getElem?_cons_succ] at h2
          have hn':(r.filterMap HO.blk).Nodup:=by
            rw [L5] at hn;cases ho:o.blk with
            | none=>rw [ho] at hn;exact hn
            | some c=>rw [ho] at hn;exact (Jr.1 hn).2
          rw [ih i j hn' h1 h2]
  exact key H i j hH.nodup hi hj

theorem HOK.set {g g':Gh}{w w':World}{H:List HO}(hH:HOK g w H)(hx:Ext g w g' w'){k:Nat}{o o':HO}(hk:H[k]? = some o)(hblk:∀b,o'.blk=some b->o.blk=some b\/w.heap.size<=b)(ho:o'.ok g' w')
    (hs:∀b,b<w.heap.size->o.blk≠some b->g b≠none->g' b=g b/\w'.heap[b]? = w.heap[b]?):HOK g' w' (H.set k o'):=by
  have hlt:k<H.length:=(List.getElem?_eq_some_iff.1 hk).1;refine ⟨?_,?_,hH.glob.mono hx⟩
  . -- no block twice
    have key:∀(H:List HO) (k:Nat),H[k]? = some o->(H.filterMap HO.blk).Nodup->(∀x∈H,∀b,x.blk=some b->b<w.heap.size)->((H.set k o').filterMap HO.blk).Nodup:=by
      intro H
      induction H with
      | nil=>intro k h;simp at h
      | cons x r ih=>
        intro k h hn hl;cases k with
        | zero=>
          simp only [List.getElem?_cons_zero,Option.some.injEq] at h;subst h;simp only [List.set_cons_zero,L5] at hn ⊢;cases ho':o'.blk with
          | none=>
            cases hx':x.blk with
            | none=>rw [hx'] at hn;exact hn
            | some c=>rw [hx'] at hn;exact (Jr.1 hn).2
          | some b=>
            simp only;rcases hblk b ho' with hb | hb
            . rw [hb] at hn;exact hn
            . refine Jr.2 ⟨fun hm=>?_,?_⟩
              . obtain ⟨y,hy,hyb⟩:=Ug.1 hm
                have:=hl y (by simp [hy]) b hyb;omega
              . cases hx':x.blk with
                | none=>rw [hx'] at hn;exact hn
                | some c=>rw [hx'] at hn;exact (Jr.1 hn).2
        | succ k=>
          simp only [List.getElem?_cons_succ] at h;simp only [List.set_cons_succ,L5] at hn ⊢;cases hx':x.blk with
          | none=>
            rw [hx'] at hn;exact ih k h hn (fun y hy=>hl y (by simp [hy]))
          | some c=>
            rw [hx'] at hn;obtain ⟨h1,h2⟩:=Jr.1 hn;refine Jr.2 ⟨fun hm=>?_,ih k h h2 (fun y hy=>hl y (by simp [hy]))⟩;obtain ⟨y,hy,hyb⟩:=Ug.1 hm;rcases List.mem_or_eq_of_mem_set hy with hy | rfl
            . exact h1 (Ug.2 ⟨y,hy,hyb⟩)
            . rcases hblk c hyb with hb | hb
              . exact h1 (Ug.2 ⟨o,Aj h,hb⟩)
              . have:=hl x (by simp) c hx'
                omega
    exact key H k hk hH.nodup (fun x hx b hb=>(HO.ok_lt (hH.ok x hx) hb).1)
  . intro x hx'
    obtain ⟨j,hj⟩:=List.getElem?_of_mem hx';rw [List.getElem?_set] at hj;by_cases e:k=j
    . subst e;simp only [if_true,hlt,Option.some.injEq] at hj;rw [<-hj];exact ho
    . simp only [e,if_false] at hj
      have hxm:=hH.ok x (Aj hj);refine HO.ok_of_same hx hxm fun b hb=>?_
      obtain ⟨h1,h2⟩:=HO.ok_lt hxm hb;exact hs b h1 (fun e2=>e (hH.nodup_blk hk hj e2 hb)) h2

theorem X6 {t:TypeId}{td:TD}(hT:TyOK P t td){w:World}{b o:Nat}{v:Value}{cur:Array Value}{TT:TypeId}(hs:v.cells.size=td.size)(h:w.heap[b]? = some (.cells cur TT (0,0)))(hb:o+td.size<=cur.size)(h1:∀u∈v.cells.toList,u.oneCell'=true) :
  (storeVar t ⟨b,o,none⟩ v).run P w = .ok () (w.setRow b (cur.toList.take o++v.cells.toList++cur.toList.drop (o+v.cells.toList.length)).toArray):=by
 unfold storeVar;rw [Sem.run_bind,F0 hT,Result.andThen_ok,if_neg (by omega)];have:=run_storeCells_at P b o TT v.cells.toList 0 cur w h (by simp;omega) h1;simpa using this

theorem Dj {t:TypeId}{b o:Nat}{td:TD}{x y:Operand}{k:Nat}{TT:TypeId}{cs cs':List AV}{v:AV}{H:List HO}(hT:H6 P T)(h:ρ x = .val (.pointer (some ⟨b,o,none⟩)))(hv:ρ y=v)(ht:Bl T t=some td)
  (hk:H[k]? = some (.box b TT cs)) (hs:Au (Cl v)=true) (hl:Nat.beq (Cl v).length td.size=true) (hb:Nat.ble (o+td.size) cs.length=true) (hc:Gb cs o (Cl v)=cs') {H2:List HO} (hH2:H.set k (.box b TT cs')=H2) :
  L7 P ⟨d,.store t x y,ty,pos,aft,gd⟩ ρ H (fun z H'=>z = .junk/\H'=H2):=by
 subst hH2;intro g w a next Q hr hH hn
 have h1:=(h▸hr x (by simp [Op.operands]):Rep g w _ _).inv_val;have h2:=hv▸hr y (by simp [Op.operands]);obtain ⟨h3,h4⟩:=Nk h2 hs;obtain ⟨hg,vs,h5,h6⟩:=hH.ok _ (Aj hk);have hl':=D6 hl;have hb':=B9 hb;have hrun:=X6 (hT t td ht) (w:=w) (b:=b) (o:=o) (v:=a.eval y) (cur:=vs) (TT:=TT) (by rw [h3.1,hl']) h5 (by rw [h6.1];exact hb') h4;unfold Oper.wp;simp only [execOp,h1,Instr.storeAt,Instr.sureAddr,Sem.run_bind,Sem.run_pure,Result.andThen_ok,hrun];have hx:Ext g w g (w.setRow b (vs.toList.take o++(a.eval y).cells.toList++vs.toList.drop (o+(a.eval y).cells.toList.length)).toArray):=Ext.setRow hg;refine hn g _ undef .junk _ ⟨rfl,rfl⟩ (.junk _) (hH.set hx hk (fun b' hb'=>.inl hb') ⟨hg,_,setRow_heap w b vs _ TT (0,0) h5,?_⟩ ?_) hx
 .
  subst hc;have e1:=((h6.take o).append h3).append (h6.drop (o+(Cl v).length))
  have e2:(vs.toList.take o++(a.eval y).cells.toList++vs.toList.drop (o+(a.eval y).cells.toList.length)).toArray=(vs.toList.take o).toArray++(a.eval y).cells++(vs.toList.drop (o+(Cl v).length)).toArray:=by
   apply Pp.1;simp [h3.1]
  have e3:=e1.mono hx;rw [<-e2] at e3;exact e3
 intro c _ hne _;exact ⟨rfl,setRow_other w b c _ (fun e=>hne (by rw [e];rfl))⟩
end
end Go.Aw
namespace Go.Aw

section
variable {P:Program} {T:List (Nat×TD)} {d:Option Nat} {ty:TypeId} {pos:String} {aft:Array Edge} {gd:Option (Nat×Bool)} {ρ:Operand->AV} {K:List HO->Prop}

theorem Ext.setRowTail {g:Gh}{w:World}{b n m:Nat}{cs cur:Array Value}{E:TypeId}(hb:g b=some n)(hnm:n<=m)(hc:w.heap[b]? = some (.cells cur E (0,0)))(hs:∀o,o<n->cs[o]? = cur[o]?):Ext g w (g.put b (some m)) (w.setRow b cs):=by
 refine ⟨rfl,rfl,rfl,by simp [World.setRow],fun c hc' hg=>?_,fun c k hc' hg=>?_⟩
 .
  have hne:c≠b:=fun e=>by rw [e,hb] at hg;cases hg
  exact ⟨by rw [Gh.Aa0 _ _ hne];exact hg,setRow_other w b c cs hne⟩
 by_cases e:c=b
 .
  subst e;rw [hb] at hg;cases hg;refine ⟨fun m' hm=>by rw [Gh.Aaw] at hm;cases hm;exact hnm,fun o ho=>?_⟩;rw [Bj (setRow_heap w c cur cs E (0,0) hc),Bj hc];exact hs o ho
 refine ⟨fun m' hm=>by rw [Gh.Aa0 _ _ e,hg] at hm;cases hm;exact Bc _,fun o ho=>?_⟩;unfold World.cell?;rw [setRow_other w b c cs e]
theorem bD {t ty e:Nat}{te:TD}(hu:P.underlying t=some (.slice e))(hte:TyOK P e te){base:Option Addr}{n cap:Nat}(hc:n<=cap){a:Option Addr}{c:Nat}(w:World) :
  (Builtin.append_ #[t,t] ty #[.slice base n cap,.slice a 0 c]).run P w = .ok (.slice base n cap) w:=by
 have h1:(Builtin.firstCells te.size 0 (.slice a 0 c)).run P w = .ok #[] w:=by
  cases a with
  | none=>rfl
  | some a=>simp [Builtin.firstCells,loadCells,loadCellsFrom]
 cases base with
 | none=>simp [Builtin.append_,A8 hu,F0 hte,Builtin.lenOf,hc,h1]
 | some b=>simp [Builtin.append_,A8 hu,F0 hte,Builtin.lenOf,hc,h1,storeCells]

theorem Mb {g:Gh}{w:World}{a:Option Addr}{n cap z:Nat}{es:List (List AV)}(r:Rep g w (.slice a n cap) (.sl z es))(hpos:0<z)(hs:∀e∈es,Au e=true)(hne:es≠[]) :
  n=es.length/\(∀e∈es,e.length=z)/\∃b o,a=some ⟨b,o,none⟩/\∃vs:List Value,vs.length=n*z/\Di g w vs.toArray es.flatten/\(∀u∈vs,u.oneCell'=true)/\∀k u,vs[k]? = some u->D4 g b (o+k)/\w.cell? ⟨b,o+k,none⟩=some u:=by
 obtain ⟨a',n',cap',h1,h2,h3,h4,h5⟩:=Sx r hpos;cases h1
 obtain ⟨b,o,rfl,hz,vs,k1,k2,k3⟩:=h5.resolve_left hne;refine ⟨h2,hz,b,o,rfl,vs,k1,k2,fun u hu=>?_,k3⟩;obtain ⟨i,hi⟩:=List.getElem?_of_mem hu;have hlt:i<es.flatten.length:=by rw [<-k2.1];simpa using (List.getElem?_eq_some_iff.1 hi).1
 have h6:=k2.2 i _ (List.getElem?_eq_getElem hlt);have h7:vs.toArray.getD i undef=u:=by simp [Ct,hi]
 rw [h7] at h6;refine Sg h6 ?_;obtain ⟨e,he,hx⟩:=List.mem_flatten.1 (Ub hlt);exact Ml (hs e he) _ hx

theorem Fu {b:Builtin}{args:Array Operand}{ats:Array TypeId}{a:Act}{w w':World}{v:Value}
  (h:(builtin b ats ty (args.map fun | .const _=>true | _=>false) (args.map a.eval)).run P w = .ok (.value v) w') :
  (execOp a.eval ⟨d,.call ⟨.builtin b,args,ats⟩,ty,pos,aft,gd⟩).run P w = .ok (.value v) w':=by
 simp only [execOp,resolve,Sem.run_bind,Sem.run_pure,Result.andThen_ok,invoke];exact h

theorem U1 {g:Gh}{w:World}{b n cap z:Nat}{es:List (List AV)}{cur:Array Value}{E:TypeId}(r:Rep g w (.slice (some ⟨b,0,none⟩) n cap) (.sl z es))(hn:n=es.length)(hpos:0<z)(hs:∀e∈es,Au e=true)
  (hc:w.heap[b]? = some (.cells cur E (0,0))):(∀e∈es,e.length=z)/\Di g w (cur.toList.take (n*z)).toArray es.flatten/\(n*z<=cur.size):=by
 by_cases hne:es = []
 .
  subst hne;subst hn;exact ⟨by simp,by simp [Di],by simp⟩
 obtain ⟨_,hz,b',o',e,vs,k1,k2,_,k4⟩:=Mb r hpos hs hne;cases e
 have key:∀k,k<n*z->cur[k]? = vs[k]? :=fun k hk=>by
  have h1:=List.getElem?_eq_getElem (by rw [k1];exact hk);have:=(k4 k _ h1).2;rw [Do,Bj hc] at this;rw [this,h1]
 have hle:n*z<=cur.size:=by
  by_cases h0:n*z=0
  . omega
  have h1:=key (n*z-1) (by omega);rw [List.getElem?_eq_getElem (by rw [k1];omega)] at h1;have:=(Array.getElem?_eq_some_iff.1 h1).1;omega
 have e1:cur.toList.take (n*z)=vs:=by
  apply Uc
  intro k;rw [List.getElem?_take];split
  . rename_i hk;rw [<-key k hk];simp
  rename_i hk;rw [List.getElem?_eq_none (by rw [k1];omega)]
 rw [e1];exact ⟨hz,k2,hle⟩
theorem lR {x y:Operand}{t e k z:Nat}{td te:TD}{v:Value}{es es2:List (List AV)}{H:List HO}(hT:H6 P T)(hx:ρ x = .row v z es)(hy:ρ y = .sl z es2)(ht:Bl T t=some td)(hk:td.kind = .slice e)
    (hte:Bl T e=some te) (hz:te.size=z) (hp:Nat.blt 0 z=true) (hH:H[k]? = some (.row v es.length e z)) (hs2:∀c∈es2,Au c=true) (hs1:∀c∈es,Au c=true) (hb:(es.length+es2.length)*te.bytes<=140737488355328) (hm:es.length+es2.length<=maxLen) :
    L7 P ⟨d,.call ⟨.builtin .append,#[x,y],#[t,t]⟩,ty,pos,aft,gd⟩ ρ H (fun r H'=>∃v',r = .row v' z (es++es2)/\H'=H.set k (.row v' (es++es2).length e z)):=by
  intro g w a next Q hr hHK hn
  have hpos:0<z:=by simpa using hp
  obtain ⟨e1,r1⟩:=(hx▸hr x (by simp [Op.operands,Call.operands]):Rep g w _ _).inv_row;have r2:=(hy▸hr y (by simp [Op.operands,Call.operands]):Rep g w _ _);have hu:=Ee (hT t td ht) hk;obtain ⟨it,hit,his,hib,zv,hzv,hzs,_⟩:=(hT e te hte).info;have hok:=hHK.ok _ (Aj hH);obtain ⟨a2,m,c2,h21,h22,h23,h24,_⟩:=r2.inv_sl;rw [e1] at r1;have hlen:(es++es2).length=es.length+m:=by simp [h22]
  have hkl:k<H.length:=(List.getElem?_eq_some_iff.1 hH).1
  -- the end: what is shown of the run
  have fin:∀v' g' w',(Builtin.append_ #[t,t] ty #[a.eval x,a.eval y]).run P w = .ok v' w'->Rep g' w' v' (.sl z (es++es2))->HOK g' w' (H.set k (.row v' (es++es2).length e z))->Ext g w g' w'->Oper.wp P ⟨d,.call ⟨.builtin .append,#[x,y],#[t,t]⟩,ty,pos,aft,gd⟩ a w next Q:=by
    intro v' g' w' hrun hrep hok' hext;unfold Oper.wp
    rw [Fu (v:=v') (w':=w') (by
      have:(#[x,y]:Array Operand).map a.eval = #[a.eval x,a.eval y]:=by simp
      rw [this];simp only [builtin,Sem.run_bind,hrun,Result.andThen_ok,Sem.run_pure])]
    exact hn g' w' v' _ _ ⟨v',rfl,rfl⟩ (.row _ _ _ hrep) hok' hext
  by_cases h2:es2 = []
  . subst h2
    simp only [A3,Bi] at h22 fin ⊢;subst h22;obtain ⟨a1,n1,c1,k1,k2,k3,_,_⟩:=r1.inv_sl;refine fin v g w ?_ r1 ?_ (Ext.refl g w)
    . rw [e1,k1,h21];exact bD hu (hT e te hte) k3 w
    . have:H.set k (.row v es.length e z)=H:=by
        apply Uc
        intro j;rw [List.getElem?_set];split
        . rename_i hj;subst hj;first | exact hH.symm | (rw [if_pos hkl];exact hH.symm)
        rfl
      rw [this];exact hHK
  . rw [h21] at r2
    obtain ⟨_,hz2,b2,o2,hb2,news,n1,n2,n3,n4⟩:=Mb r2 hpos hs2 h2;subst hb2;have hm0:0<m:=by rw [h22];exact List.length_pos_iff.2 h2
    have hnews:∀j u,news[j]? = some u->w.cell? ((⟨b2,o2,none⟩:Addr).add j)=some u:=fun j u hj=>by rw [Fb];exact (n4 j u hj).2
    have hsz:it.size=z:=by rw [his,hz]
    have hnl:news.length=m*it.size:=by rw [n1,hsz]
    have hmax:maxLen=9223372036854775807:=rfl;rcases hok with ⟨rfl,h0⟩ | ⟨b,cap,cur,rfl,hg,hcur,hcsz,hcap,hcmax⟩
    . -- nothing yet
      have hes:es = []:=by simpa using h0
      subst hes;simp only [Du,Bi,Do] at hb hm fin hlen ⊢;have hbb:m*it.bytes<=281474976710656:=by rw [hib,h22];omega
      have hrun:=run_append_nil (P:=P) w t ty e it zv hu hit hzv ⟨b2,o2,none⟩ m c2 news hnl hnews hm0 (by omega) hbb;have hext:Ext g w (g.put w.heap.size (some (m*z))) (w.drew.alloc (.cells (news.toArray++Builtin.zeroCells zv.cells (grownCap w m 0 e-m)) e)):=(Ext.drew g w).trans (Ext.alloc g w.drew _ _);have hcapm:m<=grownCap w m 0 e:=grownCap_ge w m 0 e;have hcapM:=grownCap_le_maxLen w m 0 e (by omega);refine fin _ (g.put w.heap.size (some (m*z))) _ (by rw [e1,h21];exact hrun) ?_ ?_ hext
      . refine Dv h22 hcapm hcapM hz2 (n2.mono hext) (fun k hk=>?_) (fun k u hk=>?_)
        . unfold D4;rw [Gh.Aaw];show 0+k<m*z;omega
        . rw [Do,Bj (b:=w.heap.size) (Ce w.drew _)]
          have hlt:k<news.length:=by simpa using (Array.getElem?_eq_some_iff.1 hk).1
          rw [Array.getElem?_append_left (by simpa using hlt)];exact hk
      . refine hHK.set hext hH (fun b hb=>?_) (.inr ⟨w.heap.size,grownCap w m 0 e,_,by rw [h22],by rw [Gh.Aaw,h22],Ce w.drew _,?_,by rw [<-h22];exact hcapm,hcapM⟩) (fun c hc _ _=>?_)
        . simp only [HO.blk,Option.some.injEq] at hb;exact .inr (by omega)
        . simp only [L3,I8,n1,size_zeroCells,hzs,hz,Nat.sub_mul]
          have:=Hw z hcapm;omega
        exact ⟨Gh.Aa0 _ _ (by omega),Gf w.drew _ hc⟩
    . obtain ⟨hz1,rl1,hle⟩:=U1 r1 rfl hpos hs1 hcur
      have hzall:∀c∈es++es2,c.length=z:=fun c hc=>by
        rcases Gd.1 hc with h | h
        . exact hz1 c h
        exact hz2 c h
      by_cases hroom:es.length+m<=cap
      . have hfit:es.length*it.size+news.length<=cur.size:=by
          rw [hsz,n1,hcsz,<-Ij];exact Hw z hroom
        have hrun:=run_append_room (P:=P) w t ty e it hu hit b es.length cap cur hcur ⟨b2,o2,none⟩ m c2 news hnl hnews n3 hroom hfit;rw [hsz] at hrun hfit;have hnew:=setRow_heap w b cur (cur.toList.take (es.length*z)++news++cur.toList.drop (es.length*z+news.length)).toArray e (0,0) hcur
        have hext:Ext g w (g.put b (some ((es.length+m)*z))) (w.setRow b (cur.toList.take (es.length*z)++news++cur.toList.drop (es.length*z+news.length)).toArray):=by
          refine Ext.setRowTail hg (Hw z (by omega)) hcur fun o ho=>?_
          have:o<(cur.toList.take (es.length*z)).length:=by simp;omega
          simp only [List.getElem?_toArray,Dy];rw [List.getElem?_append_left this,List.getElem?_take,if_pos ho];simp
        have hrl:Di g w ((cur.toList.take (es.length*z)).toArray++news.toArray) (es++es2).flatten:=by
          rw [aB];exact rl1.append n2
        refine fin _ (g.put b (some ((es.length+m)*z))) _ (by rw [e1,h21];exact hrun) ?_ ?_ hext
        . refine Dv hlen.symm (by omega) hcmax hzall (hrl.mono hext) (fun k hk=>?_) (fun k u hk=>?_)
          . unfold D4;rw [Gh.Aaw];show 0+k<_;omega
          . rw [Do,Bj hnew]
            have hlt:=(Array.getElem?_eq_some_iff.1 hk).1
            have e3:(cur.toList.take (es.length*z)++news++cur.toList.drop (es.length*z+news.length)).toArray=((cur.toList.take (es.length*z)).toArray++news.toArray)++(cur.toList.drop (es.length*z+news.length)).toArray:=by
              apply Pp.1;simp
            rw [e3,Array.getElem?_append_left hlt];exact hk
        . refine hHK.set hext hH (fun b' hb'=>.inl hb') (.inr ⟨b,cap,_,by rw [hlen],by rw [Gh.Aaw,hlen],hnew,?_,by rw [hlen];exact hroom,hcmax⟩) (fun c hc hne _=>?_)
          . simp only [I8,Ao,Df,C4,W0];omega
          . have hcb:c≠b:=fun h=>hne (by rw [h];rfl)
            exact ⟨Gh.Aa0 _ _ hcb,setRow_other w b c _ hcb⟩
      . have hg':cap<es.length+m:=by omega
        have hfit:Builtin.nextslicecap (es.length+m) cap*it.bytes<=281474976710656:=growslice_fits hg' (by rw [hib,h22];exact hb);have hol:(cur.toList.take (es.length*z)).length=es.length*it.size:=by simp [hsz];omega
        have holds:∀j u,(cur.toList.take (es.length*z))[j]? = some u->w.cell? ((⟨b,0,none⟩:Addr).add j)=some u:=fun j u hj=>by
          rw [Fb,Do,Bj hcur];rw [List.getElem?_take] at hj;split at hj
          . simpa using hj
          cases hj
        have hrun:=run_append_grow (P:=P) w t ty e it zv hu hit hzv ⟨b,0,none⟩ es.length cap (cur.toList.take (es.length*z)) hol holds ⟨b2,o2,none⟩ m c2 news hnl hnews hg' (by omega) hfit;have hext:Ext g w (g.put w.heap.size (some ((es.length+m)*z))) (w.drew.alloc (.cells ((cur.toList.take (es.length*z)).toArray++news.toArray++Builtin.zeroCells zv.cells (grownCap w (es.length+m) cap e-(es.length+m))) e)):=(Ext.drew g w).trans (Ext.alloc g w.drew _ _);have hcapm:=grownCap_ge w (es.length+m) cap e;have hcapM:=grownCap_le_maxLen w (es.length+m) cap e (by omega)
        have hrl:Di g w ((cur.toList.take (es.length*z)).toArray++news.toArray) (es++es2).flatten:=by
          rw [aB];exact rl1.append n2
        refine fin _ (g.put w.heap.size (some ((es.length+m)*z))) _ (by rw [e1,h21];exact hrun) ?_ ?_ hext
        . refine Dv hlen.symm hcapm hcapM hzall (hrl.mono hext) (fun k hk=>?_) (fun k u hk=>?_)
          . unfold D4;rw [Gh.Aaw];show 0+k<_;omega
          . rw [Do,Bj (b:=w.heap.size) (Ce w.drew _)]
            have hlt:=(Array.getElem?_eq_some_iff.1 hk).1;rw [Array.getElem?_append_left hlt];exact hk
        . refine hHK.set hext hH (fun b' hb'=>?_) (.inr ⟨w.heap.size,grownCap w (es.length+m) cap e,_,by rw [hlen],by rw [Gh.Aaw,hlen],Ce w.drew _,?_,by rw [hlen];exact hcapm,hcapM⟩) (fun c hc _ _=>?_)
          . simp only [HO.blk,Option.some.injEq] at hb';exact .inr (by omega)
          . simp only [L3,I8,n1,size_zeroCells,hzs,hz,Nat.sub_mul,hol,hsz]
            have:=Hw z hcapm;rw [Ij] at this;rw [Ij];omega
          exact ⟨Gh.Aa0 _ _ (by omega),Gf w.drew _ hc⟩

def Tn (P:Program)(f:FuncId):Bool:=
 match P.funcs[f]? with
 | some fn => !(fn.name == "runtime.NumGoroutine") && !fn.body.isNone
 | none=>false

theorem Rp {f:FuncId}(h:Tn P f=true)(args:Array Value)(w:World):(callFunc f args).run P w = .ok (.enter f args) w:=by
 unfold Tn at h;split at h
 .
  rename_i fn hf;simp only [Cy,A5] at h;unfold callFunc;simp only [Sem.run_bind,run_program,Result.andThen_ok,hf,h.1,h.2,Al,if_false,Sem.run_pure]
 cases h
theorem X5 {g:Gh}{w:World}{a:Act}{args:Array Operand}{l:List AV}(hr:∀y∈args.toList,Rep g w (a.eval y) (ρ y))(hl:args.toList.map ρ=l):Di g w (args.map a.eval) l:=by
  subst hl;refine ⟨by simp,fun i x hi=>?_⟩;rw [List.getElem?_map] at hi;cases e:args.toList[i]? with
  | none=>simp [e] at hi
  | some y=>
    simp only [e,Hv,Option.some.injEq] at hi;have h1:args[i]? = some y:=by simpa using e
    have:(args.map a.eval).getD i undef=a.eval y:=by simp [Ct,h1]
    rw [this,<-hi];exact hr y (Aj e)

theorem Kr {f:FuncId}{cal:Operand}{args:Array Operand}{ats:Array TypeId}{first cap l l':List AV}{H:List HO}{R:AV->List HO->Prop}(hf:Tn P f=true)(hcal:ρ cal = .fn (.func f) first cap)(ha:args.toList.map ρ=l)
  (hl:first++l++cap=l') (hc:Bt P f H l' R):L7 P ⟨d,.call ⟨.value cal,args,ats⟩,ty,pos,aft,gd⟩ ρ H R:=by
 intro g w a next Q hr hH hn
 obtain ⟨vs,us,hv,h1,h2⟩:=(hcal▸hr cal (by simp [Op.operands,Call.operands]):Rep g w _ _).inv_fn;have h3:=X5 (ρ:=ρ) (a:=a) (g:=g) (w:=w) (args:=args) (fun y hy=>hr y (by simp only [Op.operands,Call.operands,Array.mem_append];exact .inr (by simpa using hy))) ha;unfold Oper.wp
 have hrun:(execOp a.eval ⟨d,.call ⟨.value cal,args,ats⟩,ty,pos,aft,gd⟩).run P w = .ok (.enter f (vs++args.map a.eval++us)) w:=by
  simp only [execOp,resolve,Sem.run_bind,hv,Deferred.ofValue,Sem.run_pure,Result.andThen_ok,invoke,Rp hf]
 rw [hrun];simp only [Oper.upon];refine (hc g w (vs++args.map a.eval++us) hH (hl▸(h1.append h3).append h2)).mono ?_;rintro e w' ⟨v,g',r,H',rfl,k1,k2,k3,k4⟩;exact hn g' w' v r H' k4 k1 k2 k3

theorem L6 {f:FuncId}{args:Array Operand}{ats:Array TypeId}{l:List AV}{H:List HO}{R:AV->List HO->Prop}(hf:Tn P f=true)(hcal:ρ (.func f) = .fn (.func f) [] [])(ha:args.toList.map ρ=l)
  (hc:Bt P f H l R):L7 P ⟨d,.call ⟨.value (.func f),args,ats⟩,ty,pos,aft,gd⟩ ρ H R:=
 Kr hf hcal ha (by simp) hc

theorem O1 {f:FuncId}{cal:Operand}{args:Array Operand}{ats:Array TypeId}{first cap l l':List AV}{r:AV}(hf:Tn P f=true)(hcal:ρ cal = .fn (.func f) first cap)(ha:args.toList.map ρ=l)
  (hl:first++l++cap=l') (hc:Ap P f l' r):Db P ⟨d,.call ⟨.value cal,args,ats⟩,ty,pos,aft,gd⟩ ρ K r:=by
 intro g w a H next Q hr hH _ hn
 refine Kr hf hcal ha hl (hc H) g w a next Q hr hH fun g' w' v x H' ⟨hx,hH'⟩ k1 k2 k3=>?_
 subst hx;subst hH';exact hn g' w' v k1 k2 k3

theorem Eg {f:FuncId}{args:Array Operand}{ats:Array TypeId}{l:List AV}{r:AV}(hf:Tn P f=true)(hcal:ρ (.func f) = .fn (.func f) [] [])(ha:args.toList.map ρ=l)
  (hc:Ap P f l r):Db P ⟨d,.call ⟨.value (.func f),args,ats⟩,ty,pos,aft,gd⟩ ρ K r:=
 O1 hf hcal ha (by simp) hc

theorem B0 {f:Fn}{first cap:Array Operand}{l l':List AV}(h:first.toList.map ρ=l)(h':cap.toList.map ρ=l'):Db P ⟨d,.makeFunc f first cap,ty,pos,aft,gd⟩ ρ K (.fn f l l'):=
 .of_run fun g w a hr=>by
  have h1:=X5 (ρ:=ρ) (a:=a) (g:=g) (w:=w) (args:=first) (fun y hy=>hr y (by simp only [Op.operands,Array.mem_append];exact .inl (by simpa using hy))) h;have h2:=X5 (ρ:=ρ) (a:=a) (g:=g) (w:=w) (args:=cap) (fun y hy=>hr y (by simp only [Op.operands,Array.mem_append];exact .inr (by simpa using hy))) h';exact ⟨.func f (first.map a.eval) (cap.map a.eval),by simp [execOp,Instr.makeFunc],.fn _ _ _ _ _ h1.1 h1.2 h2.1 h2.2⟩


inductive Res (P:Program) (T:List (Nat×TD)) (s:St):ResultVar->AV->Prop where
 | tmp (t:Nat) (x:AV) (h:get s.sl t=x):Res P T s (.tmp t) x
 | box (a t:Nat) (b:Nat) (k:Nat) (TT:TypeId) (td:TD) (cs l:List AV) (h:get s.sl a = .val (.pointer (some ⟨b,0,none⟩))) (hk:s.H[k]? = some (.box b TT cs)) (ht:Bl T t=some td) (ha:td.agg=true) (hl:cs.take td.size=l) (hs:Nat.beq l.length td.size=true):Res P T s (.cell a t) (.agg l)
 | boxs (a t:Nat) (b:Nat) (k:Nat) (TT:TypeId) (td:TD) (c:AV) (h:get s.sl a = .val (.pointer (some ⟨b,0,none⟩))) (cs:List AV) (hk:s.H[k]? = some (.box b TT (c::cs))) (ht:Bl T t=some td) (ha:td.agg=false):Res P T s (.cell a t) c

inductive ResL (P:Program) (T:List (Nat×TD)) (s:St):List ResultVar->List AV->Prop where
 | nil:ResL P T s [] []
 | cons {r:ResultVar} {x:AV} {rs:List ResultVar} {xs:List AV} (h:Res P T s r x) (hs:ResL P T s rs xs):ResL P T s (r::rs) (x::xs)

def Ah:List AV->AV
 | [x]=>x
 | l=>.tuple l

theorem Res.run (hT:H6 P T){s:St}{rv:ResultVar}{x:AV}(h:Res P T s rv x){g:Gh}{a:Act}{w:World}(hG:Gm g s a w) :
    ∃v,(match rv with | .tmp t=>pure (a.tmps.getD t undef) | .cell b t=>do loadVar t (<-asAddr (a.tmps.getD b undef)):Sem Value).run P w = .ok v w/\Rep g w v x:=by
  cases h with
  | tmp t x h=>exact ⟨_,rfl,h▸hG.sl t⟩
  | box c t b k TT td cs l h hk ht ha hl hs=>
    have h1:a.tmps.getD c undef = .pointer (some ⟨b,0,none⟩):=(h▸hG.sl c:Rep g w _ _).inv_val;obtain ⟨_,vs,h2,h3⟩:=hG.heap.ok _ (Aj hk);have hs':=D6 hs
    have hle:td.size<=cs.length:=by
      have h4:(cs.take td.size).length=td.size:=by rw [hl,hs']
      rw [Df] at h4;omega
    have hcell:∀j,j<td.size->w.cell? ⟨b,0+j,none⟩=some (vs.getD j undef):=fun j hj=>by
      have:j<vs.size:=by rw [h3.1];omega
      rw [Do,Bj h2];simp [this]
    have hrep:=Sj (g:=g) (w:=w) (n:=td.size) (f:=fun j=>vs.getD j undef) hs' (fun j y hj=>by
      rw [<-hl,List.getElem?_take] at hj;split at hj
      . exact h3.2 _ y hj
      cases hj)
    refine ⟨_,?_,.agg _ _ hrep.1 hrep.2⟩;simp only [h1,asAddr,Sem.run_bind,Sem.run_pure,Result.andThen_ok];exact Ou (hT t td ht) ha _ hcell
  | boxs c t b k TT td x h cs hk ht ha=>
    have h1:a.tmps.getD c undef = .pointer (some ⟨b,0,none⟩):=(h▸hG.sl c:Rep g w _ _).inv_val;obtain ⟨_,vs,h2,h3⟩:=hG.heap.ok _ (Aj hk);have h4:=h3.2 0 x rfl;have:0<vs.size:=by rw [h3.1];simp
    have hcell:w.cell? ⟨b,0,none⟩=some (vs.getD 0 undef):=by rw [Bj h2];simp [this]
    refine ⟨_,?_,h4⟩;simp only [h1,asAddr,Sem.run_bind,Sem.run_pure,Result.andThen_ok];exact N3 (hT t td ht) ha hcell

theorem ResL.run (hT:H6 P T){s:St}{rs:List ResultVar}{xs:List AV}(h:ResL P T s rs xs){g:Gh}{a:Act}{w:World}(hG:Gm g s a w) :
    ∃vs:List Value,(rs.mapM fun rv=>(match rv with | .tmp t=>pure (a.tmps.getD t undef) | .cell b t=>do loadVar t (<-asAddr (a.tmps.getD b undef)):Sem Value)).run P w = .ok vs w/\Di g w vs.toArray xs:=by
  induction h with
  | nil=>exact ⟨[],rfl,rfl,by simp⟩
  | cons h _ ih=>
    obtain ⟨v,h1,h2⟩:=h.run hT hG;obtain ⟨vs,h3,h4⟩:=ih;refine ⟨v::vs,?_,by simp [h4.1];exact by have:=h4.1;simpa using this,fun i x hi=>?_⟩
    . rw [List.mapM_cons,Sem.run_bind,h1,Result.andThen_ok,Sem.run_bind,h3,Result.andThen_ok,Sem.run_pure]
    . cases i with
      | zero=>simp at hi;subst hi;simpa using h2
      | succ i=>simp at hi;have:=h4.2 i x hi;simpa using this

theorem Ow (hT:H6 P T){s:St}{fn:Func}{xs:List AV}(h:ResL P T s fn.results.toList xs){g:Gh}{a:Act}{w:World}(hG:Gm g s a w) :
    ∃v,(results fn a.tmps).run P w = .ok v w/\Rep g w v (Ah xs):=by
  obtain ⟨vs,h1,h2⟩:=h.run hT hG
  have h3:(fn.results.mapM fun rv=>(match rv with | .tmp t=>pure (a.tmps.getD t undef) | .cell b t=>do loadVar t (<-asAddr (a.tmps.getD b undef)):Sem Value)).run P w = .ok vs.toArray w:=by
    rw [<-Array.toArray_toList (xs:=fn.results),List.mapM_toArray,Sem.run_map,h1];rfl
  have hlen:vs.length=xs.length:=by have:=h2.1;simpa using this
  unfold results;rw [Sem.run_bind];refine ⟨if h:vs.toArray.size=1 then vs.toArray[0] else .tuple vs.toArray,?_,?_⟩
  . exact congrArg (fun r:Result (Array Value)=>r.andThen fun vs w'=>Sem.run P (pure (if h:vs.size=1 then vs[0] else Value.tuple vs)) w') h3
  . match vs,xs,hlen,h2 with
    | [v],[x],_,h2=>have:=h2.2 0 x rfl;simpa [Ah] using this
    | [],[],_,h2=>exact .tuple _ _ h2.1 h2.2
    | v1::v2::vs,x1::x2::xs,_,h2=>
      have:¬((v1::v2::vs).toArray.size=1):=by simp
      rw [dif_neg this];exact .tuple _ _ h2.1 h2.2

theorem Bt.body (hT:H6 P T){f:FuncId}{fn:Func}{c:Code}{args:List AV}{H:List HO}{Q:AV->List HO->Prop}(hf:P.funcs[f]? = some fn)(hb:fn.body=some c){n:Nat}(hn:fn.ntmps=n)(hle:Nat.ble args.length n=true)
  (h:AW P c (fun e s=>(e = .normal\/e = .ret)/\∃xs,ResL P T s fn.results.toList xs/\∃H',H'.Sublist s.H/\Q (Ah xs) H') ⟨Gg 0 args,H,n⟩):Bt P f H args Q:=by
 refine Bt.of_wp hf hb hn (B9 hle) (h.mono ?_);rintro e s ⟨he,xs,hr,H',hs,hq⟩;refine ⟨he,fun g a w hG=>?_⟩;obtain ⟨v,h1,h2⟩:=Ow hT hr hG;exact ⟨v,g,_,H',h1,h2,hG.heap.sub hs,Ext.refl g w,hq⟩

theorem Ap.body (hT:H6 P T){f:FuncId}{fn:Func}{c:Code}{args:List AV}{r:AV}(hf:P.funcs[f]? = some fn)(hb:fn.body=some c){n:Nat}(hn:fn.ntmps=n)(hle:Nat.ble args.length n=true)
  (h:∀H,AW P c (fun e s=>(e = .normal\/e = .ret)/\∃xs,ResL P T s fn.results.toList xs/\H.Sublist s.H/\Ah xs=r) ⟨Gg 0 args,H,n⟩):Ap P f args r:=fun H=>
 Bt.body hT hf hb hn hle ((h H).mono fun _ _ ⟨he,xs,hr,hs,hq⟩=>⟨he,xs,hr,H,hs,hq,rfl⟩)


def Wk (sl:List (Nat×AV)):List (Nat×AV)->Prop
 | []=>True
 | (t,x)::r=>get sl t=x/\Wk sl r

theorem Wk.get {sl:List (Nat×AV)}:∀{l:List (Nat×AV)},Wk sl l->∀t,get l t = .junk\/get l t=get sl t
  | [],_,t=>.inl rfl
  | (j,x)::r,h,t=>by
    rw [E3];by_cases e:j=t
    . subst e;simp only [if_true];exact .inr h.1.symm
    simp only [e,if_false];exact Wk.get h.2 t
theorem GS.weaken {sl sl':List (Nat×AV)}{H H':List HO}{n:Nat}(h:Wk sl sl')(hs:H'.Sublist H):GS ⟨sl,H,n⟩ ⟨sl',H',n⟩:=fun g a w hG=>
 ⟨g,⟨hG.size,hG.defers,fun i=>by
  rcases h.get i with e | e
  . show Rep g w _ (get sl' i);rw [e];exact .junk _
  show Rep g w _ (get sl' i);rw [e];exact hG.sl i,hG.heap.sub hs⟩,Ext.refl g w⟩
theorem GS.freeze {sl:List (Nat×AV)}{H:List HO}{n t b TT:Nat}{cs:List AV}(k:Nat)(h:get sl t = .val (.pointer (some ⟨b,0,none⟩)))(hk:H[k]? = some (.box b TT cs)):GS ⟨sl,H,n⟩ ⟨(t,.ptr cs)::sl,H.eraseIdx k,n⟩:=fun g a w hG=>by
 obtain ⟨hg,vs,h1,h2⟩:=hG.heap.ok _ (Aj hk)
 have hx:Ext g w (g.put b none) w:=by
  refine ⟨rfl,rfl,rfl,Bc _,fun c hc hgc=>⟨?_,rfl⟩,fun c m hc hgc=>⟨fun m' hm=>?_,fun _ _=>rfl⟩⟩
  .
   by_cases e:c=b
   . subst e;exact Gh.Aaw _ _ _
   rw [Gh.Aa0 _ _ e];exact hgc
  by_cases e:c=b
  . subst e;rw [Gh.Aaw] at hm;cases hm
  rw [Gh.Aa0 _ _ e,hgc] at hm;cases hm;exact Bc _
 refine ⟨g.put b none,⟨hG.size,hG.defers,fun i=>?_,?_⟩,hx⟩
 .
  show Rep _ w _ (get ((t,.ptr cs)::sl) i);rw [E3];by_cases e:t=i
  .
   subst e;simp only [if_true];have h3:a.tmps.getD t undef = .pointer (some ⟨b,0,none⟩):=(h▸hG.sl t:Rep g w _ _).inv_val;rw [h3];refine .ptr b 0 cs (fun j=>vs.getD j undef) (fun j y hj=>⟨by unfold D4;rw [Gh.Aaw];trivial,?_⟩) (fun j y hj=>(h2.2 j y hj).mono hx);have hlt:j<vs.size:=by rw [h2.1];exact (List.getElem?_eq_some_iff.1 hj).1
   rw [Do,Bj h1];simp [hlt]
  simp only [e,if_false];exact (hG.sl i).mono hx
 have hsub:(H.eraseIdx k).Sublist H:=Z8 ..;refine ⟨(hG.heap.sub hsub).nodup,fun o ho=>?_,hG.heap.glob.mono hx⟩;obtain ⟨j,hj⟩:=List.getElem?_of_mem ho;rw [List.getElem?_eraseIdx] at hj
 obtain ⟨j',hjk,hj'⟩:∃j',j'≠k/\H[j']? = some o:=by
  split at hj
  . exact ⟨j,by omega,hj⟩
  exact ⟨j+1,by omega,hj⟩
 have hok:=hG.heap.ok o (Aj hj');refine HO.ok_of_same hx hok fun c hc=>⟨Gh.Aa0 _ _ fun e=>hjk (hG.heap.nodup_blk hj' hk (e▸hc) rfl),rfl⟩
theorem GS.row {sl:List (Nat×AV)}{H:List HO}{n t:Nat}(E z:Nat)(h:get sl t = .val (.slice none 0 0)):GS ⟨sl,H,n⟩ ⟨(t,.row (.slice none 0 0) z [])::sl,.row (.slice none 0 0) 0 E z::H,n⟩:=fun g a w hG=>by
 refine ⟨g,⟨hG.size,hG.defers,fun i=>?_,hG.heap.cons (.inl ⟨rfl,rfl⟩) (fun b hb=>by cases hb)⟩,Ext.refl g w⟩;show Rep _ w _ (get ((t,.row (.slice none 0 0) z [])::sl) i);rw [E3];by_cases e:t=i
 .
  subst e;simp only [if_true];have h3:a.tmps.getD t undef = .slice none 0 0:=(h▸hG.sl t:Rep g w _ _).inv_val;rw [h3];exact .row _ _ _ (.sl0 _ _ _ (A7 _))
 simp only [e,if_false];exact hG.sl i
theorem GS.unrow {sl:List (Nat×AV)}{H:List HO}{n z:Nat}(t:Nat){v:Value}{es:List (List AV)}(h:get sl t = .row v z es):GS ⟨sl,H,n⟩ ⟨(t,.sl z es)::sl,H,n⟩:=fun g a w hG=>by
 refine ⟨g,⟨hG.size,hG.defers,fun i=>?_,hG.heap⟩,Ext.refl g w⟩;show Rep _ w _ (get ((t,.sl z es)::sl) i);rw [E3];by_cases e:t=i
 . subst e;simp only [if_true];exact (h▸hG.sl t:Rep g w _ _).inv_row.2
 simp only [e,if_false];exact hG.sl i
end
end Go.Aw
