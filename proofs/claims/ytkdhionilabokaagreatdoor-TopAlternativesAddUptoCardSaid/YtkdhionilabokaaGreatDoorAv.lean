/-
  The abstract layer: abstract values, what represents them, states, operations, code, calls. No condition.
-/
import Derived.Orders
import Derived.RowKit3
import Derived.Laws.AppendOwn
import Derived.Laws.CopyRow
import Derived.IntWalk
import Derived.Laws.Strings
import Derived.Laws.StructEq
import Derived.Laws.Tables
import Derived.Carry
import Derived.ChangeArms
import Derived.ChangeSame
import Derived.OpenShut
import Derived.Laws.MakeOwn
import Derived.Laws.IdiomStrings
import Derived.Below
import Derived.Lib.Builder
import Derived.Lib.UnsafeStr
import Derived.Lib.AppendStr
import Derived.Laws.Externs
set_option linter.unusedVariables false
set_option linter.unusedSimpArgs false
namespace Go.Aw
abbrev Aq:=@Bool.and_true
abbrev A0:=@List.mem_of_getElem?
abbrev A2:=@Bool.false_eq_true
abbrev Bl:=@Bool.false_or
abbrev Bn:=@Nat.zero_le
abbrev Bo:=@Bool.true_and
abbrev Bs:=@Bool.not_false
abbrev Bu:=@Bool.not_eq_true'
abbrev Bz:=@Bool.not_true
abbrev B1:=@List.length_map
abbrev A5:=@Bool.true_or
abbrev A6:=@Bool.or_true
abbrev A7:=@Bool.or_false
abbrev A9:=@Bool.and_false
abbrev Ba:=@List.map_cons
abbrev Bb:=@Bool.not_eq_false'
abbrev Be:=@Bool.false_and
abbrev Bi:=@Nat.le_refl
abbrev B2:=@of_decide_eq_true
abbrev B7:=@List.mem_map
abbrev Ce:=@Array.getD_eq_getD_getElem?
abbrev Cg:=@Nat.zero_add
abbrev Cq:=@Bool.and_eq_true
abbrev Cs:=@List.append_assoc
abbrev Cy:=@List.map_append
abbrev Cz:=@List.mem_cons
abbrev C7:=@of_decide_eq_false
abbrev Da:=@List.mem_append
abbrev Di:=@decide_eq_true_eq
abbrev Do:=@List.length_append
abbrev Dq:=@List.sum_cons
abbrev Eb:=@List.length_cons
abbrev Ek:=@Bool.or_eq_true
abbrev Ey:=@Nat.eq_of_beq_eq_true
abbrev E4:=@Option.map_some
abbrev Fj:=@Nat.add_mul
abbrev Fp:=@Nat.le_trans
abbrev Fq:=@List.filter_cons
abbrev Fr:=@List.length_take
abbrev Fs:=@List.mem_cons_self
abbrev Ft:=@List.mem_cons_of_mem
abbrev Fu:=@Nat.mul_le_mul_right
abbrev Fv:=@Bool.or_eq_false_iff
abbrev F1:=@List.mem_filter
abbrev F3:=@List.mem_singleton
abbrev Gi:=@List.filter_append
abbrev Gv:=@List.map_nil
abbrev G7:=@decide_eq_true
abbrev G8:=@List.flatMap_cons
abbrev Hd:=@List.size_toArray
abbrev Hq:=@List.mem_range
abbrev Hr:=@List.length_set
abbrev H1:=@List.append_nil
abbrev H6:=@List.nil_append
abbrev H7:=@Array.size_append
abbrev H8:=@List.nodup_cons
abbrev It:=@List.take_of_length_le
abbrev Iu:=@beq_eq_false_iff_ne
abbrev Iv:=@List.take_append_drop
abbrev Iw:=@List.length_pos_iff
abbrev Ix:=@Nat.lt_or_ge
abbrev Iy:=@Nat.one_mul
abbrev Jf:=@List.foldl_cons
abbrev Jg:=@List.length_replicate
abbrev Jh:=@decide_eq_false_iff_not
abbrev Jy:=@Int.toNat_natCast
abbrev Jz:=@List.flatten_cons
abbrev J0:=@Nat.le_of_ble_eq_true
abbrev J1:=@List.filterMap_cons
abbrev K7:=@Option.getD_some
abbrev K8:=@List.mem_flatMap
abbrev K9:=@List.length_nil
abbrev La:=@List.mem_append_left
abbrev Lb:=@List.length_pos_of_mem
abbrev Lw:=@List.map_map
abbrev Lx:=@Int.le_refl
abbrev Ly:=@Array.toList_inj
abbrev Lz:=@List.cons_append
abbrev L0:=@List.pairwise_cons
abbrev L1:=@decide_eq_decide
abbrev L3:=@Bool.or_self
abbrev M6:=@List.take_add_one
abbrev M7:=@Bool.and_eq_false_iff
abbrev M8:=@Option.map_none
abbrev M9:=@List.ext_getElem?
abbrev Na:=@List.length_drop
abbrev Nb:=@List.length_singleton
abbrev Nc:=@List.flatMap_append
abbrev Nd:=@List.any_cons
abbrev Oi:=@List.any_eq_true
abbrev Oj:=@List.take_length
abbrev Ok:=@List.map_singleton
abbrev Ol:=@List.flatten_append
abbrev Om:=@List.length_filter_le
abbrev On:=@List.mem_filterMap
abbrev Qa:=@List.eraseIdx_sublist
abbrev Qb:=@List.mem_append_right
abbrev Qd:=@Array.length_toList
abbrev Te:=@Nat.eq_zero_or_pos
abbrev Tf:=@List.replicate_succ
abbrev O7:=@List.eq_of_mem_replicate
abbrev O8:=@Array.foldl_toList
abbrev O9:=@List.mem_of_find?_eq_some
abbrev Pc:=@Nat.lt_of_lt_of_le
abbrev R4:=@List.drop_eq_getElem_cons

inductive AV where
 | junk
 | bool (b:Bool)
 | int (k:IntKind) (n:Int)
 | str (s:List UInt8)
 | agg (cs:List AV)
 | tuple (vs:List AV)
 | sl (z:Nat) (es:List (List AV))
 | row (v:Value) (z:Nat) (es:List (List AV))
 | ptr (cs:List AV)
 | val (v:Value)
 | fn (f:Fn) (first captured:List AV)
 | mapv (es:List (Int×AV))
 | smapv (es:List (List UInt8×AV))
 | opt (G:List (Bool×Bool)) (x:AV)

instance:Inhabited AV:=⟨.junk⟩

abbrev Gh:=Nat->Option Nat

def Dz (g:Gh)(b o:Nat):Prop:=match g b with | none=>True | some n=>o<n

inductive Rep (g:Gh) (w:World):Value->AV->Prop where
 | junk (v:Value):Rep g w v .junk
 | bool (b:Bool):Rep g w (.bool b) (.bool b)
 | int (k:IntKind) (n:Int):Rep g w (.int k n) (.int k n)
 | str (b:ByteArray) (s:List UInt8) (h:b.data.toList=s) (hm:s.length<=maxLen):Rep g w (.string b) (.str s)
 | agg (vs:Array Value) (cs:List AV) (h:vs.size=cs.length) (hc:∀i x,cs[i]? = some x->Rep g w (vs.getD i undef) x):Rep g w (.agg vs) (.agg cs)
 | tuple (vs:Array Value) (cs:List AV) (h:vs.size=cs.length) (hc:∀i x,cs[i]? = some x->Rep g w (vs.getD i undef) x):Rep g w (.tuple vs) (.tuple cs)
 | sl0 (a:Option Addr) (cap:Nat) (z:Nat) (hm:cap<=maxLen):Rep g w (.slice a 0 cap) (.sl z [])
 | sl (b o n cap:Nat) (z:Nat) (es:List (List AV)) (hn:n=es.length) (hc:n<=cap) (hm:cap<=maxLen) (hz:∀e∈es,e.length=z) (f:Nat->Nat->Value)
  (hs:∀i e,es[i]? = some e->∀j x,e[j]? = some x->Dz g b (o+i*z+j)/\w.cell? ⟨b,o+i*z+j,none⟩=some (f i j))
  (hr:∀i e,es[i]? = some e->∀j x,e[j]? = some x->Rep g w (f i j) x):Rep g w (.slice (some ⟨b,o,none⟩) n cap) (.sl z es)
 | row (v:Value) (z:Nat) (es:List (List AV)) (h:Rep g w v (.sl z es)):Rep g w v (.row v z es)
 | ptr (b o:Nat) (cs:List AV) (f:Nat->Value)
  (hs:∀j x,cs[j]? = some x->Dz g b (o+j)/\w.cell? ⟨b,o+j,none⟩=some (f j))
  (hr:∀j x,cs[j]? = some x->Rep g w (f j) x):Rep g w (.pointer (some ⟨b,o,none⟩)) (.ptr cs)
 | val (v:Value):Rep g w v (.val v)
 | fn (f:Fn) (vs us:Array Value) (cs ds:List AV) (h:vs.size=cs.length) (hc:∀i x,cs[i]? = some x->Rep g w (vs.getD i undef) x)
  (h':us.size=ds.length) (hc':∀i x,ds[i]? = some x->Rep g w (us.getD i undef) x):Rep g w (.func f vs us) (.fn f cs ds)
 | mapv (b:Nat) (ms:Array MapEntry) (clock:Nat) (es:List (Int×AV)) (hg:g b=none) (hb:b<w.heap.size) (hh:w.heap[b]? = some (.map ms clock)) (hl:ms.size=es.length)
  (hk:∀i k x,es[i]? = some (k,x)->(ms.getD i default).key = .int .i64 k)
  (hv:∀i k x,es[i]? = some (k,x)->Rep g w (ms.getD i default).val x):Rep g w (.map (some b)) (.mapv es)
 | smapv (b:Nat) (ms:Array MapEntry) (clock:Nat) (es:List (List UInt8×AV)) (hg:g b=none) (hb:b<w.heap.size) (hh:w.heap[b]? = some (.map ms clock)) (hl:ms.size=es.length)
  (hk:∀i k x,es[i]? = some (k,x)->(ms.getD i default).key = .string ⟨k.toArray⟩)
  (hv:∀i k x,es[i]? = some (k,x)->Rep g w (ms.getD i default).val x):Rep g w (.map (some b)) (.smapv es)
 | opt (v:Value) (G:List (Bool×Bool)) (x:AV) (h:(∀p∈G,p.1=p.2)->Rep g w v x) (h':¬(∀p∈G,p.1=p.2)->v=undef):Rep g w v (.opt G x)

structure Ext (g:Gh) (w:World) (g':Gh) (w':World):Prop where
 os:w'.os=w.os
 tape:w'.tape=w.tape
 output:w'.output=w.output
 size2:w.heap.size<=w'.heap.size/\w.drawn<=w'.drawn
 full:∀b,b<w.heap.size->g b=none->g' b=none/\w'.heap[b]? = w.heap[b]?
 part:∀b n,b<w.heap.size->g b=some n->(∀m,g' b=some m->n<=m)/\∀o,o<n->w'.cell? ⟨b,o,none⟩=w.cell? ⟨b,o,none⟩

theorem Ext.size {g:Gh}{w:World}{g':Gh}{w':World}(h:Ext g w g' w'):w.heap.size<=w'.heap.size:=h.size2.1
theorem Ext.drawn {g:Gh}{w:World}{g':Gh}{w':World}(h:Ext g w g' w'):w.drawn<=w'.drawn:=h.size2.2
theorem Ext.refl (g:Gh)(w:World):Ext g w g w:=
 ⟨rfl,rfl,rfl,⟨Bi _,Bi _⟩,fun _ _ h=>⟨h,rfl⟩,fun _ _ _ h=>⟨fun m hm=>(by rw [h] at hm;cases hm;exact Bi _),fun _ _=>rfl⟩⟩

theorem Ext.trans {g g' g'':Gh}{w w' w'':World}(h:Ext g w g' w')(k:Ext g' w' g'' w''):Ext g w g'' w'':=by
  refine ⟨k.os.trans h.os,k.tape.trans h.tape,k.output.trans h.output,⟨Fp h.size k.size,Fp h.drawn k.drawn⟩,?_,?_⟩
  . intro b hb hg
    obtain ⟨h1,h2⟩:=h.full b hb hg;obtain ⟨k1,k2⟩:=k.full b (Pc hb h.size) h1;exact ⟨k1,k2.trans h2⟩
  . intro b n hb hg
    obtain ⟨h1,h2⟩:=h.part b n hb hg;have hb':=Pc hb h.size;cases hg':g' b with
    | none=>
      obtain ⟨k1,k2⟩:=k.full b hb' hg';refine ⟨fun m hm=>(by rw [k1] at hm;cases hm),fun o ho=>?_⟩;rw [<-h2 o ho];unfold World.cell?;simp only [k2]
    | some m'=>
      obtain ⟨k1,k2⟩:=k.part b m' hb' hg';have:=h1 m' hg';exact ⟨fun m hm=>Fp this (k1 m hm),fun o ho=>(k2 o (Pc ho this)).trans (h2 o ho)⟩

theorem Ext.cell {g g':Gh}{w w':World}(h:Ext g w g' w'){b o:Nat}{v:Value}(hs:Dz g b o)(hc:w.cell? ⟨b,o,none⟩=some v) :
    Dz g' b o/\w'.cell? ⟨b,o,none⟩=some v:=by
  have hb:b<w.heap.size:=World.block_lt_of_cell? _ _ hc;unfold Dz at hs ⊢;cases hg:g b with
  | none=>
    obtain ⟨h1,h2⟩:=h.full b hb hg;simp only [h1,true_and];rw [<-hc];unfold World.cell?;simp only [h2]
  | some n=>
    simp only [hg] at hs;obtain ⟨h1,h2⟩:=h.part b n hb hg;refine ⟨?_,by rw [h2 o hs];exact hc⟩;cases hg':g' b with
    | none=>trivial
    | some m=>exact Pc hs (h1 m hg')

theorem Rep.mono {g g':Gh}{w w':World}(h:Ext g w g' w'){v:Value}{x:AV}(r:Rep g w v x):Rep g' w' v x:=by
  induction r with
  | junk v=>exact .junk v
  | bool b=>exact .bool b
  | int k n=>exact .int k n
  | str b s e hm=>exact .str b s e hm
  | agg vs cs e _ ih=>exact .agg vs cs e ih
  | tuple vs cs e _ ih=>exact .tuple vs cs e ih
  | sl0 a cap z hm=>exact .sl0 a cap z hm
  | sl b o n cap z es hn hc hm hz f hs _ ih=>
    exact .sl b o n cap z es hn hc hm hz f (fun i e hi j x hj=>h.cell (hs i e hi j x hj).1 (hs i e hi j x hj).2) ih
  | row v z es _ ih=>exact .row v z es ih
  | ptr b o cs f hs _ ih=>exact .ptr b o cs f (fun j x hj=>h.cell (hs j x hj).1 (hs j x hj).2) ih
  | val v=>exact .val v
  | fn f vs us cs ds e _ e' _ ih ih'=>exact .fn f vs us cs ds e ih e' ih'
  | mapv b ms clock es hg hb hh hl hk _ ih=>
    obtain ⟨h1,h2⟩:=h.full b hb hg;exact .mapv b ms clock es h1 (Pc hb h.size) (h2.trans hh) hl hk ih
  | smapv b ms clock es hg hb hh hl hk _ ih=>
    obtain ⟨h1,h2⟩:=h.full b hb hg;exact .smapv b ms clock es h1 (Pc hb h.size) (h2.trans hh) hl hk ih
  | opt v G x _ h' ih=>exact .opt v G x ih h'

def Cv (g:Gh)(w:World)(vs:Array Value)(cs:List AV):Prop:=vs.size=cs.length/\∀i x,cs[i]? = some x->Rep g w (vs.getD i undef) x

theorem Cv.mono {g g':Gh}{w w':World}(h:Ext g w g' w'){vs:Array Value}{cs:List AV}(r:Cv g w vs cs):Cv g' w' vs cs:=
 ⟨r.1,fun i x hi=>(r.2 i x hi).mono h⟩

theorem Rep.inv_bool {g:Gh}{w:World}{v:Value}{b:Bool}(r:Rep g w v (.bool b)):v = .bool b:=by cases r;rfl
theorem Rep.inv_int {g:Gh}{w:World}{v:Value}{k:IntKind}{n:Int}(r:Rep g w v (.int k n)):v = .int k n:=by cases r;rfl
theorem Rep.inv_val {g:Gh}{w:World}{v u:Value}(r:Rep g w v (.val u)):v=u:=by cases r;rfl
theorem Rep.inv_str {g:Gh}{w:World}{v:Value}{s:List UInt8}(r:Rep g w v (.str s)):v = .string ⟨s.toArray⟩/\s.length<=maxLen:=by
 cases r with | str b _ h hm=>subst h;exact ⟨rfl,hm⟩
theorem Rep.inv_agg {g:Gh}{w:World}{v:Value}{cs:List AV}(r:Rep g w v (.agg cs)):∃vs,v = .agg vs/\Cv g w vs cs:=by
 cases r with | agg vs _ h hc=>exact ⟨vs,rfl,h,hc⟩
theorem Rep.inv_tuple {g:Gh}{w:World}{v:Value}{cs:List AV}(r:Rep g w v (.tuple cs)):∃vs,v = .tuple vs/\Cv g w vs cs:=by
 cases r with | tuple vs _ h hc=>exact ⟨vs,rfl,h,hc⟩
theorem Rep.inv_fn {g:Gh}{w:World}{v:Value}{f:Fn}{cs ds:List AV}(r:Rep g w v (.fn f cs ds)):∃vs us,v = .func f vs us/\Cv g w vs cs/\Cv g w us ds:=by
 cases r with | fn _ vs us _ _ h hc h' hc'=>exact ⟨vs,us,rfl,⟨h,hc⟩,h',hc'⟩
theorem Rep.inv_row {g:Gh}{w:World}{v u:Value}{z:Nat}{es:List (List AV)}(r:Rep g w v (.row u z es)):v=u/\Rep g w v (.sl z es):=by
 cases r with | row _ _ _ h=>exact ⟨rfl,h⟩
theorem Rep.inv_sl {g:Gh}{w:World}{v:Value}{z:Nat}{es:List (List AV)}(r:Rep g w v (.sl z es)) :
  ∃a n cap,v = .slice a n cap/\n=es.length/\n<=cap/\cap<=maxLen/\(es = []\/∃b o,a=some ⟨b,o,none⟩/\(∀e∈es,e.length=z)/\∃f:Nat->Nat->Value,
   (∀i e,es[i]? = some e->∀j x,e[j]? = some x->Dz g b (o+i*z+j)/\w.cell? ⟨b,o+i*z+j,none⟩=some (f i j))/\
   (∀i e,es[i]? = some e->∀j x,e[j]? = some x->Rep g w (f i j) x)):=by
 cases r with
 | sl0 a cap _ hm=>exact ⟨a,0,cap,rfl,rfl,Bn _,hm,.inl rfl⟩
 | sl b o n cap _ es hn hc hm hz f hs hr=>exact ⟨_,n,cap,rfl,hn,hc,hm,.inr ⟨b,o,rfl,hz,f,hs,hr⟩⟩
theorem Rep.inv_opt {g:Gh}{w:World}{v:Value}{G:List (Bool×Bool)}{x:AV}(r:Rep g w v (.opt G x)):((∀p∈G,p.1=p.2)->Rep g w v x)/\(¬(∀p∈G,p.1=p.2)->v=undef):=by
 cases r with | opt _ _ _ h h'=>exact ⟨h,h'⟩
theorem Rep.inv_ptr {g:Gh}{w:World}{v:Value}{cs:List AV}(r:Rep g w v (.ptr cs)) :
  ∃b o,v = .pointer (some ⟨b,o,none⟩)/\∃f:Nat->Value,(∀j x,cs[j]? = some x->Dz g b (o+j)/\w.cell? ⟨b,o+j,none⟩=some (f j))/\(∀j x,cs[j]? = some x->Rep g w (f j) x):=by
 cases r with | ptr b o _ f hs hr=>exact ⟨b,o,rfl,f,hs,hr⟩

inductive HO where
 | box (b:Nat) (T:TypeId) (cs:List AV)
 | row (v:Value) (n:Nat) (E:TypeId) (z:Nat)
 | mapo (b:Nat) (es:List (Int×AV))
 | smap (b:Nat) (es:List (List UInt8×AV))
 | kmap (b:Nat) (es:List (List AV×AV))
 | app (b m cap:Nat) (es:List (List AV)) (E:TypeId) (z:Nat)
 | buf (v:Value) (es:List (List AV)) (E:TypeId) (z:Nat)
 | obj (b:Nat) (o:Obj)
 | since (g:Gh) (w:World)

def HO.blk:HO->Option Nat
 | .box b _ _=>some b
 | .row (.slice (some a) _ _) _ _ _=>some a.block
 | .row _ _ _ _=>none
 | .mapo b _=>some b
 | .smap b _=>some b
 | .kmap b _=>some b
 | .app b _ _ _ _ _=>some b
 | .buf (.slice (some a) _ _) _ _ _=>some a.block
 | .buf _ _ _ _=>none
 | .obj b _=>some b
 | .since _ _=>none

def HO.ok (g:Gh)(w:World):HO->Prop
 | .box b T cs=>g b=some 0/\∃vs,w.heap[b]? = some (.cells vs T (0,0))/\Cv g w vs cs
 | .row v n E z=>(v = .slice none 0 0/\n=0)\/∃b cap cur,v = .slice (some ⟨b,0,none⟩) n cap/\g b=some (n*z)/\w.heap[b]? = some (.cells cur E (0,0))/\cur.size=cap*z/\n<=cap/\cap<=maxLen
 | .mapo b es=>g b=some 0/\∃ms clock,w.heap[b]? = some (.map ms clock)/\ms.size=es.length/\(∀i k x,es[i]? = some (k,x)->(ms.getD i default).key = .int .i64 k)/\(∀i k x,es[i]? = some (k,x)->Rep g w (ms.getD i default).val x)
 | .smap b es=>g b=some 0/\∃ms clock,w.heap[b]? = some (.map ms clock)/\ms.size=es.length/\(∀i k x,es[i]? = some (k,x)->(ms.getD i default).key = .string ⟨k.toArray⟩)/\(∀i k x,es[i]? = some (k,x)->Rep g w (ms.getD i default).val x)
 | .kmap b es=>g b=some 0/\∃ms clock,w.heap[b]? = some (.map ms clock)/\ms.size=es.length/\(clock=ms.size/\∀i,i<ms.size->(ms.getD i default).born=i)/\(∀i k x,es[i]? = some (k,x)->∃us,(ms.getD i default).key = .agg us/\Cv g w us k)/\(∀i k x,es[i]? = some (k,x)->Rep g w (ms.getD i default).val x)
 | .app b m cap es E z=>g b=some (es.length*z)/\∃cur,w.heap[b]? = some (.cells cur E (0,0))/\cur.size=cap*z/\es.length<=m/\m<=cap/\cap<=maxLen/\Rep g w (.slice (some ⟨b,0,none⟩) es.length cap) (.sl z es)
 | .buf v es E z=>(v = .slice none 0 0/\es = [])\/∃b cap cur,v = .slice (some ⟨b,0,none⟩) es.length cap/\g b=some 0/\w.heap[b]? = some (.cells cur E (0,0))/\cur.size=cap*z/\es.length<=cap/\cap<=maxLen/\(∀e∈es,e.length=z)/\∀i x,es.flatten[i]? = some x->Rep g w (cur.getD i undef) x
 | .obj b o=>g b=some 0/\w.heap[b]? = some o
 | .since g0 w0=>∀v x,Rep g0 w0 v x->Rep g w v x

def P1:List AV:=[.int .u64 1,.int .u64 10,.int .u64 100,.int .u64 1000,.int .u64 10000,.int .u64 100000,.int .u64 1000000,.int .u64 10000000,.int .u64 100000000,.int .u64 1000000000,.int .u64 10000000000,.int .u64 100000000000,.int .u64 1000000000000,.int .u64 10000000000000,.int .u64 100000000000000,.int .u64 1000000000000000,.int .u64 10000000000000000,.int .u64 100000000000000000,.int .u64 1000000000000000000,.int .u64 10000000000000000000]
def P6:List AV:=[.int .i64 0,.int .i64 0,.bool true,.bool true,.bool false,.bool false,.int .i64 2,.int .i64 64,.bool false,.bool false,.bool false,.bool false,.int .i64 2,.int .i64 64,.bool false,.bool false,.bool false,.bool false,.int .i64 2,.int .i64 64,.bool false,.bool false,.bool false,.bool false,.int .i64 1,.int .i64 1,.bool false,.bool false,.bool false,.bool false,.int .i64 1,.int .i64 1,.bool true,.bool true,.bool true,.bool false,.int .i64 1,.int .i64 1,.bool false,.bool false,.bool true,.bool true,.int .i64 1,.int .i64 1,.bool false,.bool true,.bool false,.bool false,.int .i64 2,.int .i64 2,.bool false,.bool false,.bool false,.bool false,.int .i64 1,.int .i64 1,.bool true,.bool true,.bool true,.bool false,.int .i64 1,.int .i64 1,.bool false,.bool false,.bool true,.bool true]
def globals:List (Nat×(List AV->Prop)):=[(1,fun cs=>cs=P1),(0,fun cs=>cs=P6)]
def tables:List (Nat×Array Value):=[(1,#[.int .u64 1,.int .u64 10,.int .u64 100,.int .u64 1000,.int .u64 10000,.int .u64 100000,.int .u64 1000000,.int .u64 10000000,.int .u64 100000000,.int .u64 1000000000,.int .u64 10000000000,.int .u64 100000000000,.int .u64 1000000000000,.int .u64 10000000000000,.int .u64 100000000000000,.int .u64 1000000000000000,.int .u64 10000000000000000,.int .u64 100000000000000000,.int .u64 1000000000000000000,.int .u64 10000000000000000000])]

structure GlobOK (g:Gh) (w:World):Prop where
 vars:∀p∈globals,∃cs,p.2 cs/\Rep g w (.pointer (some ⟨p.1,0,none⟩)) (.ptr cs)
 tabs:∀p∈tables,g p.1=none/\∃T fr,w.heap[p.1]? = some (.cells p.2 T fr)

theorem GlobOK.mono {g g':Gh}{w w':World}(h:Ext g w g' w')(r:GlobOK g w):GlobOK g' w':=by
 refine ⟨fun p hp=>?_,fun p hp=>?_⟩
 .
  obtain ⟨cs,h1,h2⟩:=r.vars p hp;exact ⟨cs,h1,h2.mono h⟩
 obtain ⟨h1,T,fr,h2⟩:=r.tabs p hp;obtain ⟨k1,k2⟩:=h.full p.1 (Array.getElem?_eq_some_iff.1 h2).1 h1;exact ⟨k1,T,fr,k2.trans h2⟩
structure HOK (g:Gh) (w:World) (H:List HO):Prop where
 nodup:(H.filterMap HO.blk).Nodup
 ok:∀o∈H,o.ok g w
 glob:GlobOK g w

theorem HOK.nil {g:Gh}{w:World}(h:GlobOK g w):HOK g w []:=⟨by simp,by simp,h⟩

theorem HO.ok_lt {g:Gh}{w:World}{o:HO}(h:o.ok g w){b:Nat}(hb:o.blk=some b):b<w.heap.size/\g b≠none:=by
  have lt:∀{o:Obj},w.heap[b]? = some o->b<w.heap.size:=fun h=>(Array.getElem?_eq_some_iff.1 h).1
  cases o with
  | box b' T cs=>
    simp only [HO.blk,Option.some.injEq] at hb;subst hb;obtain ⟨h1,vs,h2,_⟩:=h;exact ⟨lt h2,by rw [h1];simp⟩
  | row v n E z=>
    rcases h with ⟨rfl,_⟩ | ⟨b',cap,cur,rfl,h1,h2,_⟩
    . simp [HO.blk] at hb
    . simp only [HO.blk,Option.some.injEq] at hb;subst hb
      exact ⟨lt h2,by rw [h1];simp⟩
  | mapo b' es=>
    simp only [HO.blk,Option.some.injEq] at hb;subst hb;obtain ⟨h1,ms,c,h2,_⟩:=h;exact ⟨lt h2,by rw [h1];simp⟩
  | smap b' es=>
    simp only [HO.blk,Option.some.injEq] at hb;subst hb;obtain ⟨h1,ms,c,h2,_⟩:=h;exact ⟨lt h2,by rw [h1];simp⟩
  | kmap b' es=>
    simp only [HO.blk,Option.some.injEq] at hb;subst hb;obtain ⟨h1,ms,c,h2,_⟩:=h;exact ⟨lt h2,by rw [h1];simp⟩
  | app b' m cap es E z=>
    simp only [HO.blk,Option.some.injEq] at hb;subst hb;obtain ⟨h1,cur,h2,_⟩:=h;exact ⟨lt h2,by rw [h1];simp⟩
  | buf v es E z=>
    rcases h with ⟨rfl,_⟩ | ⟨b',cap,cur,rfl,h1,h2,_⟩
    . simp [HO.blk] at hb
    . simp only [HO.blk,Option.some.injEq] at hb;subst hb
      exact ⟨lt h2,by rw [h1];simp⟩
  | obj b' o=>
    simp only [HO.blk,Option.some.injEq] at hb;subst hb;exact ⟨lt h.2,by rw [h.1];simp⟩
  | since _ _=>simp [HO.blk] at hb

theorem HO.ok_of_same {g g':Gh}{w w':World}(h:Ext g w g' w'){o:HO}(ho:o.ok g w)
    (hs:∀b,o.blk=some b->g' b=g b/\w'.heap[b]? = w.heap[b]?):o.ok g' w':=by
  cases o with
  | box b T cs=>
    obtain ⟨h1,vs,h2,h3⟩:=ho;obtain ⟨e1,e2⟩:=hs b rfl;exact ⟨e1.trans h1,vs,e2.trans h2,h3.mono h⟩
  | row v n E z=>
    rcases ho with ho | ⟨b,cap,cur,rfl,h1,h2,h3⟩
    . exact .inl ho
    . obtain ⟨e1,e2⟩:=hs b rfl
      exact .inr ⟨b,cap,cur,rfl,e1.trans h1,e2.trans h2,h3⟩
  | mapo b es=>
    obtain ⟨h1,ms,c,h2,h3,h4,h5⟩:=ho;obtain ⟨e1,e2⟩:=hs b rfl;exact ⟨e1.trans h1,ms,c,e2.trans h2,h3,h4,fun i k x hi=>(h5 i k x hi).mono h⟩
  | smap b es=>
    obtain ⟨h1,ms,c,h2,h3,h4,h5⟩:=ho;obtain ⟨e1,e2⟩:=hs b rfl;exact ⟨e1.trans h1,ms,c,e2.trans h2,h3,h4,fun i k x hi=>(h5 i k x hi).mono h⟩
  | kmap b es=>
    obtain ⟨h1,ms,c,h2,h3,h6,h4,h5⟩:=ho;obtain ⟨e1,e2⟩:=hs b rfl
    exact ⟨e1.trans h1,ms,c,e2.trans h2,h3,h6,fun i k x hi=>by
      obtain ⟨us,k1,k2⟩:=h4 i k x hi;exact ⟨us,k1,k2.mono h⟩,fun i k x hi=>(h5 i k x hi).mono h⟩
  | app b m cap es E z=>
    obtain ⟨h1,cur,h2,h3,h4,h5,h6,h7⟩:=ho;obtain ⟨e1,e2⟩:=hs b rfl;exact ⟨e1.trans h1,cur,e2.trans h2,h3,h4,h5,h6,h7.mono h⟩
  | buf v es E z=>
    rcases ho with ho | ⟨b,cap,cur,rfl,h1,h2,h3,h4,h5,h6,h7⟩
    . exact .inl ho
    . obtain ⟨e1,e2⟩:=hs b rfl
      exact .inr ⟨b,cap,cur,rfl,e1.trans h1,e2.trans h2,h3,h4,h5,h6,fun i x hi=>(h7 i x hi).mono h⟩
  | obj b o=>
    obtain ⟨e1,e2⟩:=hs b rfl;exact ⟨e1.trans ho.1,e2.trans ho.2⟩
  | since _ _=>exact fun v x r=>(ho v x r).mono h

theorem HOK.of_same {g g':Gh}{w w':World}(h:Ext g w g' w'){H:List HO}(hH:HOK g w H)
  (hs:∀o∈H,∀b,o.blk=some b->g' b=g b/\w'.heap[b]? = w.heap[b]?):HOK g' w' H:=
 ⟨hH.nodup,fun o ho=>HO.ok_of_same h (hH.ok o ho) (hs o ho),hH.glob.mono h⟩

theorem HOK.sub {g:Gh}{w:World}{H H':List HO}(hH:HOK g w H)(hs:H'.Sublist H):HOK g w H':=
 ⟨hH.nodup.sublist (hs.filterMap _),fun o ho=>hH.ok o (hs.subset ho),hH.glob⟩


theorem Ext.drew (g:Gh)(w:World):Ext g w g w.drew:=
 ⟨rfl,rfl,rfl,⟨Bi _,Nat.le_succ _⟩,fun _ _ h=>⟨h,rfl⟩,fun _ _ _ h=>⟨fun m hm=>(by rw [h] at hm;cases hm;exact Bi _),fun _ _=>rfl⟩⟩

def Gh.put (g:Gh)(b:Nat)(n:Option Nat):Gh:=fun x=>if x=b then n else g x
theorem Gh.Aai (g:Gh)(b:Nat)(n:Option Nat):Gh.put g b n b=n:=by simp [Gh.put]
theorem Gh.Aal (g:Gh){b c:Nat}(n:Option Nat)(h:c≠b):Gh.put g b n c=g c:=by simp [Gh.put,h]

theorem F4 (w:World)(o:Obj){b:Nat}(h:b<w.heap.size):(w.alloc o).heap[b]? = w.heap[b]? :=by
 show (w.heap.push o)[b]? = _;rw [Array.getElem?_push,if_neg (by omega)]
theorem Ci (w:World)(o:Obj):(w.alloc o).heap[w.heap.size]? = some o:=by
 show (w.heap.push o)[w.heap.size]? = _;simp
theorem Bq {w:World}{b:Nat}{vs:Array Value}{T:TypeId}{fr:Nat×Nat}(h:w.heap[b]? = some (.cells vs T fr))(o:Nat):w.cell? ⟨b,o,none⟩=vs[o]? :=by
 unfold World.cell?;simp [h]

theorem Ext.alloc (g:Gh)(w:World)(o:Obj)(n:Option Nat):Ext g w (g.put w.heap.size n) (w.alloc o):=by
 refine ⟨rfl,rfl,rfl,by simp,?_,?_⟩
 .
  intro b hb hg;exact ⟨by rw [Gh.Aal _ _ (by omega)];exact hg,F4 w o hb⟩
 intro b m hb hg;refine ⟨fun m' hm=>(by rw [Gh.Aal _ _ (by omega),hg] at hm;cases hm;exact Bi _),fun x _=>?_⟩;unfold World.cell?;rw [F4 w o hb]
theorem HOK.alloc {g:Gh}{w:World}{H:List HO}(hH:HOK g w H)(o:Obj)(n:Option Nat):HOK (g.put w.heap.size n) (w.alloc o) H:=
 hH.of_same (Ext.alloc g w o n) fun x hx b hb=>by
  have:=(HO.ok_lt (hH.ok x hx) hb).1;exact ⟨Gh.Aal _ _ (by omega),F4 w o this⟩

theorem HOK.drew {g:Gh}{w:World}{H:List HO}(hH:HOK g w H):HOK g w.drew H:=
 hH.of_same (Ext.drew g w) fun _ _ _ _=>⟨rfl,rfl⟩

theorem HOK.cons {g:Gh}{w:World}{H:List HO}(hH:HOK g w H){o:HO}(ho:o.ok g w)(hb:∀b,o.blk=some b->∀x∈H,x.blk≠some b):HOK g w (o::H):=by
  refine ⟨?_,fun x hx=>?_,hH.glob⟩
  . cases hk:o.blk with
    | none=>simpa [J1,hk] using hH.nodup
    | some b=>
      simp only [J1,hk,H8];refine ⟨fun hm=>?_,hH.nodup⟩;obtain ⟨x,hx,he⟩:=On.1 hm;exact hb b hk x hx he
  . rcases Cz.1 hx with rfl | hx
    . exact ho
    exact hH.ok x hx
end Go.Aw
namespace Go.Aw

def get:List (Nat×AV)->Nat->AV
 | [],_=>.junk
 | (j,x)::r,i=>bif Nat.beq j i then x else get r i

def avc:Value->AV
 | .bool b=>.bool b
 | .int k n=>.int k n
 | .string b=>bif Nat.ble b.data.toList.length 4096 then .str b.data.toList else .val (.string b)
 | v=>.val v

def Dn (sl:List (Nat×AV)):Operand->AV
 | .tmp t=>get sl t
 | .const v=>avc v
 | .global g=>.val (.pointer (some ⟨g,0,none⟩))
 | .func f=>.fn (.func f) [] []

structure St where
 sl:List (Nat×AV)
 H:List HO
 n:Nat

def Dy (d:Option Nat)(x:AV)(sl:List (Nat×AV)):List (Nat×AV):=match d with | none=>sl | some d=>(d,x)::sl
def J5 (d:Option Nat)(n:Nat):Bool:=match d with | none=>true | some d=>Nat.ble (d+1) n

structure Gm (g:Gh) (s:St) (a:Act) (w:World):Prop where
 size:a.tmps.size=s.n
 defers:a.defers = []
 sl:∀i,Rep g w (a.tmps.getD i undef) (get s.sl i)
 heap:HOK g w s.H

theorem Fo (j:Nat)(x:AV)(r:List (Nat×AV))(i:Nat):get ((j,x)::r) i=if j=i then x else get r i:=by
 show (bif Nat.beq j i then x else get r i)=_;by_cases h:j=i
 . subst h;simp
 have hb:Nat.beq j i=false:=by
  cases hq:Nat.beq j i with
  | false=>rfl
  | true=>exact absurd (Ey hq) h
 simp [h,hb]
theorem Fb (g:Gh)(w:World)(v:Value):Rep g w v (avc v):=by
  cases v with
  | string b=>
    simp only [avc];cases h:Nat.ble b.data.toList.length 4096 with
    | true=>exact .str b _ rfl (Fp (J0 h) (by decide))
    | false=>exact .val _
  | bool b=>exact .bool b
  | int k n=>exact .int k n
  | _=>exact .val _

theorem Gm.eval {g:Gh}{s:St}{a:Act}{w:World}(h:Gm g s a w)(y:Operand):Rep g w (a.eval y) (Dn s.sl y):=by
 cases y with
 | tmp t=>exact h.sl t
 | const v=>exact Fb g w v
 | global n=>exact .val _
 | func f=>exact .fn _ _ _ _ _ rfl (by simp) rfl (by simp)

theorem nO (a:Act)(d:Nat)(v:Value)(h:d<a.tmps.size)(i:Nat):(a.put (some d) v).tmps.getD i undef=if d=i then v else a.tmps.getD i undef:=by
 simp only [Act.put,Ce,Array.getElem?_setIfInBounds];by_cases e:d=i
 . subst e;simp [h]
 simp [e]
theorem Gm.put {g g':Gh}{s:St}{a:Act}{w w':World}(h:Gm g s a w)(hx:Ext g w g' w'){d:Option Nat}(hd:J5 d s.n=true){v:Value}{x:AV}(hv:Rep g' w' v x)
    {H':List HO} (hH:HOK g' w' H'):Gm g' ⟨Dy d x s.sl,H',s.n⟩ (a.put d v) w':=by
  cases d with
  | none=>exact ⟨h.size,h.defers,fun i=>(h.sl i).mono hx,hH⟩
  | some d=>
    have hd':d<a.tmps.size:=by have:=J0 hd;rw [h.size];exact this
    refine ⟨by simpa [Act.put] using h.size,h.defers,fun i=>?_,hH⟩;rw [nO a d v hd'];show Rep g' w' _ (get ((d,x)::s.sl) i);rw [Fo];by_cases e:d=i
    . simp only [e,if_true];exact hv
    simp only [e,if_false];exact (h.sl i).mono hx
def lS (g:Gh)(w:World)(a:Act)(o:Oper)(ρ:Operand->AV):Prop:=∀y∈o.op.operands,Rep g w (a.eval y) (ρ y)

def Jj (P:Program)(o:Oper)(ρ:Operand->AV)(H:List HO)(R:AV->List HO->Prop):Prop:=
 ∀(g:Gh) (w:World) (a:Act) (next:Act->World->Prop) (Q:Exit->Act->World->Prop),lS g w a o ρ->HOK g w H->
  (∀g' w' v x H',R x H'->Rep g' w' v x->HOK g' w' H'->Ext g w g' w'->next (a.put o.dst v) w')->o.wp P a w next Q

def Dr (P:Program)(o:Oper)(ρ:Operand->AV)(K:List HO->Prop)(x:AV):Prop:=
 ∀(g:Gh) (w:World) (a:Act) (H:List HO) (next:Act->World->Prop) (Q:Exit->Act->World->Prop),lS g w a o ρ->HOK g w H->K H->
  (∀g' w' v,Rep g' w' v x->HOK g' w' H->Ext g w g' w'->next (a.put o.dst v) w')->o.wp P a w next Q

theorem Dr.e {P:Program}{o:Oper}{ρ:Operand->AV}{K:List HO->Prop}{x:AV}(h:Dr P o ρ K x){H:List HO}(hK:K H):Jj P o ρ H (fun x' H'=>x'=x/\H'=H):=
 fun g w a next Q hr hH hn=>h g w a H next Q hr hH hK fun g' w' v hv hH' hx=>hn g' w' v x H ⟨rfl,rfl⟩ hv hH' hx

theorem Dr.of_run {P:Program}{o:Oper}{ρ:Operand->AV}{K:List HO->Prop}{x:AV}
  (h:∀g w a,lS g w a o ρ->∃v,(execOp a.eval o).run P w = .ok (.value v) w/\Rep g w v x):Dr P o ρ K x:=by
 intro g w a H next Q hr hH _ hn
 obtain ⟨v,hv,hx⟩:=h g w a hr;unfold Oper.wp;rw [hv];exact hn g w v hx hH (Ext.refl g w)

def fW (P:Program)(ops:Array Oper)(Q:Exit->Act->World->Prop):List Oper->Act->World->Prop
 | [],a,w=>Q .normal a w
 | o::r,a,w=>if Region.wanted o (yielded ops a.tmps) then o.wp P a w (fW P ops Q r) Q else fW P ops Q r (a.put o.dst undef) w

theorem Je {P:Program}{ops:Array Oper}{Q:Exit->Act->World->Prop}:∀(l:List Oper) (k:Nat) (a:Act) (w:World),(∀j,l[j]? = ops[k+j]?)->
    fW P ops Q l a w->wpOps P ops Q (List.range' k l.length) a w
  | [],_,_,_,_,h=>h
  | o::r,k,a,w,hl,h=>by
    have h0:ops[k]? = some o:=by simpa using (hl 0).symm
    have hr:∀j,r[j]? = ops[k+1+j]? :=fun j=>by have:=hl (j+1);simpa [Nat.add_assoc,Nat.add_comm 1 j] using this
    simp only [Eb,List.range'_succ,wpOps,h0];unfold fW at h;split
    . rename_i hw;rw [if_pos hw] at h
      exact .inl (Oper.wp_mono (fun a' w' h'=>Je r (k+1) a' w' hr h') h)
    . rename_i hw;rw [if_neg hw] at h
      exact Je r (k+1) _ w hr h

structure AOL (P:Program) (ops:Array Oper) (K:St->Prop) (l:List Oper) (s:St):Prop where
 run:∀(Q:Exit->Act->World->Prop) (g:Gh) (a:Act) (w:World),Gm g s a w->(∀g' s' a' w',Gm g' s' a' w'->Ext g w g' w'->K s'->Q .normal a' w')->fW P ops Q l a w

theorem AOL.nil {P:Program}{ops:Array Oper}{K:St->Prop}{s:St}(h:K s):AOL P ops K [] s:=
 ⟨fun _ g a w hg hQ=>hQ g s a w hg (Ext.refl g w) h⟩

theorem Eg {o:Oper}{y:Nat->Option Bool}(h:o.guard=none):Region.wanted o y=true:=by simp [Region.wanted,h]

theorem AOL.cons {P:Program}{ops:Array Oper}{K:St->Prop}{s:St}{o:Oper}{r:List Oper}(hg:o.guard=none){R:AV->List HO->Prop}
  (h:Jj P o (Dn s.sl) s.H R) (hd:J5 o.dst s.n=true) (k:∀x H',R x H'->AOL P ops K r ⟨Dy o.dst x s.sl,H',s.n⟩):AOL P ops K (o::r) s:=by
 refine ⟨fun Q g a w hG hQ=>?_⟩;unfold fW;rw [if_pos (Eg hg)];refine h g w a _ _ (fun y _=>hG.eval y) hG.heap fun g' w' v x H' hR hv hH hx=>?_
 exact (k x H' hR).run Q g' _ w' (hG.put hx hd hv hH) fun g'' s'' a'' w'' h1 h2 h3=>hQ g'' s'' a'' w'' h1 (hx.trans h2) h3

theorem AOL.Aag {P:Program}{ops:Array Oper}{K:St->Prop}{s:St}{d:Option Nat}{op:Op}{t:TypeId}{pos:String}{after:Array Edge}{r:List Oper}{x:AV}
  (h:Dr P ⟨d,op,t,pos,after,none⟩ (Dn s.sl) (fun _=>True) x) (hd:J5 d s.n=true) (k:AOL P ops K r ⟨Dy d x s.sl,s.H,s.n⟩):AOL P ops K (⟨d,op,t,pos,after,none⟩::r) s:=
 AOL.cons rfl (h.e trivial) hd fun _ _ ⟨hx,hH⟩=>by subst hx;subst hH;exact k

theorem AOL.Aam {P:Program}{ops:Array Oper}{K:St->Prop}{s:St}{d:Option Nat}{op:Op}{t:TypeId}{pos:String}{after:Array Edge}{r:List Oper}{x:AV}{C:List HO->Prop}
  (h:Dr P ⟨d,op,t,pos,after,none⟩ (Dn s.sl) C x) (hC:C s.H) (hd:J5 d s.n=true) (k:AOL P ops K r ⟨Dy d x s.sl,s.H,s.n⟩):AOL P ops K (⟨d,op,t,pos,after,none⟩::r) s:=
 AOL.cons rfl (h.e hC) hd fun _ _ ⟨hx,hH⟩=>by subst hx;subst hH;exact k

theorem AOL.e {P:Program}{ops:Array Oper}{K:St->Prop}{s:St}{d:Option Nat}{op:Op}{t:TypeId}{pos:String}{after:Array Edge}{r:List Oper}{R:AV->List HO->Prop}
  (h:Jj P ⟨d,op,t,pos,after,none⟩ (Dn s.sl) s.H R) (hd:J5 d s.n=true) (k:∀x H',R x H'->AOL P ops K r ⟨Dy d x s.sl,H',s.n⟩):AOL P ops K (⟨d,op,t,pos,after,none⟩::r) s:=
 AOL.cons rfl h hd k

def Tm (ops:Array Oper)(j:Nat):Option Nat:=(ops[j]?).bind (·.dst)

theorem fT {ops:Array Oper}{j d:Nat}(h:Tm ops j=some d){g:Gh}{w:World}{tmps:Array Value}{b:Bool}(r:Rep g w (tmps.getD d undef) (.bool b)):yielded ops tmps j=some b:=by
 have:=r.inv_bool;unfold yielded Tm at *;rw [Ce] at this;simp only [h,Option.bind_some];cases ht:tmps[d]? with
 | none=>rw [ht] at this;simp [undef] at this
 | some u=>rw [ht] at this;simp at this;subst this;rfl

theorem Ts {ops:Array Oper}{o:Oper}{j d:Nat}{want b:Bool}(hg:o.guard=some (j,want))(h:Tm ops j=some d){g:Gh}{w:World}{tmps:Array Value}
  (r:Rep g w (tmps.getD d undef) (.bool b)):Region.wanted o (yielded ops tmps)=(b==want):=by
 simp [Region.wanted,hg,fT h r]

def H9 (G:List (Bool×Bool)):Prop:=∀p∈G,p.1=p.2

def Zs (G:List (Bool×Bool))(x y:AV):Prop:=∀g w v,H9 G->Rep g w v x->Rep g w v y

theorem Zs.self (G:List (Bool×Bool))(x:AV):Zs G (.opt G x) x:=fun _ _ _ h r=>r.inv_opt.1 h
theorem Zs.suf (G G':List (Bool×Bool))(x:AV):Zs G (.opt (G++G') x) (.opt G' x):=fun _ _ _ h r=>by
 refine .opt _ _ _ (fun h'=>r.inv_opt.1 fun p hp=>?_) (fun h'=>r.inv_opt.2 fun h2=>h' fun p hp=>h2 p (Qb _ hp));rcases Da.1 hp with hp | hp
 . exact h p hp
 exact h' p hp
def El (ops:Array Oper)(o:Oper)(sl:List (Nat×AV)):Option (List (Bool×Bool)):=
  match o.guard with
  | none=>some []
  | some (j,want)=>match Tm ops j with
    | some d=>match get sl d with
      | .bool b=>some [(b,want)]
      | .opt G (.bool b)=>some (G ++ [(b,want)])
      | _=>none
    | none=>none

inductive PStep (P:Program) (ops:Array Oper) (o:Oper) (sl:List (Nat×AV)) (K:List HO->Prop) (x:AV):Prop where
 | run (hg:o.guard=none) (h:Dr P o (Dn sl) K x)
 | opt (G:List (Bool×Bool)) (y:AV) (L:List (Nat×AV)) (hw:El ops o sl=some G) (hL:∀p∈L,Zs G (get sl p.1) p.2) (h:H9 G->Dr P o (Dn (L++sl)) K y) (hx:x = .opt G y)

theorem Ck {ops:Array Oper}{o:Oper}{t:Nat}(h : .tmp t∈o.op.operands):t∈o.looksAt ops:=
 La _ (On.2 ⟨.tmp t,by simpa using h,rfl⟩)

theorem N6 {ops:Array Oper}{o:Oper}{j d:Nat}{want:Bool}(hg:o.guard=some (j,want))(h:Tm ops j=some d):d∈o.looksAt ops:=by
 unfold Oper.looksAt Tm at *;simp [hg,h]

theorem Hp {ops:Array Oper}{o:Oper}{sl:List (Nat×AV)}{G:List (Bool×Bool)}(h:El ops o sl=some G){g:Gh}{w:World}{a:Act}
    (hr:∀d,d∈o.looksAt ops->Rep g w (a.tmps.getD d undef) (get sl d)):(H9 G->Region.wanted o (yielded ops a.tmps)=true)/\(¬H9 G->Region.wanted o (yielded ops a.tmps)=false):=by
  unfold El at h;cases hg:o.guard with
  | none=>
    simp only [hg,Option.some.injEq] at h;subst h;exact ⟨fun _=>Eg hg,fun h=>absurd (fun p hp=>by cases hp) h⟩
  | some jw=>
    obtain ⟨j,want⟩:=jw;simp only [hg] at h;cases hs:Tm ops j with
    | none=>simp [hs] at h
    | some d=>
      simp only [hs] at h;have hr':=hr d (N6 hg hs);cases hv:get sl d with
      | bool c=>
        rw [hv] at hr';simp only [hv,Option.some.injEq] at h;subst h;rw [Ts hg hs hr'];simp [H9]
      | opt G' y=>
        rw [hv] at hr';cases y with
        | bool c=>
          simp only [hv,Option.some.injEq] at h;subst h;obtain ⟨h1,h2⟩:=hr'.inv_opt;by_cases hG:∀p∈G',p.1=p.2
          . rw [Ts hg hs (h1 hG)]
            refine ⟨fun h=>?_,fun h=>?_⟩
            . have:=h (c,want) (by simp);simpa using this
            . cases hb:c==want with
              | false=>rfl
              | true=>
                exfalso;apply h;intro p hp;rcases Da.1 hp with hp | hp
                . exact hG p hp
                simp only [F3] at hp;subst hp;simpa using hb
          . refine ⟨fun h=>absurd (fun p hp=>h p (La _ hp)) hG,fun _=>?_⟩
            have hu:=h2 hG
            have:yielded ops a.tmps j=none:=by
              unfold yielded;unfold Tm at hs;rw [Ce] at hu;simp only [hs,Option.bind_some];cases ht:a.tmps[d]? with
              | none=>rfl
              | some u=>rw [ht] at hu;simp [undef] at hu;subst hu;rfl
            simp [Region.wanted,hg,this]
        | _=>simp [hv] at h
      | _=>simp [hv] at h

theorem K2 (L sl:List (Nat×AV))(t:Nat):(∃x,(t,x)∈L/\get (L++sl) t=x)\/get (L++sl) t=get sl t:=by
  induction L with
  | nil=>exact .inr rfl
  | cons p r ih=>
    obtain ⟨j,x⟩:=p;simp only [Lz,Fo];by_cases e:j=t
    . subst e;exact .inl ⟨x,by simp,by simp⟩
    . simp only [e,if_false]
      rcases ih with ⟨y,hy,h⟩ | h
      . exact .inl ⟨y,Ft _ hy,h⟩
      exact .inr h
theorem PStep.go {P:Program}{ops:Array Oper}{K:List HO->Prop}{o:Oper}{sl:List (Nat×AV)}{x:AV}(hp:PStep P ops o sl K x){g:Gh}{st:St}{a:Act}{w:World}(hG:Gm g st a w)
    (hK:K st.H) (hd:J5 o.dst st.n=true) (hs:∀t∈o.looksAt ops,get st.sl t=get sl t) {next:Act->World->Prop} {Q:Exit->Act->World->Prop}
    (hn:∀g' a' w',Gm g' ⟨Dy o.dst x st.sl,st.H,st.n⟩ a' w'->Ext g w g' w'->next a' w') :
    (Region.wanted o (yielded ops a.tmps)=true->o.wp P a w next Q)/\(Region.wanted o (yielded ops a.tmps)=false->next (a.put o.dst undef) w):=by
  have hr:∀d,d∈o.looksAt ops->Rep g w (a.tmps.getD d undef) (get sl d):=fun d hd=>by rw [<-hs d hd];exact hG.sl d
  cases hp with
  | run hg h=>
    refine ⟨fun _=>h g w a st.H next Q (fun y hy=>?_) hG.heap hK fun g' w' v hv hH hx=>hn g' _ w' (hG.put hx hd hv hH) hx,fun h'=>by rw [Eg hg] at h';cases h'⟩;cases y with
    | tmp t=>exact hr t (Ck hy)
    | const v=>exact Fb g w v
    | global n=>exact .val _
    | func f=>exact .fn _ _ _ _ _ rfl (by simp) rfl (by simp)
  | opt G y L hw hL h hx=>
    subst hx;obtain ⟨h1,h2⟩:=Hp hw hr;by_cases hG':H9 G
    . refine ⟨fun _=>?_,fun h'=>by rw [h1 hG'] at h';cases h'⟩
      refine h hG' g w a st.H next Q (fun y hy=>?_) hG.heap hK fun g' w' v hv hH hx=>hn g' _ w' (hG.put hx hd (.opt _ _ _ (fun _=>hv) (fun h=>absurd hG' h)) hH) hx
      cases y with
      | tmp t=>
        have h3:=hr t (Ck hy);show Rep g w _ (get (L++sl) t);rcases K2 L sl t with ⟨x,hx,e⟩ | e
        . rw [e];exact hL (t,x) hx g w _ hG' h3
        rw [e];exact h3
      | const v=>exact Fb g w v
      | global n=>exact .val _
      | func f=>exact .fn _ _ _ _ _ rfl (by simp) rfl (by simp)
    . refine ⟨fun h'=>(by rw [h2 hG'] at h';cases h'),fun _=>?_⟩
      exact hn g _ w (hG.put (Ext.refl g w) hd (.opt _ _ _ (fun h=>absurd h hG') (fun _=>rfl)) hG.heap) (Ext.refl g w)

theorem AOL.ps {P:Program}{ops:Array Oper}{K:St->Prop}{s:St}{o:Oper}{r:List Oper}{x:AV}{C:List HO->Prop}
  (h:PStep P ops o s.sl C x) (hC:C s.H) (hd:J5 o.dst s.n=true) (k:AOL P ops K r ⟨Dy o.dst x s.sl,s.H,s.n⟩):AOL P ops K (o::r) s:=by
 refine ⟨fun Q g a w hG hQ=>?_⟩;unfold fW
 have hk:∀g' a' w',Gm g' ⟨Dy o.dst x s.sl,s.H,s.n⟩ a' w'->Ext g w g' w'->fW P ops Q r a' w':=fun g' a' w' hG' hx=>
  k.run Q g' a' w' hG' fun g'' s'' a'' w'' h1 h2 h3=>hQ g'' s'' a'' w'' h1 (hx.trans h2) h3
 obtain ⟨h1,h2⟩:=h.go (Q:=Q) hG hC hd (fun _ _=>rfl) hk;cases hw:Region.wanted o (yielded ops a.tmps) with
 | true=>rw [if_pos rfl];exact h1 hw
 | false=>simp only [A2,if_false];exact h2 hw

theorem AOL.Aah {P:Program}{ops:Array Oper}{K:St->Prop}{s:St}{o:Oper}{r:List Oper}{y:AV}(G:List (Bool×Bool))(L:List (Nat×AV))(hw:El ops o s.sl=some G)
  (hL:∀p∈L,Zs G (get s.sl p.1) p.2) (h:H9 G->Dr P o (Dn (L++s.sl)) (fun _=>True) y) (hd:J5 o.dst s.n=true) (k:AOL P ops K r ⟨Dy o.dst (.opt G y) s.sl,s.H,s.n⟩):AOL P ops K (o::r) s:=
 AOL.ps (.opt G y L hw hL h rfl) trivial hd k


def AW (P:Program)(c:Code)(Q:Exit->St->Prop)(s:St):Prop:=
 ∀(Q':Exit->Act->World->Prop) (g:Gh) (a:Act) (w:World),Gm g s a w->(∀e g' s' a' w',Gm g' s' a' w'->Ext g w g' w'->Q e s'->Q' e a' w')->c.wp P Q' a w

def Ea (N:St->Prop)(Q:Exit->St->Prop):Exit->St->Prop
 | .normal,s=>N s
 | e,s=>Q e s

def Im (id:Nat)(Q:Exit->St->Prop):Exit->St->Prop
 | .exit j,s=>bif Nat.beq j id then Q .normal s else Q (.exit j) s
 | e,s=>Q e s

section
variable {P:Program} {Q:Exit->St->Prop} {s:St}

theorem AW.skip (h:Q .normal s):AW P .skip Q s:=fun _ g a w hG hQ=>wp_skip (hQ _ g s a w hG (Ext.refl g w) h)
theorem AW.exit {id:Nat}(h:Q (.exit id) s):AW P (.exit id) Q s:=fun _ g a w hG hQ=>wp_exit (hQ _ g s a w hG (Ext.refl g w) h)
theorem AW.ret (h:Q .ret s):AW P .ret Q s:=fun _ g a w hG hQ=>wp_ret (hQ _ g s a w hG (Ext.refl g w) h)

theorem AW.seq {x y:Code}(h:AW P x (Ea (AW P y Q) Q) s):AW P (.seq x y) Q s:=by
 intro Q' g a w hG hQ;refine wp_seq (h _ g a w hG fun e g' s' a' w' hG' hx hq=>?_);cases e with
 | normal=>exact hq Q' g' a' w' hG' fun e g'' s'' a'' w'' h1 h2 h3=>hQ e g'' s'' a'' w'' h1 (hx.trans h2) h3
 | _=>exact hQ _ g' s' a' w' hG' hx hq

theorem AW.cond {c:Operand}{x y:Code}{b:Bool}(hb:Dn s.sl c = .bool b)(ht:b=true->AW P x Q s)(hf:b=false->AW P y Q s):AW P (.cond c x y) Q s:=by
 intro Q' g a w hG hQ;have hr:=hG.eval c;rw [hb] at hr;exact wp_cond_split hr.inv_bool (fun h=>ht h Q' g a w hG hQ) (fun h=>hf h Q' g a w hG hQ)

theorem AW.block {id:Nat}{c:Code}(h:AW P c (Im id Q) s):AW P (.block id c) Q s:=by
  intro Q' g a w hG hQ;refine wp_block (h _ g a w hG fun e g' s' a' w' hG' hx hq=>?_);cases e with
  | exit j=>
    simp only [Im] at hq;simp only [Exit.inBlock];by_cases e:j=id
    . subst e;simp at hq;simp;exact hQ _ g' s' a' w' hG' hx hq
    . simp only [e,if_false]
      have:Nat.beq j id=false:=by
        cases hq':Nat.beq j id with
        | false=>rfl
        | true=>exact absurd (Ey hq') e
      simp only [this,cond_false] at hq;exact hQ _ g' s' a' w' hG' hx hq
  | _=>exact hQ _ g' s' a' w' hG' hx hq

theorem AW.region {id:Nat}{ops:Array Oper}(h:AOL P ops (Q .normal) ops.toList s):AW P (.region id ops false) Q s:=by
 intro Q' g a w hG hQ;refine wp_region ?_;have:=Je (P:=P) (ops:=ops) (Q:=Q') ops.toList 0 a w (by simp) (h.run Q' g a w hG fun g' s' a' w' h1 h2 h3=>hQ _ g' s' a' w' h1 h2 h3);rw [<-List.range_eq_range'] at this;simpa using this

theorem AW.loop {c:Code}(I:Nat->St->Prop)(n:Nat)(h0:I n s)(round:∀n s,I n s->AW P c (Ea (fun s'=>∃m,m<n/\I m s') Q) s):AW P (.loop c) Q s:=by
  intro Q' g a w hG hQ b k cs
  have key:∀n g' s' a' w',I n s'->Gm g' s' a' w'->Ext g w g' w'->
      ∃e a'' w'',Q' e a'' w''/\Arrives P (lone (b.at a' (.code c :: .inLoop c::k)) cs w') b k cs e a'' w'':=by
    intro n
    induction n using Nat.strongRecOn with
    | _ n ih=>
      intro g' s' a' w' hI hG' hx
      obtain ⟨e,a₁,w₁,hq,harr⟩:=round n s' hI (fun e a₁ w₁=>∃g₁ s₁,Gm g₁ s₁ a₁ w₁/\Ext g w g₁ w₁/\Ea (fun s'=>∃m,m<n/\I m s') Q e s₁) g' a' w' hG'
        (fun e g₁ s₁ a₁ w₁ h1 h2 h3=>⟨g₁,s₁,h1,hx.trans h2,h3⟩) b (.inLoop c::k) cs
      obtain ⟨g₁,s₁,hG₁,hx₁,hT⟩:=hq;cases e with
      | normal=>
        obtain ⟨m,hm,hI₁⟩:=hT;obtain ⟨e₂,a₂,w₂,hq₂,harr₂⟩:=ih m hm g₁ s₁ a₁ w₁ hI₁ hG₁ hx₁;exact ⟨e₂,a₂,w₂,hq₂,.of_steps (Steps.trans harr (.one step_inLoop)) harr₂⟩
      | exit id=>exact ⟨_,a₁,w₁,hQ _ g₁ s₁ a₁ w₁ hG₁ hx₁ hT,.pass (x:=.inLoop c) rfl (fun _ _=>.inl (by simp)) harr⟩
      | goto l=>exact ⟨_,a₁,w₁,hQ _ g₁ s₁ a₁ w₁ hG₁ hx₁ hT,.pass (x:=.inLoop c) rfl (fun _ _=>.inl (by simp)) harr⟩
      | ret=>exact ⟨_,a₁,w₁,hQ _ g₁ s₁ a₁ w₁ hG₁ hx₁ hT,.pass (x:=.inLoop c) rfl (fun _ _=>.inl (by simp)) harr⟩
      | panic ch=>exact ⟨_,a₁,w₁,hQ _ g₁ s₁ a₁ w₁ hG₁ hx₁ hT,.pass (x:=.inLoop c) rfl (fun _ _=>.inl (by simp)) harr⟩
      | outgrown=>exact ⟨_,a₁,w₁,hQ _ g₁ s₁ a₁ w₁ hG₁ hx₁ hT,.pass (x:=.inLoop c) rfl (fun _ _=>.inl (by simp)) harr⟩
  obtain ⟨e,a',w',hq,harr⟩:=key n g s a w h0 hG (Ext.refl g w);exact ⟨e,a',w',hq,.of_steps (.one step_loop) harr⟩

theorem AW.mono {c:Code}{Q':Exit->St->Prop}(h:AW P c Q' s)(hq:∀e s,Q' e s->Q e s):AW P c Q s:=
 fun Q₁ g a w hG hQ=>h Q₁ g a w hG fun e g' s' a' w' h1 h2 h3=>hQ e g' s' a' w' h1 h2 (hq e s' h3)

def GS (s s':St):Prop:=∀g a w,Gm g s a w->∃g',Gm g' s' a w/\Ext g w g' w

theorem AW.ghost {c:Code}{s':St}(h:GS s s')(k:AW P c Q s'):AW P c Q s:=by
 intro Q' g a w hG hQ;obtain ⟨g',hG',hx⟩:=h g a w hG;exact k Q' g' a w hG' fun e g'' s'' a'' w'' h1 h2 h3=>hQ e g'' s'' a'' w'' h1 (hx.trans h2) h3

theorem AOL.ghost {ops:Array Oper}{K:St->Prop}{l:List Oper}{s':St}(h:GS s s')(k:AOL P ops K l s'):AOL P ops K l s:=by
 refine ⟨fun Q' g a w hG hQ=>?_⟩;obtain ⟨g',hG',hx⟩:=h g a w hG;exact k.run Q' g' a w hG' fun g'' s'' a'' w'' h1 h2 h3=>hQ g'' s'' a'' w'' h1 (hx.trans h2) h3
end


def Cb (P:Program)(f:FuncId)(H:List HO)(args:List AV)(Q:AV->List HO->Prop):Prop:=
 ∀(g:Gh) (w:World) (vs:Array Value),HOK g w H->Cv g w vs args->
  Calls P f vs w fun e w'=>∃v g' r H',e = .returned v/\Rep g' w' v r/\HOK g' w' H'/\Ext g w g' w'/\Q r H'

def Al (P:Program)(f:FuncId)(args:List AV)(r:AV):Prop:=∀H,Cb P f H args fun r' H'=>r'=r/\H'=H

def F9:Nat->List AV->List (Nat×AV)
 | _,[]=>[]
 | i,x::r=>(i,x)::F9 (i+1) r

theorem Mv (l:List AV):∀(k i:Nat),get (F9 k l) i=if k<=i then (l[i-k]?).getD .junk else .junk:=by
  induction l with
  | nil=>intro k i;simp [F9,get]
  | cons x r ih=>
    intro k i;rw [F9,Fo,ih (k+1) i];by_cases h:k=i
    . subst h;simp
    . simp only [h,if_false]
      by_cases h1:k<=i
      . have h2:k+1<=i:=by omega
        have h3:i-k=(i-(k+1))+1:=by omega
        simp [h1,h2,h3]
      . have h2:¬k+1<=i:=by omega
        simp [h1,h2]

theorem Cb.of_wp {P:Program}{f:FuncId}{fn:Func}{c:Code}{args:List AV}{H:List HO}{Q:AV->List HO->Prop}(hf:P.funcs[f]? = some fn)(hb:fn.body=some c){n:Nat}(hn:fn.ntmps=n)(hle:args.length<=n)
    (h:AW P c (fun e s=>(e = .normal\/e = .ret)/\∀g a w,Gm g s a w->∃v g' r H',(results fn a.tmps).run P w = .ok v w/\Rep g' w v r/\HOK g' w H'/\Ext g w g' w/\Q r H') ⟨F9 0 args,H,n⟩):Cb P f H args Q:=by
  intro g w vs hH hr;refine calls_of_wp hf hb ?_;refine h _ g _ w ⟨?_,rfl,?_,hH⟩ ?_
  . simp only [H7,Array.size_replicate,hn,hr.1];omega
  . intro i
    show Rep g w _ (get (F9 0 args) i);rw [Mv];simp only [Bn,if_true,Nat.sub_zero];cases hi:args[i]? with
    | none=>exact .junk _
    | some x=>
      have hlt:i<vs.size:=by rw [hr.1];exact (List.getElem?_eq_some_iff.1 hi).1
      have:=hr.2 i x hi;simp only [Ce,Array.getElem?_append,hlt,if_true] at this ⊢;exact this
  . intro e g' s' a' w' hG' hx ⟨he,hq⟩
    obtain ⟨v,g'',r,H',h1,h2,h3,h4,h5⟩:=hq g' a' w' hG'
    have:a'.defers = []/\∃v,(results fn a'.tmps).run P w' = .ok v w'/\∃v_1 g' r H',Ending.returned v = .returned v_1/\Rep g' w' v_1 r/\HOK g' w' H'/\Ext g w g' w'/\Q r H':=
      ⟨hG'.defers,v,h1,v,g'',r,H',rfl,h2,h3,hx.trans h4,h5⟩
    rcases he with rfl | rfl <;> exact this

end Go.Aw
namespace Go.Aw

section
variable {P:Program} {ops:Array Oper}

def R3 (o:Oper)(i:Nat):Prop:=∃e∈o.after,Region.binds .any e=true/\e.on=i

def T7 (o:Oper)(j:Nat):Bool:=o.after.any fun e=>Region.binds .any e&&Nat.beq e.on j
def Hk (ops:Array Oper):Nat->Oper->Nat->Bool
 | 0,o,j=>T7 o j
 | f+1,o,j=>T7 o j||o.after.any fun e=>Region.binds .any e&&(match ops[e.on]? with | some o'=>Hk ops f o' j | none=>false)

def oC (ops:Array Oper)(listed:Array Bool)(o:Oper)(i:Nat):Bool:=(List.range ops.size).all fun j=>Nat.beq j i||(listed.getD j false&&Hk ops 7 o j)

def xD (ops:Array Oper)(listed:Array Bool)(o:Oper):Bool:=(List.range ops.size).all fun j=>!(listed.getD j false)||Hk ops 7 o j

inductive CanonI (P:Program) (ops:Array Oper):(Nat->List HO->Prop)->(St->Prop)->Array Bool->St->Prop where
 | done {K:Nat->List HO->Prop} {Q:St->Prop} (listed:Array Bool) (s:St) (hr:Region.ready .any ops listed = []) (h:Q s):CanonI P ops K Q listed s
 | pure {K:Nat->List HO->Prop} {Q:St->Prop} (listed:Array Bool) (s:St) (i:Nat) (o:Oper) (x:AV) (ho:ops[i]? = some o) (hr:(Region.ready .any ops listed).contains i=true) (hf:Region.free .any ops listed i=true)
  (hd:J5 o.dst s.n=true) (hp:PStep P ops o s.sl (K i) x) (h:CanonI P ops K Q (listed.setIfInBounds i true) ⟨Dy o.dst x s.sl,s.H,s.n⟩):CanonI P ops K Q listed s
 | eff {K:Nat->List HO->Prop} {Q:St->Prop} (listed:Array Bool) (s:St) (i:Nat) (o:Oper) (R:AV->List HO->Prop) (ho:ops[i]? = some o) (hr:Region.ready .any ops listed = [i])
  (hd:J5 o.dst s.n=true) (hw:o.guard=none) (hp:Jj P o (Dn s.sl) s.H R)
  (hK:∀x H',R x H'->∀j,K j H') (h:∀x H',R x H'->CanonI P ops K Q (listed.setIfInBounds i true) ⟨Dy o.dst x s.sl,H',s.n⟩):CanonI P ops K Q listed s

 | last {K:Nat->List HO->Prop} {Q:St->Prop} (listed:Array Bool) (s:St) (i:Nat) (o:Oper) (R:AV->List HO->Prop) (ho:ops[i]? = some o) (hr:Region.ready .any ops listed = [i])
  (hd:J5 o.dst s.n=true) (hw:o.guard=none) (hp:Jj P o (Dn s.sl) s.H R) (hl:oC ops listed o i=true)
  (h:∀x H',R x H'->Q ⟨Dy o.dst x s.sl,H',s.n⟩):CanonI P ops K Q listed s
 | sync {K:Nat->List HO->Prop} {Q:St->Prop} (K':Nat->List HO->Prop) (listed:Array Bool) (s:St) (i:Nat) (o:Oper) (R:AV->List HO->Prop) (ho:ops[i]? = some o) (hr:Region.ready .any ops listed = [i])
  (hd:J5 o.dst s.n=true) (hw:o.guard=none) (hp:Jj P o (Dn s.sl) s.H R) (hl:xD ops listed o=true) (hK:∀x H',R x H'->∀j,K' j H')
  (h:∀x H',R x H'->CanonI P ops K' Q (listed.setIfInBounds i true) ⟨Dy o.dst x s.sl,H',s.n⟩):CanonI P ops K Q listed s
 | two {K:Nat->List HO->Prop} {Q:St->Prop} (listed:Array Bool) (s:St) (i j:Nat) (o o':Oper) (R R':AV->List HO->Prop) (ho:ops[i]? = some o) (ho':ops[j]? = some o') (hr:Region.ready .any ops listed = [i,j])
  (hd:J5 o.dst s.n=true) (hd':J5 o'.dst s.n=true) (hw:o.guard=none) (hw':o'.guard=none) (hp:Jj P o (Dn s.sl) s.H R) (hp':Jj P o' (Dn s.sl) s.H R')
  (hK:∀x H',R x H'->∀j,K j H') (hK':∀x H',R' x H'->∀j,K j H') (h:∀x H',R x H'->CanonI P ops K Q (listed.setIfInBounds i true) ⟨Dy o.dst x s.sl,H',s.n⟩)
  (h':∀x H',R' x H'->CanonI P ops K Q (listed.setIfInBounds j true) ⟨Dy o'.dst x s.sl,H',s.n⟩):CanonI P ops K Q listed s
 | many {K:Nat->List HO->Prop} {Q:St->Prop} (listed:Array Bool) (s:St) (i0:Nat) (L:List Nat) (O:Nat->Oper) (R:Nat->AV->List HO->Prop) (hr:Region.ready .any ops listed=i0::L)
  (hp:∀i∈i0::L,ops[i]? = some (O i)/\J5 (O i).dst s.n=true/\(O i).guard=none/\Jj P (O i) (Dn s.sl) s.H (R i)/\∀x H',R i x H'->∀j,K j H')
  (h:∀i∈i0::L,∀x H',R i x H'->CanonI P ops K Q (listed.setIfInBounds i true) ⟨Dy (O i).dst x s.sl,H',s.n⟩):CanonI P ops K Q listed s
 | effg {K:Nat->List HO->Prop} {Q:St->Prop} (listed:Array Bool) (s:St) (i:Nat) (o:Oper) (G:List (Bool×Bool)) (L:List (Nat×AV)) (x:AV) (F:List HO->Prop) (ho:ops[i]? = some o) (hr:Region.ready .any ops listed = [i])
  (hd:J5 o.dst s.n=true) (hw:El ops o s.sl=some G) (hL:∀p∈L,Zs G (get s.sl p.1) p.2) (hp:H9 G->Jj P o (Dn (L++s.sl)) s.H fun x' H'=>x'=x/\F H') (hn:¬H9 G->F s.H)
  (hK:∀H',F H'->∀j,K j H') (h:∀H',F H'->CanonI P ops K Q (listed.setIfInBounds i true) ⟨Dy o.dst (.opt G x) s.sl,H',s.n⟩):CanonI P ops K Q listed s
 | phase {K:Nat->List HO->Prop} {Q:St->Prop} (K':Nat->List HO->Prop) (listed:Array Bool) (s:St) (i:Nat) (o:Oper) (R:AV->List HO->Prop) (ho:ops[i]? = some o) (hr:Region.ready .any ops listed = [i])
  (hd:J5 o.dst s.n=true) (hw:o.guard=none) (hp:Jj P o (Dn s.sl) s.H R) (hl:∀j,j<ops.size->listed.getD j false=true->Hk ops 7 o j=false->∀H,K' j H->K j H) (hK:∀x H',R x H'->∀j,K' j H')
  (h:∀x H',R x H'->CanonI P ops K' Q (listed.setIfInBounds i true) ⟨Dy o.dst x s.sl,H',s.n⟩):CanonI P ops K Q listed s
 | phaseg {K:Nat->List HO->Prop} {Q:St->Prop} (K':Nat->List HO->Prop) (listed:Array Bool) (s:St) (i:Nat) (o:Oper) (G:List (Bool×Bool)) (L:List (Nat×AV)) (x:AV) (H2:List HO) (ho:ops[i]? = some o) (hr:Region.ready .any ops listed = [i])
  (hd:J5 o.dst s.n=true) (hw:El ops o s.sl=some G) (hL:∀p∈L,Zs G (get s.sl p.1) p.2) (hp:H9 G->Jj P o (Dn (L++s.sl)) s.H fun x' H'=>x'=x/\H'=H2) (hn:¬H9 G->s.H=H2)
  (hl:∀j,j<ops.size->listed.getD j false=true->Hk ops 7 o j=false->∀H,K' j H->K j H) (hK:∀j,K' j H2) (h:CanonI P ops K' Q (listed.setIfInBounds i true) ⟨Dy o.dst (.opt G x) s.sl,H2,s.n⟩):CanonI P ops K Q listed s

theorem PStep.weaken {P:Program}{ops:Array Oper}{o:Oper}{sl:List (Nat×AV)}{K K':List HO->Prop}{x:AV}(h:PStep P ops o sl K x)(hK:∀H,K' H->K H):PStep P ops o sl K' x:=by
 cases h with
 | run hg hp=>exact .run hg fun g w a H next Q hr hH hk hn=>hp g w a H next Q hr hH (hK H hk) hn
 | opt G y L hw hL hp hx=>exact .opt G y L hw hL (fun hg g w a H next Q hr hH hk hn=>hp hg g w a H next Q hr hH (hK H hk) hn) hx

def De (ops:Array Oper):Bool:=(ops.toList.filterMap (·.dst)).Nodup

structure Pd where
 i:Nat
 o:Oper
 x:AV
 sl:List (Nat×AV)

structure Inv (P:Program) (ops:Array Oper) (K:Nat->List HO->Prop) (listed:Array Bool) (s:St) (pend:List Pd) (listed':Array Bool) (sl':List (Nat×AV)):Prop where
 size:listed.size=ops.size
 size':listed'.size=ops.size
 lst:∀j,j<ops.size->(listed'.getD j true=true↔listed.getD j true=true/\∀p∈pend,p.i≠j)
 op:∀p∈pend,ops[p.i]? = some p.o/\listed.getD p.i true=true/\PStep P ops p.o p.sl (K p.i) p.x/\J5 p.o.dst s.n=true
 slot:∀t,(∀p∈pend,p.o.dst≠some t)->get sl' t=get s.sl t
 val:∀p∈pend,∀t,p.o.dst=some t->get s.sl t=p.x
 rd:∀q∈pend,∀t∈q.o.looksAt ops,(∃p∈pend,p.o.dst=some t/\R3 q.o p.i)\/get sl' t=get q.sl t
 rv:∀q∈pend,∀t∈q.o.looksAt ops,∀p∈pend,p.i≠q.i->p.o.dst=some t->(R3 q.o p.i/\p.x=get q.sl t)\/R3 p.o q.i
 ap:∀p∈pend,∀j o,ops[j]? = some o->listed.getD j true=false->R3 o p.i\/p.o.apart ops o=true
 ord:pend.Pairwise fun q p=>¬R3 p.o q.i
 slf:∀p∈pend,¬R3 p.o p.i
 dep:∀p∈pend,∀e∈p.o.after,Region.binds .any e=true->listed.getD e.on false=true
 idx:(pend.map (·.i)).Nodup
 cl:∀j o,ops[j]? = some o->listed'.getD j true=true->∀e∈o.after,Region.binds .any e=true->listed'.getD e.on false=true

theorem Ve (hd:De ops=true){i j:Nat}{o o':Oper}{t:Nat}(hi:ops[i]? = some o)(hj:ops[j]? = some o')(h:o.dst=some t)(h':o'.dst=some t):i=j:=by
  simp only [De,Di] at hd
  have key:∀(l:List Oper) (i j:Nat) (o o':Oper),(l.filterMap (·.dst)).Nodup->l[i]? = some o->l[j]? = some o'->o.dst=some t->o'.dst=some t->i=j:=by
    intro l
    induction l with
    | nil=>intro i j o o' _ h1;simp at h1
    | cons y r ih=>
      intro i j o o' hn h1 h2 e1 e2;have hmem:∀(k:Nat) (z:Oper),r[k]? = some z->z.dst=some t->t∈r.filterMap (·.dst):=fun k z hk hz=>On.2 ⟨z,A0 hk,hz⟩
      cases i with
      | zero=>
        simp only [List.getElem?_cons_zero,Option.some.injEq] at h1;subst h1;cases j with
        | zero=>rfl
        | succ j=>
          simp only [List.getElem?_cons_succ] at h2;rw [J1,e1] at hn;exact absurd (hmem j o' h2 e2) (H8.1 hn).1
      | succ i=>
        simp only [List.getElem?_cons_succ] at h1;cases j with
        | zero=>
          simp only [List.getElem?_cons_zero,Option.some.injEq] at h2;subst h2;rw [J1,e2] at hn;exact absurd (hmem i o h1 e1) (H8.1 hn).1
        | succ j=>
          simp only [List.getElem?_cons_succ] at h2
          have hn':(r.filterMap (·.dst)).Nodup:=by
            rw [J1] at hn;cases hy:y.dst with
            | none=>rw [hy] at hn;exact hn
            | some d=>rw [hy] at hn;exact (H8.1 hn).2
          rw [ih i j o o' hn' h1 h2 e1 e2]
  exact key ops.toList i j o o' hd (by simpa using hi) (by simpa using hj) h h'

theorem C4 {a:Array Bool}{j:Nat}(h:j<a.size):a.getD j true=a.getD j false:=by simp [h]

variable {K:Nat->List HO->Prop} {K0:List HO->Prop} {listed listed':Array Bool} {s:St} {pend:List Pd} {sl':List (Nat×AV)}

theorem Inv.reads (I:Inv P ops K listed s pend listed' sl'){q:Pd}(hq:q∈pend)(hr:q.i∈Region.ready .any ops listed'){t:Nat}(ht:t∈q.o.looksAt ops):get sl' t=get q.sl t:=by
 rcases I.rd q hq t ht with ⟨p,hp,_,e,he,hb,ho⟩ | h
 .
  obtain ⟨_,o,ho',hall⟩:=mem_ready.1 hr;rw [(I.op q hq).1] at ho';cases ho'
  have h1:=hall e he hb;rw [ho] at h1;have hlt:p.i<ops.size:=(Array.getElem?_eq_some_iff.1 (I.op p hp).1).1;rw [<-C4 (by rw [I.size'];exact hlt)] at h1;exact absurd rfl (((I.lst p.i hlt).1 h1).2 p hp)
 exact h
theorem PStep.wpOp {o:Oper}{i:Nat}{sl:List (Nat×AV)}{x:AV}(hp:PStep P ops o sl K0 x)(ho:ops[i]? = some o){g:Gh}{st:St}{a:Act}{w:World}(hG:Gm g st a w)
  (hK:K0 st.H) (hd:J5 o.dst st.n=true) (hs:∀t∈o.looksAt ops,get st.sl t=get sl t) {next:Act->World->Prop} {Q:Exit->Act->World->Prop}
  (hn:∀g' a' w',Gm g' ⟨Dy o.dst x st.sl,st.H,st.n⟩ a' w'->Ext g w g' w'->next a' w'):wpOp P ops Q i next a w:=by
 unfold Go.wpOp;simp only [ho];obtain ⟨h1,h2⟩:=hp.go (Q:=Q) hG hK hd hs hn;cases hw:Region.wanted o (yielded ops a.tmps) with
 | true=>rw [if_pos rfl];exact .inl (h1 hw)
 | false=>simp only [A2,if_false];exact h2 hw

theorem Ka (d:Option Nat)(x:AV)(sl:List (Nat×AV))(t:Nat):get (Dy d x sl) t=if d=some t then x else get sl t:=by
  cases d with
  | none=>simp [Dy]
  | some d=>
    simp only [Dy,Fo,Option.some.injEq]

theorem Inv.exec (hdd:De ops=true)(I:Inv P ops K listed s pend listed' sl'){q:Pd}(hq:q∈pend)(hr:q.i∈Region.ready .any ops listed') :
  Inv P ops K listed s (pend.filter fun p=>p.i != q.i) (listed'.setIfInBounds q.i true) (Dy q.o.dst q.x sl'):=by
 have hlt:q.i<ops.size:=(Array.getElem?_eq_some_iff.1 (I.op q hq).1).1;have hsub:∀p,p∈pend.filter (fun p=>p.i != q.i)↔p∈pend/\p.i≠q.i:=fun p=>by simp [F1]
 have same:∀p∈pend,p.i=q.i->p.o=q.o:=fun p hp h=>by
  have h1:=(I.op p hp).1;rw [h,(I.op q hq).1] at h1;exact (Option.some.inj h1).symm
 have uq:∀p∈pend,∀t,p.o.dst=some t->q.o.dst=some t->p.i=q.i:=fun p hp t h1 h2=>Ve hdd (I.op p hp).1 (I.op q hq).1 h1 h2
 refine ⟨I.size,by simpa using I.size',?_,fun p hp=>I.op p ((hsub p).1 hp).1,?_,fun p hp=>I.val p ((hsub p).1 hp).1,?_,fun a ha t ht p hp=>I.rv a ((hsub a).1 ha).1 t ht p ((hsub p).1 hp).1,
  fun p hp=>I.ap p ((hsub p).1 hp).1,I.ord.filter _,fun p hp=>I.slf p ((hsub p).1 hp).1,fun p hp=>I.dep p ((hsub p).1 hp).1,?_,?_⟩
 .
  intro j hj;by_cases e:j=q.i
  .
   subst e;refine ⟨fun _=>⟨(I.op q hq).2.1,fun p hp=>((hsub p).1 hp).2⟩,fun _=>?_⟩;have:q.i<listed'.size:=by rw [I.size'];exact hlt
   simp [this]
  rw [getD_set_ne true (Ne.symm e),I.lst j hj];refine ⟨fun ⟨h1,h2⟩=>⟨h1,fun p hp=>h2 p ((hsub p).1 hp).1⟩,fun ⟨h1,h2⟩=>⟨h1,fun p hp=>?_⟩⟩;by_cases e2:p.i=q.i
  . rw [e2];exact fun h=>e h.symm
  exact h2 p ((hsub p).2 ⟨hp,e2⟩)
 .
  intro t ht;rw [Ka];by_cases e:q.o.dst=some t
  . rw [if_pos e,I.val q hq t e]
  rw [if_neg e];refine I.slot t fun p hp=>?_
  by_cases e2:p.i=q.i
  . rw [same p hp e2];exact e
  exact ht p ((hsub p).2 ⟨hp,e2⟩)
 .
  intro a ha t ht;obtain ⟨ha1,ha2⟩:=(hsub a).1 ha;rw [Ka];by_cases e:q.o.dst=some t
  .
   rw [if_pos e];rcases I.rv a ha1 t ht q hq (Ne.symm ha2) e with ⟨_,h⟩ | ⟨e',he',hb,ho⟩
   . exact .inr h
   exfalso;obtain ⟨_,o,ho',hall⟩:=mem_ready.1 hr;rw [(I.op q hq).1] at ho';cases ho'
   have h1:=hall e' he' hb;rw [ho] at h1;have hlta:a.i<ops.size:=(Array.getElem?_eq_some_iff.1 (I.op a ha1).1).1;rw [<-C4 (by rw [I.size'];exact hlta)] at h1;exact ((I.lst a.i hlta).1 h1).2 a ha1 rfl
  rw [if_neg e];rcases I.rd a ha1 t ht with ⟨p,hp,hpd,hw⟩ | h
  .
   refine .inl ⟨p,(hsub p).2 ⟨hp,fun e2=>e ?_⟩,hpd,hw⟩;rw [<-same p hp e2];exact hpd
  exact .inr h
 . exact I.idx.sublist (List.Sublist.map _ List.filter_sublist)
 intro j o hj hl e he hb;by_cases ej:j=q.i
 .
  obtain ⟨_,o',ho',hall⟩:=mem_ready.1 hr;rw [<-ej,hj] at ho';cases ho';exact getD_set_true (hall e he hb)
 rw [getD_set_ne true (Ne.symm ej)] at hl;exact getD_set_true (I.cl j o hj hl e he hb)
theorem Inv.push (hdd:De ops=true)(I:Inv P ops K listed s pend listed' sl'){i:Nat}{o:Oper}{x:AV}(ho:ops[i]? = some o)(hr:i∈Region.ready .any ops listed)
    (hf:Region.free .any ops listed i=true) (hd:J5 o.dst s.n=true) (hp:PStep P ops o s.sl (K i) x) :
    Inv P ops K (listed.setIfInBounds i true) ⟨Dy o.dst x s.sl,s.H,s.n⟩ (⟨i,o,x,s.sl⟩::pend) listed' sl':=by
  obtain ⟨hun,o',ho',hall⟩:=mem_ready.1 hr;rw [ho] at ho';cases ho';have hlt:i<ops.size:=(Array.getElem?_eq_some_iff.1 ho).1
  have hne:∀p∈pend,p.i≠i:=fun p hp e=>by
    have:=(I.op p hp).2.1;rw [e,hun] at this;cases this
  have hset:(listed.setIfInBounds i true).getD i true=true:=by
    have:i<listed.size:=by rw [I.size];exact hlt
    simp [this]
  have hfree:=fun j oj=>Region.free_spec ho hf j oj
  -- how the new one and a pending one stand
  have stand:∀p∈pend,R3 o p.i\/p.o.apart ops o=true:=fun p hp=>I.ap p hp i o ho hun
  refine ⟨by simpa using I.size,I.size',?_,?_,?_,?_,?_,?_,?_,?_,?_,?_,?_,I.cl⟩
  . intro j hj
    rw [I.lst j hj];by_cases e:j=i
    . subst e
      refine ⟨fun ⟨h1,_⟩=>(by rw [hun] at h1;cases h1),fun ⟨_,h2⟩=>absurd rfl (h2 _ (Fs ..))⟩
    . rw [getD_set_ne true (Ne.symm e)]
      refine ⟨fun ⟨h1,h2⟩=>⟨h1,fun p hp=>?_⟩,fun ⟨h1,h2⟩=>⟨h1,fun p hp=>h2 p (Ft _ hp)⟩⟩;rcases Cz.1 hp with rfl | hp
      . exact fun h=>e h.symm
      exact h2 p hp
  . intro p hp'
    rcases Cz.1 hp' with rfl | hp'
    . exact ⟨ho,hset,hp,hd⟩
    . obtain ⟨h1,h2,h3,h4⟩:=I.op p hp'
      exact ⟨h1,by rw [getD_set_ne true (Ne.symm (hne p hp'))];exact h2,h3,h4⟩
  . intro t ht
    have h1:=ht ⟨i,o,x,s.sl⟩ (Fs ..);show _=get (Dy o.dst x s.sl) t;rw [Ka,if_neg h1];exact I.slot t fun p hp=>ht p (Ft _ hp)
  . intro p hp' t ht
    show get (Dy o.dst x s.sl) t=_;rw [Ka];rcases Cz.1 hp' with rfl | hp'
    . rw [if_pos ht]
    . rw [if_neg fun h=>hne p hp' (Ve hdd (I.op p hp').1 ho ht h)]
      exact I.val p hp' t ht
  . intro q hq t ht
    rcases Cz.1 hq with rfl | hq
    . by_cases h:∃p∈pend,p.o.dst=some t
      . obtain ⟨p,hp',hpd⟩:=h
        refine .inl ⟨p,Ft _ hp',hpd,?_⟩;rcases stand p hp' with h | h
        . exact h
        exact absurd ht ((Oper.apart_spec h).1 t hpd)
      exact .inr (I.slot t fun p hp' h'=>h ⟨p,hp',h'⟩)
    . rcases I.rd q hq t ht with ⟨p,hp',h⟩ | h
      . exact .inl ⟨p,Ft _ hp',h⟩
      exact .inr h
  . intro q hq t ht p hp' hpi hpd
    rcases Cz.1 hq with rfl | hq
    . rcases Cz.1 hp' with rfl | hp'
      . exact absurd rfl hpi
      . rcases stand p hp' with h | h
        . exact .inl ⟨h,(I.val p hp' t hpd).symm⟩
        exact absurd ht ((Oper.apart_spec h).1 t hpd)
    . rcases Cz.1 hp' with rfl | hp'
      . rcases stand q hq with h | h
        . exact .inr h
        exact absurd ht ((Oper.apart_spec h).2.2 t hpd)
      exact I.rv q hq t ht p hp' hpi hpd
  . intro p hp' j oj hj hu
    have hju:listed.getD j true=false/\j≠i:=by
      by_cases e:j=i
      . subst e;rw [hset] at hu;cases hu
      rw [getD_set_ne true (Ne.symm e)] at hu;exact ⟨hu,e⟩
    rcases Cz.1 hp' with rfl | hp'
    . by_cases h:∃e∈oj.after,Region.binds .any e=true/\e.on=i
      . exact .inl h
      exact .inr (hfree j oj hj hju.2 hju.1 fun e he hb hon=>h ⟨e,he,hb,hon⟩)
    exact I.ap p hp' j oj hj hju.1
  . refine L0.2 ⟨fun p hp' ⟨e,he,_,ho'⟩=>?_,I.ord⟩
    have h1:=I.dep p hp' e he (by assumption);rw [ho',<-C4 (by rw [I.size];exact hlt),hun] at h1;cases h1
  . intro p hp'
    rcases Cz.1 hp' with rfl | hp'
    . rintro ⟨e,he,hb,hon⟩
      have h1:=hall e he hb;rw [hon,<-C4 (by rw [I.size];exact hlt),hun] at h1;cases h1
    exact I.slf p hp'
  . intro p hp' e he hb
    rcases Cz.1 hp' with rfl | hp'
    . exact getD_set_true (hall e he hb)
    exact getD_set_true (I.dep p hp' e he hb)
  . simp only [Ba,H8]
    refine ⟨fun hm=>?_,I.idx⟩;obtain ⟨p,hp',h⟩:=B7.1 hm;exact hne p hp' h

theorem Inv.ready_of (I:Inv P ops K listed s pend listed' sl'){j:Nat}(hj:j∈Region.ready .any ops listed')(hp:∀p∈pend,p.i≠j):j∈Region.ready .any ops listed:=by
 obtain ⟨hu,o,ho,hall⟩:=mem_ready.1 hj;have hlt:j<ops.size:=(Array.getElem?_eq_some_iff.1 ho).1;refine mem_ready.2 ⟨?_,o,ho,fun e he hb=>?_⟩
 .
  cases h:listed.getD j true with
  | false=>rfl
  | true=>rw [(I.lst j hlt).2 ⟨h,hp⟩] at hu;cases hu
 have h1:=hall e he hb
 have h2:e.on<ops.size:=by
  rcases Ix e.on ops.size with h' | h'
  . exact h'
  have:listed'.size<=e.on:=by rw [I.size'];exact h'
  simp [Array.getElem?_eq_none this] at h1
 rw [<-C4 (by rw [I.size'];exact h2)] at h1;rw [<-C4 (by rw [I.size];exact h2)];exact ((I.lst _ h2).1 h1).1
theorem bN {α:Type}{R:α->α->Prop}:∀(l:List α),l.Pairwise R->l≠[]->∃q∈l,∀p∈l,p=q\/R p q
  | [],_,h=>absurd rfl h
  | [a],_,_=>⟨a,by simp,fun p hp=>.inl (by simpa using hp)⟩
  | a::b::r,hp,_=>by
    obtain ⟨h1,h2⟩:=L0.1 hp;obtain ⟨q,hq,hall⟩:=bN (b::r) h2 (by simp);refine ⟨q,Ft _ hq,fun p hp=>?_⟩;rcases Cz.1 hp with rfl | hp
    . exact .inr (h1 q hq)
    exact hall p hp
theorem Inv.oldest (I:Inv P ops K listed s pend listed' sl')(hne:pend≠[]):∃q∈pend,q.i∈Region.ready .any ops listed':=by
 obtain ⟨q,hq,hall⟩:=bN pend I.ord hne;have hlt:q.i<ops.size:=(Array.getElem?_eq_some_iff.1 (I.op q hq).1).1;refine ⟨q,hq,mem_ready.2 ⟨?_,q.o,(I.op q hq).1,fun e he hb=>?_⟩⟩
 .
  cases h:listed'.getD q.i true with
  | false=>rfl
  | true=>exact absurd rfl (((I.lst q.i hlt).1 h).2 q hq)
 have h1:=I.dep q hq e he hb
 have h2:e.on<ops.size:=by
  rcases Ix e.on ops.size with h' | h'
  . exact h'
  have:listed.size<=e.on:=by rw [I.size];exact h'
  simp [Array.getElem?_eq_none this] at h1
 rw [<-C4 (by rw [I.size];exact h2)] at h1;rw [<-C4 (by rw [I.size'];exact h2)];refine (I.lst _ h2).2 ⟨h1,fun p hp hpe=>?_⟩;have hw:R3 q.o p.i:=⟨e,he,hb,hpe.symm⟩;rcases hall p hp with rfl | h
 . exact I.slf _ hq hw
 exact h hw
theorem Inv.eff (hdd:De ops=true)(I:Inv P ops K listed s pend listed' sl'){i:Nat}{o:Oper}(ho:ops[i]? = some o)(hr:i∈Region.ready .any ops listed)(hr':i∈Region.ready .any ops listed')(x:AV)(H':List HO) :
  (∀p∈pend,p.o.apart ops o=true)/\Inv P ops K (listed.setIfInBounds i true) ⟨Dy o.dst x s.sl,H',s.n⟩ pend (listed'.setIfInBounds i true) (Dy o.dst x sl'):=by
 obtain ⟨hun,o',ho',hall⟩:=mem_ready.1 hr;rw [ho] at ho';cases ho';obtain ⟨hun',o',ho',hall'⟩:=mem_ready.1 hr';rw [ho] at ho';cases ho';have hlt:i<ops.size:=(Array.getElem?_eq_some_iff.1 ho).1
 have hne:∀p∈pend,p.i≠i:=fun p hp e=>by
  have:=(I.op p hp).2.1;rw [e,hun] at this;cases this
 have nw:∀p∈pend,¬R3 o p.i:=fun p hp ⟨e,he,hb,hon⟩=>by
  have h1:=hall' e he hb;have hltp:p.i<ops.size:=(Array.getElem?_eq_some_iff.1 (I.op p hp).1).1;rw [hon,<-C4 (by rw [I.size'];exact hltp)] at h1;exact ((I.lst p.i hltp).1 h1).2 p hp rfl
 have hap:∀p∈pend,p.o.apart ops o=true:=fun p hp=>(I.ap p hp i o ho hun).resolve_left (nw p hp)
 refine ⟨hap,by simpa using I.size,by simpa using I.size',?_,?_,?_,?_,?_,I.rv,?_,I.ord,I.slf,fun p hp e he hb=>getD_set_true (I.dep p hp e he hb),I.idx,fun j oj hj hl e he hb=>?_⟩
 .
  intro j hj;by_cases e:j=i
  .
   subst e;have h1:j<listed.size:=by rw [I.size];exact hlt
   have h2:j<listed'.size:=by rw [I.size'];exact hlt
   simp [h1,h2];exact hne
  rw [getD_set_ne true (Ne.symm e),getD_set_ne true (Ne.symm e)];exact I.lst j hj
 .
  intro p hp;obtain ⟨h1,h2,h3,h4⟩:=I.op p hp;exact ⟨h1,by rw [getD_set_ne true (Ne.symm (hne p hp))];exact h2,h3,h4⟩
 .
  intro t ht;show _=get (Dy o.dst x s.sl) t;rw [Ka,Ka];by_cases e:o.dst=some t
  . simp [e]
  simp only [e,if_false];exact I.slot t ht
 .
  intro p hp t ht;show get (Dy o.dst x s.sl) t=_;rw [Ka,if_neg fun h=>(Oper.apart_spec (hap p hp)).2.1 t ht h];exact I.val p hp t ht
 .
  intro q hq t ht;rcases I.rd q hq t ht with h | h
  . exact .inl h
  refine .inr ?_;rw [Ka,if_neg fun h'=>(Oper.apart_spec (hap q hq)).2.2 t h' ht];exact h
 .
  intro p hp j oj hj hu;refine I.ap p hp j oj hj ?_;by_cases e:j=i
  .
   subst e;have:j<listed.size:=by rw [I.size];exact hlt
   simp [this] at hu
  rw [getD_set_ne true (Ne.symm e)] at hu;exact hu
 by_cases ej:j=i
 .
  rw [ej,ho] at hj;cases hj;exact getD_set_true (hall' e he hb)
 rw [getD_set_ne true (Ne.symm ej)] at hl;exact getD_set_true (I.cl j oj hj hl e he hb)
theorem Inv.reach (I:Inv P ops K listed s pend listed' sl'):∀(f:Nat) (o:Oper) (j:Nat),(∀e∈o.after,Region.binds .any e=true->listed'.getD e.on false=true)->Hk ops f o j=true->listed'.getD j false=true:=by
  have dir:∀(o:Oper) (j:Nat),(∀e∈o.after,Region.binds .any e=true->listed'.getD e.on false=true)->T7 o j=true->listed'.getD j false=true:=fun o j hall h=>by
    obtain ⟨k,hk,he⟩:=Array.any_eq_true.1 h;simp only [Cq] at he;have:=hall _ (Array.getElem_mem hk) he.1
    rwa [Ey he.2] at this
  intro f
  induction f with
  | zero=>exact dir
  | succ f ih=>
    intro o j hall h;rcases (Ek _ _▸h:T7 o j=true\/_) with h | h
    . exact dir o j hall h
    . obtain ⟨k,hk,he⟩:=Array.any_eq_true.1 h
      simp only [Cq] at he;have h1:=hall _ (Array.getElem_mem hk) he.1;have h2:=he.2;split at h2
      . rename_i o' ho'
        have hlt:(o.after[k]).on<ops.size:=(Array.getElem?_eq_some_iff.1 ho').1;rw [<-C4 (by rw [I.size'];exact hlt)] at h1;exact ih o' j (I.cl _ o' ho' h1) h2
      cases h2
def Xs (ops:Array Oper)(listed:Array Bool):Nat:=((List.range ops.size).filter fun j=>!listed.getD j true).length

theorem tE {p p':Nat->Bool}{l:List Nat}(h:∀x,p' x=true->p x=true){y:Nat}(hy:y∈l)(h1:p y=true)(h2:p' y=false):(l.filter p').length<(l.filter p).length:=by
  have le:∀l:List Nat,(l.filter p').length<=(l.filter p).length:=by
    intro l
    induction l with
    | nil=>simp
    | cons a r ih=>
      cases e':p' a with
      | true=>simp [Fq,e',h a e',ih]
      | false=>cases e:p a <;> simp [Fq,e',e] <;> omega
  induction l with
  | nil=>cases hy
  | cons a r ih=>
    rcases Cz.1 hy with rfl | hy
    . have:=le r
      simp [Fq,h1,h2];omega
    . have:=ih hy
      cases e':p' a with
      | true=>simp [Fq,e',h a e',this]
      | false=>cases e:p a <;> simp [Fq,e',e] <;> omega

theorem D5 {i:Nat}(hr:i∈Region.ready .any ops listed')(hs:listed'.size=ops.size):Xs ops (listed'.setIfInBounds i true)<Xs ops listed':=by
 obtain ⟨hu,o,ho,_⟩:=mem_ready.1 hr;have hlt:i<ops.size:=(Array.getElem?_eq_some_iff.1 ho).1;refine tE (y:=i) (fun x hx=>?_) (by simpa using hlt) (by simp only [hu,Bs]) ?_
 .
  by_cases e:x=i
  . subst e;simp only [hu,Bs]
  rw [getD_set_ne true (Ne.symm e)] at hx;exact hx
 have:i<listed'.size:=by rw [hs];exact hlt
 simp [this]
theorem Fc {i:Nat}(hr:i∈Region.ready .any ops listed'):0<Xs ops listed':=by
 obtain ⟨hu,o,ho,_⟩:=mem_ready.1 hr;have hlt:i<ops.size:=(Array.getElem?_eq_some_iff.1 ho).1;exact Lb (F1.2 ⟨Hq.2 hlt,by simp only [hu,Bs]⟩)

theorem Gm.congr {g:Gh}{a:Act}{w:World}{sl sl':List (Nat×AV)}{H:List HO}{n:Nat}(h:Gm g ⟨sl',H,n⟩ a w)(e:∀t,get sl' t=get sl t):Gm g ⟨sl,H,n⟩ a w:=
 ⟨h.size,h.defers,fun i=>by have:=h.sl i;rw [<-e i];exact this,h.heap⟩

theorem mJ {Qs:St->Prop}(hr:Region.ready .any ops listed = [])(h:Qs s):∀(fuel:Nat) (listed':Array Bool) (sl':List (Nat×AV)) (g:Gh) (a:Act) (w:World) (Q':Exit->Act->World->Prop),
    Inv P ops K listed s [] listed' sl'->Gm g ⟨sl',s.H,s.n⟩ a w->Xs ops listed'<=fuel->
    (∀g' s' a' w',Gm g' s' a' w'->Ext g w g' w'->Qs s'->Q' .normal a' w')->wpAny P .any ops Q' fuel listed' a w:=by
  intro fuel;cases fuel with
  | zero=>
    intro listed' sl' g a w Q' I hG hf hQ;refine ⟨?_,hQ g s a w (hG.congr fun t=>I.slot t (by simp)) (Ext.refl g w) h⟩;cases hrr:Region.ready .any ops listed' with
    | nil=>rfl
    | cons x r=>have:=Fc (i:=x) (listed':=listed') (by rw [hrr];simp);omega
  | succ fuel=>
    intro listed' sl' g a w Q' I hG hf hQ;refine ⟨fun h0=>hQ g s a w (hG.congr fun t=>I.slot t (by simp)) (Ext.refl g w) h,fun j hj=>?_⟩;have:=I.ready_of hj (fun p hp=>by cases hp);rw [hr] at this;cases this

theorem CanonI.any (hdd:De ops=true){Qs:St->Prop}(hC:CanonI P ops K Qs listed s):∀(fuel:Nat) (pend:List Pd) (listed':Array Bool) (sl':List (Nat×AV)) (g:Gh) (a:Act) (w:World) (Q':Exit->Act->World->Prop),
    Inv P ops K listed s pend listed' sl'->Gm g ⟨sl',s.H,s.n⟩ a w->(∀j,K j s.H)->Xs ops listed'<=fuel->
    (∀g' s' a' w',Gm g' s' a' w'->Ext g w g' w'->Qs s'->Q' .normal a' w')->wpAny P .any ops Q' fuel listed' a w:=by
  induction hC with
  | done listed s hr h=>
    intro fuel
    induction fuel with
    | zero=>
      intro pend listed' sl' g a w Q' I hG hK hf hQ
      have hp:pend = []:=by
        cases hp:pend with
        | nil=>rfl
        | cons x r=>obtain ⟨q,_,hq⟩:=I.oldest (by simp [hp]);have:=Fc hq;omega
      subst hp;refine ⟨?_,hQ g s a w (hG.congr fun t=>I.slot t (by simp)) (Ext.refl g w) h⟩;cases hrr:Region.ready .any ops listed' with
      | nil=>rfl
      | cons x r=>have:=Fc (i:=x) (listed':=listed') (by rw [hrr];simp);omega
    | succ fuel ih=>
      intro pend listed' sl' g a w Q' I hG hK hf hQ;refine ⟨fun h0=>?_,fun j hj=>?_⟩
      . have hp:pend = []:=by
          cases hp:pend with
          | nil=>rfl
          | cons x r=>obtain ⟨q,_,hq⟩:=I.oldest (by simp [hp]);rw [h0] at hq;cases hq
        subst hp;exact hQ g s a w (hG.congr fun t=>I.slot t (by simp)) (Ext.refl g w) h
      . by_cases e:∃q∈pend,q.i=j
        . obtain ⟨q,hq,rfl⟩:=e
          obtain ⟨h1,_,h3,h4⟩:=I.op q hq;refine h3.wpOp h1 hG (hK _) h4 (fun t ht=>I.reads hq hj ht) fun g' a' w' hG' hx=>?_
          exact ih _ _ _ g' a' w' Q' (I.exec hdd hq hj) hG' hK (by have:=D5 hj I.size';omega) fun g'' s'' a'' w'' k1 k2 k3=>hQ g'' s'' a'' w'' k1 (hx.trans k2) k3
        . have:=I.ready_of hj (fun p hp hpe=>e ⟨p,hp,hpe⟩)
          rw [hr] at this;cases this
  | pure listed s i o x ho hr hf hd hp _ ih=>
    intro fuel pend listed' sl' g a w Q' I hG hK hfu hQ;exact ih fuel _ _ _ g a w Q' (I.push hdd ho (by simpa using hr) hf hd hp) hG hK hfu hQ
  | eff listed s i o R ho hr hd hgd hp hKK _ ih=>
    intro fuel
    induction fuel with
    | zero=>
      intro pend listed' sl' g a w Q' I hG hK hf hQ;exfalso
      have hp:pend = []:=by
        cases hp:pend with
        | nil=>rfl
        | cons x r=>obtain ⟨q,_,hq⟩:=I.oldest (by simp [hp]);have:=Fc hq;omega
      subst hp;have hri:i∈Region.ready .any ops listed:=by rw [hr];simp
      have hu:=(mem_ready.1 hri).1;have hlt:i<ops.size:=(Array.getElem?_eq_some_iff.1 ho).1
      have hu':listed'.getD i true=false:=by
        cases h:listed'.getD i true with
        | false=>rfl
        | true=>rw [((I.lst i hlt).1 h).1] at hu;cases hu
      have:0<Xs ops listed':=Lb (F1.2 ⟨Hq.2 hlt,by simp only [hu',Bs]⟩);omega
    | succ fuel ihf=>
      intro pend listed' sl' g a w Q' I hG hK hf hQ;have hri:i∈Region.ready .any ops listed:=by rw [hr];simp
      refine ⟨fun h0=>?_,fun j hj=>?_⟩
      . exfalso
        have hp:pend = []:=by
          cases hp:pend with
          | nil=>rfl
          | cons x r=>obtain ⟨q,_,hq⟩:=I.oldest (by simp [hp]);rw [h0] at hq;cases hq
        subst hp;obtain ⟨hu,o',ho',hall⟩:=mem_ready.1 hri;have hlt:i<ops.size:=(Array.getElem?_eq_some_iff.1 ho).1
        have:i∈Region.ready .any ops listed':=by
          refine mem_ready.2 ⟨?_,o',ho',fun e he hb=>?_⟩
          . cases h:listed'.getD i true with
            | false=>rfl
            | true=>rw [((I.lst i hlt).1 h).1] at hu;cases hu
          . have h1:=hall e he hb
            have h2:e.on<ops.size:=by
              rcases Ix e.on ops.size with h' | h'
              . exact h'
              . have:listed.size<=e.on:=by rw [I.size];exact h'
                simp [Array.getElem?_eq_none this] at h1
            rw [<-C4 (by rw [I.size];exact h2)] at h1;rw [<-C4 (by rw [I.size'];exact h2)];exact (I.lst _ h2).2 ⟨h1,by simp⟩
        rw [h0] at this;cases this
      . by_cases e:∃q∈pend,q.i=j
        . obtain ⟨q,hq,rfl⟩:=e
          obtain ⟨h1,_,h3,h4⟩:=I.op q hq;refine h3.wpOp h1 hG (hK _) h4 (fun t ht=>I.reads hq hj ht) fun g' a' w' hG' hx=>?_
          exact ihf _ _ _ g' a' w' Q' (I.exec hdd hq hj) hG' hK (by have:=D5 hj I.size';omega) fun g'' s'' a'' w'' k1 k2 k3=>hQ g'' s'' a'' w'' k1 (hx.trans k2) k3
        . have hj':=I.ready_of hj (fun p hp hpe=>e ⟨p,hp,hpe⟩)
          rw [hr] at hj';obtain rfl:j=i:=by simpa using hj'
          have hap:=(I.eff hdd ho hri hj .junk s.H).1;unfold wpOp;simp only [ho];rw [if_pos (Eg hgd)];refine .inl (hp g w a _ _ (fun y hy=>?_) hG.heap fun g' w' v x H' hR hv hH hx=>?_)
          . cases y with
            | tmp t=>
              have ht:=Ck (ops:=ops) hy;have h1:get sl' t=get s.sl t:=I.slot t fun p hp' hpd=>(Oper.apart_spec (hap p hp')).1 t hpd ht
              have:=hG.sl t;show Rep g w _ (get s.sl t);rw [<-h1];exact this
            | const v=>exact Fb g w v
            | global n=>exact .val _
            | func f=>exact .fn _ _ _ _ _ rfl (by simp) rfl (by simp)
          exact ih x H' hR fuel pend _ _ g' _ w' Q' (I.eff hdd ho hri hj x H').2 (hG.put hx hd hv hH) (hKK x H' hR) (by have:=D5 hj I.size';omega) fun g'' s'' a'' w'' k1 k2 k3=>hQ g'' s'' a'' w'' k1 (hx.trans k2) k3
  | last listed s i o R ho hr hd hgd hp hl h=>
    intro fuel
    induction fuel with
    | zero=>
      intro pend listed' sl' g a w Q' I hG hK hf hQ;exfalso
      have hp:pend = []:=by
        cases hp:pend with
        | nil=>rfl
        | cons x r=>obtain ⟨q,_,hq⟩:=I.oldest (by simp [hp]);have:=Fc hq;omega
      subst hp;have hri:i∈Region.ready .any ops listed:=by rw [hr];simp
      have hu:=(mem_ready.1 hri).1;have hlt:i<ops.size:=(Array.getElem?_eq_some_iff.1 ho).1
      have hu':listed'.getD i true=false:=by
        cases h:listed'.getD i true with
        | false=>rfl
        | true=>rw [((I.lst i hlt).1 h).1] at hu;cases hu
      have:0<Xs ops listed':=Lb (F1.2 ⟨Hq.2 hlt,by simp only [hu',Bs]⟩);omega
    | succ fuel ihf=>
      intro pend listed' sl' g a w Q' I hG hK hf hQ;have hri:i∈Region.ready .any ops listed:=by rw [hr];simp
      have hlast:∀j,j<ops.size->j≠i->listed.getD j false=true/\Hk ops 7 o j=true:=by
        intro j hj hne;have h1:=List.all_eq_true.1 hl j (Hq.2 hj)
        have h2:Nat.beq j i=false:=by
          cases hq:Nat.beq j i with
          | false=>rfl
          | true=>exact absurd (Ey hq) hne
        rw [h2,Bl,Cq] at h1;exact h1
      refine ⟨fun h0=>?_,fun j hj=>?_⟩
      . exfalso
        have hp:pend = []:=by
          cases hp:pend with
          | nil=>rfl
          | cons x r=>obtain ⟨q,_,hq⟩:=I.oldest (by simp [hp]);rw [h0] at hq;cases hq
        subst hp;obtain ⟨hu,o',ho',hall⟩:=mem_ready.1 hri;have hlt:i<ops.size:=(Array.getElem?_eq_some_iff.1 ho).1
        have:i∈Region.ready .any ops listed':=by
          refine mem_ready.2 ⟨?_,o',ho',fun e he hb=>?_⟩
          . cases h:listed'.getD i true with
            | false=>rfl
            | true=>rw [((I.lst i hlt).1 h).1] at hu;cases hu
          . have h1:=hall e he hb
            have h2:e.on<ops.size:=by
              rcases Ix e.on ops.size with h' | h'
              . exact h'
              . have:listed.size<=e.on:=by rw [I.size];exact h'
                simp [Array.getElem?_eq_none this] at h1
            rw [<-C4 (by rw [I.size];exact h2)] at h1;rw [<-C4 (by rw [I.size'];exact h2)];exact (I.lst _ h2).2 ⟨h1,by simp⟩
        rw [h0] at this;cases this
      . by_cases e:∃q∈pend,q.i=j
        . obtain ⟨q,hq,rfl⟩:=e
          obtain ⟨h1,_,h3,h4⟩:=I.op q hq;refine h3.wpOp h1 hG (hK _) h4 (fun t ht=>I.reads hq hj ht) fun g' a' w' hG' hx=>?_
          exact ihf _ _ _ g' a' w' Q' (I.exec hdd hq hj) hG' hK (by have:=D5 hj I.size';omega) fun g'' s'' a'' w'' k1 k2 k3=>hQ g'' s'' a'' w'' k1 (hx.trans k2) k3
        . have hj':=I.ready_of hj (fun p hp hpe=>e ⟨p,hp,hpe⟩)
          rw [hr] at hj';obtain rfl:j=i:=by simpa using hj'
          obtain ⟨hu,o1,ho1,hall⟩:=mem_ready.1 hri;obtain ⟨hu',o2,ho2,hall'⟩:=mem_ready.1 hj;rw [ho] at ho2;cases ho2
          have hpn:pend = []:=by
            cases hp:pend with
            | nil=>rfl
            | cons x r=>
              exfalso;have hx:x∈pend:=by simp [hp]
              obtain ⟨q1,q2,_⟩:=I.op x hx;have hxl:x.i<ops.size:=(Array.getElem?_eq_some_iff.1 q1).1;have hne:x.i≠j:=fun he=>by rw [he,hu] at q2;cases q2
              have h3:=I.reach 7 _ x.i hall' (hlast x.i hxl hne).2;rw [<-C4 (by rw [I.size'];exact hxl)] at h3;exact ((I.lst _ hxl).1 h3).2 x hx rfl
          subst hpn;unfold wpOp;simp only [ho];rw [if_pos (Eg hgd)];refine .inl (hp g w a _ _ (fun y hy=>?_) hG.heap fun g' w' v x H' hR hv hH hx=>?_)
          . cases y with
            | tmp t=>
              have h1:get sl' t=get s.sl t:=I.slot t (by simp);have:=hG.sl t;show Rep g w _ (get s.sl t);rw [<-h1];exact this
            | const v=>exact Fb g w v
            | global n=>exact .val _
            | func f=>exact .fn _ _ _ _ _ rfl (by simp) rfl (by simp)
          . refine mJ ?_ (h x H' hR) fuel _ _ g' _ w' Q' (I.eff hdd ho hri hj x H').2 (hG.put hx hd hv hH) (by have:=D5 hj I.size';omega) fun g'' s'' a'' w'' k1 k2 k3=>hQ g'' s'' a'' w'' k1 (hx.trans k2) k3
            cases hrr:Region.ready .any ops (listed.setIfInBounds j true) with
            | nil=>rfl
            | cons y r=>
              exfalso;obtain ⟨h1,o3,ho3,_⟩:=mem_ready.1 (show y∈Region.ready .any ops (listed.setIfInBounds j true) by rw [hrr];simp);have hyl:y<ops.size:=(Array.getElem?_eq_some_iff.1 ho3).1;by_cases e:y=j
              . subst e
                have:y<listed.size:=by rw [I.size];exact hyl
                simp [this] at h1
              . rw [getD_set_ne true (Ne.symm e)] at h1
                have:=(hlast y hyl e).1;rw [<-C4 (by rw [I.size];exact hyl)] at this;rw [this] at h1;cases h1
  | sync K' listed s i o R ho hr hd hgd hp hl hKK _ ih=>
    intro fuel
    induction fuel with
    | zero=>
      intro pend listed' sl' g a w Q' I hG hK hf hQ;exfalso
      have hp:pend = []:=by
        cases hp:pend with
        | nil=>rfl
        | cons x r=>obtain ⟨q,_,hq⟩:=I.oldest (by simp [hp]);have:=Fc hq;omega
      subst hp;have hri:i∈Region.ready .any ops listed:=by rw [hr];simp
      have hu:=(mem_ready.1 hri).1;have hlt:i<ops.size:=(Array.getElem?_eq_some_iff.1 ho).1
      have hu':listed'.getD i true=false:=by
        cases h:listed'.getD i true with
        | false=>rfl
        | true=>rw [((I.lst i hlt).1 h).1] at hu;cases hu
      have:0<Xs ops listed':=Lb (F1.2 ⟨Hq.2 hlt,by simp only [hu',Bs]⟩);omega
    | succ fuel ihf=>
      intro pend listed' sl' g a w Q' I hG hK hf hQ;have hri:i∈Region.ready .any ops listed:=by rw [hr];simp
      have hlast:∀j,j<ops.size->listed.getD j true=true->Hk ops 7 o j=true:=by
        intro j hj hjl;have h1:=List.all_eq_true.1 hl j (Hq.2 hj);rw [<-C4 (by rw [I.size];exact hj),hjl] at h1;simp only [Bz,Bl] at h1;exact h1
      refine ⟨fun h0=>?_,fun j hj=>?_⟩
      . exfalso
        have hp:pend = []:=by
          cases hp:pend with
          | nil=>rfl
          | cons x r=>obtain ⟨q,_,hq⟩:=I.oldest (by simp [hp]);rw [h0] at hq;cases hq
        subst hp;obtain ⟨hu,o',ho',hall⟩:=mem_ready.1 hri;have hlt:i<ops.size:=(Array.getElem?_eq_some_iff.1 ho).1
        have:i∈Region.ready .any ops listed':=by
          refine mem_ready.2 ⟨?_,o',ho',fun e he hb=>?_⟩
          . cases h:listed'.getD i true with
            | false=>rfl
            | true=>rw [((I.lst i hlt).1 h).1] at hu;cases hu
          . have h1:=hall e he hb
            have h2:e.on<ops.size:=by
              rcases Ix e.on ops.size with h' | h'
              . exact h'
              . have:listed.size<=e.on:=by rw [I.size];exact h'
                simp [Array.getElem?_eq_none this] at h1
            rw [<-C4 (by rw [I.size];exact h2)] at h1;rw [<-C4 (by rw [I.size'];exact h2)];exact (I.lst _ h2).2 ⟨h1,by simp⟩
        rw [h0] at this;cases this
      . by_cases e:∃q∈pend,q.i=j
        . obtain ⟨q,hq,rfl⟩:=e
          obtain ⟨h1,_,h3,h4⟩:=I.op q hq;refine h3.wpOp h1 hG (hK _) h4 (fun t ht=>I.reads hq hj ht) fun g' a' w' hG' hx=>?_
          exact ihf _ _ _ g' a' w' Q' (I.exec hdd hq hj) hG' hK (by have:=D5 hj I.size';omega) fun g'' s'' a'' w'' k1 k2 k3=>hQ g'' s'' a'' w'' k1 (hx.trans k2) k3
        . have hj':=I.ready_of hj (fun p hp hpe=>e ⟨p,hp,hpe⟩)
          rw [hr] at hj';obtain rfl:j=i:=by simpa using hj'
          obtain ⟨hu,o1,ho1,hall⟩:=mem_ready.1 hri;obtain ⟨hu',o2,ho2,hall'⟩:=mem_ready.1 hj;rw [ho] at ho2;cases ho2
          have hpn:pend = []:=by
            cases hp:pend with
            | nil=>rfl
            | cons x r=>
              exfalso;have hx:x∈pend:=by simp [hp]
              obtain ⟨q1,q2,_⟩:=I.op x hx;have hxl:x.i<ops.size:=(Array.getElem?_eq_some_iff.1 q1).1;have hne:x.i≠j:=fun he=>by rw [he,hu] at q2;cases q2
              have h3:=I.reach 7 _ x.i hall' (hlast x.i hxl q2);rw [<-C4 (by rw [I.size'];exact hxl)] at h3;exact ((I.lst _ hxl).1 h3).2 x hx rfl
          subst hpn;unfold wpOp;simp only [ho];rw [if_pos (Eg hgd)];refine .inl (hp g w a _ _ (fun y hy=>?_) hG.heap fun g' w' v x H' hR hv hH hx=>?_)
          . cases y with
            | tmp t=>
              have h1:get sl' t=get s.sl t:=I.slot t (by simp);have:=hG.sl t;show Rep g w _ (get s.sl t);rw [<-h1];exact this
            | const v=>exact Fb g w v
            | global n=>exact .val _
            | func f=>exact .fn _ _ _ _ _ rfl (by simp) rfl (by simp)
          . have I2:=(I.eff hdd ho hri hj x H').2
            exact ih x H' hR fuel [] _ _ g' _ w' Q' ⟨I2.size,I2.size',I2.lst,by simp,I2.slot,by simp,by simp,by simp,by simp,by simp,by simp,by simp,by simp,I2.cl⟩ (hG.put hx hd hv hH) (hKK x H' hR) (by have:=D5 hj I.size';omega) fun g'' s'' a'' w'' k1 k2 k3=>hQ g'' s'' a'' w'' k1 (hx.trans k2) k3
  | phase K' listed s i o R ho hr hd hgd hp hl hKK _ ih=>
    intro fuel
    induction fuel with
    | zero=>
      intro pend listed' sl' g a w Q' I hG hK hf hQ;exfalso
      have hp:pend = []:=by
        cases hp:pend with
        | nil=>rfl
        | cons x r=>obtain ⟨q,_,hq⟩:=I.oldest (by simp [hp]);have:=Fc hq;omega
      subst hp;have hri:i∈Region.ready .any ops listed:=by rw [hr];simp
      have hu:=(mem_ready.1 hri).1;have hlt:i<ops.size:=(Array.getElem?_eq_some_iff.1 ho).1
      have hu':listed'.getD i true=false:=by
        cases h:listed'.getD i true with
        | false=>rfl
        | true=>rw [((I.lst i hlt).1 h).1] at hu;cases hu
      have:0<Xs ops listed':=Lb (F1.2 ⟨Hq.2 hlt,by simp only [hu',Bs]⟩);omega
    | succ fuel ihf=>
      intro pend listed' sl' g a w Q' I hG hK hf hQ;have hri:i∈Region.ready .any ops listed:=by rw [hr];simp
      refine ⟨fun h0=>?_,fun j hj=>?_⟩
      . exfalso
        have hp:pend = []:=by
          cases hp:pend with
          | nil=>rfl
          | cons x r=>obtain ⟨q,_,hq⟩:=I.oldest (by simp [hp]);rw [h0] at hq;cases hq
        subst hp;obtain ⟨hu,o',ho',hall⟩:=mem_ready.1 hri;have hlt:i<ops.size:=(Array.getElem?_eq_some_iff.1 ho).1
        have:i∈Region.ready .any ops listed':=by
          refine mem_ready.2 ⟨?_,o',ho',fun e he hb=>?_⟩
          . cases h:listed'.getD i true with
            | false=>rfl
            | true=>rw [((I.lst i hlt).1 h).1] at hu;cases hu
          . have h1:=hall e he hb
            have h2:e.on<ops.size:=by
              rcases Ix e.on ops.size with h' | h'
              . exact h'
              . have:listed.size<=e.on:=by rw [I.size];exact h'
                simp [Array.getElem?_eq_none this] at h1
            rw [<-C4 (by rw [I.size];exact h2)] at h1;rw [<-C4 (by rw [I.size'];exact h2)];exact (I.lst _ h2).2 ⟨h1,by simp⟩
        rw [h0] at this;cases this
      . by_cases e:∃q∈pend,q.i=j
        . obtain ⟨q,hq,rfl⟩:=e
          obtain ⟨h1,_,h3,h4⟩:=I.op q hq;refine h3.wpOp h1 hG (hK _) h4 (fun t ht=>I.reads hq hj ht) fun g' a' w' hG' hx=>?_
          exact ihf _ _ _ g' a' w' Q' (I.exec hdd hq hj) hG' hK (by have:=D5 hj I.size';omega) fun g'' s'' a'' w'' k1 k2 k3=>hQ g'' s'' a'' w'' k1 (hx.trans k2) k3
        . have hj':=I.ready_of hj (fun p hp hpe=>e ⟨p,hp,hpe⟩)
          rw [hr] at hj';obtain rfl:j=i:=by simpa using hj'
          obtain ⟨hu,o1,ho1,hall⟩:=mem_ready.1 hri;obtain ⟨hu',o2,ho2,hall'⟩:=mem_ready.1 hj;rw [ho] at ho2;cases ho2;have hap:=(I.eff hdd ho hri hj .junk s.H).1;unfold wpOp;simp only [ho];rw [if_pos (Eg hgd)];refine .inl (hp g w a _ _ (fun y hy=>?_) hG.heap fun g' w' v x H' hR hv hH hx=>?_)
          . cases y with
            | tmp t=>
              have ht:=Ck (ops:=ops) hy;have h1:get sl' t=get s.sl t:=I.slot t fun p hp' hpd=>(Oper.apart_spec (hap p hp')).1 t hpd ht
              have:=hG.sl t;show Rep g w _ (get s.sl t);rw [<-h1];exact this
            | const v=>exact Fb g w v
            | global n=>exact .val _
            | func f=>exact .fn _ _ _ _ _ rfl (by simp) rfl (by simp)
          . have I2:=(I.eff hdd ho hri hj x H').2
            refine ih x H' hR fuel pend _ _ g' _ w' Q' ⟨I2.size,I2.size',I2.lst,fun p hp'=>?_,I2.slot,I2.val,I2.rd,I2.rv,I2.ap,I2.ord,I2.slf,I2.dep,I2.idx,I2.cl⟩ (hG.put hx hd hv hH) (hKK x H' hR) (by have:=D5 hj I.size';omega) fun g'' s'' a'' w'' k1 k2 k3=>hQ g'' s'' a'' w'' k1 (hx.trans k2) k3
            obtain ⟨q1,q2,q3,q4⟩:=I2.op p hp';refine ⟨q1,q2,q3.weaken ?_,q4⟩;obtain ⟨r1,r2,_⟩:=I.op p hp';have hxl:p.i<ops.size:=(Array.getElem?_eq_some_iff.1 r1).1;refine hl p.i hxl (by rw [<-C4 (by rw [I.size];exact hxl)];exact r2) ?_;cases hrch:Hk ops 7 _ p.i with
            | false=>rfl
            | true=>
              have h3:=I.reach 7 _ p.i hall' hrch;rw [<-C4 (by rw [I.size'];exact hxl)] at h3;exact absurd rfl (((I.lst _ hxl).1 h3).2 p hp')
  | two listed s i i2 o o2 R R2 ho hob hr hd hd2 hgd hgd2 hp hp2 hKK hKK2 _ _ ih ih2=>
    intro fuel
    induction fuel with
    | zero=>
      intro pend listed' sl' g a w Q' I hG hK hf hQ;exfalso
      have hp:pend = []:=by
        cases hp:pend with
        | nil=>rfl
        | cons x r=>obtain ⟨q,_,hq⟩:=I.oldest (by simp [hp]);have:=Fc hq;omega
      subst hp;have hri:i∈Region.ready .any ops listed:=by rw [hr];simp
      have hu:=(mem_ready.1 hri).1;have hlt:i<ops.size:=(Array.getElem?_eq_some_iff.1 ho).1
      have hu':listed'.getD i true=false:=by
        cases h:listed'.getD i true with
        | false=>rfl
        | true=>rw [((I.lst i hlt).1 h).1] at hu;cases hu
      have:0<Xs ops listed':=Lb (F1.2 ⟨Hq.2 hlt,by simp only [hu',Bs]⟩);omega
    | succ fuel ihf=>
      intro pend listed' sl' g a w Q' I hG hK hf hQ;have hri:i∈Region.ready .any ops listed:=by rw [hr];simp
      refine ⟨fun h0=>?_,fun j hj=>?_⟩
      . exfalso
        have hp:pend = []:=by
          cases hp:pend with
          | nil=>rfl
          | cons x r=>obtain ⟨q,_,hq⟩:=I.oldest (by simp [hp]);rw [h0] at hq;cases hq
        subst hp;obtain ⟨hu,o',ho',hall⟩:=mem_ready.1 hri;have hlt:i<ops.size:=(Array.getElem?_eq_some_iff.1 ho).1
        have:i∈Region.ready .any ops listed':=by
          refine mem_ready.2 ⟨?_,o',ho',fun e he hb=>?_⟩
          . cases h:listed'.getD i true with
            | false=>rfl
            | true=>rw [((I.lst i hlt).1 h).1] at hu;cases hu
          . have h1:=hall e he hb
            have h2:e.on<ops.size:=by
              rcases Ix e.on ops.size with h' | h'
              . exact h'
              . have:listed.size<=e.on:=by rw [I.size];exact h'
                simp [Array.getElem?_eq_none this] at h1
            rw [<-C4 (by rw [I.size];exact h2)] at h1;rw [<-C4 (by rw [I.size'];exact h2)];exact (I.lst _ h2).2 ⟨h1,by simp⟩
        rw [h0] at this;cases this
      . by_cases e:∃q∈pend,q.i=j
        . obtain ⟨q,hq,rfl⟩:=e
          obtain ⟨h1,_,h3,h4⟩:=I.op q hq;refine h3.wpOp h1 hG (hK _) h4 (fun t ht=>I.reads hq hj ht) fun g' a' w' hG' hx=>?_
          exact ihf _ _ _ g' a' w' Q' (I.exec hdd hq hj) hG' hK (by have:=D5 hj I.size';omega) fun g'' s'' a'' w'' k1 k2 k3=>hQ g'' s'' a'' w'' k1 (hx.trans k2) k3
        . have hj':=I.ready_of hj (fun p hp hpe=>e ⟨p,hp,hpe⟩)
          rw [hr] at hj';have hor:j=i\/j=i2:=by simpa using hj'
          rcases hor with rfl | rfl
          . skip
            have hap:=(I.eff hdd ho hri hj .junk s.H).1;unfold wpOp;simp only [ho];rw [if_pos (Eg hgd)];refine .inl (hp g w a _ _ (fun y hy=>?_) hG.heap fun g' w' v x H' hR hv hH hx=>?_)
            . cases y with
              | tmp t=>
                have ht:=Ck (ops:=ops) hy;have h1:get sl' t=get s.sl t:=I.slot t fun p hp' hpd=>(Oper.apart_spec (hap p hp')).1 t hpd ht
                have:=hG.sl t;show Rep g w _ (get s.sl t);rw [<-h1];exact this
              | const v=>exact Fb g w v
              | global n=>exact .val _
              | func f=>exact .fn _ _ _ _ _ rfl (by simp) rfl (by simp)
            exact ih x H' hR fuel pend _ _ g' _ w' Q' (I.eff hdd ho hri hj x H').2 (hG.put hx hd hv hH) (hKK x H' hR) (by have:=D5 hj I.size';omega) fun g'' s'' a'' w'' k1 k2 k3=>hQ g'' s'' a'' w'' k1 (hx.trans k2) k3
          . have hri2:j∈Region.ready .any ops listed:=by rw [hr];simp
            have hap:=(I.eff hdd hob hri2 hj .junk s.H).1;unfold wpOp;simp only [hob];rw [if_pos (Eg hgd2)];refine .inl (hp2 g w a _ _ (fun y hy=>?_) hG.heap fun g' w' v x H' hR hv hH hx=>?_)
            . cases y with
              | tmp t=>
                have ht:=Ck (ops:=ops) hy;have h1:get sl' t=get s.sl t:=I.slot t fun p hp' hpd=>(Oper.apart_spec (hap p hp')).1 t hpd ht
                have:=hG.sl t;show Rep g w _ (get s.sl t);rw [<-h1];exact this
              | const v=>exact Fb g w v
              | global n=>exact .val _
              | func f=>exact .fn _ _ _ _ _ rfl (by simp) rfl (by simp)
            exact ih2 x H' hR fuel pend _ _ g' _ w' Q' (I.eff hdd hob hri2 hj x H').2 (hG.put hx hd2 hv hH) (hKK2 x H' hR) (by have:=D5 hj I.size';omega) fun g'' s'' a'' w'' k1 k2 k3=>hQ g'' s'' a'' w'' k1 (hx.trans k2) k3
  | many listed s i L O R hr hall _ ih=>
    intro fuel
    induction fuel with
    | zero=>
      intro pend listed' sl' g a w Q' I hG hK hf hQ;exfalso
      have hp:pend = []:=by
        cases hp:pend with
        | nil=>rfl
        | cons x r=>obtain ⟨q,_,hq⟩:=I.oldest (by simp [hp]);have:=Fc hq;omega
      subst hp;have hri:i∈Region.ready .any ops listed:=by rw [hr];simp
      have ho:=(hall i (Fs ..)).1;have hu:=(mem_ready.1 hri).1;have hlt:i<ops.size:=(Array.getElem?_eq_some_iff.1 ho).1
      have hu':listed'.getD i true=false:=by
        cases h:listed'.getD i true with
        | false=>rfl
        | true=>rw [((I.lst i hlt).1 h).1] at hu;cases hu
      have:0<Xs ops listed':=Lb (F1.2 ⟨Hq.2 hlt,by simp only [hu',Bs]⟩);omega
    | succ fuel ihf=>
      intro pend listed' sl' g a w Q' I hG hK hf hQ;have hri:i∈Region.ready .any ops listed:=by rw [hr];simp
      have ho:=(hall i (Fs ..)).1;refine ⟨fun h0=>?_,fun j hj=>?_⟩
      . exfalso
        have hp:pend = []:=by
          cases hp:pend with
          | nil=>rfl
          | cons x r=>obtain ⟨q,_,hq⟩:=I.oldest (by simp [hp]);rw [h0] at hq;cases hq
        subst hp;obtain ⟨hu,o',ho',hall2⟩:=mem_ready.1 hri;have hlt:i<ops.size:=(Array.getElem?_eq_some_iff.1 ho).1
        have:i∈Region.ready .any ops listed':=by
          refine mem_ready.2 ⟨?_,o',ho',fun e he hb=>?_⟩
          . cases h:listed'.getD i true with
            | false=>rfl
            | true=>rw [((I.lst i hlt).1 h).1] at hu;cases hu
          . have h1:=hall2 e he hb
            have h2:e.on<ops.size:=by
              rcases Ix e.on ops.size with h' | h'
              . exact h'
              . have:listed.size<=e.on:=by rw [I.size];exact h'
                simp [Array.getElem?_eq_none this] at h1
            rw [<-C4 (by rw [I.size];exact h2)] at h1;rw [<-C4 (by rw [I.size'];exact h2)];exact (I.lst _ h2).2 ⟨h1,by simp⟩
        rw [h0] at this;cases this
      . by_cases e:∃q∈pend,q.i=j
        . obtain ⟨q,hq,rfl⟩:=e
          obtain ⟨h1,_,h3,h4⟩:=I.op q hq;refine h3.wpOp h1 hG (hK _) h4 (fun t ht=>I.reads hq hj ht) fun g' a' w' hG' hx=>?_
          exact ihf _ _ _ g' a' w' Q' (I.exec hdd hq hj) hG' hK (by have:=D5 hj I.size';omega) fun g'' s'' a'' w'' k1 k2 k3=>hQ g'' s'' a'' w'' k1 (hx.trans k2) k3
        . have hj':=I.ready_of hj (fun p hp hpe=>e ⟨p,hp,hpe⟩)
          have hri2:j∈Region.ready .any ops listed:=hj';rw [hr] at hj';obtain ⟨hob,hd2,hgd2,hp2,hKK2⟩:=hall j hj';have hap:=(I.eff hdd hob hri2 hj .junk s.H).1;unfold wpOp;simp only [hob];rw [if_pos (Eg hgd2)];refine .inl (hp2 g w a _ _ (fun y hy=>?_) hG.heap fun g' w' v x H' hR hv hH hx=>?_)
          . cases y with
            | tmp t=>
              have ht:=Ck (ops:=ops) hy;have h1:get sl' t=get s.sl t:=I.slot t fun p hp' hpd=>(Oper.apart_spec (hap p hp')).1 t hpd ht
              have:=hG.sl t;show Rep g w _ (get s.sl t);rw [<-h1];exact this
            | const v=>exact Fb g w v
            | global n=>exact .val _
            | func f=>exact .fn _ _ _ _ _ rfl (by simp) rfl (by simp)
          exact ih j hj' x H' hR fuel pend _ _ g' _ w' Q' (I.eff hdd hob hri2 hj x H').2 (hG.put hx hd2 hv hH) (hKK2 x H' hR) (by have:=D5 hj I.size';omega) fun g'' s'' a'' w'' k1 k2 k3=>hQ g'' s'' a'' w'' k1 (hx.trans k2) k3
  | effg listed s i o G L x F ho hr hd hgw hL hp hnG hKK _ ih=>
    intro fuel
    induction fuel with
    | zero=>
      intro pend listed' sl' g a w Q' I hG hK hf hQ;exfalso
      have hp:pend = []:=by
        cases hp:pend with
        | nil=>rfl
        | cons x r=>obtain ⟨q,_,hq⟩:=I.oldest (by simp [hp]);have:=Fc hq;omega
      subst hp;have hri:i∈Region.ready .any ops listed:=by rw [hr];simp
      have hu:=(mem_ready.1 hri).1;have hlt:i<ops.size:=(Array.getElem?_eq_some_iff.1 ho).1
      have hu':listed'.getD i true=false:=by
        cases h:listed'.getD i true with
        | false=>rfl
        | true=>rw [((I.lst i hlt).1 h).1] at hu;cases hu
      have:0<Xs ops listed':=Lb (F1.2 ⟨Hq.2 hlt,by simp only [hu',Bs]⟩);omega
    | succ fuel ihf=>
      intro pend listed' sl' g a w Q' I hG hK hf hQ;have hri:i∈Region.ready .any ops listed:=by rw [hr];simp
      refine ⟨fun h0=>?_,fun j hj=>?_⟩
      . exfalso
        have hp:pend = []:=by
          cases hp:pend with
          | nil=>rfl
          | cons x r=>obtain ⟨q,_,hq⟩:=I.oldest (by simp [hp]);rw [h0] at hq;cases hq
        subst hp;obtain ⟨hu,o',ho',hall⟩:=mem_ready.1 hri;have hlt:i<ops.size:=(Array.getElem?_eq_some_iff.1 ho).1
        have:i∈Region.ready .any ops listed':=by
          refine mem_ready.2 ⟨?_,o',ho',fun e he hb=>?_⟩
          . cases h:listed'.getD i true with
            | false=>rfl
            | true=>rw [((I.lst i hlt).1 h).1] at hu;cases hu
          . have h1:=hall e he hb
            have h2:e.on<ops.size:=by
              rcases Ix e.on ops.size with h' | h'
              . exact h'
              . have:listed.size<=e.on:=by rw [I.size];exact h'
                simp [Array.getElem?_eq_none this] at h1
            rw [<-C4 (by rw [I.size];exact h2)] at h1;rw [<-C4 (by rw [I.size'];exact h2)];exact (I.lst _ h2).2 ⟨h1,by simp⟩
        rw [h0] at this;cases this
      . by_cases e:∃q∈pend,q.i=j
        . obtain ⟨q,hq,rfl⟩:=e
          obtain ⟨h1,_,h3,h4⟩:=I.op q hq;refine h3.wpOp h1 hG (hK _) h4 (fun t ht=>I.reads hq hj ht) fun g' a' w' hG' hx=>?_
          exact ihf _ _ _ g' a' w' Q' (I.exec hdd hq hj) hG' hK (by have:=D5 hj I.size';omega) fun g'' s'' a'' w'' k1 k2 k3=>hQ g'' s'' a'' w'' k1 (hx.trans k2) k3
        . have hj':=I.ready_of hj (fun p hp hpe=>e ⟨p,hp,hpe⟩)
          rw [hr] at hj';obtain rfl:j=i:=by simpa using hj'
          have hap:=(I.eff hdd ho hri hj .junk s.H).1
          have hsl:∀t∈o.looksAt ops,Rep g w (a.tmps.getD t undef) (get s.sl t):=fun t ht=>by
            have h1:get sl' t=get s.sl t:=I.slot t fun p hp' hpd=>(Oper.apart_spec (hap p hp')).1 t hpd ht
            have:=hG.sl t;rw [<-h1];exact this
          obtain ⟨k1,k2⟩:=Hp hgw hsl;unfold wpOp;simp only [ho];by_cases hg:H9 G
          . rw [if_pos (k1 hg)]
            refine .inl (hp hg g w a _ _ (fun y hy=>?_) hG.heap fun g' w' v x' H' ⟨e1,e2⟩ hv hH hx=>?_)
            . cases y with
              | tmp t=>
                have ht:=Ck (ops:=ops) hy;show Rep g w _ (get (L++s.sl) t);rcases K2 L s.sl t with ⟨z,hz,e⟩ | e
                . rw [e];exact hL (t,z) hz g w _ hg (hsl t ht)
                rw [e];exact hsl t ht
              | const v=>exact Fb g w v
              | global n=>exact .val _
              | func f=>exact .fn _ _ _ _ _ rfl (by simp) rfl (by simp)
            . subst e1
              exact ih H' e2 fuel pend _ _ g' _ w' Q' (I.eff hdd ho hri hj _ _).2 (hG.put hx hd (.opt _ _ _ (fun _=>hv) (fun h=>absurd hg h)) hH) (hKK H' e2) (by have:=D5 hj I.size';omega) fun g'' s'' a'' w'' k1 k2 k3=>hQ g'' s'' a'' w'' k1 (hx.trans k2) k3
          . rw [if_neg (by rw [k2 hg];decide)]
            exact ih s.H (hnG hg) fuel pend _ _ g _ w Q' (I.eff hdd ho hri hj _ _).2 (hG.put (Ext.refl g w) hd (.opt _ _ _ (fun h=>absurd h hg) (fun _=>rfl)) hG.heap) (hKK s.H (hnG hg)) (by have:=D5 hj I.size';omega) hQ
  | phaseg K' listed s i o G L x H2 ho hr hd hgw hL hp hnG hl hKK _ ih=>
    intro fuel
    induction fuel with
    | zero=>
      intro pend listed' sl' g a w Q' I hG hK hf hQ;exfalso
      have hp:pend = []:=by
        cases hp:pend with
        | nil=>rfl
        | cons x r=>obtain ⟨q,_,hq⟩:=I.oldest (by simp [hp]);have:=Fc hq;omega
      subst hp;have hri:i∈Region.ready .any ops listed:=by rw [hr];simp
      have hu:=(mem_ready.1 hri).1;have hlt:i<ops.size:=(Array.getElem?_eq_some_iff.1 ho).1
      have hu':listed'.getD i true=false:=by
        cases h:listed'.getD i true with
        | false=>rfl
        | true=>rw [((I.lst i hlt).1 h).1] at hu;cases hu
      have:0<Xs ops listed':=Lb (F1.2 ⟨Hq.2 hlt,by simp only [hu',Bs]⟩);omega
    | succ fuel ihf=>
      intro pend listed' sl' g a w Q' I hG hK hf hQ;have hri:i∈Region.ready .any ops listed:=by rw [hr];simp
      refine ⟨fun h0=>?_,fun j hj=>?_⟩
      . exfalso
        have hp:pend = []:=by
          cases hp:pend with
          | nil=>rfl
          | cons x r=>obtain ⟨q,_,hq⟩:=I.oldest (by simp [hp]);rw [h0] at hq;cases hq
        subst hp;obtain ⟨hu,o',ho',hall⟩:=mem_ready.1 hri;have hlt:i<ops.size:=(Array.getElem?_eq_some_iff.1 ho).1
        have:i∈Region.ready .any ops listed':=by
          refine mem_ready.2 ⟨?_,o',ho',fun e he hb=>?_⟩
          . cases h:listed'.getD i true with
            | false=>rfl
            | true=>rw [((I.lst i hlt).1 h).1] at hu;cases hu
          . have h1:=hall e he hb
            have h2:e.on<ops.size:=by
              rcases Ix e.on ops.size with h' | h'
              . exact h'
              . have:listed.size<=e.on:=by rw [I.size];exact h'
                simp [Array.getElem?_eq_none this] at h1
            rw [<-C4 (by rw [I.size];exact h2)] at h1;rw [<-C4 (by rw [I.size'];exact h2)];exact (I.lst _ h2).2 ⟨h1,by simp⟩
        rw [h0] at this;cases this
      . by_cases e:∃q∈pend,q.i=j
        . obtain ⟨q,hq,rfl⟩:=e
          obtain ⟨h1,_,h3,h4⟩:=I.op q hq;refine h3.wpOp h1 hG (hK _) h4 (fun t ht=>I.reads hq hj ht) fun g' a' w' hG' hx=>?_
          exact ihf _ _ _ g' a' w' Q' (I.exec hdd hq hj) hG' hK (by have:=D5 hj I.size';omega) fun g'' s'' a'' w'' k1 k2 k3=>hQ g'' s'' a'' w'' k1 (hx.trans k2) k3
        . have hj':=I.ready_of hj (fun p hp hpe=>e ⟨p,hp,hpe⟩)
          rw [hr] at hj';obtain rfl:j=i:=by simpa using hj'
          obtain ⟨hu,o1,ho1,hall⟩:=mem_ready.1 hri;obtain ⟨hu',o2,ho2,hall'⟩:=mem_ready.1 hj;rw [ho] at ho2;cases ho2;have hap:=(I.eff hdd ho hri hj .junk s.H).1
          have hwk:∀p∈pend,p.i<ops.size/\listed.getD p.i false=true/\Hk ops 7 o p.i=false:=fun p hp'=>by
            obtain ⟨r1,r2,_⟩:=I.op p hp';have hxl:p.i<ops.size:=(Array.getElem?_eq_some_iff.1 r1).1;refine ⟨hxl,by rw [<-C4 (by rw [I.size];exact hxl)];exact r2,?_⟩;cases hrch:Hk ops 7 o p.i with
            | false=>rfl
            | true=>
              have h3:=I.reach 7 _ p.i hall' hrch;rw [<-C4 (by rw [I.size'];exact hxl)] at h3;exact absurd rfl (((I.lst _ hxl).1 h3).2 p hp')
          have hsl:∀t∈o.looksAt ops,Rep g w (a.tmps.getD t undef) (get s.sl t):=fun t ht=>by
            have h1:get sl' t=get s.sl t:=I.slot t fun p hp' hpd=>(Oper.apart_spec (hap p hp')).1 t hpd ht
            have:=hG.sl t;rw [<-h1];exact this
          obtain ⟨k1,k2⟩:=Hp hgw hsl;unfold wpOp;simp only [ho];by_cases hg:H9 G
          . rw [if_pos (k1 hg)]
            refine .inl (hp hg g w a _ _ (fun y hy=>?_) hG.heap fun g' w' v x' H' ⟨e1,e2⟩ hv hH hx=>?_)
            . cases y with
              | tmp t=>
                have ht:=Ck (ops:=ops) hy;show Rep g w _ (get (L++s.sl) t);rcases K2 L s.sl t with ⟨z,hz,e⟩ | e
                . rw [e];exact hL (t,z) hz g w _ hg (hsl t ht)
                rw [e];exact hsl t ht
              | const v=>exact Fb g w v
              | global n=>exact .val _
              | func f=>exact .fn _ _ _ _ _ rfl (by simp) rfl (by simp)
            . subst e1;subst e2
              exact ih fuel pend _ _ g' _ w' Q' (let I2:=(I.eff hdd ho hri hj _ _).2;⟨I2.size,I2.size',I2.lst,fun p hp'=>⟨(I2.op p hp').1,(I2.op p hp').2.1,(I2.op p hp').2.2.1.weaken (hl p.i (hwk p hp').1 (hwk p hp').2.1 (hwk p hp').2.2),(I2.op p hp').2.2.2⟩,I2.slot,I2.val,I2.rd,I2.rv,I2.ap,I2.ord,I2.slf,I2.dep,I2.idx,I2.cl⟩) (hG.put hx hd (.opt _ _ _ (fun _=>hv) (fun h=>absurd hg h)) hH) hKK (by have:=D5 hj I.size';omega) fun g'' s'' a'' w'' k1 k2 k3=>hQ g'' s'' a'' w'' k1 (hx.trans k2) k3
          . rw [if_neg (by rw [k2 hg];decide)]
            have hH:HOK g w H2:=by have:=hG.heap;rwa [show s.H=H2 from hnG hg] at this
            exact ih fuel pend _ _ g _ w Q' (let I2:=(I.eff hdd ho hri hj _ _).2;⟨I2.size,I2.size',I2.lst,fun p hp'=>⟨(I2.op p hp').1,(I2.op p hp').2.1,(I2.op p hp').2.2.1.weaken (hl p.i (hwk p hp').1 (hwk p hp').2.1 (hwk p hp').2.2),(I2.op p hp').2.2.2⟩,I2.slot,I2.val,I2.rd,I2.rv,I2.ap,I2.ord,I2.slf,I2.dep,I2.idx,I2.cl⟩) (hG.put (Ext.refl g w) hd (.opt _ _ _ (fun h=>absurd h hg) (fun _=>rfl)) hH) hKK (by have:=D5 hj I.size';omega) hQ

def E5 (P:Program)(ops:Array Oper)(K:List HO->Prop)(Q:St->Prop)(listed:Array Bool)(s:St):Prop:=CanonI P ops (fun _=>K) Q listed s
section
variable {P:Program} {ops:Array Oper} {K:List HO->Prop} {Q:St->Prop}
theorem E5.done (listed:Array Bool)(s:St)(hr:Region.ready .any ops listed = [])(h:Q s):E5 P ops K Q listed s:=CanonI.done listed s hr h
theorem E5.pure (listed:Array Bool)(s:St)(i:Nat)(o:Oper)(x:AV)(ho:ops[i]? = some o)(hr:(Region.ready .any ops listed).contains i=true)(hf:Region.free .any ops listed i=true)
 (hd:J5 o.dst s.n=true) (hp:PStep P ops o s.sl K x) (h:E5 P ops K Q (listed.setIfInBounds i true) ⟨Dy o.dst x s.sl,s.H,s.n⟩):E5 P ops K Q listed s:=CanonI.pure listed s i o x ho hr hf hd hp h
theorem E5.eff (listed:Array Bool)(s:St)(i:Nat)(o:Oper)(R:AV->List HO->Prop)(ho:ops[i]? = some o)(hr:Region.ready .any ops listed = [i])
 (hd:J5 o.dst s.n=true) (hw:o.guard=none) (hp:Jj P o (Dn s.sl) s.H R)
 (hK:∀x H',R x H'->K H') (h:∀x H',R x H'->E5 P ops K Q (listed.setIfInBounds i true) ⟨Dy o.dst x s.sl,H',s.n⟩):E5 P ops K Q listed s:=CanonI.eff listed s i o R ho hr hd hw hp (fun x H' hR _=>hK x H' hR) h
theorem E5.last (listed:Array Bool)(s:St)(i:Nat)(o:Oper)(R:AV->List HO->Prop)(ho:ops[i]? = some o)(hr:Region.ready .any ops listed = [i])
 (hd:J5 o.dst s.n=true) (hw:o.guard=none) (hp:Jj P o (Dn s.sl) s.H R) (hl:oC ops listed o i=true)
 (h:∀x H',R x H'->Q ⟨Dy o.dst x s.sl,H',s.n⟩):E5 P ops K Q listed s:=CanonI.last listed s i o R ho hr hd hw hp hl h
theorem E5.sync (K':List HO->Prop)(listed:Array Bool)(s:St)(i:Nat)(o:Oper)(R:AV->List HO->Prop)(ho:ops[i]? = some o)(hr:Region.ready .any ops listed = [i])
 (hd:J5 o.dst s.n=true) (hw:o.guard=none) (hp:Jj P o (Dn s.sl) s.H R) (hl:xD ops listed o=true) (hK:∀x H',R x H'->K' H')
 (h:∀x H',R x H'->E5 P ops K' Q (listed.setIfInBounds i true) ⟨Dy o.dst x s.sl,H',s.n⟩):E5 P ops K Q listed s:=CanonI.sync (fun _=>K') listed s i o R ho hr hd hw hp hl (fun x H' hR _=>hK x H' hR) h
theorem E5.two (listed:Array Bool)(s:St)(i j:Nat)(o o':Oper)(R R':AV->List HO->Prop)(ho:ops[i]? = some o)(ho':ops[j]? = some o')(hr:Region.ready .any ops listed = [i,j])
 (hd:J5 o.dst s.n=true) (hd':J5 o'.dst s.n=true) (hw:o.guard=none) (hw':o'.guard=none) (hp:Jj P o (Dn s.sl) s.H R) (hp':Jj P o' (Dn s.sl) s.H R')
 (hK:∀x H',R x H'->K H') (hK':∀x H',R' x H'->K H') (h:∀x H',R x H'->E5 P ops K Q (listed.setIfInBounds i true) ⟨Dy o.dst x s.sl,H',s.n⟩)
 (h':∀x H',R' x H'->E5 P ops K Q (listed.setIfInBounds j true) ⟨Dy o'.dst x s.sl,H',s.n⟩):E5 P ops K Q listed s:=CanonI.two listed s i j o o' R R' ho ho' hr hd hd' hw hw' hp hp' (fun x H' hR _=>hK x H' hR) (fun x H' hR _=>hK' x H' hR) h h'
theorem E5.effX (listed:Array Bool)(s:St)(i:Nat)(o:Oper)(G:List (Bool×Bool))(L:List (Nat×AV))(x:AV)(F:List HO->Prop)(ho:ops[i]? = some o)(hr:Region.ready .any ops listed = [i])
 (hd:J5 o.dst s.n=true) (hw:El ops o s.sl=some G) (hL:∀p∈L,Zs G (get s.sl p.1) p.2) (hp:H9 G->Jj P o (Dn (L++s.sl)) s.H fun x' H'=>x'=x/\F H') (hn:¬H9 G->F s.H)
 (hK:∀H',F H'->K H') (h:∀H',F H'->E5 P ops K Q (listed.setIfInBounds i true) ⟨Dy o.dst (.opt G x) s.sl,H',s.n⟩):E5 P ops K Q listed s:=CanonI.effg listed s i o G L x F ho hr hd hw hL hp hn (fun H' e _=>hK H' e) h
end

section
variable {P:Program} {ops:Array Oper} {K:List HO->Prop} {Q:St->Prop}
end

theorem AW.drawI (hm:P.follows .mixedOrders=true){id:Nat}{Q:Exit->St->Prop}{s:St}(K:Nat->List HO->Prop)(hK:∀j,K j s.H)(hdd:De ops=true)
  (h:CanonI P ops K (Q .normal) (Array.replicate ops.size false) s):AW P (.region id ops true) Q s:=by
 intro Q' g a w hG hQ;refine wp_region_any hm ?_;have hx:=Ext.drew g w;have hG':Gm g s a w.drew:=⟨hG.size,hG.defers,fun i=>(hG.sl i).mono hx,hG.heap.drew⟩;refine CanonI.any hdd h ops.size [] (Array.replicate ops.size false) s.sl g a w.drew Q' ?_ hG' hK ?_ fun g' s' a' w' k1 k2 k3=>hQ _ g' s' a' w' k1 (hx.trans k2) k3
 .
  exact ⟨by simp,by simp,by simp,by simp,fun t _=>rfl,by simp,by simp,by simp,by simp,by simp,by simp,by simp,by simp,fun j o hj hl=>by
   have hlt:j<ops.size:=(Array.getElem?_eq_some_iff.1 hj).1;simp [hlt] at hl⟩
 unfold Xs;have:=Om (fun j=>!(Array.replicate ops.size false).getD j true) (List.range ops.size);simpa using this
theorem AW.draw (hm:P.follows .mixedOrders=true){id:Nat}{Q:Exit->St->Prop}{s:St}(K:List HO->Prop)(hK:K s.H)(hdd:De ops=true)
  (h:E5 P ops K (Q .normal) (Array.replicate ops.size false) s):AW P (.region id ops true) Q s:=
 AW.drawI hm (fun _=>K) (fun _=>hK) hdd h

end
end Go.Aw
namespace Go.Aw


inductive DK where
 | int (k:IntKind)
 | bool
 | str
 | slice (e:Nat)
 | struct (fs:List (Nat×Nat×Bool×Nat))
 | array (len e:Nat)
 | map (k e:Nat)
 | other

structure TD where
 size:Nat
 bytes:Nat
 agg:Bool
 zero:List AV
 kind:DK

def Ls (P:Program)(t:TypeId):TypeDesc->DK->Prop
 | .int k,.int k'=>k=k'
 | .bool,.bool=>True
 | .string,.str=>True
 | .slice e,.slice e'=>e=e'
 | .struct fs, .struct gs => fs.toList.map (fun f => (f.offset, P.cellsOf f.type, f.name != "_", f.type)) = gs /\ P.stoodInHeld t = false /\ P.eqGuardType P.depth t = false /\ (fs.toList.all fun f => (P.info? f.type).isSome) = true
 | .array n e,.array n' e'=>n=n'/\e=e'
 | .map k e,.map k' e'=>k=k'/\e=e'
 | .pointer _,.other | .func ..,.other | .interface _,.other | .tuple _,.other=>True
 | _,_=>False

def nU:TypeDesc->Bool
 | .struct _ | .array _ _=>true
 | _=>false

structure TyOK (P:Program) (t:TypeId) (d:TD):Prop where
 info:∃i,P.info? t=some i/\i.size=d.size/\i.bytes=d.bytes/\∃z,i.zero=some z/\z.cells.size=d.size/\∀g w,Cv g w z.cells d.zero
 desc:∃u,P.underlying t=some u/\nU u=d.agg/\Ls P t u d.kind

def zB:Value->AV->Bool
 | .bool b,.bool b'=>b==b'
 | .int k n,.int k' n'=>decide (k=k')&&decide (n=n')
 | .string s,.str l=>s.data.toList==l&&Nat.ble l.length 4096
 | .slice none 0 0,.sl _ []=>true
 | .slice none 0 0,.val (.slice none 0 0)=>true
 | .nilFunc,.val .nilFunc=>true
 | .pointer none,.val (.pointer none)=>true
 | .map none,.val (.map none)=>true
 | .nilIface,.val .nilIface=>true
 | _,_=>false

theorem zB_rep {v:Value}{x:AV}(h:zB v x=true)(g:Gh)(w:World):Rep g w v x:=by
 unfold zB at h;split at h
 . simp only [beq_iff_eq] at h;subst h;exact .bool _
 . simp only [Cq,Di] at h;obtain ⟨rfl,rfl⟩:=h;exact .int _ _
 .
  simp only [Cq,beq_iff_eq] at h;exact .str _ _ h.1 (Fp (J0 h.2) (by decide))
 . exact .sl0 _ _ _ (Bn _)
 . exact .val _
 . exact .val _
 . exact .val _
 . exact .val _
 . exact .val _
 cases h
def zsB:List Value->List AV->Bool
 | [],[]=>true
 | v::vs,x::xs=>zB v x&&zsB vs xs
 | _,_=>false

theorem Zr:∀{vs:List Value} {xs:List AV},zsB vs xs=true->∀g w,vs.length=xs.length/\∀i x,xs[i]? = some x->Rep g w (vs.getD i undef) x
  | [],[],_,_,_=>⟨rfl,by simp⟩
  | v::vs,x::xs,h,g,w=>by
    simp only [zsB,Cq] at h;obtain ⟨h1,h2⟩:=Zr h.2 g w;refine ⟨by simp [h1],fun i y hi=>?_⟩;cases i with
    | zero=>simp at hi;subst hi;exact zB_rep h.1 g w
    | succ i=>simp at hi;simpa using h2 i y hi
  | [],_::_,h,_,_=>by simp [zsB] at h
  | _::_,[],h,_,_=>by simp [zsB] at h

def fsB (P:Program):List Field->List (Nat×Nat×Bool×Nat)->Bool
 | [],[]=>true
 | f :: fs, (o, z, n, t) :: gs => Nat.beq f.offset o && Nat.beq (P.cellsOf f.type) z && ((f.name != "_") == n) && Nat.beq f.type t && fsB P fs gs
 | _,_=>false

theorem nH {P : Program} : ∀ {fs : List Field} {gs : List (Nat × Nat × Bool × Nat)}, fsB P fs gs = true -> fs.map (fun f => (f.offset, P.cellsOf f.type, f.name != "_", f.type)) = gs
  | [],[],_=>rfl
  | f::fs,(o,z,n,t)::gs,h=>by
    simp only [fsB,Cq,beq_iff_eq] at h;obtain ⟨⟨⟨⟨h1,h2⟩,h3⟩,h4⟩,h5⟩:=h;obtain rfl:=Ey h1;obtain rfl:=Ey h2;obtain rfl:=Ey h4;simp only [Ba,h3,nH h5]
  | [],_::_,h=>by simp [fsB] at h
  | _::_,[],h=>by simp [fsB] at h

def nY (P:Program)(t:TypeId):TypeDesc->DK->Bool
 | .int k,.int k'=>decide (k=k')
 | .bool,.bool=>true
 | .string,.str=>true
 | .slice e,.slice e'=>Nat.beq e e'
 | .struct fs,.struct gs=>fsB P fs.toList gs && !P.stoodInHeld t && !P.eqGuardType P.depth t&&fs.toList.all fun f=>(P.info? f.type).isSome
 | .array n e,.array n' e'=>Nat.beq n n'&&Nat.beq e e'
 | .map k e,.map k' e'=>Nat.beq k k'&&Nat.beq e e'
 | .pointer _,.other | .func ..,.other | .interface _,.other | .tuple _,.other=>true
 | _,_=>false

theorem nZ {P:Program}{t:TypeId}{u:TypeDesc}{d:DK}(h:nY P t u d=true):Ls P t u d:=by
 unfold nY at h;split at h <;> simp only [Ls]
 . simpa using h
 . exact Ey h
 .
  simp only [Cq,Bu] at h;exact ⟨nH h.1.1.1,h.1.1.2,h.1.2,h.2⟩
 . simp only [Cq] at h;exact ⟨Ey h.1,Ey h.2⟩
 . simp only [Cq] at h;exact ⟨Ey h.1,Ey h.2⟩
 cases h
def tyB (P:Program)(t:TypeId)(d:TD):Bool:=
 match P.info? t,P.underlying t with
 | some i,some u=>Nat.beq i.size d.size&&Nat.beq i.bytes d.bytes&&(match i.zero with | some z=>Nat.beq z.cells.size d.size&&zsB z.cells.toList d.zero | none=>false)&&(nU u==d.agg)&&nY P t u d.kind
 | _,_=>false

theorem tyB_ok {P:Program}{t:TypeId}{d:TD}(h:tyB P t d=true):TyOK P t d:=by
 unfold tyB at h;split at h
 .
  rename_i i u hi hu;simp only [Cq,beq_iff_eq] at h;obtain ⟨⟨⟨⟨h1,h2⟩,h3⟩,h4⟩,h5⟩:=h;refine ⟨⟨i,hi,Ey h1,Ey h2,?_⟩,u,hu,h4,nZ h5⟩;split at h3
  .
   rename_i z hz;simp only [Cq] at h3;refine ⟨z,hz,Ey h3.1,fun g w=>?_⟩;obtain ⟨k1,k2⟩:=Zr h3.2 g w;refine ⟨by simpa using k1,fun i x hx=>?_⟩;have:=k2 i x hx;simpa using this
  cases h3
 cases h
def Bp:List (Nat×TD)->Nat->Option TD
 | [],_=>none
 | (j,x)::r,i=>bif Nat.beq j i then some x else Bp r i

def G9 (P:Program)(T:List (Nat×TD)):Prop:=∀t d,Bp T t=some d->TyOK P t d

def tabB (P:Program):List (Nat×TD)->Bool
 | []=>true
 | (t,d)::r=>tyB P t d&&tabB P r

theorem G9.of_tab {P:Program}:∀{T:List (Nat×TD)},tabB P T=true->G9 P T
  | [],_=>fun t d h=>by cases h
  | (j,x)::r,h=>fun t d hd=>by
    simp only [tabB,Cq] at h;simp only [Bp] at hd;cases e:Nat.beq j t with
    | true=>
      rw [e] at hd;simp only [cond_true,Option.some.injEq] at hd;subst hd;obtain rfl:j=t:=Ey e;exact tyB_ok h.1
    | false=>rw [e] at hd;exact G9.of_tab h.2 t d hd

section
variable {P:Program} {T:List (Nat×TD)} {d:Option Nat} {ty:TypeId} {pos:String} {aft:Array Edge} {gd:Option (Nat×Bool)} {ρ:Operand->AV} {K:List HO->Prop}

theorem E8 (b o n:Nat):(⟨b,o,none⟩:Addr).add n=⟨b,o+n,none⟩:=by
 unfold Addr.add;split
 . subst_vars;rfl
 rfl

theorem Ae {x:Operand}{v:AV}(h:ρ x=v):Dr P ⟨d,.move x,ty,pos,aft,gd⟩ ρ K v:=
 .of_run fun g w a hr=>⟨_,rfl,h▸hr x (by simp [Op.operands])⟩

theorem Ag {x:Operand}{v:AV}(h:ρ x=v):Dr P ⟨d,.assign x,ty,pos,aft,gd⟩ ρ K v:=
 .of_run fun g w a hr=>⟨_,rfl,h▸hr x (by simp [Op.operands])⟩

theorem Dg {x:Operand}{z:Nat}(h:ρ x = .val (.slice none 0 0)):Dr P ⟨d,.assign x,ty,pos,aft,gd⟩ ρ K (.sl z []):=
 .of_run fun g w a hr=>⟨_,rfl,by have:=(h▸hr x (by simp [Op.operands]):Rep g w _ _).inv_val;rw [this];exact .sl0 _ _ _ (Bn _)⟩

theorem Bc {c a y:Operand}{b x:Bool}(hc:ρ c = .bool b)(ha:ρ a = .opt [(b,true)] (.bool x))(hy:ρ y = .bool false) :
    Dr P ⟨d,.pick c a y,ty,pos,aft,gd⟩ ρ K (.bool (b&&x)):=
  .of_run fun g w A hr=>by
    have h1:=(hc▸hr c (by simp [Op.operands]):Rep g w _ _).inv_bool;have h2:=(ha▸hr a (by simp [Op.operands]):Rep g w _ _).inv_opt;have h3:=(hy▸hr y (by simp [Op.operands]):Rep g w _ _).inv_bool;refine ⟨.bool (b&&x),?_,.bool _⟩;cases b with
    | false=>simp [execOp,h1,h3,asBool]
    | true=>
      have:=(h2.1 (by simp)).inv_bool;simp [execOp,h1,this,asBool]

theorem E7 {c a y:Operand}{b x:Bool}(hc:ρ c = .bool b)(ha:ρ a = .bool true)(hy:ρ y = .opt [(b,false)] (.bool x)) :
    Dr P ⟨d,.pick c a y,ty,pos,aft,gd⟩ ρ K (.bool (b||x)):=
  .of_run fun g w A hr=>by
    have h1:=(hc▸hr c (by simp [Op.operands]):Rep g w _ _).inv_bool;have h2:=(ha▸hr a (by simp [Op.operands]):Rep g w _ _).inv_bool;have h3:=(hy▸hr y (by simp [Op.operands]):Rep g w _ _).inv_opt;refine ⟨.bool (b||x),?_,.bool _⟩;cases b with
    | true=>simp [execOp,h1,h2,asBool]
    | false=>
      have:=(h3.1 (by simp)).inv_bool;simp [execOp,h1,this,asBool]

theorem A4 {x:Operand}{i:Nat}{vs:List AV}{v:AV}(h:ρ x = .tuple vs)(hv:vs[i]? = some v):Dr P ⟨d,.extract x i,ty,pos,aft,gd⟩ ρ K v:=
 .of_run fun g w a hr=>by
  obtain ⟨us,he,hl,hu⟩:=(h▸hr x (by simp [Op.operands]):Rep g w _ _).inv_tuple;have hlt:i<us.size:=by rw [hl];exact (List.getElem?_eq_some_iff.1 hv).1
  refine ⟨us.getD i undef,?_,hu i v hv⟩;simp [execOp,he,Instr.extract,hlt]


theorem Bg {t:TypeId}{u:TypeDesc}(h:P.underlying t=some u)(w:World):(underlying t).run P w = .ok u w:=by simp [underlying,h]
theorem L9 {t:TypeId}{i:TypeInfo}(h:P.info? t=some i)(w:World):(typeInfo t).run P w = .ok i w:=by simp [typeInfo,h]
theorem Gc {t:TypeId}{x:TD}(h:TyOK P t x)(w:World):(sizeOf t).run P w = .ok x.size w:=by
 obtain ⟨i,hi,hs,_⟩:=h.info;simp [sizeOf,L9 hi,hs]
theorem Mb {t:TypeId}{x:TD}(h:TyOK P t x)(w:World):(isAgg t).run P w = .ok x.agg w:=by
 obtain ⟨u,hu,ha,_⟩:=h.desc;unfold isAgg;rw [Sem.run_bind,Bg hu];simp only [Result.andThen_ok,<-ha];cases u <;> rfl

theorem Is {t:TypeId}{x:TD}{gs:List (Nat×Nat×Bool×Nat)}(h:TyOK P t x)(hk:x.kind = .struct gs) :
  ∃ fs, P.underlying t = some (.struct fs) /\ fs.toList.map (fun f => (f.offset, P.cellsOf f.type, f.name != "_", f.type)) = gs /\ P.stoodInHeld t = false /\ P.eqGuardType P.depth t = false /\ (fs.toList.all fun f => (P.info? f.type).isSome) = true := by
 obtain ⟨u,hu,_,hk'⟩:=h.desc;rw [hk] at hk';cases u <;> simp only [Ls] at hk' <;> first | exact hk'.elim | exact ⟨_,hu,hk'⟩
theorem Dc {t:TypeId}{x:TD}{e:Nat}(h:TyOK P t x)(hk:x.kind = .slice e):P.underlying t=some (.slice e):=by
 obtain ⟨u,hu,_,hk'⟩:=h.desc;rw [hk] at hk';cases u <;> simp only [Ls] at hk' <;> first | exact hk'.elim | (subst hk';exact hu)
theorem Ot {t:TypeId}{x:TD}{n e:Nat}(h:TyOK P t x)(hk:x.kind = .array n e):P.underlying t=some (.array n e):=by
 obtain ⟨u,hu,_,hk'⟩:=h.desc;rw [hk] at hk';cases u <;> simp only [Ls] at hk' <;> first | exact hk'.elim | (obtain ⟨rfl,rfl⟩:=hk';exact hu)
theorem J6 {t:TypeId}{x:TD}(h:TyOK P t x)(hk:x.kind = .str):P.underlying t=some .string:=by
 obtain ⟨u,hu,_,hk'⟩:=h.desc;rw [hk] at hk';cases u <;> simp only [Ls] at hk' <;> first | exact hk'.elim | exact hu

theorem W8 {fs : Array Field} {gs : List (Nat × Nat × Bool × Nat)} (h : fs.toList.map (fun f => (f.offset, P.cellsOf f.type, f.name != "_", f.type)) = gs) {f off z ft : Nat} {nm : Bool} (hf : gs[f]? = some (off, z, nm, ft)) :
    ∃fd,fs[f]? = some fd/\fd.offset=off/\P.cellsOf fd.type=z/\fd.type=ft:=by
  subst h;simp only [List.getElem?_map] at hf;cases e:fs.toList[f]? with
  | none=>simp [e] at hf
  | some fd=>
    simp only [e,E4,Option.some.injEq,Prod.mk.injEq] at hf;exact ⟨fd,by simpa using e,hf.1,hf.2.1,hf.2.2.2⟩

theorem Z9 {t z:Nat}(h:P.cellsOf t=z)(hz:0<z)(w:World):(sizeOf t).run P w = .ok z w:=by
 unfold Program.cellsOf at h;cases hi:P.info? t with
 | none=>simp [hi] at h;omega
 | some i=>simp [hi] at h;simp [sizeOf,typeInfo,hi,h]

theorem Tp {s f off z ft b o:Nat}{nm:Bool}{x:TD}{gs:List (Nat×Nat×Bool×Nat)}(hT:TyOK P s x)(hk:x.kind = .struct gs)(hf:gs[f]? = some (off,z,nm,ft))(hz:Nat.blt 0 z=true)(w:World) :
  (Instr.fieldAt s (.pointer (some ⟨b,o,none⟩)) f).run P w = .ok (.pointer (some ⟨b,o+off,none⟩)) w:=by
 obtain ⟨fs,hu,hm,_⟩:=Is hT hk;obtain ⟨fd,h1,h2,h3,_⟩:=W8 hm hf;have hz':0<z:=by simpa using hz
 have h4:=Z9 h3 hz' w;unfold Instr.fieldAt;rw [Sem.run_bind,Bg hu];simp only [Result.andThen_ok,h1,Instr.sureAddr];simp only [Sem.run_bind,Sem.run_pure,Result.andThen_ok,fieldPlace,h4];rw [if_neg (by omega)];simp [h2,E8]

theorem Ad {s f off z ft:Nat}{nm:Bool}{x:Operand}{cs cs':List AV}{td:TD}{gs:List (Nat×Nat×Bool×Nat)}(hT:G9 P T)(h:ρ x = .ptr cs)(ht:Bp T s=some td)(hk:td.kind = .struct gs)
  (hf:gs[f]? = some (off,z,nm,ft)) (hz:Nat.blt 0 z=true) (hc:cs.drop off=cs'):Dr P ⟨d,.fieldAddr s x f,ty,pos,aft,gd⟩ ρ K (.ptr cs'):=
 .of_run fun g w a hr=>by
  obtain ⟨b,o,he,fv,h1,h2⟩:=(h▸hr x (by simp [Op.operands]):Rep g w _ _).inv_ptr;refine ⟨.pointer (some ⟨b,o+off,none⟩),?_,?_⟩
  . simp only [execOp,he,Sem.run_bind,Tp (hT s td ht) hk hf hz,Result.andThen_ok,Sem.run_pure]
  subst hc;refine .ptr b (o+off) _ (fun j=>fv (off+j)) (fun j x hj=>?_) (fun j x hj=>?_)
  .
   rw [List.getElem?_drop] at hj;have:=h1 (off+j) x hj
   rwa [Nat.add_assoc]
  rw [List.getElem?_drop] at hj;exact h2 (off+j) x hj
theorem Cj {s f off z ft b o:Nat}{nm:Bool}{x:Operand}{td:TD}{gs:List (Nat×Nat×Bool×Nat)}(hT:G9 P T)(h:ρ x = .val (.pointer (some ⟨b,o,none⟩)))(ht:Bp T s=some td)(hk:td.kind = .struct gs)
  (hf:gs[f]? = some (off,z,nm,ft)) (hz:Nat.blt 0 z=true) {o':Nat} (ho:o+off=o'):Dr P ⟨d,.fieldAddr s x f,ty,pos,aft,gd⟩ ρ K (.val (.pointer (some ⟨b,o',none⟩))):=
 .of_run fun g w a hr=>by
  have he:=(h▸hr x (by simp [Op.operands]):Rep g w _ _).inv_val;refine ⟨.pointer (some ⟨b,o+off,none⟩),?_,ho▸.val _⟩;simp only [execOp,he,Sem.run_bind,Tp (hT s td ht) hk hf hz,Result.andThen_ok,Sem.run_pure]

theorem K3 {t:TypeId}{td:TD}(hT:TyOK P t td)(ha:td.agg=false){w:World}{b o:Nat}{v:Value}(h:w.cell? ⟨b,o,none⟩=some v):(loadVar t ⟨b,o,none⟩).run P w = .ok v w:=by
 unfold loadVar;rw [Sem.run_bind,Mb hT,Result.andThen_ok,ha];simp [h]

theorem N5 {t:TypeId}{td:TD}(hT:TyOK P t td)(ha:td.agg=true){w:World}{b o:Nat}(f:Nat->Value)(h:∀j,j<td.size->w.cell? ⟨b,o+j,none⟩=some (f j)) :
  (loadVar t ⟨b,o,none⟩).run P w = .ok (.agg ((List.range td.size).map f).toArray) w:=by
 unfold loadVar;rw [Sem.run_bind,Mb hT,Result.andThen_ok,ha];simp only [if_true,Sem.run_bind,Gc hT,Result.andThen_ok];rw [run_loadCells w ⟨b,o,none⟩ td.size f (fun j hj=>by rw [E8];exact h j hj)];rfl

theorem P4 {g:Gh}{w:World}{n:Nat}{f:Nat->Value}{l:List AV}(hl:l.length=n)(h:∀j x,l[j]? = some x->Rep g w (f j) x):Cv g w ((List.range n).map f).toArray l:=by
 refine ⟨by simp [hl],fun i x hi=>?_⟩;have hlt:i<n:=by rw [<-hl];exact (List.getElem?_eq_some_iff.1 hi).1
 have:(((List.range n).map f).toArray).getD i undef=f i:=by simp [hlt]
 rw [this];exact h i x hi

theorem Af {t:TypeId}{td:TD}{x:Operand}{c:AV}{cs:List AV}(hT:G9 P T)(h:ρ x = .ptr (c::cs))(ht:Bp T t=some td)(ha:td.agg=false):Dr P ⟨d,.load t x,ty,pos,aft,gd⟩ ρ K c:=
 .of_run fun g w a hr=>by
  obtain ⟨b,o,he,fv,h1,h2⟩:=(h▸hr x (by simp [Op.operands]):Rep g w _ _).inv_ptr;refine ⟨fv 0,?_,h2 0 c rfl⟩;have:=(h1 0 c rfl).2;simp only [execOp,he,Instr.loadAt,Instr.sureAddr,Sem.run_bind,Sem.run_pure,Result.andThen_ok,K3 (hT t td ht) ha (by simpa using this)]

theorem Ah {t:TypeId}{td:TD}{x:Operand}{cs l:List AV}(hT:G9 P T)(h:ρ x = .ptr cs)(ht:Bp T t=some td)(ha:td.agg=true)(hl:cs.take td.size=l)(hs:Nat.beq l.length td.size=true) :
    Dr P ⟨d,.load t x,ty,pos,aft,gd⟩ ρ K (.agg l):=
  .of_run fun g w a hr=>by
    obtain ⟨b,o,he,fv,h1,h2⟩:=(h▸hr x (by simp [Op.operands]):Rep g w _ _).inv_ptr;have hs':l.length=td.size:=by simpa using hs
    have hget:∀j,j<td.size->∃y,cs[j]? = some y:=fun j hj=>by
      have : j < cs.length := by have := List.length_take_le td.size cs; rw [hl, hs'] at this; have h3 : (cs.take td.size).length = td.size := by rw [hl, hs']
                                 rw [Fr] at h3;omega
      exact ⟨_,List.getElem?_eq_getElem this⟩
    have hrep:=P4 (g:=g) (w:=w) (n:=td.size) (f:=fv) (l:=l) hs' (fun j y hj=>by
      rw [<-hl,List.getElem?_take] at hj;split at hj
      . exact h2 j y hj
      cases hj)
    refine ⟨_,?_,.agg ((List.range td.size).map fv).toArray l hrep.1 hrep.2⟩;simp only [execOp,he,Instr.loadAt,Instr.sureAddr,Sem.run_bind,Sem.run_pure,Result.andThen_ok,N5 (hT t td ht) ha fv (fun j hj=>by obtain ⟨y,hy⟩:=hget j hj;exact (h1 j y hy).2)]
theorem Br {t:TypeId}{b o:Nat}{td:TD}{x:Operand}{c:AV}{k:Nat}{TT:TypeId}{cs:List AV}(hT:G9 P T)(h:ρ x = .val (.pointer (some ⟨b,o,none⟩)))(ht:Bp T t=some td)(ha:td.agg=false)(hc:cs[o]? = some c) :
  Dr P ⟨d,.load t x,ty,pos,aft,gd⟩ ρ (fun H=>H[k]? = some (.box b TT cs)) c:=by
 intro g w a H next Q hr hH hK hn
 have he:=(h▸hr x (by simp [Op.operands]):Rep g w _ _).inv_val;obtain ⟨_,vs,h1,h2⟩:=hH.ok _ (A0 hK);have h3:=h2.2 o c hc;have hlt:o<vs.size:=by rw [h2.1];exact (List.getElem?_eq_some_iff.1 hc).1
 have hcell:w.cell? ⟨b,o,none⟩=some (vs.getD o undef):=by rw [Bq h1];simp [hlt]
 unfold Oper.wp;simp only [execOp,he,Instr.loadAt,Instr.sureAddr,Sem.run_bind,Sem.run_pure,Result.andThen_ok,K3 (hT t td ht) ha hcell];exact hn g w _ h3 hH (Ext.refl g w)

theorem Cf {t:TypeId}{b o:Nat}{td:TD}{x:Operand}{k:Nat}{TT:TypeId}{cs l:List AV}(hT:G9 P T)(h:ρ x = .val (.pointer (some ⟨b,o,none⟩)))(ht:Bp T t=some td)(ha:td.agg=true)
  (hl:(cs.drop o).take td.size=l) (hs:Nat.beq l.length td.size=true) :
  Dr P ⟨d,.load t x,ty,pos,aft,gd⟩ ρ (fun H=>H[k]? = some (.box b TT cs)) (.agg l):=by
 intro g w a H next Q hr hH hK hn
 have he:=(h▸hr x (by simp [Op.operands]):Rep g w _ _).inv_val;obtain ⟨_,vs,h1,h2⟩:=hH.ok _ (A0 hK);have hs':l.length=td.size:=by simpa using hs
 have hle:o+td.size<=cs.length\/td.size=0:=by
  have h3:((cs.drop o).take td.size).length=td.size:=by rw [hl,hs']
  rw [Fr,Na] at h3;omega
 have hcell:∀j,j<td.size->w.cell? ⟨b,o+j,none⟩=some (vs.getD (o+j) undef):=fun j hj=>by
  have:o+j<vs.size:=by rw [h2.1];omega
  rw [Bq h1];simp [this]
 unfold Oper.wp;simp only [execOp,he,Instr.loadAt,Instr.sureAddr,Sem.run_bind,Sem.run_pure,Result.andThen_ok,N5 (hT t td ht) ha (fun j=>vs.getD (o+j) undef) hcell]
 have hrep:=P4 (g:=g) (w:=w) (n:=td.size) (f:=fun j=>vs.getD (o+j) undef) hs' (fun j y hj=>by
  rw [<-hl,List.getElem?_take] at hj;split at hj
  . rw [List.getElem?_drop] at hj;exact h2.2 _ y hj
  cases hj)
 exact hn g w _ (.agg _ _ hrep.1 hrep.2) hH (Ext.refl g w)

end
end Go.Aw
namespace Go.Aw

section
variable {P:Program} {T:List (Nat×TD)} {d:Option Nat} {ty:TypeId} {pos:String} {aft:Array Edge} {gd:Option (Nat×Bool)} {ρ:Operand->AV} {K:List HO->Prop}


theorem Lk {op:BinOp}{t:TypeId}{x y:Operand}{a b:Value}(h:(match a,b with | .nilIface,.nilIface=>false | .agg _,.agg _=>false | _,_=>true)=true)(w:World):(eqGuard op t x y a b).run P w = .ok () w:=by
 unfold eqGuard;cases a <;> cases b <;> first | (cases h;done) | (split <;> rfl)

theorem Lf {op:BinOp}{x y:Operand}{t yt:TypeId}{u v:AV}{r:AV}(hx:ρ x=u)(hy:ρ y=v)
  (h:∀(g:Gh) (w:World) (a b:Value),Rep g w a u->Rep g w b v->∃c,(do eqGuard op t x y a b;binOp op t a b).run P w = .ok c w/\Rep g w c r):Dr P ⟨d,.binOp op t x y yt,ty,pos,aft,gd⟩ ρ K r:=
 .of_run fun g w a hr=>by
  obtain ⟨c,hc,hrep⟩:=h g w _ _ (hx▸hr x (by simp [Op.operands])) (hy▸hr y (by simp [Op.operands]));refine ⟨c,?_,hrep⟩;simp only [execOp];rw [Sem.run_bind,hc];rfl

theorem J2 {op:BinOp}{t:TypeId}{x y:Operand}{k:IntKind}{n m:Int}{c:Value}{w:World}(h:(binOp op t (.int k n) (.int k m)).run P w = .ok c w) :
  (do eqGuard op t x y (.int k n) (.int k m);binOp op t (.int k n) (.int k m)).run P w = .ok c w:=by
 rw [Sem.run_bind,Lk rfl];exact h

section ints
variable {x y:Operand} {t yt:TypeId} {k:IntKind} {n m:Int} (hx:ρ x = .int k n) (hy:ρ y = .int k m)
include hx hy
theorem Ez:Dr P ⟨d,.binOp .eql t x y yt,ty,pos,aft,gd⟩ ρ K (.bool (n==m)):=
 Lf hx hy fun g w a b ha hb=>by rw [ha.inv_int,hb.inv_int];exact ⟨_,J2 (by simp [binOp,Op.intCmp]),.bool _⟩
theorem Fk:Dr P ⟨d,.binOp .neq t x y yt,ty,pos,aft,gd⟩ ρ K (.bool (n != m)):=
 Lf hx hy fun g w a b ha hb=>by rw [ha.inv_int,hb.inv_int];exact ⟨_,J2 (by simp [binOp,Op.intCmp]),.bool _⟩
theorem B9:Dr P ⟨d,.binOp .lss t x y yt,ty,pos,aft,gd⟩ ρ K (.bool (decide (n<m))):=
 Lf hx hy fun g w a b ha hb=>by rw [ha.inv_int,hb.inv_int];exact ⟨_,J2 (by simp [binOp,Op.intCmp]),.bool _⟩
theorem I8:Dr P ⟨d,.binOp .leq t x y yt,ty,pos,aft,gd⟩ ρ K (.bool (decide (n<=m))):=
 Lf hx hy fun g w a b ha hb=>by rw [ha.inv_int,hb.inv_int];exact ⟨_,J2 (by simp [binOp,Op.intCmp]),.bool _⟩
theorem Gy:Dr P ⟨d,.binOp .gtr t x y yt,ty,pos,aft,gd⟩ ρ K (.bool (decide (m<n))):=
 Lf hx hy fun g w a b ha hb=>by rw [ha.inv_int,hb.inv_int];exact ⟨_,J2 (by simp [binOp,Op.intCmp]),.bool _⟩
theorem I7:Dr P ⟨d,.binOp .geq t x y yt,ty,pos,aft,gd⟩ ρ K (.bool (decide (m<=n))):=
 Lf hx hy fun g w a b ha hb=>by rw [ha.inv_int,hb.inv_int];exact ⟨_,J2 (by simp [binOp,Op.intCmp]),.bool _⟩
theorem Xz:Dr P ⟨d,.binOp .add t x y yt,ty,pos,aft,gd⟩ ρ K (.int k (k.wrap (n+m))):=
 Lf hx hy fun g w a b ha hb=>by rw [ha.inv_int,hb.inv_int];exact ⟨_,J2 (by simp [binOp,Op.intArith]),.int _ _⟩
theorem Up:Dr P ⟨d,.binOp .sub t x y yt,ty,pos,aft,gd⟩ ρ K (.int k (k.wrap (n-m))):=
 Lf hx hy fun g w a b ha hb=>by rw [ha.inv_int,hb.inv_int];exact ⟨_,J2 (by simp [binOp,Op.intArith]),.int _ _⟩
theorem xK:Dr P ⟨d,.binOp .mul t x y yt,ty,pos,aft,gd⟩ ρ K (.int k (k.wrap (n*m))):=
 Lf hx hy fun g w a b ha hb=>by rw [ha.inv_int,hb.inv_int];exact ⟨_,J2 (by simp [binOp,Op.intArith]),.int _ _⟩
theorem P_rem (hm:m≠0):Dr P ⟨d,.binOp .rem t x y yt,ty,pos,aft,gd⟩ ρ K (.int k (n.tmod m)):=
 Lf hx hy fun g w a b ha hb=>by rw [ha.inv_int,hb.inv_int];exact ⟨_,J2 (by simp [binOp,Op.intDiv,hm]),.int _ _⟩
end ints

theorem Cc {x y:Operand}{t yt:TypeId}{n m r:Int}(hx:ρ x = .int .i64 n)(hy:ρ y = .int .i64 m)(hr:n+m=r)(hb : -9223372036854775808<=r/\r<=9223372036854775807) :
  Dr P ⟨d,.binOp .add t x y yt,ty,pos,aft,gd⟩ ρ K (.int .i64 r):=by
 have:=Xz (P:=P) (d:=d) (ty:=ty) (pos:=pos) (aft:=aft) (gd:=gd) (K:=K) (t:=t) (yt:=yt) hx hy
 rwa [hr,IntWalk.i64_in r hb] at this
theorem Gj {x y:Operand}{t yt:TypeId}{n m r:Int}(hx:ρ x = .int .i64 n)(hy:ρ y = .int .i64 m)(hr:n-m=r)(hb : -9223372036854775808<=r/\r<=9223372036854775807) :
  Dr P ⟨d,.binOp .sub t x y yt,ty,pos,aft,gd⟩ ρ K (.int .i64 r):=by
 have:=Up (P:=P) (d:=d) (ty:=ty) (pos:=pos) (aft:=aft) (gd:=gd) (K:=K) (t:=t) (yt:=yt) hx hy
 rwa [hr,IntWalk.i64_in r hb] at this
theorem fV {x y:Operand}{t yt:TypeId}{n m r:Int}(hx:ρ x = .int .i64 n)(hy:ρ y = .int .i64 m)(hr:n*m=r)(hb : -9223372036854775808<=r/\r<=9223372036854775807) :
  Dr P ⟨d,.binOp .mul t x y yt,ty,pos,aft,gd⟩ ρ K (.int .i64 r):=by
 have:=xK (P:=P) (d:=d) (ty:=ty) (pos:=pos) (aft:=aft) (gd:=gd) (K:=K) (t:=t) (yt:=yt) hx hy
 rwa [hr,IntWalk.i64_in r hb] at this

theorem gD (a b:List UInt8):((⟨a.toArray⟩:ByteArray).toList==(⟨b.toArray⟩:ByteArray).toList)=(a==b):=by
 rw [ByteArray.toList_mk,ByteArray.toList_mk]

theorem jJ {x y:Operand}{t yt:TypeId}{a b:List UInt8}(hx:ρ x = .str a)(hy:ρ y = .str b):Dr P ⟨d,.binOp .eql t x y yt,ty,pos,aft,gd⟩ ρ K (.bool (a==b)):=
 Lf hx hy fun g w u v hu hv=>by
  rw [hu.inv_str.1,hv.inv_str.1];refine ⟨.bool (a==b),?_,.bool _⟩;rw [Sem.run_bind,Lk rfl];simp only [Result.andThen_ok,binOp,Op.stringOp,gD,Sem.run_pure]
theorem Sa {x y:Operand}{t yt:TypeId}{a b:List UInt8}(hx:ρ x = .str a)(hy:ρ y = .str b):Dr P ⟨d,.binOp .neq t x y yt,ty,pos,aft,gd⟩ ρ K (.bool (!(a==b))):=
 Lf hx hy fun g w u v hu hv=>by
  rw [hu.inv_str.1,hv.inv_str.1];refine ⟨.bool (!(a==b)),?_,.bool _⟩;rw [Sem.run_bind,Lk rfl];simp only [Result.andThen_ok,binOp,Op.stringOp,gD,Sem.run_pure]
theorem Vh {n:Nat}{t:TypeId}(hu:P.underlying t=some .bool)(a b:Bool)(w:World):(Op.equalIn (n+1) t (.bool a) (.bool b)).run P w = .ok (a==b) w:=by
 unfold Op.equalIn;rw [Sem.run_bind,Bg hu];rfl
theorem W5 {n:Nat}{t:TypeId}{k':IntKind}(hu:P.underlying t=some (.int k'))(k:IntKind)(a b:Int)(w:World):(Op.equalIn (n+1) t (.int k a) (.int k b)).run P w = .ok (a==b) w:=by
 unfold Op.equalIn;rw [Sem.run_bind,Bg hu];simp
theorem W6 {n:Nat}{t:TypeId}(hu:P.underlying t=some .string)(a b:List UInt8)(w:World):(Op.equalIn (n+1) t (.string ⟨a.toArray⟩) (.string ⟨b.toArray⟩)).run P w = .ok (a==b) w:=by
 unfold Op.equalIn;rw [Sem.run_bind,Bg hu];simp only [Result.andThen_ok,Sem.run_pure,beq_toListBytes,ByteArray.toList_mk]

theorem Oz {t:TypeId}{x:TD}(h:TyOK P t x)(hk:x.kind = .bool):P.underlying t=some .bool:=by
 obtain ⟨u,hu,_,hk'⟩:=h.desc;rw [hk] at hk';cases u <;> simp only [Ls] at hk' <;> first | exact hk'.elim | exact hu
theorem Ja {t:TypeId}{x:TD}{k:IntKind}(h:TyOK P t x)(hk:x.kind = .int k):P.underlying t=some (.int k):=by
 obtain ⟨u,hu,_,hk'⟩:=h.desc;rw [hk] at hk';cases u <;> simp only [Ls] at hk' <;> first | exact hk'.elim | (subst hk';exact hu)

def Nr (T:List (Nat×TD)):List (Nat×Nat×Bool×Nat)->List AV->List AV->Option Bool
  | [],_,_=>some true
  | (off,_,nm,ft)::gs,xs,ys=>
    bif nm then
      match Bp T ft,xs[off]?,ys[off]?,Nr T gs xs ys with
      | some ⟨_,_,false,_,.int _⟩,some (.int k n),some (.int k' m),some r=>bif decide (k=k') then some ((n==m)&&r) else none
      | some ⟨_,_,false,_,.str⟩,some (.str a),some (.str b),some r=>some ((a==b)&&r)
      | some ⟨_,_,false,_,.bool⟩,some (.bool a),some (.bool b),some r=>some ((a==b)&&r)
      | _,_,_,_=>none
    else none

theorem Df {t:TypeId}{x:TD}(h:TyOK P t x)(ha:x.agg=false){vs:Array Value}{o:Nat}(ho:o<vs.size)(w:World):(part t vs o).run P w = .ok (vs.getD o undef) w:=by
 unfold part;rw [Sem.run_bind,Mb h,Result.andThen_ok,ha];simp [ho]

theorem Mu (N:Nat)(hT:G9 P T){g:Gh}{w:World}{us vs:Array Value}{xs ys:List AV}(hu:Cv g w us xs)(hv:Cv g w vs ys):∀(fs:List Field) (r:Bool),
    Nr T (fs.map (fun f => (f.offset, P.cellsOf f.type, f.name != "_", f.type))) xs ys = some r ->
    Sem.run P (forIn fs ((none,()):Option Bool×Unit) fun f _=>
            if f.name = "_" then pure (ForInStep.yield (none, ()))
            else do
              let a <-part f.type us f.offset
              let b <-part f.type vs f.offset
              let c <-Op.equalIn (N+1) f.type a b
              if c=false then pure (ForInStep.done (some false,())) else pure (ForInStep.yield (none,()))) w = .ok (if r then (none,()) else (some false,())) w
  | [],r,h=>by
    simp only [Gv,Nr,Option.some.injEq] at h;subst h;simp
  | f::fs,r,h=>by
    simp only [Ba,Nr] at h;cases hn : (f.name != "_") with
    | false=>simp [hn] at h
    | true=>
      have hn' : f.name ≠ "_" := by simpa using hn
      simp only [hn,cond_true] at h;rw [List.forIn_cons];simp only [hn',if_false];have hlu:∀{c},xs[f.offset]? = some c->f.offset<us.size:=fun hc=>by rw [hu.1];exact (List.getElem?_eq_some_iff.1 hc).1
      have hlv:∀{c},ys[f.offset]? = some c->f.offset<vs.size:=fun hc=>by rw [hv.1];exact (List.getElem?_eq_some_iff.1 hc).1
      split at h
      . rename_i hty hx hy hrec
        rename_i z b zz k0 k n k' m r0;cases hkk:decide (k=k') with
        | false=>simp [hkk] at h
        | true=>
          simp only [hkk,cond_true,Option.some.injEq] at h;have hkk':k=k':=by simpa using hkk
          subst hkk';have e1:=(hu.2 _ _ hx).inv_int;have e2:=(hv.2 _ _ hy).inv_int;simp only [Sem.run_bind,Df (hT _ _ hty) rfl (hlu hx),Df (hT _ _ hty) rfl (hlv hy),Result.andThen_ok,e1,e2,W5 (n:=N) (Ja (hT _ _ hty) rfl)];cases hb:(n==m) with
          | false=>simp [hb] at h;subst h;simp
          | true=>
            simp only [hb,Bo] at h;subst h;have ih:=Mu N hT hu hv fs _ hrec;simpa using ih
      . rename_i hty hx hy hrec
        simp only [Option.some.injEq] at h;have e1:=(hu.2 _ _ hx).inv_str.1;have e2:=(hv.2 _ _ hy).inv_str.1;simp only [Sem.run_bind,Df (hT _ _ hty) rfl (hlu hx),Df (hT _ _ hty) rfl (hlv hy),Result.andThen_ok,e1,e2,W6 (n:=N) (J6 (hT _ _ hty) rfl)];rename_i a b _;cases hb:(a==b) with
        | false=>simp [hb] at h;subst h;simp
        | true=>
          simp only [hb,Bo] at h;subst h;have ih:=Mu N hT hu hv fs _ hrec;simpa using ih
      . rename_i hty hx hy hrec
        simp only [Option.some.injEq] at h;have e1:=(hu.2 _ _ hx).inv_bool;have e2:=(hv.2 _ _ hy).inv_bool;simp only [Sem.run_bind,Df (hT _ _ hty) rfl (hlu hx),Df (hT _ _ hty) rfl (hlv hy),Result.andThen_ok,e1,e2,Vh (n:=N) (Oz (hT _ _ hty) rfl)];rename_i a b _;cases hb:(a==b) with
        | false=>simp [hb] at h;subst h;simp
        | true=>
          simp only [hb,Bo] at h;subst h;have ih:=Mu N hT hu hv fs _ hrec;simpa using ih
      cases h
theorem X7 (N:Nat)(hT:G9 P T){t:TypeId}{td:TD}{gs:List (Nat×Nat×Bool×Nat)}(ht:Bp T t=some td)(hk:td.kind = .struct gs){g:Gh}{w:World}{us vs:Array Value}{xs ys:List AV}(hu:Cv g w us xs)(hv:Cv g w vs ys)
  {r:Bool} (h:Nr T gs xs ys=some r):(Op.equalIn (N+2) t (.agg us) (.agg vs)).run P w = .ok r w:=by
 obtain ⟨fs,hfu,hm,hs,hg,_⟩:=Is (hT t td ht) hk;have key:=Mu N hT hu hv fs.toList r (by rw [hm];exact h);unfold Op.equalIn;simp only [Sem.run_bind,Bg hfu,Result.andThen_ok,run_program,hs,A2,if_false];rw [<-Array.forIn_toList];simp only [ne_eq,ite_not] at key ⊢;simp only [Bu,bind_pure_comp] at key ⊢
 erw [key]
 cases r <;> rfl
theorem cB {t:TypeId}{x:TD}(h:TyOK P t x)(ha:x.agg=true){vs:Array Value}{o:Nat}(w:World):(part t vs o).run P w = .ok (.agg (vs.extract o (o+x.size))) w:=by
 unfold part;rw [Sem.run_bind,Mb h,Result.andThen_ok,ha];simp [Gc h]
theorem M2 {g:Gh}{w:World}{us:Array Value}{xs:List AV}(hu:Cv g w us xs)(o n:Nat):Cv g w (us.extract o (o+n)) ((xs.drop o).take n):=by
 refine ⟨by simp [hu.1];omega,fun i x hi=>?_⟩;rw [List.getElem?_take] at hi;split at hi
 .
  rename_i hlt;rw [List.getElem?_drop] at hi;have h1:=hu.2 _ _ hi;have hl:=(List.getElem?_eq_some_iff.1 hi).1;rw [<-hu.1] at hl
  have:(us.extract o (o+n)).getD i undef=us.getD (o+i) undef:=by
   simp only [Ce,Array.getElem?_extract];rw [if_pos (by omega)]
  rw [this];exact h1
 cases hi
def Nk (T:List (Nat×TD)):List (Nat×Nat×Bool×Nat)->List AV->List AV->Option Bool
  | [],_,_=>some true
  | (off,_,nm,ft)::gs,xs,ys=>
    bif nm then
      match Bp T ft,xs[off]?,ys[off]?,Nk T gs xs ys with
      | some ⟨_,_,false,_,.int _⟩,some (.int k n),some (.int k' m),some r=>bif decide (k=k') then some ((n==m)&&r) else none
      | some ⟨_,_,false,_,.str⟩,some (.str a),some (.str b),some r=>some ((a==b)&&r)
      | some ⟨_,_,false,_,.bool⟩,some (.bool a),some (.bool b),some r=>some ((a==b)&&r)
      | some ⟨z,_,true,_,.struct gs'⟩,_,_,some r=>match Nr T gs' ((xs.drop off).take z) ((ys.drop off).take z) with | some q=>some (q&&r) | none=>none
      | _,_,_,_=>none
    else none

theorem L5 (hT:G9 P T){g:Gh}{w:World}{us vs:Array Value}{xs ys:List AV}(hu:Cv g w us xs)(hv:Cv g w vs ys):∀(fs:List Field) (r:Bool),
    Nk T (fs.map (fun f => (f.offset, P.cellsOf f.type, f.name != "_", f.type))) xs ys = some r ->
    Sem.run P (forIn fs ((none,()):Option Bool×Unit) fun f _=>
            if f.name = "_" then pure (ForInStep.yield (none, ()))
            else do
              let a <-part f.type us f.offset
              let b <-part f.type vs f.offset
              let c <-Op.equalIn 9999 f.type a b
              if c=false then pure (ForInStep.done (some false,())) else pure (ForInStep.yield (none,()))) w = .ok (if r then (none,()) else (some false,())) w
  | [],r,h=>by
    simp only [Gv,Nk,Option.some.injEq] at h;subst h;simp
  | f::fs,r,h=>by
    simp only [Ba,Nk] at h;cases hn : (f.name != "_") with
    | false=>simp [hn] at h
    | true=>
      have hn' : f.name ≠ "_" := by simpa using hn
      simp only [hn,cond_true] at h;rw [List.forIn_cons];simp only [hn',if_false];have hlu:∀{c},xs[f.offset]? = some c->f.offset<us.size:=fun hc=>by rw [hu.1];exact (List.getElem?_eq_some_iff.1 hc).1
      have hlv:∀{c},ys[f.offset]? = some c->f.offset<vs.size:=fun hc=>by rw [hv.1];exact (List.getElem?_eq_some_iff.1 hc).1
      split at h
      . rename_i hty hx hy hrec
        rename_i z b zz k0 k n k' m r0;cases hkk:decide (k=k') with
        | false=>simp [hkk] at h
        | true=>
          simp only [hkk,cond_true,Option.some.injEq] at h;have hkk':k=k':=by simpa using hkk
          subst hkk';have e1:=(hu.2 _ _ hx).inv_int;have e2:=(hv.2 _ _ hy).inv_int;simp only [Sem.run_bind,Df (hT _ _ hty) rfl (hlu hx),Df (hT _ _ hty) rfl (hlv hy),Result.andThen_ok,e1,e2,W5 (n:=9998) (Ja (hT _ _ hty) rfl)];cases hb:(n==m) with
          | false=>simp [hb] at h;subst h;simp
          | true=>
            simp only [hb,Bo] at h;subst h;have ih:=L5 hT hu hv fs _ hrec;simpa using ih
      . rename_i hty hx hy hrec
        simp only [Option.some.injEq] at h;have e1:=(hu.2 _ _ hx).inv_str.1;have e2:=(hv.2 _ _ hy).inv_str.1;simp only [Sem.run_bind,Df (hT _ _ hty) rfl (hlu hx),Df (hT _ _ hty) rfl (hlv hy),Result.andThen_ok,e1,e2,W6 (n:=9998) (J6 (hT _ _ hty) rfl)];rename_i a b _;cases hb:(a==b) with
        | false=>simp [hb] at h;subst h;simp
        | true=>
          simp only [hb,Bo] at h;subst h;have ih:=L5 hT hu hv fs _ hrec;simpa using ih
      . rename_i hty hx hy hrec
        simp only [Option.some.injEq] at h;have e1:=(hu.2 _ _ hx).inv_bool;have e2:=(hv.2 _ _ hy).inv_bool;simp only [Sem.run_bind,Df (hT _ _ hty) rfl (hlu hx),Df (hT _ _ hty) rfl (hlv hy),Result.andThen_ok,e1,e2,Vh (n:=9998) (Oz (hT _ _ hty) rfl)];rename_i a b _;cases hb:(a==b) with
        | false=>simp [hb] at h;subst h;simp
        | true=>
          simp only [hb,Bo] at h;subst h;have ih:=L5 hT hu hv fs _ hrec;simpa using ih
      . rename_i hty hrec
        rename_i z bb zz gs' r0;cases hq:Nr T gs' ((xs.drop f.offset).take z) ((ys.drop f.offset).take z) with
        | none=>simp [hq] at h
        | some q=>
          simp only [hq,Option.some.injEq] at h;have h2:=X7 9997 hT hty rfl (M2 hu f.offset z) (M2 hv f.offset z) hq;simp only [Sem.run_bind,cB (hT _ _ hty) rfl,Result.andThen_ok,h2];cases q with
          | false=>simp at h;subst h;simp
          | true=>
            simp only [Bo] at h;subst h;have ih:=L5 hT hu hv fs _ hrec;simpa using ih
      cases h
theorem Si (hT:G9 P T){t:TypeId}{td:TD}{gs:List (Nat×Nat×Bool×Nat)}(ht:Bp T t=some td)(hk:td.kind = .struct gs){g:Gh}{w:World}{us vs:Array Value}{xs ys:List AV}(hu:Cv g w us xs)(hv:Cv g w vs ys)
  {r:Bool} (h:Nk T gs xs ys=some r) {x y:Operand} {op:BinOp}:(eqGuard op t x y (.agg us) (.agg vs)).run P w = .ok () w/\(Op.equal t (.agg us) (.agg vs)).run P w = .ok r w:=by
 obtain ⟨fs,hfu,hm,hs,hg,_⟩:=Is (hT t td ht) hk
 constructor
 .
  unfold eqGuard;split <;> simp [hg]
 have key:=L5 hT hu hv fs.toList r (by rw [hm];exact h);unfold Op.equal Op.maxDepth Op.equalIn;simp only [Sem.run_bind,Bg hfu,Result.andThen_ok,run_program,hs,A2,if_false];rw [<-Array.forIn_toList];simp only [ne_eq,ite_not] at key ⊢;simp only [Bu,bind_pure_comp] at key ⊢;rw [show (Op.equalIn 9999)=(Op.equalIn 9999) from rfl] at key
 erw [key]
 cases r <;> rfl
theorem Oo {x y:Operand}{t yt:TypeId}{td:TD}{gs:List (Nat×Nat×Bool×Nat)}{xs ys:List AV}{r:Bool}(hT:G9 P T)(hx:ρ x = .agg xs)(hy:ρ y = .agg ys)(ht:Bp T t=some td)(hk:td.kind = .struct gs)(h:Nk T gs xs ys=some r) :
  Dr P ⟨d,.binOp .eql t x y yt,ty,pos,aft,gd⟩ ρ K (.bool r):=
 Lf hx hy fun g w u v hu hv=>by
  obtain ⟨us,rfl,hu'⟩:=hu.inv_agg;obtain ⟨vs,rfl,hv'⟩:=hv.inv_agg;obtain ⟨h1,h2⟩:=Si hT ht hk hu' hv' h (x:=x) (y:=y) (op:=.eql);exact ⟨.bool r,by simp only [Sem.run_bind,h1,Result.andThen_ok,binOp,h2,Sem.run_pure],.bool _⟩
theorem Hs {x y:Operand}{t yt:TypeId}{td:TD}{gs:List (Nat×Nat×Bool×Nat)}{xs ys:List AV}{r:Bool}(hT:G9 P T)(hx:ρ x = .agg xs)(hy:ρ y = .agg ys)(ht:Bp T t=some td)(hk:td.kind = .struct gs)(h:Nk T gs xs ys=some r) :
  Dr P ⟨d,.binOp .neq t x y yt,ty,pos,aft,gd⟩ ρ K (.bool (!r)):=
 Lf hx hy fun g w u v hu hv=>by
  obtain ⟨us,rfl,hu'⟩:=hu.inv_agg;obtain ⟨vs,rfl,hv'⟩:=hv.inv_agg;obtain ⟨h1,h2⟩:=Si hT ht hk hu' hv' h (x:=x) (y:=y) (op:=.neq);exact ⟨.bool (!r),by simp only [Sem.run_bind,h1,Result.andThen_ok,binOp,h2,Sem.run_pure],.bool _⟩

theorem F6 {x:Operand}{t:TypeId}{b:Bool}(hx:ρ x = .bool b):Dr P ⟨d,.unOp .not t x,ty,pos,aft,gd⟩ ρ K (.bool (!b)):=
 .of_run fun g w a hr=>by
  have h1:=(hx▸hr x (by simp [Op.operands]):Rep g w _ _).inv_bool;exact ⟨.bool (!b),by simp [execOp,h1,Op.unary],.bool _⟩
theorem P_neg {x:Operand}{t:TypeId}{n r:Int}(hx:ρ x = .int .i64 n)(hr':0-n=r)(hb : -9223372036854775808<=r/\r<=9223372036854775807):Dr P ⟨d,.unOp .neg t x,ty,pos,aft,gd⟩ ρ K (.int .i64 r):=
 .of_run fun g w a hr=>by
  have h1:=(hx▸hr x (by simp [Op.operands]):Rep g w _ _).inv_int;refine ⟨.int .i64 r,?_,.int _ _⟩;simp only [execOp,h1,Op.unary,Op.intArith,hr',IntWalk.i64_in r hb,Sem.run_bind,Sem.run_pure,Result.andThen_ok]

end
end Go.Aw
namespace Go.Aw

section
variable {P:Program} {T:List (Nat×TD)} {d:Option Nat} {ty:TypeId} {pos:String} {aft:Array Edge} {gd:Option (Nat×Bool)} {ρ:Operand->AV} {K:List HO->Prop}


theorem G5 {b:Builtin}{args:Array Operand}{ats:Array TypeId}{a:Act}{w:World}{v:Value}
  (h:(builtin b ats ty (args.map fun | .const _=>true | _=>false) (args.map a.eval)).run P w = .ok (.value v) w) :
  (execOp a.eval ⟨d,.call ⟨.builtin b,args,ats⟩,ty,pos,aft,gd⟩).run P w = .ok (.value v) w:=by
 simp only [execOp,resolve,Sem.run_bind,Sem.run_pure,Result.andThen_ok,invoke];exact h

theorem R7 {x:Operand}{t n:Nat}{td:TD}{s:List UInt8}(hT:G9 P T)(h:ρ x = .str s)(ht:Bp T t=some td)(hk:td.kind = .str)(hn:s.length=n) :
  Dr P ⟨d,.call ⟨.builtin .len,#[x],#[t]⟩,ty,pos,aft,gd⟩ ρ K (.int .i64 n):=
 .of_run fun g w a hr=>by
  have h1:=(h▸hr x (by simp [Op.operands,Call.operands]):Rep g w _ _).inv_str.1;refine ⟨.int .i64 n,G5 ?_,.int _ _⟩;have hu:=J6 (hT t td ht) hk;have hsz:(⟨s.toArray⟩:ByteArray).size=n:=by rw [<-hn];exact Hd
  simp only [builtin,Builtin.len_,List.map_toArray,Ba,Gv,h1,Sem.run_bind];simp [Bg hu,goInt,hsz]

theorem Av {x:Operand}{t e z n:Nat}{td:TD}{es:List (List AV)}(hT:G9 P T)(h:ρ x = .sl z es)(ht:Bp T t=some td)(hk:td.kind = .slice e)(hn:es.length=n) :
  Dr P ⟨d,.call ⟨.builtin .len,#[x],#[t]⟩,ty,pos,aft,gd⟩ ρ K (.int .i64 n):=
 .of_run fun g w a hr=>by
  obtain ⟨a0,m,cap,h1,h2,_⟩:=(h▸hr x (by simp [Op.operands,Call.operands]):Rep g w _ _).inv_sl;refine ⟨.int .i64 n,G5 ?_,.int _ _⟩;have hu:=Dc (hT t td ht) hk;simp only [builtin,Builtin.len_,List.map_toArray,Ba,Gv,h1,Sem.run_bind];simp [Bg hu,goInt,h2,hn]

theorem jK {x:Operand}{t e z n:Nat}{td:TD}{v:Value}{es:List (List AV)}(hT:G9 P T)(h:ρ x = .row v z es)(ht:Bp T t=some td)(hk:td.kind = .slice e)(hn:es.length=n) :
  Dr P ⟨d,.call ⟨.builtin .len,#[x],#[t]⟩,ty,pos,aft,gd⟩ ρ K (.int .i64 n):=
 .of_run fun g w a hr=>by
  obtain ⟨a0,m,cap,h1,h2,_⟩:=(h▸hr x (by simp [Op.operands,Call.operands]):Rep g w _ _).inv_row.2.inv_sl;refine ⟨.int .i64 n,G5 ?_,.int _ _⟩;have hu:=Dc (hT t td ht) hk;simp only [builtin,Builtin.len_,List.map_toArray,Ba,Gv,h1,Sem.run_bind];simp [Bg hu,goInt,h2,hn]

theorem E6 {x:Operand}{t e n c:Nat}{td:TD}{a0:Option Addr}(hT:G9 P T)(h:ρ x = .val (.slice a0 n c))(ht:Bp T t=some td)(hk:td.kind = .slice e) :
  Dr P ⟨d,.call ⟨.builtin .len,#[x],#[t]⟩,ty,pos,aft,gd⟩ ρ K (.int .i64 n):=
 .of_run fun g w a hr=>by
  have h1:=(h▸hr x (by simp [Op.operands,Call.operands]):Rep g w _ _).inv_val;refine ⟨.int .i64 n,G5 ?_,.int _ _⟩;have hu:=Dc (hT t td ht) hk;simp only [builtin,Builtin.len_,List.map_toArray,Ba,Gv,h1,Sem.run_bind];simp [Bg hu,goInt]

theorem Ws {x y:Operand}{ats:Array TypeId}{n m:Int}{k:IntKind}(hx:ρ x = .int k n)(hy:ρ y = .int k m):Dr P ⟨d,.call ⟨.builtin .max,#[x,y],ats⟩,ty,pos,aft,gd⟩ ρ K (.int k (max n m)):=
 .of_run fun g w a hr=>by
  have h1:=(hx▸hr x (by simp [Op.operands,Call.operands]):Rep g w _ _).inv_int;have h2:=(hy▸hr y (by simp [Op.operands,Call.operands]):Rep g w _ _).inv_int;refine ⟨.int k (max n m),G5 ?_,.int _ _⟩;have:max n m=if m > n then m else n:=by omega
  rw [this];simp [builtin,Builtin.max_,h1,h2,Builtin.max2]

theorem P_min {x y:Operand}{ats:Array TypeId}{n m:Int}{k:IntKind}(hx:ρ x = .int k n)(hy:ρ y = .int k m):Dr P ⟨d,.call ⟨.builtin .min,#[x,y],ats⟩,ty,pos,aft,gd⟩ ρ K (.int k (min n m)):=
 .of_run fun g w a hr=>by
  have h1:=(hx▸hr x (by simp [Op.operands,Call.operands]):Rep g w _ _).inv_int;have h2:=(hy▸hr y (by simp [Op.operands,Call.operands]):Rep g w _ _).inv_int;refine ⟨.int k (min n m),G5 ?_,.int _ _⟩;have:min n m=if m<n then m else n:=by omega
  rw [this];simp [builtin,Builtin.min_,h1,h2,Builtin.min2]

theorem Zx {x i:Operand}{t:Nat}{td:TD}{s:List UInt8}{k:IntKind}{n:Int}{b:UInt8}(hT:G9 P T)(h:ρ x = .str s)(hi:ρ i = .int k n)(ht:Bp T t=some td)(hk:td.kind = .str)
  (h0:0<=n) (hb:s[n.toNat]? = some b):Dr P ⟨d,.index t x i,ty,pos,aft,gd⟩ ρ K (.int .u8 b.toNat):=
 .of_run fun g w a hr=>by
  have h1:=(h▸hr x (by simp [Op.operands]):Rep g w _ _).inv_str.1;have h2:=(hi▸hr i (by simp [Op.operands]):Rep g w _ _).inv_int;refine ⟨.int .u8 b.toNat,?_,.int _ _⟩;have hu:=J6 (hT t td ht) hk;have hlt:n.toNat<s.length:=(List.getElem?_eq_some_iff.1 hb).1
  have e:(⟨s.toArray⟩:ByteArray)[n.toNat]? = some b:=by
   have hsz:n.toNat<(⟨s.toArray⟩:ByteArray).size:=by show n.toNat<s.toArray.size;simpa using hlt
   rw [getElem?_pos (⟨s.toArray⟩:ByteArray) n.toNat hsz];have:=(List.getElem?_eq_some_iff.1 hb).2;simp only [Option.some.injEq];rw [<-this];rfl
  simp [execOp,Instr.index,h1,h2,asIntOf,Bg hu,h0,e]

theorem Am {x i:Operand}{t e z:Nat}{td te:TD}{k:IntKind}{n:Int}{es:List (List AV)}{c:List AV}(hT:G9 P T)(h:ρ x = .sl z es)(hi:ρ i = .int k n)(ht:Bp T t=some td)(hk:td.kind = .slice e)
  (hte:Bp T e=some te) (hz:te.size=z) (h0:0<=n) (hc:es[n.toNat]? = some c):Dr P ⟨d,.indexAddr t x i,ty,pos,aft,gd⟩ ρ K (.ptr c):=
 .of_run fun g w a hr=>by
  obtain ⟨a0,m,cap,h1,h2,_,_,h3⟩:=(h▸hr x (by simp [Op.operands]):Rep g w _ _).inv_sl;have h4:=(hi▸hr i (by simp [Op.operands]):Rep g w _ _).inv_int;have hlt:n.toNat<es.length:=(List.getElem?_eq_some_iff.1 hc).1;rcases h3 with rfl | ⟨b,o,rfl,hzz,f,hs,hf⟩
  . simp at hlt
  have hu:=Dc (hT t td ht) hk;refine ⟨.pointer (some ⟨b,o+n.toNat*z,none⟩),?_,.ptr b _ c (f n.toNat) (hs _ c hc) (hf _ c hc)⟩;have hlt':n<(m:Int):=by rw [h2];omega
  simp only [execOp,h1,h4,Instr.indexAt,asIntOf,Sem.run_bind,Sem.run_pure,Result.andThen_ok,Bg hu];simp [h0,hlt',Gc (hT e te hte),hz,E8]

theorem A8 {x i:Operand}{t e b o len cap:Nat}{td te:TD}{k:IntKind}{n:Int}{o':Nat}(hT:G9 P T)(h:ρ x = .val (.slice (some ⟨b,o,none⟩) len cap))(hi:ρ i = .int k n)(ht:Bp T t=some td)(hk:td.kind = .slice e)
  (hte:Bp T e=some te) (h0:0<=n) (hc:n<len) (ho:o+n.toNat*te.size=o'):Dr P ⟨d,.indexAddr t x i,ty,pos,aft,gd⟩ ρ K (.val (.pointer (some ⟨b,o',none⟩))):=
 .of_run fun g w a hr=>by
  have h1:=(h▸hr x (by simp [Op.operands]):Rep g w _ _).inv_val;have h4:=(hi▸hr i (by simp [Op.operands]):Rep g w _ _).inv_int;have hu:=Dc (hT t td ht) hk;refine ⟨.pointer (some ⟨b,o',none⟩),?_,.val _⟩;simp only [execOp,h1,h4,Instr.indexAt,asIntOf,Sem.run_bind,Sem.run_pure,Result.andThen_ok,Bg hu];simp [h0,hc,Gc (hT e te hte),E8,ho]

theorem Tt {x i:Operand}{t e b o len:Nat}{td te:TD}{k:IntKind}{n:Int}{o':Nat}(hT:G9 P T)(h:ρ x = .val (.pointer (some ⟨b,o,none⟩)))(hi:ρ i = .int k n)(ht:Bp T t=some td)(hk:td.kind = .array len e)
  (hte:Bp T e=some te) (h0:0<=n) (hc:n<len) (ho:o+n.toNat*te.size=o'):Dr P ⟨d,.indexAddr t x i,ty,pos,aft,gd⟩ ρ K (.val (.pointer (some ⟨b,o',none⟩))):=
 .of_run fun g w a hr=>by
  have h1:=(h▸hr x (by simp [Op.operands]):Rep g w _ _).inv_val;have h4:=(hi▸hr i (by simp [Op.operands]):Rep g w _ _).inv_int;have hu:=Ot (hT t td ht) hk;refine ⟨.pointer (some ⟨b,o',none⟩),?_,.val _⟩;simp only [execOp,h1,h4,Instr.indexAt,asIntOf,Sem.run_bind,Sem.run_pure,Result.andThen_ok,Bg hu,Instr.sureAddr];simp [h0,hc,Gc (hT e te hte),E8,ho]


theorem aQ (s:List UInt8)(l h:Nat):((⟨s.toArray⟩:ByteArray).extract l h)=⟨((s.take h).drop l).toArray⟩:=by
 apply ByteArray.ext
 apply Ly.1
 simp [ByteArray.data_extract,List.extract_eq_take_drop,List.drop_take]

theorem D9 {n:Int}{y:Nat}{k:IntKind}{c:BoundsCode}(h0:0<=n)(h1:n<=y)(w:World):(Instr.sliceBound (.int k n) y c).run P w = .ok n.toNat w:=by
 simp [Instr.sliceBound,asIntOf,h0,h1]

theorem Zz {x:Operand}{lo hi:Option Operand}{t:Nat}{td:TD}{s r:List UInt8}{l h:Nat}(hT:G9 P T)(hx:ρ x = .str s)(ht:Bp T t=some td)(hk:td.kind = .str)
    (hl:match lo with | some y=>∃k,ρ y = .int k l | none=>l=0) (hh:match hi with | some y=>∃k,ρ y = .int k h | none=>h=s.length) (hlh:l<=h) (hhs:h<=s.length) (hr':(s.take h).drop l=r) :
    Dr P ⟨d,.slice t x lo hi none,ty,pos,aft,gd⟩ ρ K (.str r):=
  .of_run fun g w a hr=>by
    obtain ⟨h1,hm⟩:=(hx▸hr x (by simp [Op.operands]):Rep g w _ _).inv_str;have hu:=J6 (hT t td ht) hk;refine ⟨.string ⟨r.toArray⟩,?_,.str _ _ (by simp) (by rw [<-hr',Na,Fr];omega)⟩;have hsz:(⟨s.toArray⟩:ByteArray).size=s.length:=Hd
    have e1:∀v,lo.map a.eval=some v->∃k,v = .int k l:=fun v hv=>by
      cases lo with
      | none=>cases hv
      | some y=>
        obtain ⟨k,hk⟩:=hl;simp only [E4,Option.some.injEq] at hv;subst hv;exact ⟨k,(hk▸hr y (by simp [Op.operands]):Rep g w _ _).inv_int⟩
    have e2:∀v,hi.map a.eval=some v->∃k,v = .int k h:=fun v hv=>by
      cases hi with
      | none=>cases hv
      | some y=>
        obtain ⟨k,hk⟩:=hh;simp only [E4,Option.some.injEq] at hv;subst hv;exact ⟨k,(hk▸hr y (by simp [Op.operands]):Rep g w _ _).inv_int⟩
    have key:(Instr.sliceBounds false s.length s.length (lo.map a.eval) (hi.map a.eval) none).run P w = .ok (l,h,s.length) w:=by
      unfold Instr.sliceBounds;simp only [Sem.run_bind,Sem.run_pure,Result.andThen_ok];cases hhi:hi.map a.eval with
      | none=>
        have:h=s.length:=by cases hi with | none=>exact hh | some y=>cases hhi
        subst this;simp only [Sem.run_pure,Result.andThen_ok];cases hlo:lo.map a.eval with
        | none=>
          have:l=0:=by cases lo with | none=>exact hl | some y=>cases hlo
          subst this;rfl
        | some v=>obtain ⟨k,rfl⟩:=e1 v hlo;simp [D9 (P:=P) (k:=k) (n:=(l:Int)) (y:=s.length) (by omega) (by omega)]
      | some v=>
        obtain ⟨k,rfl⟩:=e2 v hhi;simp only [D9 (P:=P) (k:=k) (n:=(h:Int)) (y:=s.length) (by omega) (by omega),Sem.run_bind,Result.andThen_ok,Jy];cases hlo:lo.map a.eval with
        | none=>
          have:l=0:=by cases lo with | none=>exact hl | some y=>cases hlo
          subst this;rfl
        | some v=>obtain ⟨k,rfl⟩:=e1 v hlo;simp [D9 (P:=P) (k:=k) (n:=(l:Int)) (y:=h) (by omega) (by omega)]
    simp only [execOp,h1,Instr.sliceAt,Sem.run_bind,Bg hu,Result.andThen_ok,Instr.slice,M8,Option.isSome_none,A2,if_false,Sem.run_pure,hsz,key,aQ,hr']

end
end Go.Aw
namespace Go.Aw

def Dj:AV->List AV
 | .agg cs=>cs
 | x=>[x]

def fN:AV->Bool
 | .bool _ | .int _ _ | .str _ | .sl _ _ | .row _ _ _ | .ptr _ | .fn _ _ _ | .mapv _ | .smapv _=>true
 | .val v=>v.oneCell'
 | _=>false

def Bm:List AV->Bool
 | []=>true
 | x::r=>fN x&&Bm r

theorem Kd:∀{l:List AV},Bm l=true->∀x∈l,fN x=true
  | [],_,x,hx=>by cases hx
  | y::r,h,x,hx=>by
    simp only [Bm,Cq] at h;rcases Cz.1 hx with rfl | hx
    . exact h.1
    exact Kd h.2 x hx
theorem Mz {g:Gh}{w:World}{v:Value}{x:AV}(r:Rep g w v x)(h:fN x=true):v.oneCell'=true:=by
 cases r <;> first | rfl | exact h | (rename_i r;cases r <;> rfl) | cases h

theorem Mg {g:Gh}{w:World}{v:Value}{x:AV}(r:Rep g w v x)(h:Bm (Dj x)=true):Cv g w v.cells (Dj x)/\∀u∈v.cells.toList,u.oneCell'=true:=by
  have key:Cv g w v.cells (Dj x):=by
    cases x with
    | agg cs=>obtain ⟨vs,rfl,h'⟩:=r.inv_agg;exact h'
    | _=>
      have h1:v.oneCell'=true:=Mz r (Kd h _ (by simp [Dj]));have hc:v.cells = #[v]:=by cases v <;> first | rfl | cases h1
      rw [hc];refine ⟨rfl,fun i y hi=>?_⟩;cases i with
      | zero=>simp [Dj] at hi;subst hi;exact r
      | succ i=>simp [Dj] at hi
  refine ⟨key,fun u hu=>?_⟩;obtain ⟨i,hi⟩:=List.getElem?_of_mem hu;have hlt:i<v.cells.size:=by have:=(List.getElem?_eq_some_iff.1 hi).1;simpa using this
  obtain ⟨y,hy⟩:∃y,(Dj x)[i]? = some y:=⟨_,List.getElem?_eq_getElem (by rw [<-key.1];exact hlt)⟩;have h1:=key.2 i y hy
  have h2:v.cells.getD i undef=u:=by
    simp only [Array.getElem?_toList] at hi;simp [Ce,hi]
  rw [h2] at h1;exact Mz h1 (Kd h y (A0 hy))

theorem Cv.append {g:Gh}{w:World}{us vs:Array Value}{xs ys:List AV}(h:Cv g w us xs)(k:Cv g w vs ys):Cv g w (us++vs) (xs++ys):=by
 refine ⟨by simp [h.1,k.1],fun i x hi=>?_⟩;rw [List.getElem?_append] at hi;simp only [Ce,Array.getElem?_append];rw [h.1];split at hi
 .
  rename_i hlt;rw [if_pos hlt,<-Ce];exact h.2 i x hi
 rename_i hlt;rw [if_neg hlt,<-Ce];exact k.2 _ x hi
theorem Cv.take {g:Gh}{w:World}{us:Array Value}{xs:List AV}(h:Cv g w us xs)(n:Nat):Cv g w (us.toList.take n).toArray (xs.take n):=by
 refine ⟨by simp [h.1],fun i x hi=>?_⟩;rw [List.getElem?_take] at hi;split at hi
 .
  rename_i hlt;have:=h.2 i x hi;simp only [Ce,List.getElem?_toArray,List.getElem?_take,hlt,if_true,Array.getElem?_toList] at this ⊢;exact this
 cases hi
theorem Cv.drop {g:Gh}{w:World}{us:Array Value}{xs:List AV}(h:Cv g w us xs)(n:Nat):Cv g w (us.toList.drop n).toArray (xs.drop n):=by
 refine ⟨by simp [h.1],fun i x hi=>?_⟩;rw [List.getElem?_drop] at hi;have:=h.2 _ x hi;simp only [Ce,List.getElem?_toArray,List.getElem?_drop,Array.getElem?_toList] at this ⊢;exact this

def E3 (l:List AV)(off:Nat)(cs:List AV):List AV:=l.take off++cs++l.drop (off+cs.length)

theorem Sl (off:Nat):∀(vs:List Value) (k:Nat) (cells:Array Value),off+k+vs.length<=cells.size->
    (vs.zipIdx k).foldl (fun cs (c,j)=>cs.setIfInBounds (off+j) c) cells=(cells.toList.take (off+k)++vs++cells.toList.drop (off+k+vs.length)).toArray
  | [],k,cells,_=>by simp
  | v::r,k,cells,h=>by
    simp only [Eb] at h;simp only [List.zipIdx_cons,Jf];rw [Sl off r (k+1) _ (by simp;omega)]
    congr 1
    apply M9
    intro i;simp only [Array.toList_setIfInBounds,Cs,Lz,List.getElem?_append,Fr,Hr,Qd,List.getElem?_take,List.getElem?_set,List.getElem?_drop,Eb];by_cases h1:i<off+k
    . have e1:i<min (off+(k+1)) cells.size:=by omega
      have e2:i<min (off+k) cells.size:=by omega
      simp [e1,e2,h1,show i<off+(k+1) by omega,show ¬off+k=i by omega]
    . by_cases h2:i=off+k
      . subst h2
        have e1:off+k<min (off+(k+1)) cells.size:=by omega
        have e2:¬off+k<min (off+k) cells.size:=by omega
        have e3:off+k-min (off+k) cells.size=0:=by omega
        simp [e1,e2,e3,show off+k<off+(k+1) by omega,show off+k<cells.size by omega]
      . have e1:¬i<min (off+(k+1)) cells.size:=by omega
        have e2:¬i<min (off+k) cells.size:=by omega
        have e3:i-min (off+k) cells.size=(i-min (off+(k+1)) cells.size)+1:=by omega
        simp only [e1,e2,if_false,e3,List.getElem?_cons_succ];have e4:min (off+(k+1)) cells.size=off+k+1:=by omega
        rw [e4];by_cases h3:i-(off+k+1)<r.length
        . simp only [h3,if_true,List.getElem?_append]
        . simp only [h3,if_false,List.getElem?_append,List.getElem?_drop]
          have e6:off+(k+1)+r.length+(i-(off+k+1)-r.length)=i:=by omega
          have e7:off+k+(r.length+1)+(i-(off+k+1)-r.length)=i:=by omega
          rw [e6,e7,if_neg (by omega)]

def Ur (fs:List (Nat×Nat×Bool×Nat)):List AV->List (Nat×AV)->Option (List AV)
  | cells,[]=>some cells
  | cells,(i,v)::r=>
    match fs[i]? with
    | none=>none
    | some (off,z,_,_)=>bif Bm (Dj v)&&Nat.beq (Dj v).length z&&Nat.ble (off+z) cells.length then Ur fs (E3 cells off (Dj v)) r else none

theorem X9 {g:Gh}{w:World}{fs:List (Nat×Nat×Bool×Nat)}{place:Nat->Option (Nat×Nat)}(hp:∀i:Nat,∀off z nm ft,fs[i]? = some (off,z,nm,ft)->place i=some (off,z)):∀(ps:List (Nat×Value)) (qs:List (Nat×AV)) (cells:Array Value) (l l':List AV),
    ps.length=qs.length->(∀(k:Nat) p q,ps[k]? = some p->qs[k]? = some q->p.1=q.1/\Rep g w p.2 q.2)->Cv g w cells l->Ur fs l qs=some l'->∃cells',Instr.fill place cells ps=some cells'/\Cv g w cells' l'
  | [],[],cells,l,l',_,_,hr,h=>by simp only [Ur,Option.some.injEq] at h;subst h;exact ⟨cells,rfl,hr⟩
  | (i,v)::ps,(i',x)::qs,cells,l,l',hl,hq,hr,h=>by
    obtain ⟨h1,h2⟩:=hq 0 (i,v) (i',x) rfl rfl;simp only at h1;subst h1;simp only [Ur] at h;cases hf:fs[i]? with
    | none=>simp [hf] at h
    | some q=>
      obtain ⟨off,z,nm,ft⟩:=q;simp only [hf] at h;cases hc:(Bm (Dj x)&&Nat.beq (Dj x).length z&&Nat.ble (off+z) l.length) with
      | false=>simp [hc] at h
      | true=>
        simp only [hc,cond_true] at h;simp only [Cq] at hc;obtain ⟨⟨hs,hz⟩,hb⟩:=hc;have hz':=Ey hz;have hb':=J0 hb;obtain ⟨hcr,_⟩:=Mg h2 hs;have hsz:v.cells.size=z:=by rw [hcr.1,hz']
        have hcl:cells.size=l.length:=hr.1
        have hrep:Cv g w (v.cells.toList.zipIdx.foldl (fun cs (c,j)=>cs.setIfInBounds (off+j) c) cells) (E3 l off (Dj x)):=by
          have:=Sl off v.cells.toList 0 cells (by simp;omega);simp only [Nat.add_zero] at this;rw [this];have e1:=((hr.take off).append hcr).append (hr.drop (off+(Dj x).length));unfold E3
          have e2:(List.take off cells.toList++v.cells.toList++List.drop (off+v.cells.toList.length) cells.toList).toArray=(cells.toList.take off).toArray++v.cells++(cells.toList.drop (off+(Dj x).length)).toArray:=by
            apply Ly.1
            simp [hcr.1]
          rw [e2];exact e1
        obtain ⟨cells',k1,k2⟩:=X9 hp ps qs _ _ l' (by simpa using hl) (fun k p q hk hk'=>hq (k+1) p q hk hk') hrep h;refine ⟨cells',?_,k2⟩;unfold Instr.fill;simp only [hp i off z nm ft hf];rw [if_neg (by simp only [Ek,Di,not_or];constructor <;> omega)]
        have e:v.cells.zipIdx.foldl (fun cs (c,j)=>cs.setIfInBounds (off+j) c) cells=v.cells.toList.zipIdx.foldl (fun cs (c,j)=>cs.setIfInBounds (off+j) c) cells:=by
          rw [<-O8,Array.toList_zipIdx]
        rw [e];exact k1
  | [],_::_,_,_,_,h,_,_,_=>by simp at h
  | _::_,[],_,_,_,h,_,_,_=>by simp at h

section
variable {P:Program} {T:List (Nat×TD)} {d:Option Nat} {ty:TypeId} {pos:String} {aft:Array Edge} {gd:Option (Nat×Bool)} {ρ:Operand->AV} {K:List HO->Prop}

theorem dP {t:TypeId}{x:TD}(h:TyOK P t x)(w:World):∃z,(zeroValue t).run P w = .ok z w/\z.cells.size=x.size/\∀g w,Cv g w z.cells x.zero:=by
 obtain ⟨i,hi,_,_,z,hz,h1,h2⟩:=h.info;exact ⟨z,by simp [zeroValue,L9 hi,hz],h1,h2⟩

def N9 (ρ:Operand->AV):List (Nat×Operand)->List (Nat×AV)
 | []=>[]
 | (i,x)::r=>(i,ρ x)::N9 ρ r

theorem Mf (ρ:Operand->AV):∀l:List (Nat×Operand),N9 ρ l=l.map fun p=>(p.1,ρ p.2)
 | []=>rfl
 | (i,x)::r=>by simp [N9,Mf ρ r]

theorem C3 {t:TypeId}{td:TD}{gs:List (Nat×Nat×Bool×Nat)}{parts:Array (Nat×Operand)}{l:List AV}(hT:G9 P T)(ht:Bp T t=some td)(hk:td.kind = .struct gs)
    (h:Ur gs td.zero (N9 ρ parts.toList)=some l):Dr P ⟨d,.build t parts,ty,pos,aft,gd⟩ ρ K (.agg l):=
  .of_run fun g w a hr=>by
    obtain ⟨fs,hu,hm,_,_,hall⟩:=Is (hT t td ht) hk;obtain ⟨it,hit,_,_,z,hz,hzs,hzr⟩:=(hT t td ht).info
    have hmm:∀(l:List Field),(l.all fun f=>(P.info? f.type).isSome)=true->l.mapM (fun f=>(P.info? f.type).map fun i=>(f.offset,i.size))=some (l.map fun f=>(f.offset,P.cellsOf f.type)):=by
      intro l
      induction l with
      | nil=>intro _;rfl
      | cons f r ih=>
        intro hl;simp only [List.all_cons,Cq] at hl;obtain ⟨i,hi⟩:=Option.isSome_iff_exists.1 hl.1;simp [List.mapM_cons,hi,ih hl.2,Program.cellsOf]
    obtain ⟨cells',h1,h2⟩:=X9 (g:=g) (w:=w) (fs:=gs) (place:=((fs.toList.map fun f=>(f.offset,P.cellsOf f.type)).toArray[·]?)) (fun i off zz nm ft hf=>by
        obtain ⟨fd,k1,k2,k3,_⟩:=W8 hm hf;have:fs.toList[i]? = some fd:=by simpa using k1
        simp [this,k2,k3]) (parts.toList.map fun p=>(p.1,a.eval p.2)) (N9 ρ parts.toList) z.cells td.zero l (by simp [Mf]) (fun k p q hp hq=>by
        rw [Mf,List.getElem?_map] at hq;rw [List.getElem?_map] at hp;cases hk':parts.toList[k]? with
        | none=>simp [hk'] at hp
        | some r=>
          simp only [hk',E4,Option.some.injEq] at hp hq;subst hp;subst hq;exact ⟨rfl,hr r.2 (by simp only [Op.operands,List.mem_toArray,B7];exact ⟨r,A0 hk',rfl⟩)⟩) (hzr g w) h
    refine ⟨.agg cells',?_,.agg _ _ h2.1 h2.2⟩
    have hb:P.built t (parts.map fun (i,x)=>(i,a.eval x)).toList=some cells':=by
      unfold Program.built;simp only [hit,hu,hz,hmm fs.toList hall];simpa using h1
    simp only [execOp,Sem.run_bind,run_build w t _ _ hb,Result.andThen_ok,Sem.run_pure]

end
end Go.Aw
namespace Go.Aw

theorem Fl {z:Nat}:∀{es:List (List AV)},(∀e∈es,e.length=z)->∀{i j:Nat} {e:List AV} {x:AV},es[i]? = some e->e[j]? = some x->es.flatten[i*z+j]? = some x
  | [],_,i,j,e,x,h,_=>by simp at h
  | c::r,hz,i,j,e,x,h,hx=>by
    have hc:c.length=z:=hz c (by simp);cases i with
    | zero=>
      simp only [List.getElem?_cons_zero,Option.some.injEq] at h;subst h;have:j<c.length:=(List.getElem?_eq_some_iff.1 hx).1;simp only [Jz,Nat.zero_mul,Cg,List.getElem?_append,this,if_true];exact hx
    | succ i=>
      simp only [List.getElem?_cons_succ] at h;have ih:=Fl (fun e he=>hz e (by simp [he])) h hx;have e1:¬(i+1)*z+j<c.length:=by rw [hc,Fj];omega
      have e2:(i+1)*z+j-c.length=i*z+j:=by rw [hc,Fj];omega
      simp only [Jz,List.getElem?_append,e1,if_false,e2];exact ih

theorem Cm {z:Nat}:∀{es:List (List AV)},(∀e∈es,e.length=z)->es.flatten.length=es.length*z
  | [],_=>by simp
  | c::r,hz=>by
    have ih:=Cm (es:=r) (fun e he=>hz e (by simp [he]));simp only [Jz,Do,Eb,ih,hz c (by simp),Fj,Iy];omega

theorem Ds {g:Gh}{w:World}{b o n cap z:Nat}{es:List (List AV)}(hn:n=es.length)(hc:n<=cap)(hm:cap<=maxLen)(hz:∀e∈es,e.length=z){vs:Array Value}(hv:Cv g w vs es.flatten)
  (hs:∀k,k<n*z->Dz g b (o+k)) (hcell:∀k u,vs[k]? = some u->w.cell? ⟨b,o+k,none⟩=some u):Rep g w (.slice (some ⟨b,o,none⟩) n cap) (.sl z es):=by
 have key:∀i e,es[i]? = some e->∀j x,e[j]? = some x->i*z+j<n*z/\i*z+j<vs.size:=fun i e hi j x hj=>by
  have h1:=Fl hz hi hj;have h2:=(List.getElem?_eq_some_iff.1 h1).1;rw [hv.1,hn,<-Cm hz];exact ⟨h2,h2⟩
 refine .sl b o n cap z es hn hc hm hz (fun i j=>vs.getD (i*z+j) undef) (fun i e hi j x hj=>?_) (fun i e hi j x hj=>hv.2 _ x (Fl hz hi hj));obtain ⟨k1,k2⟩:=key i e hi j x hj;rw [Nat.add_assoc];exact ⟨hs _ k1,hcell _ _ (by simp [k2])⟩

theorem Tv {g:Gh}{w:World}{v:Value}{z:Nat}{es:List (List AV)}(r:Rep g w v (.sl z es))(hpos:0<z) :
    ∃a n cap,v = .slice a n cap/\n=es.length/\n<=cap/\cap<=maxLen/\(es = []\/∃b o,a=some ⟨b,o,none⟩/\(∀e∈es,e.length=z)/\
      ∃vs:List Value,vs.length=n*z/\Cv g w vs.toArray es.flatten/\∀k u,vs[k]? = some u->Dz g b (o+k)/\w.cell? ⟨b,o+k,none⟩=some u):=by
  obtain ⟨a,n,cap,h1,h2,h3,h4,h5⟩:=r.inv_sl;refine ⟨a,n,cap,h1,h2,h3,h4,h5.imp id ?_⟩;rintro ⟨b,o,ha,hz,f,hs,hf⟩
  have get:∀k,k<n*z->∃e x,es[k / z]? = some e/\e[k % z]? = some x:=fun k hk=>by
    have h6:k / z<es.length:=by rw [<-h2];exact Nat.div_lt_of_lt_mul (by rw [Nat.mul_comm];exact hk)
    have h7:k % z<(es[k / z]).length:=by rw [hz _ (List.getElem_mem h6)];exact Nat.mod_lt _ hpos
    exact ⟨_,_,List.getElem?_eq_getElem h6,List.getElem?_eq_getElem h7⟩
  have split:∀k,k / z*z+k % z=k:=fun k=>by rw [Nat.mul_comm];exact Nat.div_add_mod k z
  refine ⟨b,o,ha,hz,(List.range (n*z)).map fun k=>f (k / z) (k % z),by simp,⟨by simp [Cm hz,h2],fun k x hx=>?_⟩,fun k u hu=>?_⟩
  . have hk:k<n*z:=by have:=(List.getElem?_eq_some_iff.1 hx).1;rwa [Cm hz,<-h2] at this
    obtain ⟨e,y,he,hy⟩:=get k hk;have h8:=Fl hz he hy;rw [split,hx] at h8;cases h8
    have:=hf _ e he _ x hy;simpa [hk] using this
  . rw [List.getElem?_map] at hu
    cases hk:(List.range (n*z))[k]? with
    | none=>simp [hk] at hu
    | some k'=>
      have hlt:k<n*z:=by have:=(List.getElem?_eq_some_iff.1 hk).1;simpa using this
      have:k'=k:=by rw [List.getElem?_range hlt] at hk;exact (Option.some.inj hk).symm
      subst this;simp only [hk,E4,Option.some.injEq] at hu;obtain ⟨e,y,he,hy⟩:=get k' hlt;have h9:=hs _ e he _ y hy;rw [Nat.add_assoc,split] at h9;rw [<-hu];exact h9


def Md (ρ:Operand->AV):List (Nat×Operand)->List (List AV)
 | []=>[]
 | (_,x)::r=>Dj (ρ x)::Md ρ r

def Ph (z:Nat)(ρ:Operand->AV):Nat->List (Nat×Operand)->Bool
 | _,[]=>true
 | k,(i,x)::r=>Nat.beq i k&&Nat.beq (Dj (ρ x)).length z&&Bm (Dj (ρ x))&&Ph z ρ (k+1) r

theorem So {z:Nat}{ρ:Operand->AV}:∀(k:Nat) (l:List (Nat×Operand)),Ph z ρ k l=true->∀e∈Md ρ l,e.length=z
  | _,[],_,e,he=>by cases he
  | k,(i,x)::r,h,e,he=>by
    simp only [Ph,Cq] at h;rcases Cz.1 he with rfl | he
    . exact Ey h.1.1.2
    exact So (k+1) r h.2 e he
theorem Mw (ρ:Operand->AV):∀l:List (Nat×Operand),(Md ρ l).length=l.length
 | []=>rfl
 | (_,_)::r=>by simp [Md,Mw ρ r]

theorem bQ {g:Gh}{w:World}{a:Act}{z n:Nat}{ρ:Operand->AV}:∀(l:List (Nat×Operand)) (k:Nat) (cells:Array Value) (es:List (List AV)),Ph z ρ k l=true->(∀p∈l,Rep g w (a.eval p.2) (ρ p.2))->
    cells.size=n*z->k+l.length<=n->es.length=k->(∀e∈es,e.length=z)->Cv g w (cells.toList.take (k*z)).toArray es.flatten->
    ∃cells',Instr.fill (fun i=>some (i*z,z)) cells (l.map fun p=>(p.1,a.eval p.2))=some cells'/\cells'.size=n*z/\Cv g w (cells'.toList.take ((k+l.length)*z)).toArray (es++Md ρ l).flatten
  | [],k,cells,es,_,_,hsz,_,_,_,hr=>⟨cells,rfl,hsz,by simpa [Md] using hr⟩
  | (i,x)::r,k,cells,es,hok,hp,hsz,hle,hlen,hes,hr=>by
    simp only [Ph,Cq] at hok;obtain ⟨⟨⟨hi,hz⟩,hs⟩,hok⟩:=hok;obtain rfl:=Ey hi;have hz':=Ey hz;obtain ⟨hc,_⟩:=Mg (hp (i,x) (by simp)) hs;simp only [Eb] at hle;have hcs:(a.eval x).cells.size=z:=by rw [hc.1,hz']
    have hbound:i*z+z<=cells.size:=by
      rw [hsz];have:(i+1)*z<=n*z:=Fu z (by omega);rw [Fj,Iy] at this;exact this
    have hfold:=Sl (i*z) (a.eval x).cells.toList 0 cells (by simp;omega);simp only [Nat.add_zero] at hfold
    have hsz':((cells.toList.take (i*z)++(a.eval x).cells.toList++cells.toList.drop (i*z+(a.eval x).cells.toList.length)).toArray).size=n*z:=by
      simp [hcs];omega
    have hes':∀e∈es ++ [Dj (ρ x)],e.length=z:=fun e he=>by
      rcases Da.1 he with he | he
      . exact hes e he
      simp only [F3] at he;subst he;exact hz'
    have hr':Cv g w ((cells.toList.take (i*z)++(a.eval x).cells.toList++cells.toList.drop (i*z+(a.eval x).cells.toList.length)).toArray.toList.take ((i+1)*z)).toArray (es ++ [Dj (ρ x)]).flatten:=by
      have e1:(cells.toList.take (i*z)++(a.eval x).cells.toList++cells.toList.drop (i*z+(a.eval x).cells.toList.length)).toArray.toList.take ((i+1)*z)=cells.toList.take (i*z)++(a.eval x).cells.toList:=by
        rw [List.toList_toArray,List.take_append_of_le_length (by simp [hcs,Fj];omega)];exact It (by simp [hcs,Fj];omega)
      rw [e1]
      have e2:(cells.toList.take (i*z)++(a.eval x).cells.toList).toArray=(cells.toList.take (i*z)).toArray++(a.eval x).cells:=by
        apply Ly.1;simp
      rw [e2];have e3:(es ++ [Dj (ρ x)]).flatten=es.flatten++Dj (ρ x):=by simp
      rw [e3];exact hr.append hc
    obtain ⟨cells',h1,h2,h3⟩:=bQ (g:=g) (w:=w) (a:=a) (z:=z) (n:=n) (ρ:=ρ) r (i+1) _ (es ++ [Dj (ρ x)]) hok (fun p hp'=>hp p (by simp [hp'])) hsz' (by omega) (by simp [hlen]) hes' hr';refine ⟨cells',?_,h2,?_⟩
    . simp only [Ba]
      unfold Instr.fill;simp only;rw [if_neg (by simp only [Ek,Di,not_or];constructor <;> omega)]
      have e:(a.eval x).cells.zipIdx.foldl (fun cs (c,j)=>cs.setIfInBounds (i*z+j) c) cells=(a.eval x).cells.toList.zipIdx.foldl (fun cs (c,j)=>cs.setIfInBounds (i*z+j) c) cells:=by
        rw [<-O8,Array.toList_zipIdx]
      rw [e,hfold];exact h1
    . have e4:(i+((i,x)::r).length)*z=(i+1+r.length)*z:=by simp only [Eb];congr 1;omega
      rw [e4];have e5:es++Md ρ ((i,x)::r)=es ++ [Dj (ρ x)]++Md ρ r:=by simp [Md]
      rw [e5];exact h3

section
variable {P:Program} {T:List (Nat×TD)} {d:Option Nat} {ty:TypeId} {pos:String} {aft:Array Edge} {gd:Option (Nat×Bool)} {ρ:Operand->AV} {K:List HO->Prop}

theorem lJ {t:TypeId}{x:TD}(h:TyOK P t x):∃z,(∀w,(zeroValue t).run P w = .ok z w)/\z.cells.size=x.size/\∀g w,Cv g w z.cells x.zero:=by
 obtain ⟨i,hi,_,_,z,hz,h1,h2⟩:=h.info;exact ⟨z,fun w=>by simp [zeroValue,L9 hi,hz],h1,h2⟩

theorem Oc {t e n z:Nat}{td te:TD}{parts:Array (Nat×Operand)}(hT:G9 P T)(ht:Bp T t=some td)(hk:td.kind = .slice e)(hte:Bp T e=some te)(hz:te.size=z)(hn:Nat.beq parts.toList.length n=true)
  (hb:Nat.ble (n*z) 16777216=true) (hok:Ph z ρ 0 parts.toList=true) {g:Gh} {w:World} {a:Act} (hr:∀p∈parts.toList,Rep g w (a.eval p.2) (ρ p.2)) :
  ∃cells:Array Value,(Instr.buildSlice t n (parts.map fun (i,x)=>(i,a.eval x))).run P w = .ok (.slice (some ⟨w.heap.size,0,none⟩) n n) (w.alloc (.cells cells e))/\cells.size=n*z/\Cv g w cells (Md ρ parts.toList).flatten:=by
 have hu:=Dc (hT t td ht) hk;obtain ⟨zv,hzv,hzs,_⟩:=lJ (hT e te hte);have hn':=Ey hn;have hb':=J0 hb;obtain ⟨cells,h1,h2,h3⟩:=bQ (g:=g) (w:=w) (a:=a) (z:=z) (n:=n) (ρ:=ρ) parts.toList 0 ((Array.range (n*z)).map (fun i=>(if n*z=0 then (#[]:Array Value) else zv.cells)[i % (if n*z=0 then (#[]:Array Value) else zv.cells).size]!)) [] hok hr (by simp) (by omega) rfl (by simp) (by simp [Cv]);refine ⟨cells,?_,h2,?_⟩
 .
  have hm:(parts.map fun (i,x)=>(i,a.eval x)).toList=parts.toList.map fun p=>(p.1,a.eval p.2):=by simp
  unfold Instr.buildSlice;simp only [Sem.run_bind,Bg hu,Result.andThen_ok,Gc (hT e te hte),hz];rw [if_neg (by omega)];simp only [Sem.run_bind,Sem.run_ite,Sem.run_pure,hzv,Result.andThen_ok,hm];by_cases h0:n*z=0
  .
   simp only [h0,if_true,Result.andThen_ok] at h1 ⊢;simp only [Sem.run_bind,Sem.run_pure,Result.andThen_ok,h1,newRow,run_newObj];rfl
  simp only [h0,if_false,Result.andThen_ok,Sem.run_bind,Sem.run_pure] at h1 ⊢;simp only [Result.andThen_ok,h1,newRow,Sem.run_bind,run_newObj,Sem.run_pure];rfl
 simp only [Cg,H6,hn'] at h3;rw [It (by simp [h2])] at h3;simpa using h3
theorem Bw {t e n z:Nat}{td te:TD}{parts:Array (Nat×Operand)}{es:List (List AV)}(hT:G9 P T)(ht:Bp T t=some td)(hk:td.kind = .slice e)(hte:Bp T e=some te)(hz:te.size=z)(hn:Nat.beq parts.toList.length n=true)
  (hb:Nat.ble (n*z) 16777216=true) (hok:Ph z ρ 0 parts.toList=true) (hp:Nat.blt 0 z=true) (hes:Md ρ parts.toList=es):Dr P ⟨d,.buildSlice t n parts,ty,pos,aft,gd⟩ ρ K (.sl z es):=by
 intro g w a H next Q hr hH _ hnx
 have hn':=Ey hn;obtain ⟨cells,h1,h2,h3⟩:=Oc (g:=g) (w:=w) (a:=a) hT ht hk hte hz hn hb hok (fun p hp=>hr p.2 (by simp only [Op.operands,List.mem_toArray,B7];exact ⟨p,hp,rfl⟩));unfold Oper.wp;simp only [execOp,Sem.run_bind,h1,Result.andThen_ok,Sem.run_pure];have hx:=Ext.alloc g w (.cells cells e) none;refine hnx _ _ _ ?_ (hH.alloc _ _) hx;have hlen:es.length=n:=by rw [<-hes,Mw,hn']
 have hzz:∀c∈es,c.length=z:=by rw [<-hes];exact So 0 _ hok
 by_cases h0:n=0
 .
  subst h0;have:es = []:=by simpa using hlen
  subst this;exact .sl0 _ _ _ (Bn _)
 refine Ds hlen.symm (Bi _) ?_ hzz (vs:=cells) ?_ ?_ ?_
 .
  have hz0:0<z:=by simpa using hp
  have:n*1<=n*z:=Nat.mul_le_mul_left n (by omega);have:=J0 hb;have:maxLen=9223372036854775807:=rfl;omega
 . rw [<-hes];exact h3.mono hx
 . intro k _;unfold Dz;rw [Gh.Aai];trivial
 intro k u hu;rw [Cg,Bq (Ci w _)];exact hu
theorem Ql {t e n z:Nat}{td te:TD}{parts:Array (Nat×Operand)}{es:List (List AV)}{H:List HO}(hT:G9 P T)(ht:Bp T t=some td)(hk:td.kind = .slice e)(hte:Bp T e=some te)(hz:te.size=z)(hn:Nat.beq parts.toList.length n=true)
  (hb:Nat.ble (n*z) 16777216=true) (hok:Ph z ρ 0 parts.toList=true) (hp:Nat.blt 0 z=true) (hes:Md ρ parts.toList=es) :
  Jj P ⟨d,.buildSlice t n parts,ty,pos,aft,gd⟩ ρ H (fun x H'=>∃v,x = .row v z es/\H' = .row v es.length e z::H):=by
 intro g w a next Q hr hH hnx
 have hn':=Ey hn;obtain ⟨cells,h1,h2,h3⟩:=Oc (g:=g) (w:=w) (a:=a) hT ht hk hte hz hn hb hok (fun p hp=>hr p.2 (by simp only [Op.operands,List.mem_toArray,B7];exact ⟨p,hp,rfl⟩));unfold Oper.wp;simp only [execOp,Sem.run_bind,h1,Result.andThen_ok,Sem.run_pure];have hx:=Ext.alloc g w (.cells cells e) (some (n*z));have hlen:es.length=n:=by rw [<-hes,Mw,hn']
 have hzz:∀c∈es,c.length=z:=by rw [<-hes];exact So 0 _ hok
 have hmax:n<=maxLen:=by
  have hz0:0<z:=by simpa using hp
  have:n*1<=n*z:=Nat.mul_le_mul_left n (by omega);have:=J0 hb;have:maxLen=9223372036854775807:=rfl;omega
 refine hnx (g.put w.heap.size (some (n*z))) _ _ _ _ ⟨_,rfl,rfl⟩ (.row _ _ _ ?_) ((hH.alloc _ _).cons ?_ ?_) hx
 .
  refine Ds hlen.symm (Bi _) hmax hzz (vs:=cells) ?_ ?_ ?_
  . rw [<-hes];exact h3.mono hx
  . intro k hk;unfold Dz;rw [Gh.Aai];show 0+k<n*z;omega
  intro k u hu;rw [Cg,Bq (Ci w _)];exact hu
 . exact .inr ⟨w.heap.size,n,cells,by rw [hlen],by rw [Gh.Aai,hlen],Ci w _,h2,by rw [hlen];exact Bi _,hmax⟩
 intro b hb x hx' hb';simp only [HO.blk,Option.some.injEq] at hb;have:=(HO.ok_lt (hH.ok x hx') hb').1;omega

theorem Bt {t:TypeId}{x:Operand}{v:AV}{cs:List AV}(h:ρ x=v)(hc:Dj v=cs)(hs:Bm cs=true):Dr P ⟨d,.box t x,ty,pos,aft,gd⟩ ρ K (.ptr cs):=by
 intro g w a H next Q hr hH _ hn
 have h1:=h▸hr x (by simp [Op.operands]);obtain ⟨h2,_⟩:=Mg h1 (by rw [hc];exact hs);rw [hc] at h2;unfold Oper.wp;simp only [execOp,Instr.box,newVar,newRow,Sem.run_bind,run_newObj,Result.andThen_ok,Sem.run_pure];have hx:=Ext.alloc g w (.cells (a.eval x).cells t) none;refine hn _ _ _ ?_ (hH.alloc _ none) hx;refine .ptr w.heap.size 0 cs (fun j=>(a.eval x).cells.getD j undef) (fun j y hj=>?_) (fun j y hj=>(h2.2 j y hj).mono hx);have hlt:j<(a.eval x).cells.size:=by rw [h2.1];exact (List.getElem?_eq_some_iff.1 hj).1
 refine ⟨by unfold Dz;rw [Gh.Aai];trivial,?_⟩;rw [Cg,show ({ w with heap:=w.heap.push (.cells (a.eval x).cells t) }:World)=w.alloc (.cells (a.eval x).cells t) from rfl,Bq (Ci w _)];simp [hlt]

theorem fU {t:TypeId}{x:Operand}{v:AV}{cs:List AV}{H:List HO}(h:ρ x=v)(hc:Dj v=cs)(hs:Bm cs=true) :
  Jj P ⟨d,.box t x,ty,pos,aft,gd⟩ ρ H (fun y H'=>∃b,y = .val (.pointer (some ⟨b,0,none⟩))/\H' = .box b t cs::H):=by
 intro g w a next Q hr hH hn
 have h1:=h▸hr x (by simp [Op.operands]);obtain ⟨h2,_⟩:=Mg h1 (by rw [hc];exact hs);rw [hc] at h2;unfold Oper.wp;simp only [execOp,Instr.box,newVar,newRow,Sem.run_bind,run_newObj,Result.andThen_ok,Sem.run_pure];have hx:=Ext.alloc g w (.cells (a.eval x).cells t) (some 0);refine hn (g.put w.heap.size (some 0)) _ _ _ _ ⟨w.heap.size,rfl,rfl⟩ (.val _) ((hH.alloc _ (some 0)).cons ⟨Gh.Aai _ _ _,_,Ci w _,h2.mono hx⟩ ?_) hx;intro b hb x hx' hb';simp only [HO.blk,Option.some.injEq] at hb;have:=(HO.ok_lt (hH.ok x hx') hb').1;omega

def zOK (P:Program)(t:TypeId)(l:List AV):Bool:=
 match P.info? t with
 | some i=>match i.zero with | some z=>zsB z.cells.toList l | none=>false
 | none=>false

theorem Bh {t:TypeId}{l:List AV}{H:List HO}(hz:zOK P t l=true):Jj P ⟨d,.alloc t,ty,pos,aft,gd⟩ ρ H (fun y H'=>∃b,y = .val (.pointer (some ⟨b,0,none⟩))/\H' = .box b t l::H):=by
  intro g w a next Q hr hH hn
  unfold zOK at hz;cases hi:P.info? t with
  | none=>simp [hi] at hz
  | some i=>
    cases hzz:i.zero with
    | none=>simp [hi,hzz] at hz
    | some z=>
      simp only [hi,hzz] at hz;obtain ⟨k1,k2⟩:=Zr hz (g.put w.heap.size (some 0)) (w.alloc (.cells z.cells t));unfold Oper.wp
      have hrun:(Instr.alloc t true (.tuple #[])).run P w = .ok (.pointer (some ⟨w.heap.size,0,none⟩)) (w.alloc (.cells z.cells t)):=by
        simp [Instr.alloc,zeroValue,L9 hi,hzz,newVar,newRow]
      simp only [execOp,Sem.run_bind,hrun,Result.andThen_ok,Sem.run_pure];have hx:=Ext.alloc g w (.cells z.cells t) (some 0);refine hn (g.put w.heap.size (some 0)) _ _ _ _ ⟨w.heap.size,rfl,rfl⟩ (.val _) ((hH.alloc _ (some 0)).cons ⟨Gh.Aai _ _ _,_,Ci w _,by simpa using k1,fun i x hi=>by simpa using k2 i x hi⟩ ?_) hx;intro b hb x hx' hb';simp only [HO.blk,Option.some.injEq] at hb;have:=(HO.ok_lt (hH.ok x hx') hb').1;omega

theorem Ext.setRow {g:Gh}{w:World}{b:Nat}{cs:Array Value}(hb:g b=some 0):Ext g w g (w.setRow b cs):=by
 refine ⟨rfl,rfl,rfl,by simp [World.setRow],fun c hc hg=>⟨hg,setRow_other w b c cs (fun e=>by rw [e,hb] at hg;cases hg)⟩,fun c n hc hg=>⟨fun m hm=>by rw [hg] at hm;cases hm;exact Bi _,fun o ho=>?_⟩⟩;have hne:c≠b:=fun e=>by rw [e,hb] at hg;cases hg;omega
 unfold World.cell?;rw [setRow_other w b c cs hne]

theorem HOK.nodup_blk {g:Gh}{w:World}{H:List HO}(hH:HOK g w H){i j:Nat}{x y:HO}{b:Nat}(hi:H[i]? = some x)(hj:H[j]? = some y)(hx:x.blk=some b)(hy:y.blk=some b):i=j:=by
  have key:∀(H:List HO) (i j:Nat),(H.filterMap HO.blk).Nodup->H[i]? = some x->H[j]? = some y->i=j:=by
    intro H
    induction H with
    | nil=>intro i j _ h;simp at h
    | cons o r ih=>
      intro i j hn h1 h2;have hmem:∀{k:Nat} {z:HO},r[k]? = some z->z.blk=some b->b∈r.filterMap HO.blk:=fun hk hz=>On.2 ⟨_,A0 hk,hz⟩
      cases i with
      | zero=>
        simp only [List.getElem?_cons_zero,Option.some.injEq] at h1;subst h1;cases j with
        | zero=>rfl
        | succ j=>
          simp only [List.getElem?_cons_succ] at h2;rw [J1,hx] at hn;exact absurd (hmem h2 hy) (H8.1 hn).1
      | succ i=>
        simp only [List.getElem?_cons_succ] at h1;cases j with
        | zero=>
          simp only [List.getElem?_cons_zero,Option.some.injEq] at h2;subst h2;rw [J1,hy] at hn;exact absurd (hmem h1 hx) (H8.1 hn).1
        | succ j=>
          simp only [List.getElem?_cons_succ] at h2
          have hn':(r.filterMap HO.blk).Nodup:=by
            rw [J1] at hn;cases ho:o.blk with
            | none=>rw [ho] at hn;exact hn
            | some c=>rw [ho] at hn;exact (H8.1 hn).2
          rw [ih i j hn' h1 h2]
  exact key H i j hH.nodup hi hj

theorem HOK.set {g g':Gh}{w w':World}{H:List HO}(hH:HOK g w H)(hx:Ext g w g' w'){k:Nat}{o o':HO}(hk:H[k]? = some o)(hblk:∀b,o'.blk=some b->o.blk=some b\/w.heap.size<=b)(ho:o'.ok g' w')
    (hs:∀b,b<w.heap.size->o.blk≠some b->g b≠none->g' b=g b/\w'.heap[b]? = w.heap[b]?):HOK g' w' (H.set k o'):=by
  have hlt:k<H.length:=(List.getElem?_eq_some_iff.1 hk).1;refine ⟨?_,?_,hH.glob.mono hx⟩
  . -- no block twice
    have key:∀(H:List HO) (k:Nat),H[k]? = some o->(H.filterMap HO.blk).Nodup->(∀x∈H,∀b,x.blk=some b->b<w.heap.size)->((H.set k o').filterMap HO.blk).Nodup:=by
      intro H
      induction H with
      | nil=>intro k h;simp at h
      | cons x r ih=>
        intro k h hn hl;cases k with
        | zero=>
          simp only [List.getElem?_cons_zero,Option.some.injEq] at h;subst h;simp only [List.set_cons_zero,J1] at hn ⊢;cases ho':o'.blk with
          | none=>
            cases hx':x.blk with
            | none=>rw [hx'] at hn;exact hn
            | some c=>rw [hx'] at hn;exact (H8.1 hn).2
          | some b=>
            simp only;rcases hblk b ho' with hb | hb
            . rw [hb] at hn;exact hn
            . refine H8.2 ⟨fun hm=>?_,?_⟩
              . obtain ⟨y,hy,hyb⟩:=On.1 hm
                have:=hl y (by simp [hy]) b hyb;omega
              . cases hx':x.blk with
                | none=>rw [hx'] at hn;exact hn
                | some c=>rw [hx'] at hn;exact (H8.1 hn).2
        | succ k=>
          simp only [List.getElem?_cons_succ] at h;simp only [List.set_cons_succ,J1] at hn ⊢;cases hx':x.blk with
          | none=>
            rw [hx'] at hn;exact ih k h hn (fun y hy=>hl y (by simp [hy]))
          | some c=>
            rw [hx'] at hn;obtain ⟨h1,h2⟩:=H8.1 hn;refine H8.2 ⟨fun hm=>?_,ih k h h2 (fun y hy=>hl y (by simp [hy]))⟩;obtain ⟨y,hy,hyb⟩:=On.1 hm;rcases List.mem_or_eq_of_mem_set hy with hy | rfl
            . exact h1 (On.2 ⟨y,hy,hyb⟩)
            . rcases hblk c hyb with hb | hb
              . exact h1 (On.2 ⟨o,A0 h,hb⟩)
              . have:=hl x (by simp) c hx'
                omega
    exact key H k hk hH.nodup (fun x hx b hb=>(HO.ok_lt (hH.ok x hx) hb).1)
  . intro x hx'
    obtain ⟨j,hj⟩:=List.getElem?_of_mem hx';rw [List.getElem?_set] at hj;by_cases e:k=j
    . subst e;simp only [if_true,hlt,Option.some.injEq] at hj;rw [<-hj];exact ho
    . simp only [e,if_false] at hj
      have hxm:=hH.ok x (A0 hj);refine HO.ok_of_same hx hxm fun b hb=>?_
      obtain ⟨h1,h2⟩:=HO.ok_lt hxm hb;exact hs b h1 (fun e2=>e (hH.nodup_blk hk hj e2 hb)) h2

theorem Zn {t:TypeId}{td:TD}(hT:TyOK P t td){w:World}{b o:Nat}{v:Value}{cur:Array Value}{TT:TypeId}(hs:v.cells.size=td.size)(h:w.heap[b]? = some (.cells cur TT (0,0)))(hb:o+td.size<=cur.size)(h1:∀u∈v.cells.toList,u.oneCell'=true) :
  (storeVar t ⟨b,o,none⟩ v).run P w = .ok () (w.setRow b (cur.toList.take o++v.cells.toList++cur.toList.drop (o+v.cells.toList.length)).toArray):=by
 unfold storeVar;rw [Sem.run_bind,Gc hT,Result.andThen_ok,if_neg (by omega)];have:=run_storeCells_at P b o TT v.cells.toList 0 cur w h (by simp;omega) h1;simpa using this

theorem Ao {t:TypeId}{b o:Nat}{td:TD}{x y:Operand}{k:Nat}{TT:TypeId}{cs cs':List AV}{v:AV}{H:List HO}(hT:G9 P T)(h:ρ x = .val (.pointer (some ⟨b,o,none⟩)))(hv:ρ y=v)(ht:Bp T t=some td)
  (hk:H[k]? = some (.box b TT cs)) (hs:Bm (Dj v)=true) (hl:Nat.beq (Dj v).length td.size=true) (hb:Nat.ble (o+td.size) cs.length=true) (hc:E3 cs o (Dj v)=cs') {H2:List HO} (hH2:H.set k (.box b TT cs')=H2) :
  Jj P ⟨d,.store t x y,ty,pos,aft,gd⟩ ρ H (fun z H'=>z = .junk/\H'=H2):=by
 subst hH2;intro g w a next Q hr hH hn
 have h1:=(h▸hr x (by simp [Op.operands]):Rep g w _ _).inv_val;have h2:=hv▸hr y (by simp [Op.operands]);obtain ⟨h3,h4⟩:=Mg h2 hs;obtain ⟨hg,vs,h5,h6⟩:=hH.ok _ (A0 hk);have hl':=Ey hl;have hb':=J0 hb;have hrun:=Zn (hT t td ht) (w:=w) (b:=b) (o:=o) (v:=a.eval y) (cur:=vs) (TT:=TT) (by rw [h3.1,hl']) h5 (by rw [h6.1];exact hb') h4;unfold Oper.wp;simp only [execOp,h1,Instr.storeAt,Instr.sureAddr,Sem.run_bind,Sem.run_pure,Result.andThen_ok,hrun];have hx:Ext g w g (w.setRow b (vs.toList.take o++(a.eval y).cells.toList++vs.toList.drop (o+(a.eval y).cells.toList.length)).toArray):=Ext.setRow hg;refine hn g _ undef .junk _ ⟨rfl,rfl⟩ (.junk _) (hH.set hx hk (fun b' hb'=>.inl hb') ⟨hg,_,setRow_heap w b vs _ TT (0,0) h5,?_⟩ ?_) hx
 .
  subst hc;have e1:=((h6.take o).append h3).append (h6.drop (o+(Dj v).length))
  have e2:(vs.toList.take o++(a.eval y).cells.toList++vs.toList.drop (o+(a.eval y).cells.toList.length)).toArray=(vs.toList.take o).toArray++(a.eval y).cells++(vs.toList.drop (o+(Dj v).length)).toArray:=by
   apply Ly.1;simp [h3.1]
  have e3:=e1.mono hx;rw [<-e2] at e3;exact e3
 intro c _ hne _;exact ⟨rfl,setRow_other w b c _ (fun e=>hne (by rw [e];rfl))⟩
end
end Go.Aw
namespace Go.Aw

section
variable {P:Program} {T:List (Nat×TD)} {d:Option Nat} {ty:TypeId} {pos:String} {aft:Array Edge} {gd:Option (Nat×Bool)} {ρ:Operand->AV} {K:List HO->Prop}

theorem Ext.setRowTail {g:Gh}{w:World}{b n m:Nat}{cs cur:Array Value}{E:TypeId}(hb:g b=some n)(hnm:n<=m)(hc:w.heap[b]? = some (.cells cur E (0,0)))(hs:∀o,o<n->cs[o]? = cur[o]?):Ext g w (g.put b (some m)) (w.setRow b cs):=by
 refine ⟨rfl,rfl,rfl,by simp [World.setRow],fun c hc' hg=>?_,fun c k hc' hg=>?_⟩
 .
  have hne:c≠b:=fun e=>by rw [e,hb] at hg;cases hg
  exact ⟨by rw [Gh.Aal _ _ hne];exact hg,setRow_other w b c cs hne⟩
 by_cases e:c=b
 .
  subst e;rw [hb] at hg;cases hg;refine ⟨fun m' hm=>by rw [Gh.Aai] at hm;cases hm;exact hnm,fun o ho=>?_⟩;rw [Bq (setRow_heap w c cur cs E (0,0) hc),Bq hc];exact hs o ho
 refine ⟨fun m' hm=>by rw [Gh.Aal _ _ e,hg] at hm;cases hm;exact Bi _,fun o ho=>?_⟩;unfold World.cell?;rw [setRow_other w b c cs e]
theorem Nh {t ty e:Nat}{te:TD}(hu:P.underlying t=some (.slice e))(hte:TyOK P e te){base:Option Addr}{n cap:Nat}(hc:n<=cap){a:Option Addr}{c:Nat}(w:World) :
  (Builtin.append_ #[t,t] ty #[.slice base n cap,.slice a 0 c]).run P w = .ok (.slice base n cap) w:=by
 have h1:(Builtin.firstCells te.size 0 (.slice a 0 c)).run P w = .ok #[] w:=by
  cases a with
  | none=>rfl
  | some a=>simp [Builtin.firstCells,loadCells,loadCellsFrom]
 cases base with
 | none=>simp [Builtin.append_,Bg hu,Gc hte,Builtin.lenOf,hc,h1]
 | some b=>simp [Builtin.append_,Bg hu,Gc hte,Builtin.lenOf,hc,h1,storeCells]

theorem G0 {g:Gh}{w:World}{a:Option Addr}{n cap z:Nat}{es:List (List AV)}(r:Rep g w (.slice a n cap) (.sl z es))(hpos:0<z)(hs:∀e∈es,Bm e=true)(hne:es≠[]) :
  n=es.length/\(∀e∈es,e.length=z)/\∃b o,a=some ⟨b,o,none⟩/\∃vs:List Value,vs.length=n*z/\Cv g w vs.toArray es.flatten/\(∀u∈vs,u.oneCell'=true)/\∀k u,vs[k]? = some u->Dz g b (o+k)/\w.cell? ⟨b,o+k,none⟩=some u:=by
 obtain ⟨a',n',cap',h1,h2,h3,h4,h5⟩:=Tv r hpos;cases h1
 obtain ⟨b,o,rfl,hz,vs,k1,k2,k3⟩:=h5.resolve_left hne;refine ⟨h2,hz,b,o,rfl,vs,k1,k2,fun u hu=>?_,k3⟩;obtain ⟨i,hi⟩:=List.getElem?_of_mem hu;have hlt:i<es.flatten.length:=by rw [<-k2.1];simpa using (List.getElem?_eq_some_iff.1 hi).1
 have h6:=k2.2 i _ (List.getElem?_eq_getElem hlt);have h7:vs.toArray.getD i undef=u:=by simp [Ce,hi]
 rw [h7] at h6;refine Mz h6 ?_;obtain ⟨e,he,hx⟩:=List.mem_flatten.1 (List.getElem_mem hlt);exact Kd (hs e he) _ hx

theorem E0 {b:Builtin}{args:Array Operand}{ats:Array TypeId}{a:Act}{w w':World}{v:Value}
  (h:(builtin b ats ty (args.map fun | .const _=>true | _=>false) (args.map a.eval)).run P w = .ok (.value v) w') :
  (execOp a.eval ⟨d,.call ⟨.builtin b,args,ats⟩,ty,pos,aft,gd⟩).run P w = .ok (.value v) w':=by
 simp only [execOp,resolve,Sem.run_bind,Sem.run_pure,Result.andThen_ok,invoke];exact h

theorem Xq {g:Gh}{w:World}{b n cap z:Nat}{es:List (List AV)}{cur:Array Value}{E:TypeId}(r:Rep g w (.slice (some ⟨b,0,none⟩) n cap) (.sl z es))(hn:n=es.length)(hpos:0<z)(hs:∀e∈es,Bm e=true)
  (hc:w.heap[b]? = some (.cells cur E (0,0))):(∀e∈es,e.length=z)/\Cv g w (cur.toList.take (n*z)).toArray es.flatten/\(n*z<=cur.size):=by
 by_cases hne:es = []
 .
  subst hne;subst hn;exact ⟨by simp,by simp [Cv],by simp⟩
 obtain ⟨_,hz,b',o',e,vs,k1,k2,_,k4⟩:=G0 r hpos hs hne;cases e
 have key:∀k,k<n*z->cur[k]? = vs[k]? :=fun k hk=>by
  have h1:=List.getElem?_eq_getElem (by rw [k1];exact hk);have:=(k4 k _ h1).2;rw [Cg,Bq hc] at this;rw [this,h1]
 have hle:n*z<=cur.size:=by
  by_cases h0:n*z=0
  . omega
  have h1:=key (n*z-1) (by omega);rw [List.getElem?_eq_getElem (by rw [k1];omega)] at h1;have:=(Array.getElem?_eq_some_iff.1 h1).1;omega
 have e1:cur.toList.take (n*z)=vs:=by
  apply M9
  intro k;rw [List.getElem?_take];split
  . rename_i hk;rw [<-key k hk];simp
  rename_i hk;rw [List.getElem?_eq_none (by rw [k1];omega)]
 rw [e1];exact ⟨hz,k2,hle⟩
theorem I5 {x y:Operand}{t e k z:Nat}{td te:TD}{v:Value}{es es2:List (List AV)}{H:List HO}(hT:G9 P T)(hx:ρ x = .row v z es)(hy:ρ y = .sl z es2)(ht:Bp T t=some td)(hk:td.kind = .slice e)
    (hte:Bp T e=some te) (hz:te.size=z) (hp:Nat.blt 0 z=true) (hH:H[k]? = some (.row v es.length e z)) (hs2:∀c∈es2,Bm c=true) (hs1:∀c∈es,Bm c=true) (hb:(es.length+es2.length)*te.bytes<=140737488355328) (hm:es.length+es2.length<=maxLen) :
    Jj P ⟨d,.call ⟨.builtin .append,#[x,y],#[t,t]⟩,ty,pos,aft,gd⟩ ρ H (fun r H'=>∃v',r = .row v' z (es++es2)/\H'=H.set k (.row v' (es++es2).length e z)):=by
  intro g w a next Q hr hHK hn
  have hpos:0<z:=by simpa using hp
  obtain ⟨e1,r1⟩:=(hx▸hr x (by simp [Op.operands,Call.operands]):Rep g w _ _).inv_row;have r2:=(hy▸hr y (by simp [Op.operands,Call.operands]):Rep g w _ _);have hu:=Dc (hT t td ht) hk;obtain ⟨it,hit,his,hib,zv,hzv,hzs,_⟩:=(hT e te hte).info;have hok:=hHK.ok _ (A0 hH);obtain ⟨a2,m,c2,h21,h22,h23,h24,_⟩:=r2.inv_sl;rw [e1] at r1;have hlen:(es++es2).length=es.length+m:=by simp [h22]
  have hkl:k<H.length:=(List.getElem?_eq_some_iff.1 hH).1
  -- the end: what is shown of the run
  have fin:∀v' g' w',(Builtin.append_ #[t,t] ty #[a.eval x,a.eval y]).run P w = .ok v' w'->Rep g' w' v' (.sl z (es++es2))->HOK g' w' (H.set k (.row v' (es++es2).length e z))->Ext g w g' w'->Oper.wp P ⟨d,.call ⟨.builtin .append,#[x,y],#[t,t]⟩,ty,pos,aft,gd⟩ a w next Q:=by
    intro v' g' w' hrun hrep hok' hext;unfold Oper.wp
    rw [E0 (v:=v') (w':=w') (by
      have:(#[x,y]:Array Operand).map a.eval = #[a.eval x,a.eval y]:=by simp
      rw [this];simp only [builtin,Sem.run_bind,hrun,Result.andThen_ok,Sem.run_pure])]
    exact hn g' w' v' _ _ ⟨v',rfl,rfl⟩ (.row _ _ _ hrep) hok' hext
  by_cases h2:es2 = []
  . subst h2
    simp only [H1,K9] at h22 fin ⊢;subst h22;obtain ⟨a1,n1,c1,k1,k2,k3,_,_⟩:=r1.inv_sl;refine fin v g w ?_ r1 ?_ (Ext.refl g w)
    . rw [e1,k1,h21];exact Nh hu (hT e te hte) k3 w
    . have:H.set k (.row v es.length e z)=H:=by
        apply M9
        intro j;rw [List.getElem?_set];split
        . rename_i hj;subst hj;first | exact hH.symm | (rw [if_pos hkl];exact hH.symm)
        rfl
      rw [this];exact hHK
  . rw [h21] at r2
    obtain ⟨_,hz2,b2,o2,hb2,news,n1,n2,n3,n4⟩:=G0 r2 hpos hs2 h2;subst hb2;have hm0:0<m:=by rw [h22];exact Iw.2 h2
    have hnews:∀j u,news[j]? = some u->w.cell? ((⟨b2,o2,none⟩:Addr).add j)=some u:=fun j u hj=>by rw [E8];exact (n4 j u hj).2
    have hsz:it.size=z:=by rw [his,hz]
    have hnl:news.length=m*it.size:=by rw [n1,hsz]
    have hmax:maxLen=9223372036854775807:=rfl;rcases hok with ⟨rfl,h0⟩ | ⟨b,cap,cur,rfl,hg,hcur,hcsz,hcap,hcmax⟩
    . -- nothing yet
      have hes:es = []:=by simpa using h0
      subst hes;simp only [H6,K9,Cg] at hb hm fin hlen ⊢;have hbb:m*it.bytes<=281474976710656:=by rw [hib,h22];omega
      have hrun:=run_append_nil (P:=P) w t ty e it zv hu hit hzv ⟨b2,o2,none⟩ m c2 news hnl hnews hm0 (by omega) hbb;have hext:Ext g w (g.put w.heap.size (some (m*z))) (w.drew.alloc (.cells (news.toArray++Builtin.zeroCells zv.cells (grownCap w m 0 e-m)) e)):=(Ext.drew g w).trans (Ext.alloc g w.drew _ _);have hcapm:m<=grownCap w m 0 e:=grownCap_ge w m 0 e;have hcapM:=grownCap_le_maxLen w m 0 e (by omega);refine fin _ (g.put w.heap.size (some (m*z))) _ (by rw [e1,h21];exact hrun) ?_ ?_ hext
      . refine Ds h22 hcapm hcapM hz2 (n2.mono hext) (fun k hk=>?_) (fun k u hk=>?_)
        . unfold Dz;rw [Gh.Aai];show 0+k<m*z;omega
        . rw [Cg,Bq (b:=w.heap.size) (Ci w.drew _)]
          have hlt:k<news.length:=by simpa using (Array.getElem?_eq_some_iff.1 hk).1
          rw [Array.getElem?_append_left (by simpa using hlt)];exact hk
      . refine hHK.set hext hH (fun b hb=>?_) (.inr ⟨w.heap.size,grownCap w m 0 e,_,by rw [h22],by rw [Gh.Aai,h22],Ci w.drew _,?_,by rw [<-h22];exact hcapm,hcapM⟩) (fun c hc _ _=>?_)
        . simp only [HO.blk,Option.some.injEq] at hb;exact .inr (by omega)
        . simp only [H7,Hd,n1,size_zeroCells,hzs,hz,Nat.sub_mul]
          have:=Fu z hcapm;omega
        exact ⟨Gh.Aal _ _ (by omega),F4 w.drew _ hc⟩
    . obtain ⟨hz1,rl1,hle⟩:=Xq r1 rfl hpos hs1 hcur
      have hzall:∀c∈es++es2,c.length=z:=fun c hc=>by
        rcases Da.1 hc with h | h
        . exact hz1 c h
        exact hz2 c h
      by_cases hroom:es.length+m<=cap
      . have hfit:es.length*it.size+news.length<=cur.size:=by
          rw [hsz,n1,hcsz,<-Fj];exact Fu z hroom
        have hrun:=run_append_room (P:=P) w t ty e it hu hit b es.length cap cur hcur ⟨b2,o2,none⟩ m c2 news hnl hnews n3 hroom hfit;rw [hsz] at hrun hfit;have hnew:=setRow_heap w b cur (cur.toList.take (es.length*z)++news++cur.toList.drop (es.length*z+news.length)).toArray e (0,0) hcur
        have hext:Ext g w (g.put b (some ((es.length+m)*z))) (w.setRow b (cur.toList.take (es.length*z)++news++cur.toList.drop (es.length*z+news.length)).toArray):=by
          refine Ext.setRowTail hg (Fu z (by omega)) hcur fun o ho=>?_
          have:o<(cur.toList.take (es.length*z)).length:=by simp;omega
          simp only [List.getElem?_toArray,Cs];rw [List.getElem?_append_left this,List.getElem?_take,if_pos ho];simp
        have hrl:Cv g w ((cur.toList.take (es.length*z)).toArray++news.toArray) (es++es2).flatten:=by
          rw [Ol];exact rl1.append n2
        refine fin _ (g.put b (some ((es.length+m)*z))) _ (by rw [e1,h21];exact hrun) ?_ ?_ hext
        . refine Ds hlen.symm (by omega) hcmax hzall (hrl.mono hext) (fun k hk=>?_) (fun k u hk=>?_)
          . unfold Dz;rw [Gh.Aai];show 0+k<_;omega
          . rw [Cg,Bq hnew]
            have hlt:=(Array.getElem?_eq_some_iff.1 hk).1
            have e3:(cur.toList.take (es.length*z)++news++cur.toList.drop (es.length*z+news.length)).toArray=((cur.toList.take (es.length*z)).toArray++news.toArray)++(cur.toList.drop (es.length*z+news.length)).toArray:=by
              apply Ly.1;simp
            rw [e3,Array.getElem?_append_left hlt];exact hk
        . refine hHK.set hext hH (fun b' hb'=>.inl hb') (.inr ⟨b,cap,_,by rw [hlen],by rw [Gh.Aai,hlen],hnew,?_,by rw [hlen];exact hroom,hcmax⟩) (fun c hc hne _=>?_)
          . simp only [Hd,Do,Fr,Na,Qd];omega
          . have hcb:c≠b:=fun h=>hne (by rw [h];rfl)
            exact ⟨Gh.Aal _ _ hcb,setRow_other w b c _ hcb⟩
      . have hg':cap<es.length+m:=by omega
        have hfit:Builtin.nextslicecap (es.length+m) cap*it.bytes<=281474976710656:=growslice_fits hg' (by rw [hib,h22];exact hb);have hol:(cur.toList.take (es.length*z)).length=es.length*it.size:=by simp [hsz];omega
        have holds:∀j u,(cur.toList.take (es.length*z))[j]? = some u->w.cell? ((⟨b,0,none⟩:Addr).add j)=some u:=fun j u hj=>by
          rw [E8,Cg,Bq hcur];rw [List.getElem?_take] at hj;split at hj
          . simpa using hj
          cases hj
        have hrun:=run_append_grow (P:=P) w t ty e it zv hu hit hzv ⟨b,0,none⟩ es.length cap (cur.toList.take (es.length*z)) hol holds ⟨b2,o2,none⟩ m c2 news hnl hnews hg' (by omega) hfit;have hext:Ext g w (g.put w.heap.size (some ((es.length+m)*z))) (w.drew.alloc (.cells ((cur.toList.take (es.length*z)).toArray++news.toArray++Builtin.zeroCells zv.cells (grownCap w (es.length+m) cap e-(es.length+m))) e)):=(Ext.drew g w).trans (Ext.alloc g w.drew _ _);have hcapm:=grownCap_ge w (es.length+m) cap e;have hcapM:=grownCap_le_maxLen w (es.length+m) cap e (by omega)
        have hrl:Cv g w ((cur.toList.take (es.length*z)).toArray++news.toArray) (es++es2).flatten:=by
          rw [Ol];exact rl1.append n2
        refine fin _ (g.put w.heap.size (some ((es.length+m)*z))) _ (by rw [e1,h21];exact hrun) ?_ ?_ hext
        . refine Ds hlen.symm hcapm hcapM hzall (hrl.mono hext) (fun k hk=>?_) (fun k u hk=>?_)
          . unfold Dz;rw [Gh.Aai];show 0+k<_;omega
          . rw [Cg,Bq (b:=w.heap.size) (Ci w.drew _)]
            have hlt:=(Array.getElem?_eq_some_iff.1 hk).1;rw [Array.getElem?_append_left hlt];exact hk
        . refine hHK.set hext hH (fun b' hb'=>?_) (.inr ⟨w.heap.size,grownCap w (es.length+m) cap e,_,by rw [hlen],by rw [Gh.Aai,hlen],Ci w.drew _,?_,by rw [hlen];exact hcapm,hcapM⟩) (fun c hc _ _=>?_)
          . simp only [HO.blk,Option.some.injEq] at hb';exact .inr (by omega)
          . simp only [H7,Hd,n1,size_zeroCells,hzs,hz,Nat.sub_mul,hol,hsz]
            have:=Fu z hcapm;rw [Fj] at this;rw [Fj];omega
          exact ⟨Gh.Aal _ _ (by omega),F4 w.drew _ hc⟩

def Pe (P:Program)(f:FuncId):Bool:=
 match P.funcs[f]? with
 | some fn => !(fn.name == "runtime.NumGoroutine") && !fn.body.isNone
 | none=>false

theorem Km {f:FuncId}(h:Pe P f=true)(args:Array Value)(w:World):(callFunc f args).run P w = .ok (.enter f args) w:=by
 unfold Pe at h;split at h
 .
  rename_i fn hf;simp only [Cq,Bu] at h;unfold callFunc;simp only [Sem.run_bind,run_program,Result.andThen_ok,hf,h.1,h.2,A2,if_false,Sem.run_pure]
 cases h
theorem Kc {g:Gh}{w:World}{a:Act}{args:Array Operand}{l:List AV}(hr:∀y∈args.toList,Rep g w (a.eval y) (ρ y))(hl:args.toList.map ρ=l):Cv g w (args.map a.eval) l:=by
  subst hl;refine ⟨by simp,fun i x hi=>?_⟩;rw [List.getElem?_map] at hi;cases e:args.toList[i]? with
  | none=>simp [e] at hi
  | some y=>
    simp only [e,E4,Option.some.injEq] at hi;have h1:args[i]? = some y:=by simpa using e
    have:(args.map a.eval).getD i undef=a.eval y:=by simp [Ce,h1]
    rw [this,<-hi];exact hr y (A0 e)

theorem Pl {f:FuncId}{cal:Operand}{args:Array Operand}{ats:Array TypeId}{first cap l l':List AV}{H:List HO}{R:AV->List HO->Prop}(hf:Pe P f=true)(hcal:ρ cal = .fn (.func f) first cap)(ha:args.toList.map ρ=l)
  (hl:first++l++cap=l') (hc:Cb P f H l' R):Jj P ⟨d,.call ⟨.value cal,args,ats⟩,ty,pos,aft,gd⟩ ρ H R:=by
 intro g w a next Q hr hH hn
 obtain ⟨vs,us,hv,h1,h2⟩:=(hcal▸hr cal (by simp [Op.operands,Call.operands]):Rep g w _ _).inv_fn;have h3:=Kc (ρ:=ρ) (a:=a) (g:=g) (w:=w) (args:=args) (fun y hy=>hr y (by simp only [Op.operands,Call.operands,Array.mem_append];exact .inr (by simpa using hy))) ha;unfold Oper.wp
 have hrun:(execOp a.eval ⟨d,.call ⟨.value cal,args,ats⟩,ty,pos,aft,gd⟩).run P w = .ok (.enter f (vs++args.map a.eval++us)) w:=by
  simp only [execOp,resolve,Sem.run_bind,hv,Deferred.ofValue,Sem.run_pure,Result.andThen_ok,invoke,Km hf]
 rw [hrun];simp only [Oper.upon];refine (hc g w (vs++args.map a.eval++us) hH (hl▸(h1.append h3).append h2)).mono ?_;rintro e w' ⟨v,g',r,H',rfl,k1,k2,k3,k4⟩;exact hn g' w' v r H' k4 k1 k2 k3

theorem C2 {f:FuncId}{args:Array Operand}{ats:Array TypeId}{l:List AV}{H:List HO}{R:AV->List HO->Prop}(hf:Pe P f=true)(hcal:ρ (.func f) = .fn (.func f) [] [])(ha:args.toList.map ρ=l)
  (hc:Cb P f H l R):Jj P ⟨d,.call ⟨.value (.func f),args,ats⟩,ty,pos,aft,gd⟩ ρ H R:=
 Pl hf hcal ha (by simp) hc

theorem Fy {f:FuncId}{cal:Operand}{args:Array Operand}{ats:Array TypeId}{first cap l l':List AV}{r:AV}(hf:Pe P f=true)(hcal:ρ cal = .fn (.func f) first cap)(ha:args.toList.map ρ=l)
  (hl:first++l++cap=l') (hc:Al P f l' r):Dr P ⟨d,.call ⟨.value cal,args,ats⟩,ty,pos,aft,gd⟩ ρ K r:=by
 intro g w a H next Q hr hH _ hn
 refine Pl hf hcal ha hl (hc H) g w a next Q hr hH fun g' w' v x H' ⟨hx,hH'⟩ k1 k2 k3=>?_
 subst hx;subst hH';exact hn g' w' v k1 k2 k3

theorem Ak {f:FuncId}{args:Array Operand}{ats:Array TypeId}{l:List AV}{r:AV}(hf:Pe P f=true)(hcal:ρ (.func f) = .fn (.func f) [] [])(ha:args.toList.map ρ=l)
  (hc:Al P f l r):Dr P ⟨d,.call ⟨.value (.func f),args,ats⟩,ty,pos,aft,gd⟩ ρ K r:=
 Fy hf hcal ha (by simp) hc

theorem A3 {f:Fn}{first cap:Array Operand}{l l':List AV}(h:first.toList.map ρ=l)(h':cap.toList.map ρ=l'):Dr P ⟨d,.makeFunc f first cap,ty,pos,aft,gd⟩ ρ K (.fn f l l'):=
 .of_run fun g w a hr=>by
  have h1:=Kc (ρ:=ρ) (a:=a) (g:=g) (w:=w) (args:=first) (fun y hy=>hr y (by simp only [Op.operands,Array.mem_append];exact .inl (by simpa using hy))) h;have h2:=Kc (ρ:=ρ) (a:=a) (g:=g) (w:=w) (args:=cap) (fun y hy=>hr y (by simp only [Op.operands,Array.mem_append];exact .inr (by simpa using hy))) h';exact ⟨.func f (first.map a.eval) (cap.map a.eval),by simp [execOp,Instr.makeFunc],.fn _ _ _ _ _ h1.1 h1.2 h2.1 h2.2⟩


inductive Res (P:Program) (T:List (Nat×TD)) (s:St):ResultVar->AV->Prop where
 | tmp (t:Nat) (x:AV) (h:get s.sl t=x):Res P T s (.tmp t) x
 | box (a t:Nat) (b:Nat) (k:Nat) (TT:TypeId) (td:TD) (cs l:List AV) (h:get s.sl a = .val (.pointer (some ⟨b,0,none⟩))) (hk:s.H[k]? = some (.box b TT cs)) (ht:Bp T t=some td) (ha:td.agg=true) (hl:cs.take td.size=l) (hs:Nat.beq l.length td.size=true):Res P T s (.cell a t) (.agg l)
 | boxs (a t:Nat) (b:Nat) (k:Nat) (TT:TypeId) (td:TD) (c:AV) (h:get s.sl a = .val (.pointer (some ⟨b,0,none⟩))) (cs:List AV) (hk:s.H[k]? = some (.box b TT (c::cs))) (ht:Bp T t=some td) (ha:td.agg=false):Res P T s (.cell a t) c

inductive ResL (P:Program) (T:List (Nat×TD)) (s:St):List ResultVar->List AV->Prop where
 | nil:ResL P T s [] []
 | cons {r:ResultVar} {x:AV} {rs:List ResultVar} {xs:List AV} (h:Res P T s r x) (hs:ResL P T s rs xs):ResL P T s (r::rs) (x::xs)

def Aj:List AV->AV
 | [x]=>x
 | l=>.tuple l

theorem Res.run (hT:G9 P T){s:St}{rv:ResultVar}{x:AV}(h:Res P T s rv x){g:Gh}{a:Act}{w:World}(hG:Gm g s a w) :
    ∃v,(match rv with | .tmp t=>pure (a.tmps.getD t undef) | .cell b t=>do loadVar t (<-asAddr (a.tmps.getD b undef)):Sem Value).run P w = .ok v w/\Rep g w v x:=by
  cases h with
  | tmp t x h=>exact ⟨_,rfl,h▸hG.sl t⟩
  | box c t b k TT td cs l h hk ht ha hl hs=>
    have h1:a.tmps.getD c undef = .pointer (some ⟨b,0,none⟩):=(h▸hG.sl c:Rep g w _ _).inv_val;obtain ⟨_,vs,h2,h3⟩:=hG.heap.ok _ (A0 hk);have hs':=Ey hs
    have hle:td.size<=cs.length:=by
      have h4:(cs.take td.size).length=td.size:=by rw [hl,hs']
      rw [Fr] at h4;omega
    have hcell:∀j,j<td.size->w.cell? ⟨b,0+j,none⟩=some (vs.getD j undef):=fun j hj=>by
      have:j<vs.size:=by rw [h3.1];omega
      rw [Cg,Bq h2];simp [this]
    have hrep:=P4 (g:=g) (w:=w) (n:=td.size) (f:=fun j=>vs.getD j undef) hs' (fun j y hj=>by
      rw [<-hl,List.getElem?_take] at hj;split at hj
      . exact h3.2 _ y hj
      cases hj)
    refine ⟨_,?_,.agg _ _ hrep.1 hrep.2⟩;simp only [h1,asAddr,Sem.run_bind,Sem.run_pure,Result.andThen_ok];exact N5 (hT t td ht) ha _ hcell
  | boxs c t b k TT td x h cs hk ht ha=>
    have h1:a.tmps.getD c undef = .pointer (some ⟨b,0,none⟩):=(h▸hG.sl c:Rep g w _ _).inv_val;obtain ⟨_,vs,h2,h3⟩:=hG.heap.ok _ (A0 hk);have h4:=h3.2 0 x rfl;have:0<vs.size:=by rw [h3.1];simp
    have hcell:w.cell? ⟨b,0,none⟩=some (vs.getD 0 undef):=by rw [Bq h2];simp [this]
    refine ⟨_,?_,h4⟩;simp only [h1,asAddr,Sem.run_bind,Sem.run_pure,Result.andThen_ok];exact K3 (hT t td ht) ha hcell

theorem ResL.run (hT:G9 P T){s:St}{rs:List ResultVar}{xs:List AV}(h:ResL P T s rs xs){g:Gh}{a:Act}{w:World}(hG:Gm g s a w) :
    ∃vs:List Value,(rs.mapM fun rv=>(match rv with | .tmp t=>pure (a.tmps.getD t undef) | .cell b t=>do loadVar t (<-asAddr (a.tmps.getD b undef)):Sem Value)).run P w = .ok vs w/\Cv g w vs.toArray xs:=by
  induction h with
  | nil=>exact ⟨[],rfl,rfl,by simp⟩
  | cons h _ ih=>
    obtain ⟨v,h1,h2⟩:=h.run hT hG;obtain ⟨vs,h3,h4⟩:=ih;refine ⟨v::vs,?_,by simp [h4.1];exact by have:=h4.1;simpa using this,fun i x hi=>?_⟩
    . rw [List.mapM_cons,Sem.run_bind,h1,Result.andThen_ok,Sem.run_bind,h3,Result.andThen_ok,Sem.run_pure]
    . cases i with
      | zero=>simp at hi;subst hi;simpa using h2
      | succ i=>simp at hi;have:=h4.2 i x hi;simpa using this

theorem Ln (hT:G9 P T){s:St}{fn:Func}{xs:List AV}(h:ResL P T s fn.results.toList xs){g:Gh}{a:Act}{w:World}(hG:Gm g s a w) :
    ∃v,(results fn a.tmps).run P w = .ok v w/\Rep g w v (Aj xs):=by
  obtain ⟨vs,h1,h2⟩:=h.run hT hG
  have h3:(fn.results.mapM fun rv=>(match rv with | .tmp t=>pure (a.tmps.getD t undef) | .cell b t=>do loadVar t (<-asAddr (a.tmps.getD b undef)):Sem Value)).run P w = .ok vs.toArray w:=by
    rw [<-Array.toArray_toList (xs:=fn.results),List.mapM_toArray,Sem.run_map,h1];rfl
  have hlen:vs.length=xs.length:=by have:=h2.1;simpa using this
  unfold results;rw [Sem.run_bind];refine ⟨if h:vs.toArray.size=1 then vs.toArray[0] else .tuple vs.toArray,?_,?_⟩
  . exact congrArg (fun r:Result (Array Value)=>r.andThen fun vs w'=>Sem.run P (pure (if h:vs.size=1 then vs[0] else Value.tuple vs)) w') h3
  . match vs,xs,hlen,h2 with
    | [v],[x],_,h2=>have:=h2.2 0 x rfl;simpa [Aj] using this
    | [],[],_,h2=>exact .tuple _ _ h2.1 h2.2
    | v1::v2::vs,x1::x2::xs,_,h2=>
      have:¬((v1::v2::vs).toArray.size=1):=by simp
      rw [dif_neg this];exact .tuple _ _ h2.1 h2.2

theorem Cb.body (hT:G9 P T){f:FuncId}{fn:Func}{c:Code}{args:List AV}{H:List HO}{Q:AV->List HO->Prop}(hf:P.funcs[f]? = some fn)(hb:fn.body=some c){n:Nat}(hn:fn.ntmps=n)(hle:Nat.ble args.length n=true)
  (h:AW P c (fun e s=>(e = .normal\/e = .ret)/\∃xs,ResL P T s fn.results.toList xs/\∃H',H'.Sublist s.H/\Q (Aj xs) H') ⟨F9 0 args,H,n⟩):Cb P f H args Q:=by
 refine Cb.of_wp hf hb hn (J0 hle) (h.mono ?_);rintro e s ⟨he,xs,hr,H',hs,hq⟩;refine ⟨he,fun g a w hG=>?_⟩;obtain ⟨v,h1,h2⟩:=Ln hT hr hG;exact ⟨v,g,_,H',h1,h2,hG.heap.sub hs,Ext.refl g w,hq⟩

theorem Al.body (hT:G9 P T){f:FuncId}{fn:Func}{c:Code}{args:List AV}{r:AV}(hf:P.funcs[f]? = some fn)(hb:fn.body=some c){n:Nat}(hn:fn.ntmps=n)(hle:Nat.ble args.length n=true)
  (h:∀H,AW P c (fun e s=>(e = .normal\/e = .ret)/\∃xs,ResL P T s fn.results.toList xs/\H.Sublist s.H/\Aj xs=r) ⟨F9 0 args,H,n⟩):Al P f args r:=fun H=>
 Cb.body hT hf hb hn hle ((h H).mono fun _ _ ⟨he,xs,hr,hs,hq⟩=>⟨he,xs,hr,H,hs,hq,rfl⟩)


def Wk (sl:List (Nat×AV)):List (Nat×AV)->Prop
 | []=>True
 | (t,x)::r=>get sl t=x/\Wk sl r

theorem Wk.get {sl:List (Nat×AV)}:∀{l:List (Nat×AV)},Wk sl l->∀t,get l t = .junk\/get l t=get sl t
  | [],_,t=>.inl rfl
  | (j,x)::r,h,t=>by
    rw [Fo];by_cases e:j=t
    . subst e;simp only [if_true];exact .inr h.1.symm
    simp only [e,if_false];exact Wk.get h.2 t
theorem GS.weaken {sl sl':List (Nat×AV)}{H H':List HO}{n:Nat}(h:Wk sl sl')(hs:H'.Sublist H):GS ⟨sl,H,n⟩ ⟨sl',H',n⟩:=fun g a w hG=>
 ⟨g,⟨hG.size,hG.defers,fun i=>by
  rcases h.get i with e | e
  . show Rep g w _ (get sl' i);rw [e];exact .junk _
  show Rep g w _ (get sl' i);rw [e];exact hG.sl i,hG.heap.sub hs⟩,Ext.refl g w⟩
theorem GS.Aaj {sl:List (Nat×AV)}{H:List HO}{n t b TT:Nat}{cs:List AV}(k:Nat)(h:get sl t = .val (.pointer (some ⟨b,0,none⟩)))(hk:H[k]? = some (.box b TT cs)):GS ⟨sl,H,n⟩ ⟨(t,.ptr cs)::sl,H.eraseIdx k,n⟩:=fun g a w hG=>by
 obtain ⟨hg,vs,h1,h2⟩:=hG.heap.ok _ (A0 hk)
 have hx:Ext g w (g.put b none) w:=by
  refine ⟨rfl,rfl,rfl,⟨Bi _,Bi _⟩,fun c hc hgc=>⟨?_,rfl⟩,fun c m hc hgc=>⟨fun m' hm=>?_,fun _ _=>rfl⟩⟩
  .
   by_cases e:c=b
   . subst e;exact Gh.Aai _ _ _
   rw [Gh.Aal _ _ e];exact hgc
  by_cases e:c=b
  . subst e;rw [Gh.Aai] at hm;cases hm
  rw [Gh.Aal _ _ e,hgc] at hm;cases hm;exact Bi _
 refine ⟨g.put b none,⟨hG.size,hG.defers,fun i=>?_,?_⟩,hx⟩
 .
  show Rep _ w _ (get ((t,.ptr cs)::sl) i);rw [Fo];by_cases e:t=i
  .
   subst e;simp only [if_true];have h3:a.tmps.getD t undef = .pointer (some ⟨b,0,none⟩):=(h▸hG.sl t:Rep g w _ _).inv_val;rw [h3];refine .ptr b 0 cs (fun j=>vs.getD j undef) (fun j y hj=>⟨by unfold Dz;rw [Gh.Aai];trivial,?_⟩) (fun j y hj=>(h2.2 j y hj).mono hx);have hlt:j<vs.size:=by rw [h2.1];exact (List.getElem?_eq_some_iff.1 hj).1
   rw [Cg,Bq h1];simp [hlt]
  simp only [e,if_false];exact (hG.sl i).mono hx
 have hsub:(H.eraseIdx k).Sublist H:=Qa ..;refine ⟨(hG.heap.sub hsub).nodup,fun o ho=>?_,hG.heap.glob.mono hx⟩;obtain ⟨j,hj⟩:=List.getElem?_of_mem ho;rw [List.getElem?_eraseIdx] at hj
 obtain ⟨j',hjk,hj'⟩:∃j',j'≠k/\H[j']? = some o:=by
  split at hj
  . exact ⟨j,by omega,hj⟩
  exact ⟨j+1,by omega,hj⟩
 have hok:=hG.heap.ok o (A0 hj');refine HO.ok_of_same hx hok fun c hc=>⟨Gh.Aal _ _ fun e=>hjk (hG.heap.nodup_blk hj' hk (e▸hc) rfl),rfl⟩
theorem GS.row {sl:List (Nat×AV)}{H:List HO}{n t:Nat}(E z:Nat)(h:get sl t = .val (.slice none 0 0)):GS ⟨sl,H,n⟩ ⟨(t,.row (.slice none 0 0) z [])::sl,.row (.slice none 0 0) 0 E z::H,n⟩:=fun g a w hG=>by
 refine ⟨g,⟨hG.size,hG.defers,fun i=>?_,hG.heap.cons (.inl ⟨rfl,rfl⟩) (fun b hb=>by cases hb)⟩,Ext.refl g w⟩;show Rep _ w _ (get ((t,.row (.slice none 0 0) z [])::sl) i);rw [Fo];by_cases e:t=i
 .
  subst e;simp only [if_true];have h3:a.tmps.getD t undef = .slice none 0 0:=(h▸hG.sl t:Rep g w _ _).inv_val;rw [h3];exact .row _ _ _ (.sl0 _ _ _ (Bn _))
 simp only [e,if_false];exact hG.sl i
theorem GS.unrow {sl:List (Nat×AV)}{H:List HO}{n z:Nat}(t:Nat){v:Value}{es:List (List AV)}(h:get sl t = .row v z es):GS ⟨sl,H,n⟩ ⟨(t,.sl z es)::sl,H,n⟩:=fun g a w hG=>by
 refine ⟨g,⟨hG.size,hG.defers,fun i=>?_,hG.heap⟩,Ext.refl g w⟩;show Rep _ w _ (get ((t,.sl z es)::sl) i);rw [Fo];by_cases e:t=i
 . subst e;simp only [if_true];exact (h▸hG.sl t:Rep g w _ _).inv_row.2
 simp only [e,if_false];exact hG.sl i
end
end Go.Aw
