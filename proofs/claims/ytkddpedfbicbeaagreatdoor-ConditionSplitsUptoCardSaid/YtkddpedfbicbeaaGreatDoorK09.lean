/-
  Several texts in one: S13, Ay, S14, S15, S16, S17, S18. No condition.
-/
import Derived.Test.YtkddpedfbicbeaaGreatDoorK02
import Derived.Test.YtkddpedfbicbeaaGreatDoorK08
import Derived.Test.YtkddpedfbicbeaaGreatDoorAx
set_option linter.unusedVariables false
set_option linter.unusedSimpArgs false
namespace Go.Proofs.YtkddpedfbicbeaaGreatDoor
open Go Go.Aw

def cScene (T:List Sc)(V:List Va):List AV:=[.sl 2 (T.map cSc),.sl 2 (V.map cVa)]
/-- a well-typed expression -/
structure KOK (T:List Sc) (V:List Va) (e:Ex):Prop where
 ty:TyOK8 T V
 nodes:nodesS e=0
 kind:(kindS T V e).2=0
theorem kok_args {T:List Sc}{V:List Va}{e:Ex}(h:KOK T V e)(hp:e.args≠[]):firstS (fun a=>(kindS T V a).2) e.args=0∧operandsS e.op (e.args.map fun a=>(kindS T V a).1)=0∧(kindS T V e).1=resK e.op:=by
 have hk:=h.kind
 rw [kindS_eq] at hk ⊢
 have hi:e.args.isEmpty=false:=by simpa using hp
 rw [hi] at hk ⊢
 simp only [Bool.false_eq_true,if_false] at hk ⊢
 by_cases h1:(firstS (fun a=>(kindS T V a).2) e.args != 0)=true
 · rw [if_pos h1] at hk;simp only at hk;rw [hk] at h1;cases h1
 ·
  rw [if_neg h1] at hk ⊢
  by_cases h2:(operandsS e.op (e.args.map fun a=>(kindS T V a).1) != 0)=true
  · rw [if_pos h2] at hk;simp only at hk;rw [hk] at h2;cases h2
  ·
   rw [if_neg h2]
   exact ⟨by simpa using h1,by simpa using h2,rfl⟩
theorem kok_arg {T:List Sc}{V:List Va}{e a:Ex}(h:KOK T V e)(ha:a∈e.args):KOK T V a:=by
 have hp:e.args≠[]:=by intro hn;rw [hn] at ha;cases ha
 exact ⟨h.ty,(nodes_zero h.nodes).2 a ha,first_zero (kok_args h hp).1 a ha⟩
theorem kok_leaf {T:List Sc}{V:List Va}{e:Ex}(h:KOK T V e)(ho:e.op<5):kindS T V e=leafK T V e:=by
 rw [kindS_eq,leaf_nil (nodes_zero h.nodes).1 ho];rfl
theorem kok_ne {T:List Sc}{V:List Va}{e:Ex}(h:KOK T V e)(ho:5≤e.op):e.args≠[]:=by
 obtain ⟨h0,h1,h2⟩:=node_shape (nodes_zero h.nodes).1
 intro hn
 rw [hn] at h2
 unfold arityS at h2
 rw [if_neg (by omega),if_neg (by omega)] at h2
 split at h2 <;> simp at h2
theorem kok_kind {T:List Sc}{V:List Va}{e:Ex}(h:KOK T V e):(kindS T V e).1=kindR T V e:=by
  obtain ⟨h0,h1,h2⟩:=node_shape (nodes_zero h.nodes).1
  by_cases ho:e.op<5
  · have hk:=h.kind
    rw [kok_leaf h ho] at hk ⊢
    unfold leafK kindR at *
    by_cases c0:(e.op==0)=true
    · rw [if_pos c0,if_pos (by rw [c0];rfl)]
    · rw [if_neg c0] at hk ⊢
      by_cases c1:decide ((V.length:Int)≤e.var)=true
      · rw [if_pos c1] at hk;cases hk
      · rw [if_neg c1] at hk ⊢
        by_cases c2:(e.op==2||e.op==3)=true
        · rw [if_pos c2]
          have c2':e.op=2∨e.op=3:=by simpa using c2
          rcases c2' with c | c <;> rw [c] <;> rfl
        · rw [if_neg c2] at hk ⊢
          by_cases c3:decide (((fldsS T V e.var).length:Int)≤e.field)=true
          · rw [if_pos c3] at hk;cases hk
          · rw [if_neg c3] at hk ⊢
            have c2':e.op≠2∧e.op≠3:=by simpa using c2
            have c0':e.op≠0:=by simpa using c0
            have:e.op=1∨e.op=4:=by omega
            rcases this with c | c
            · by_cases c4:(e.op==4&&(kindAt (fldsS T V e.var) e.field != e.val.kind || !esuitsS e.kind ⟨kindAt (fldsS T V e.var) e.field,0,[]⟩))=true
              · rw [c] at c4;cases c4
              · rw [if_neg c4,c];rfl
            · by_cases c4:(e.op==4&&(kindAt (fldsS T V e.var) e.field != e.val.kind || !esuitsS e.kind ⟨kindAt (fldsS T V e.var) e.field,0,[]⟩))=true
              · rw [if_pos c4] at hk;cases hk
              · rw [if_neg c4]
                have:kindAt (fldsS T V e.var) e.field=e.val.kind:=by
                  rw [c] at c4
                  simp at c4
                  exact c4.1
                rw [this,c];rfl
  · rw [(kok_args h (kok_ne h (by omega))).2.2]
    have c0:(e.op==0||e.op==4)=false:=by simp;omega
    have c1:(e.op==1)=false:=by simp;omega
    unfold kindR resK
    rw [ifF c0,ifF c1]
    by_cases c:(e.op==5||e.op==6)=true
    · rw [if_pos c,if_pos (by simp at c ⊢;omega)]
    · rw [if_neg c,if_neg (by simp at c ⊢;omega)]
theorem kok_var {T:List Sc}{V:List Va}{e:Ex}(h:KOK T V e)(ho:e.op=1∨e.op=2∨e.op=3∨e.op=4):0≤e.var∧e.var<(V.length:Int):=by
 have hk:=h.kind
 rw [kok_leaf h (by omega)] at hk
 have hv:=node_var (nodes_zero h.nodes).1
 unfold leafK at hk
 rw [ifF (by simp;omega)] at hk
 by_cases c1:decide ((V.length:Int)≤e.var)=true
 · rw [if_pos c1] at hk;cases hk
 ·
  simp at c1
  have hn:=(nodes_zero h.nodes).1
  refine ⟨?_,by omega⟩
  unfold nodeS at hn
  split at hn
  · cases hn
  split at hn
  · cases hn
  split at hn
  · cases hn
  rename_i h3
  have hu:(usesS e.op).1=true:=by rcases ho with ho | ho | ho | ho <;> rw [ho] <;> rfl
  rw [hu] at h3
  simp at h3
  omega
theorem kok_field {T:List Sc}{V:List Va}{e:Ex}(h:KOK T V e)(ho:e.op=1∨e.op=4):0≤e.field∧e.field<((fldsS T V e.var).length:Int):=by
 have hk:=h.kind
 rw [kok_leaf h (by omega)] at hk
 have hv:=kok_var h (by omega)
 unfold leafK at hk
 rw [ifF (by simp;omega),ifF (by simp;omega),ifF (by simp;omega)] at hk
 by_cases c1:decide (((fldsS T V e.var).length:Int)≤e.field)=true
 · rw [if_pos c1] at hk;cases hk
 ·
  simp at c1
  have hn:=(nodes_zero h.nodes).1
  refine ⟨?_,by omega⟩
  unfold nodeS at hn
  split at hn
  · cases hn
  split at hn
  · cases hn
  split at hn
  · cases hn
  rename_i h3
  have hu:(usesS e.op).2=true:=by rcases ho with ho | ho <;> rw [ho] <;> rfl
  rw [hu] at h3
  simp at h3
  omega
/-- where a field's kind stands -/
theorem kok_at {T:List Sc}{V:List Va}{e:Ex}(h:KOK T V e)(ho:e.op=1):∃v s f,0≤e.var∧V[e.var.toNat]? = some v∧0≤v.type∧T[v.type.toNat]? = some s∧0≤e.field∧s.fields[e.field.toNat]? = some f∧kindR T V e=f.kind:=by
 have hv:=kok_var h (by omega)
 have hf:=kok_field h (by omega)
 have hl:e.var.toNat<V.length:=by omega
 have hvm:=h.ty _ (List.getElem_mem hl)
 have hl2:(V[e.var.toNat]).type.toNat<T.length:=by omega
 have hfl:fldsS T V e.var=(T[(V[e.var.toNat]).type.toNat]).fields:=by
  unfold fldsS
  rw [List.getElem?_eq_getElem hl]
  simp only [Option.getD_some]
  rw [List.getElem?_eq_getElem hl2];rfl
 have hl3:e.field.toNat<(T[(V[e.var.toNat]).type.toNat]).fields.length:=by rw [hfl] at hf;omega
 refine ⟨_,_,_,hv.1,List.getElem?_eq_getElem hl,hvm.1,List.getElem?_eq_getElem hl2,hf.1,List.getElem?_eq_getElem hl3,?_⟩
 unfold kindR kindAt
 rw [ifF (by simp;omega),if_pos (by simp;omega),hfl,List.getElem?_eq_getElem hl3];rfl
theorem KindS_kok {T:List Sc}{V:List Va}{e:Ex}(h:(KindS T V e).2=0):KOK T V e∧(KindS T V e).1=kindR T V e:=by
 unfold KindS at h ⊢
 by_cases h1:(allTS T != 0)=true
 · rw [if_pos h1] at h;simp only at h;rw [h] at h1;cases h1
 rw [if_neg h1] at h ⊢
 by_cases h2:(varsE T V != 0)=true
 · rw [if_pos h2] at h;simp only at h;rw [h] at h2;cases h2
 rw [if_neg h2] at h ⊢
 by_cases h3:(checkS e != 0)=true
 · rw [if_pos h3] at h;simp only at h;rw [h] at h3;cases h3
 rw [if_neg h3] at h ⊢
 have hk:KOK T V e:=⟨tyok_of (varsE_zero (by simpa using h2)),check_nodes' (by simpa using h3),h⟩
 exact ⟨hk,kok_kind hk⟩
theorem condE_1 {T:List Sc}{V:List Va}{e:Ex}(h:((KindS T V e).2 != 0)=true):condE T V e=(KindS T V e).2:=by rw [condE,if_pos h]
theorem condE_2 {T:List Sc}{V:List Va}{e:Ex}(h:((KindS T V e).2 != 0)=false)(h2:((KindS T V e).1 != 1)=true):condE T V e=9:=by rw [condE,ifF h,if_pos h2]
theorem condE_3 {T:List Sc}{V:List Va}{e:Ex}(h:((KindS T V e).2 != 0)=false)(h2:((KindS T V e).1 != 1)=false):condE T V e=0:=by rw [condE,ifF h,ifF h2]
theorem g9 {T:List Sc}{V:List Va}{e:Ex}(hk:KOK T V e)(hG:allG [(e.op==9,true)]):1<e.args.length:=by
 have h:=eq_of_beq (hG _ (List.mem_singleton.2 rfl))
 exact len_two' (nodes_zero hk.nodes).1 (by omega)
theorem l9 {T:List Sc}{V:List Va}{e:Ex}(hk:KOK T V e)(h:(e.op==9)=true):1<e.args.length:=by
 have h:=eq_of_beq h
 exact len_two' (nodes_zero hk.nodes).1 (by omega)
end Go.Proofs.YtkddpedfbicbeaaGreatDoor

namespace Go.Aw
section
variable {P:Program} {T:List (Nat×TD)} {d:Option Nat} {ty:TypeId} {pos:String} {aft:Array Edge} {gd:Option (Nat×Bool)} {ρ:Operand→AV}
/-- What a map in the making holds at a key, and whether it holds it: a scalar. -/
theorem P_klookOk {t:TypeId}{m k:Operand}{kt et b i:Nat}{td tk te:TD}{gs:List (Nat×Nat×Bool×Nat)}{n:List AV}{es:List (List AV×AV)}{eq:List AV→Bool}{r:Bool}{x:AV}{ok:Bool}(hT:TOK P T)(ht:tget T t=some td)(hk:td.kind = .map kt et)(htk:tget T kt=some tk)(hkk:tk.kind = .struct gs)
    (hte:tget T et=some te) (hzs:zscal P et=true) (hm:ρ m = .val (.map (some b))) (hkey:ρ k = .agg n) (hnn:aeqs T gs n n=some r) (heq:∀p∈es,aeqs T gs n p.1=some (eq p.1)) (hx:match kget eq es with | some y=>y=x | none=>te.zero = [x]) (hok:(kget eq es).isSome=ok) :
    OpP P ⟨d,.lookup t m k true,ty,pos,aft,gd⟩ ρ (fun H=>H[i]? = some (.kmap b es)) (.tuple [x,.bool ok]):=by
  subst hok
  intro g w a H next Q hr hHK hH hn
  have h1:=(hm▸hr m (by simp [Op.operands]):Rep g w _ _).inv_val
  obtain ⟨us,h2,hus⟩:=(hkey▸hr k (by simp [Op.operands]):Rep g w _ _).inv_agg
  obtain ⟨hg,ms,clock,hheap,hl,⟨hclk,hbn⟩,hks,hvs⟩:=hHK.ok _ (List.mem_of_getElem? hH)
  have hu:=map_inv (hT t td ht) hk
  have hget:(getObj b).run P w = .ok (.map ms clock) w:=by simp [getObj,Sem.run,hheap]
  have hck:=check_struct hT htk hkk hus hnn (em:=ms.isEmpty) (m:=9997)
  have hf:=kfind_run hT htk hkk hus (eq:=eq) ms.toList es 0 (by simpa using hl) (fun j k x hj=>by simpa using hks j k x hj) heq
  rw [←findKey_struct hT htk hkk] at hf
  have tup:∀(v:Value) (y:AV) (o:Bool),Rep g w v y→Rep g w (.tuple #[v,.bool o]) (.tuple [y,.bool o]):=fun v y o hv=>.tuple _ _ rfl fun j z hj=>by
    match j,hj with
    | 0,hj=>cases hj;exact hv
    | 1,hj=>cases hj;exact .bool _
    | j+2,hj=>cases hj
  unfold Oper.wp
  cases hs:kidx eq es with
  | some j=>
    obtain ⟨k',y,hj,hg2⟩:=kget_at hs
    rw [hs] at hf
    have hrep:Rep g w (ms.toList.getD j default).val y:=by simpa using hvs j k' y hj
    simp only [Option.map_some] at hf
    simp only [execOp,Instr.lookup,Sem.run_bind,under_run hu,Result.andThen_ok,h1,hget,Sem.run_pure,h2,hck,hf,if_true]
    refine hn g w _ ?_ hHK (Ext.refl g w)
    rw [hg2] at hx ⊢
    simp only at hx
    subst hx
    exact tup _ _ _ hrep
  | none=>
    rw [hs] at hf
    simp only [Option.map_none] at hf
    obtain ⟨z,hz1,hz2,hz3⟩:=zero_run (hT et te hte) w
    simp only [execOp,Instr.lookup,Sem.run_bind,under_run hu,Result.andThen_ok,h1,hget,Sem.run_pure,h2,hck,hf,hz1,if_true]
    refine hn g w _ ?_ hHK (Ext.refl g w)
    rw [kget_no.1 hs] at hx ⊢
    simp only at hx
    have hz4:=hz3 g w
    rw [hx] at hz4
    have hna:∀vs,z≠.agg vs:=by
      rintro vs rfl
      obtain ⟨it,hit,_,_,zv,hzv,_⟩:=(hT et te hte).info
      have hzz:(zeroValue et).run P w = .ok zv w:=by simp [zeroValue,info_run hit,hzv]
      rw [hzz] at hz1
      cases hz1
      simp [zscal,hit,hzv] at hzs
    have hcell:z.cells = #[z]:=by cases z <;> first | rfl | exact absurd rfl (hna _)
    rw [hcell] at hz4
    exact tup _ _ _ (hz4.2 0 x rfl)

/-- A guarded operation that writes; where it is not carried out, the heap is already of the form that it leaves. -/
theorem AOL.geX {ops:Array Oper}{KK:St→Prop}{s:St}{o:Oper}{r:List Oper}{x:AV}{α:Type}{F:α→List HO}(G:List (Bool×Bool))(L:List (Nat×AV))(hw:wantedG ops o s.sl=some G)
  (hL:∀p∈L,Ent G (get s.sl p.1) p.2) (h:allG G→OpE P o (aval (L++s.sl)) s.H fun x' H'=>x'=x∧∃v,H'=F v) (hn:¬allG G→∃v,s.H=F v) (hd:okd o.dst s.n=true)
  (k:∀v,AOL P ops KK r ⟨putS o.dst (.opt G x) s.sl,F v,s.n⟩):AOL P ops KK (o::r) s:=by
 refine ⟨fun Q g a w hG hQ=>?_⟩
 obtain ⟨h1,h2⟩:=wanted_of_G (ops:=ops) (o:=o) (sl:=s.sl) hw (g:=g) (w:=w) (a:=a) (fun d _=>hG.sl d)
 unfold WOL
 by_cases hg:allG G
 ·
  rw [if_pos (h1 hg)]
  refine h hg g w a _ _ (fun y _=>aval_app hG hg hL y) hG.heap fun g' w' v x' H' ⟨e1,u,e2⟩ hv hH hx=>?_
  subst e1;subst e2
  exact (k u).run Q g' _ w' (hG.put hx hd (.opt _ _ _ (fun _=>hv) (fun h=>absurd hg h)) hH) fun g'' s'' a'' w'' q1 q2 q3=>hQ g'' s'' a'' w'' q1 (hx.trans q2) q3
 ·
  rw [if_neg (by rw [h2 hg];decide)]
  obtain ⟨u,hu⟩:=hn hg
  have hH:HOK g w (F u):=by have:=hG.heap;rwa [hu] at this
  exact (k u).run Q g _ w (hG.put (Ext.refl g w) hd (.opt _ _ _ (fun h=>absurd h hg) (fun _=>rfl)) hH) hQ

/-- A buffer as the variable that it is made of, and back. -/
theorem hok_unbuf {g:Gh}{w:World}{H:List HO}{k:Nat}{v:Value}{es:List (List AV)}{E z:Nat}(hH:HOK g w H)(hk:H[k]? = some (.buf v es E z)) :
  (v = .slice none 0 0∧es = [])∨∃b cap J,v = .slice (some ⟨b,0,none⟩) es.length cap∧es.length≤cap∧cap≤maxLen∧J.length=(cap-es.length)*z∧(∀e∈es,e.length=z)∧HOK g w (H.set k (.box b E (es.flatten++J))):=by
 rcases hH.ok _ (List.mem_of_getElem? hk) with h | ⟨b,cap,cur,e1,hg,hcur,hcsz,hcap,hcmax,hz1,hrep⟩
 · exact .inl h
 ·
  have hfl:es.flatten.length=es.length*z:=flatten_len hz1
  have hle:es.length*z≤cur.size:=by rw [hcsz];exact Nat.mul_le_mul_right z hcap
  refine .inr ⟨b,cap,List.replicate ((cap-es.length)*z) .junk,e1,hcap,hcmax,List.length_replicate,hz1,?_⟩
  refine hH.set (Ext.refl g w) hk (fun c hc=>.inl (by rw [e1];exact hc)) ⟨hg,cur,hcur,?_,fun i x hi=>?_⟩ (fun _ _ _ _=>⟨rfl,rfl⟩)
  ·
   rw [List.length_append,List.length_replicate,hfl,hcsz,Nat.sub_mul]
   have:=Nat.mul_le_mul_right z hcap
   omega
  ·
   rw [List.getElem?_append] at hi
   split at hi
   · exact hrep i x hi
   ·
    have:=List.eq_of_mem_replicate (List.mem_of_getElem? hi)
    rw [this];exact .junk _
theorem AW.unbuf {c:Code}{Q:Exit→St→Prop}{sl:List (Nat×AV)}{H:List HO}{n:Nat}(k:Nat){v:Value}{es:List (List AV)}{E z:Nat}(hk:H[k]? = some (.buf v es E z))(hne:es≠[])
  (h:∀b cap J,v = .slice (some ⟨b,0,none⟩) es.length cap→es.length≤cap→cap≤maxLen→J.length=(cap-es.length)*z→(∀e∈es,e.length=z)→AW P c Q ⟨sl,H.set k (.box b E (es.flatten++J)),n⟩):AW P c Q ⟨sl,H,n⟩:=fun Q' g a w hG hQ=>by
 rcases hok_unbuf hG.heap hk with ⟨_,h2⟩ | ⟨b,cap,J,h1,h2,h3,h4,h5,h6⟩
 · exact absurd h2 hne
 · exact h b cap J h1 h2 h3 h4 h5 Q' g a w ⟨hG.size,hG.defers,hG.sl,h6⟩ hQ
theorem GS.rebuf {sl:List (Nat×AV)}{H H2:List HO}{n:Nat}(k:Nat){b cap E z:Nat}{cs:List AV}(es:List (List AV))(J:List AV){m:Nat}(hm:es.length=m)(hk:H[k]? = some (.box b E cs))(hcs:cs=es.flatten++J)(hcap:es.length≤cap)(hcm:cap≤maxLen)(hJ:J.length=(cap-es.length)*z)(hz:∀e∈es,e.length=z)
  (hH2:H.set k (.buf (.slice (some ⟨b,0,none⟩) m cap) es E z)=H2):GS ⟨sl,H,n⟩ ⟨sl,H2,n⟩:=fun g a w hG=>by
 subst hcs;subst hH2;subst hm
 obtain ⟨hg,vs,hvs,h3⟩:=hG.heap.ok _ (List.mem_of_getElem? hk)
 have hfl:es.flatten.length=es.length*z:=flatten_len hz
 refine ⟨g,⟨hG.size,hG.defers,hG.sl,?_⟩,Ext.refl g w⟩
 refine hG.heap.set (Ext.refl g w) hk (fun c hc=>.inl hc) (.inr ⟨b,cap,vs,rfl,hg,hvs,?_,hcap,hcm,hz,fun i x hi=>?_⟩) (fun _ _ _ _=>⟨rfl,rfl⟩)
 ·
  rw [h3.1,List.length_append,hfl,hJ,Nat.sub_mul]
  have:=Nat.mul_le_mul_right z hcap
  omega
 ·
  refine h3.2 i x ?_
  rw [List.getElem?_append_left (List.getElem?_eq_some_iff.1 hi).1];exact hi

/-- the value of a buffer is one cell -/
theorem HO.buf_one {g:Gh}{w:World}{v:Value}{es:List (List AV)}{E z:Nat}(h:HO.ok g w (.buf v es E z)):v.oneCell'=true:=by
 rcases h with ⟨rfl,_⟩ | ⟨b,cap,cur,rfl,_⟩ <;> rfl
theorem AW.bufOne {c:Code}{Q:Exit→St→Prop}{sl:List (Nat×AV)}{H:List HO}{n:Nat}{v:Value}{es:List (List AV)}{E z:Nat}(k:Nat)(hk:H[k]? = some (.buf v es E z))(h:v.oneCell'=true→AW P c Q ⟨sl,H,n⟩):AW P c Q ⟨sl,H,n⟩:=fun Q' g a w hG hQ=>
 h (HO.buf_one (hG.heap.ok _ (List.mem_of_getElem? hk))) Q' g a w hG hQ
def bufsOne (H:List HO):Prop:=∀v es E z,HO.buf v es E z∈H→v.oneCell'=true
theorem OpE.bufs {o:Oper}{H:List HO}{R:AV→List HO→Prop}(h:OpE P o ρ H R):OpE P o ρ H (fun r H'=>R r H'∧bufsOne H'):=by
 intro g w a next Q hr hHK hn
 exact h g w a next Q hr hHK fun g' w' v x H' h1 h2 h3 h4=>hn g' w' v x H' ⟨h1,fun v es E z hm=>HO.buf_one (h3.ok _ hm)⟩ h2 h3 h4

theorem OpP.weakV {o:Oper}{K:List HO→Prop}{x x':AV}(h:OpP P o ρ K x)(hw:∀g w u,Rep g w u x→Rep g w u x'):OpP P o ρ K x':=
 fun g w a H next Q hr hH hK hn=>h g w a H next Q hr hH hK fun g' w' v hv hH' hx=>hn g' w' v (hw _ _ _ hv) hH' hx
/-- A buffer is written no more. -/
theorem hok_freezeBuf {g:Gh}{w:World}{H:List HO}{k:Nat}{v:Value}{es:List (List AV)}{E z:Nat}(hH:HOK g w H)(hk:H[k]? = some (.buf v es E z)):∃g',Ext g w g' w∧HOK g' w (H.eraseIdx k)∧Rep g' w v (.sl z es):=by
 have hok:=hH.ok _ (List.mem_of_getElem? hk)
 rcases hok with ⟨rfl,rfl⟩ | ⟨b,cap,cur,rfl,hg,hcur,hcsz,hcap,hcmax,hz1,hrep⟩
 · exact ⟨g,Ext.refl g w,hH.sub (List.eraseIdx_sublist ..),.sl0 _ _ _ (Nat.zero_le _)⟩
 ·
  have hx:Ext g w (g.put b none) w:=by
   refine ⟨rfl,rfl,rfl,Nat.le_refl _,fun c hc hgc=>⟨?_,rfl⟩,fun c m hc hgc=>⟨fun m' hm=>?_,fun _ _=>rfl⟩⟩
   ·
    by_cases e:c=b
    · subst e;exact Gh.put_same _ _ _
    · rw [Gh.put_ne _ _ e];exact hgc
   ·
    by_cases e:c=b
    · subst e;rw [Gh.put_same] at hm;cases hm
    · rw [Gh.put_ne _ _ e,hgc] at hm;cases hm;exact Nat.le_refl _
  refine ⟨g.put b none,hx,?_,?_⟩
  ·
   have hsub:(H.eraseIdx k).Sublist H:=List.eraseIdx_sublist ..
   refine ⟨(hH.sub hsub).nodup,fun o ho=>?_,hH.glob.mono hx⟩
   obtain ⟨j,hj⟩:=List.getElem?_of_mem ho
   rw [List.getElem?_eraseIdx] at hj
   obtain ⟨j',hjk,hj'⟩:∃j',j'≠k∧H[j']? = some o:=by
    split at hj
    · exact ⟨j,by omega,hj⟩
    · exact ⟨j+1,by omega,hj⟩
   have hok:=hH.ok o (List.mem_of_getElem? hj')
   refine HO.ok_of_same hx hok fun c hc=>⟨Gh.put_ne _ _ fun e=>hjk (hH.nodup_blk hj' hk (e▸hc) rfl),rfl⟩
  ·
   refine .sl b 0 es.length cap z es rfl hcap hcmax hz1 (fun i j=>cur.getD (i*z+j) undef) (fun i e hi j y hj=>⟨by unfold settled;rw [Gh.put_same];trivial,?_⟩) (fun i e hi j y hj=>?_)
   ·
    have h3:=flatten_get hz1 hi hj
    have hlt:i*z+j<cur.size:=by
     have h4:=(List.getElem?_eq_some_iff.1 h3).1
     rw [flatten_len hz1] at h4
     have:=Nat.mul_le_mul_right z hcap
     omega
    rw [Nat.zero_add,cell_of_heap hcur];simp [hlt]
   · exact (hrep _ _ (flatten_get hz1 hi hj)).mono hx
theorem ACall.front3 {f:FuncId}{args:List AV}{H R:List HO}{Q:AV→List HO→Prop}{o1 o2 o3:HO}(k3 k2 k1:Nat)(hk3:H[k3]? = some o3)(hk2:(H.eraseIdx k3)[k2]? = some o2)(hk1:((H.eraseIdx k3).eraseIdx k2)[k1]? = some o1)(hR:((H.eraseIdx k3).eraseIdx k2).eraseIdx k1=R)
  (h:ACall P f (o1::o2::o3::R) args Q):ACall P f H args Q:=by
 subst hR
 refine h.perm ?_
 have h1:=box_front hk3
 have h2:=box_front hk2
 have h3:=box_front hk1
 refine h1.trans ((h2.cons o3).trans (((h3.cons o2).cons o3).trans ?_))
 exact (List.Perm.swap o2 o3 _).trans (((List.Perm.swap o1 o3 _).cons o2).trans (List.Perm.swap o1 o2 _))
theorem GS.heapTo {sl:List (Nat×AV)}{H H2:List HO}{n:Nat}(h:H=H2):GS ⟨sl,H,n⟩ ⟨sl,H2,n⟩:=by subst h;exact GS.refl _
end
end Go.Aw

namespace Go.Proofs.YtkddpedfbicbeaaGreatDoor
open Go Go.Aw

def GT:List (Nat×Nat×Bool×Nat):=[(0,1,true,3),(1,1,true,3),(2,1,true,3)]
def sMap (ts:List (Tm×Int)):List (List AV×AV):=ts.map fun p=>(cTm p.1,.int .i64 p.2)
def eqT (t u:Tm):Bool:=t.op==u.op&&(t.v==u.v&&t.field==u.field)
theorem eqT_iff {t u:Tm}:eqT t u=true↔t=u:=by
 unfold eqT
 cases t;cases u
 simp
def eqTm (t:Tm)(k:List AV):Bool:=(aeqs TL [(0,1,true,3),(1,1,true,3),(2,1,true,3)] (cTm t) k).getD false
theorem eqTm_is (t u:Tm):aeqs TL [(0,1,true,3),(1,1,true,3),(2,1,true,3)] (cTm t) (cTm u)=some (eqT t u):=by
 show some ((t.op==u.op)&&((t.v==u.v)&&((t.field==u.field)&&true)))=_
 rw [Bool.and_true];rfl
theorem eqTm_tm (t u:Tm):eqTm t (cTm u)=eqT t u:=by unfold eqTm;rw [eqTm_is];rfl
theorem sMap_eq (t:Tm)(ts:List (Tm×Int)):∀p∈sMap ts,aeqs TL [(0,1,true,3),(1,1,true,3),(2,1,true,3)] (cTm t) p.1=some (eqTm t p.1):=by
 intro p hp
 obtain ⟨x,_,rfl⟩:=List.mem_map.1 hp
 show aeqs TL _ (cTm t) (cTm x.1)=some (eqTm t (cTm x.1))
 rw [eqTm_is,eqTm_tm]
theorem sMap_len (ts:List (Tm×Int)):(sMap ts).length=ts.length:=List.length_map ..
def tIdx (t:Tm):List (Tm×Int)→Option Nat
 | []=>none
 | q::r=>if eqT t q.1 then some 0 else (tIdx t r).map (· + 1)
theorem kidx_t (t:Tm):∀ts:List (Tm×Int),kidx (eqTm t) (sMap ts)=tIdx t ts
  | []=>rfl
  | q::r=>by
    have ih:=kidx_t t r
    unfold sMap at ih ⊢
    rw [List.map_cons,kidx,eqTm_tm,ih,tIdx]
theorem kget_t (t:Tm):∀ts:List (Tm×Int),kget (eqTm t) (sMap ts)=(ts.find? fun q=>eqT t q.1).map fun q=>.int .i64 q.2
  | []=>rfl
  | q::r=>by
    have ih:=kget_t t r
    unfold sMap at ih ⊢
    rw [List.map_cons,kget,eqTm_tm,ih,List.find?_cons]
    cases eqT t q.1 <;> rfl
/-- the coefficient of a term -/
def coefS (t:Tm)(ts:List (Tm×Int)):Int:=((ts.find? fun q=>eqT t q.1).map fun q=>q.2).getD 0
def hasT (t:Tm)(ts:List (Tm×Int)):Bool:=(ts.find? fun q=>eqT t q.1).isSome
theorem look_t (t:Tm)(ts:List (Tm×Int)):match kget (eqTm t) (sMap ts) with | some y=>y = .int .i64 (coefS t ts) | none=>[AV.int .i64 0] = [.int .i64 (coefS t ts)]:=by
 rw [kget_t]
 unfold coefS
 cases ts.find? fun q=>eqT t q.1 <;> rfl
theorem has_t (t:Tm)(ts:List (Tm×Int)):(kget (eqTm t) (sMap ts)).isSome=hasT t ts:=by
 rw [kget_t]
 unfold hasT
 cases ts.find? fun q=>eqT t q.1 <;> rfl
theorem has_none {t:Tm}{ts:List (Tm×Int)}(h:hasT t ts=false):kget (eqTm t) (sMap ts)=none:=by
 rw [kget_t]
 unfold hasT at h
 cases hf:ts.find? fun q=>eqT t q.1 with
 | none=>rfl
 | some q=>rw [hf] at h;cases h
theorem add_new {t:Tm}{b:Int}:∀{ts:List (Tm×Int)},hasT t ts=false→addT t b ts=ts ++ [(t,b)]∧coefS t ts=0
  | [],_=>⟨rfl,rfl⟩
  | q::r,h=>by
    unfold hasT at h
    rw [List.find?_cons] at h
    cases hq:eqT t q.1 with
    | true=>rw [hq] at h;cases h
    | false=>
      rw [hq] at h
      obtain ⟨h1,h2⟩:=add_new (t:=t) (b:=b) (ts:=r) h
      have hne:¬t=q.1:=fun he=>by rw [eqT_iff.2 he] at hq;cases hq
      refine ⟨by rw [addT,if_neg hne,h1];rfl,?_⟩
      unfold coefS at h2 ⊢
      rw [List.find?_cons,hq];exact h2
theorem add_old {t:Tm}{b:Int}:∀{ts:List (Tm×Int)},hasT t ts=true→∃j,tIdx t ts=some j∧ts[j]? = some (t,coefS t ts)∧addT t b ts=ts.modify j (fun p=>(p.1,coefS t ts+b))
  | [],h=>by cases h
  | q::r,h=>by
    unfold hasT at h
    rw [List.find?_cons] at h
    cases hq:eqT t q.1 with
    | true=>
      have he:=eqT_iff.1 hq
      have hc:coefS t (q::r)=q.2:=by unfold coefS;rw [List.find?_cons,hq];rfl
      rw [hc]
      exact ⟨0,by rw [tIdx,if_pos hq],by subst he;rfl,by rw [addT,if_pos he];subst he;rfl⟩
    | false=>
      rw [hq] at h
      obtain ⟨j,h1,h2,h3⟩:=add_old (t:=t) (b:=b) (ts:=r) h
      have hne:¬t=q.1:=fun he=>by rw [eqT_iff.2 he] at hq;cases hq
      have hc:coefS t (q::r)=coefS t r:=by unfold coefS;rw [List.find?_cons,hq]
      rw [hc]
      exact ⟨j+1,by rw [tIdx,if_neg (by rw [hq];decide),h1];rfl,by simpa using h2,by rw [addT,if_neg hne,h3];rfl⟩
theorem sMap_at {ts:List (Tm×Int)}{j:Nat}{t:Tm}{c:Int}(h:ts[j]? = some (t,c)):(sMap ts)[j]? = some (cTm t,.int .i64 c):=by
 unfold sMap;rw [List.getElem?_map,h];rfl
theorem sMap_put {x:Int}:∀{ts:List (Tm×Int)} {j:Nat},kput (sMap ts) j (.int .i64 x)=sMap (ts.modify j fun p=>(p.1,x))
  | [],j=>by cases j <;> rfl
  | p::r,0=>rfl
  | p::r,j+1=>by
    have ih:=sMap_put (x:=x) (ts:=r) (j:=j)
    unfold kput sMap at ih ⊢
    simp only [List.map_cons,List.modify_succ_cons]
    rw [ih]
theorem sMap_end {ts:List (Tm×Int)}{t:Tm}{c:Int}:(sMap ts ++ [(cTm t,.int .i64 c)])[(sMap ts).length]? = some (cTm t,.int .i64 c):=by
 rw [List.getElem?_append_right (Nat.le_refl _),Nat.sub_self];rfl
theorem sMap_put_end {ts:List (Tm×Int)}{t:Tm}{c x:Int}:kput (sMap ts ++ [(cTm t,.int .i64 c)]) (sMap ts).length (.int .i64 x)=sMap (ts ++ [(t,x)]):=by
 rw [show sMap ts ++ [(cTm t,AV.int .i64 c)]=sMap (ts ++ [(t,c)]) by unfold sMap;rw [List.map_append];rfl,sMap_len,sMap_put]
 congr 1
 induction ts with
 | nil=>rfl
 | cons a r ih=>simpa using ih

/-! ### how far a sum reaches -/
structure suOK (n:Nat) (s:Su):Prop where
 rest : -(n:Int)*1099511627776≤s.rest∧s.rest≤(n:Int)*1099511627776
 coef:∀p∈s.ts,-(n:Int)≤p.2∧p.2≤(n:Int)
 len:s.ts.length≤n
theorem const_num {e:Ex}(h:nodeS e=0)(ho:e.op=0) : -1099511627776≤e.val.num∧e.val.num≤1099511627776:=by
 unfold nodeS at h
 split at h
 · cases h
 split at h
 · cases h
 split at h
 · cases h
 split at h
 · cases h
 rw [if_pos (by rw [ho];rfl)] at h
 have hc:constS e=0:=by
  by_cases hx:(constS e != 0)=true
  · rw [if_pos hx] at h;exact h
  · simpa using hx
 have hv:vcheckS e.val=0:=by
  unfold constS at hc
  by_cases hx:(vcheckS e.val != 0)=true
  · rw [if_pos hx] at hc;exact hc
  · simpa using hx
 have vs:e.val.kind=0∨e.val.kind=1→vsizeS e.val=0→-1099511627776≤e.val.num∧e.val.num≤1099511627776:=by
  intro hk hz
  unfold vsizeS at hz
  by_cases h1:(e.val.kind==0&&(decide (e.val.num < -1099511627776)||decide (1099511627776<e.val.num)))=true
  · rw [if_pos h1] at hz;cases hz
  ·
   rw [if_neg h1] at hz
   rcases hk with hk | hk
   · simp [hk] at h1;omega
   ·
    by_cases h2:(e.val.kind==1&&e.val.num != 0&&e.val.num != 1)=true
    · rw [if_pos h2] at hz;cases hz
    · simp [hk] at h2;omega
 unfold vcheckS at hv
 by_cases h1:(e.val.kind==0||e.val.kind==1)=true
 ·
  rw [if_pos h1] at hv
  split at hv
  · cases hv
  · exact vs (by simpa using h1) hv
 ·
  rw [if_neg h1] at hv
  by_cases h2:(e.val.kind==2)=true
  ·
   rw [if_pos h2] at hv
   by_cases h3:(e.val.num != 0)=true
   · rw [if_pos h3] at hv;cases hv
   ·
    have:e.val.num=0:=by simpa using h3
    omega
  · rw [if_neg h2] at hv;cases hv
theorem suOK.mono {n m:Nat}{s:Su}(h:suOK n s)(hm:n≤m):suOK m s:=
 ⟨by have:=h.rest;omega,fun p hp=>by have:=h.coef p hp;omega,Nat.le_trans h.len hm⟩
theorem addT_ok {n:Nat}{t:Tm}{b:Int}(hb:b=1∨b = -1):∀{ts:List (Tm×Int)},(∀p∈ts,-(n:Int)≤p.2∧p.2≤(n:Int))→(∀p∈addT t b ts,-((n+1:Nat):Int)≤p.2∧p.2≤((n+1:Nat):Int))∧(addT t b ts).length≤ts.length+1
  | [],_=>by simp [addT];omega
  | q::r,h=>by
    rw [addT]
    split
    · refine ⟨fun p hp=>?_,by simp⟩
      rcases List.mem_cons.1 hp with rfl | hp
      · have:=h q (by simp);simp only;omega
      · have:=h p (by simp [hp]);omega
    · obtain ⟨h1,h2⟩:=addT_ok hb (ts:=r) fun p hp=>h p (by simp [hp])
      refine ⟨fun p hp=>?_,by simp;omega⟩
      rcases List.mem_cons.1 hp with rfl | hp
      · have:=h p (by simp);omega
      · exact h1 p hp
theorem lin_ok (e:Ex):nodesS e=0→∀{n:Nat} {b:Int} {s:Su},b=1∨b = -1→suOK n s→suOK (n+sizeN e) (linS e b s).1:=by
  refine Ex.ind (P:=fun e=>nodesS e=0→∀{n:Nat} {b:Int} {s:Su},b=1∨b = -1→suOK n s→suOK (n+sizeN e) (linS e b s).1) (fun e ih hn n b s hb hs=>?_) e
  have hz:=nodes_zero hn
  have hsz:1≤sizeN e:=by rw [sizeN_eq];omega
  have hsum2:∀h:1<e.args.length,sizeN (arg0 e)+sizeN (arg1 e)+1≤sizeN e:=fun h=>by
    have hp:=sizeN_eq e
    cases ha:e.args with
    | nil=>rw [ha] at h;simp at h
    | cons a r=>
      cases r with
      | nil=>rw [ha] at h;simp at h
      | cons b r=>
        have e0:arg0 e=a:=by unfold arg0;rw [ha];rfl
        have e1:arg1 e=b:=by unfold arg1;rw [ha];rfl
        rw [e0,e1,hp,ha];simp;omega
  rw [linS_eq]
  unfold linN
  split
  · rename_i h0
    have hc:=const_num hz.1 (by simpa using h0)
    refine (show suOK (n+1) _ from ⟨?_,fun p hp=>by have:=hs.coef p hp;omega,by have:=hs.len;simp only;omega⟩).mono (by omega)
    have:=hs.rest
    rcases hb with rfl | rfl <;> simp only <;> omega
  · split
    · obtain ⟨h1,h2⟩:=addT_ok (t:=tmOf e) hb hs.coef
      exact (show suOK (n+1) _ from ⟨by have:=hs.rest;simp only;omega,h1,by have:=hs.len;simp only;omega⟩).mono (by omega)
    · have two:(e.op=5∨e.op=6)→∀c,(c=1∨c = -1)→suOK (n+sizeN e) (if !((hd0 (fun _ s=>(s,false)) (e.args.map linS):LinF) b s).2 then (((hd0 (fun _ s=>(s,false)) (e.args.map linS):LinF) b s).1,false) else (hd1 (fun _ s=>(s,false)) (e.args.map linS):LinF) c ((hd0 (fun _ s=>(s,false)) (e.args.map linS):LinF) b s).1).1:=by
        intro ho c hc
        have hl:=len_two' hz.1 (by omega)
        have hs2:=hsum2 hl
        rw [hd0_map linS _ (by omega),hd1_map linS _ hl]
        have m0:=arg0_mem (show 0<e.args.length by omega)
        have m1:=arg1_mem hl
        have i0:=ih _ m0 (hz.2 _ m0) hb hs
        split
        · exact i0.mono (by omega)
        · exact (ih _ m1 (hz.2 _ m1) hc i0).mono (by omega)
      split
      · rename_i h5;exact two (.inl (by simpa using h5)) b hb
      · split
        · rename_i h6;exact two (.inr (by simpa using h6)) (0-b) (by omega)
        · exact hs.mono (by omega)

/-! ### the sum in the heap -/
abbrev sumH (m bs:Nat)(v:Value)(s:Su)(R:List HO):List HO:=.row v (s.ts.map fun p=>cTm p.1).length 143 3 :: .box bs 207 [.val (.map (some m)),.row v 3 (s.ts.map fun p=>cTm p.1),.int .i64 s.rest] :: .kmap m (sMap s.ts)::R
theorem lin_wrap {m bs:Nat}{R:List HO}{e:Ex}{b:Int}{s:Su}{X:Su×Bool}{r:AV}{H:List HO}(h:linS e b s=X)(k:r = .bool X.2∧∃v,H=sumH m bs v X.1 R):r = .bool (linS e b s).2∧∃v,H=sumH m bs v (linS e b s).1 R:=by rw [h];exact k
theorem lin_const {e:Ex}{b:Int}{s:Su}(h:(e.op==0)=true):linS e b s=(⟨s.ts,s.rest+b*e.val.num⟩,true):=by rw [linS_eq,linN,if_pos h]
theorem lin_term {e:Ex}{b:Int}{s:Su}(h:(e.op==0)=false)(h1:(e.op==1||e.op==2)=true):linS e b s=(⟨addT (tmOf e) b s.ts,s.rest⟩,true):=by rw [linS_eq,linN,ifF h,if_pos h1]
theorem lin_else {e:Ex}{b:Int}{s:Su}(h:(e.op==0)=false)(h1:(e.op==1||e.op==2)=false)(h2:(e.op==5)=false)(h3:(e.op==6)=false):linS e b s=(s,false):=by rw [linS_eq,linN,ifF h,ifF h1,ifF h2,ifF h3]
theorem lin_two {e:Ex}{b c:Int}{s:Su}(hl:1<e.args.length)(h:(e.op=5∧c=b)∨(e.op=6∧c=0-b)):linS e b s=if !(linS (arg0 e) b s).2 then ((linS (arg0 e) b s).1,false) else linS (arg1 e) c (linS (arg0 e) b s).1:=by
 rw [linS_eq,linN]
 rcases h with ⟨h,rfl⟩ | ⟨h,rfl⟩
 · rw [ifF (by simp;omega),ifF (by simp;omega),if_pos (by simpa using h),hd0_map linS _ (by omega),hd1_map linS _ hl]
 · rw [ifF (by simp;omega),ifF (by simp;omega),ifF (by simp;omega),if_pos (by simpa using h),hd0_map linS _ (by omega),hd1_map linS _ hl]
theorem lin_two_t {e:Ex}{b c:Int}{s:Su}(hl:1<e.args.length)(h:(e.op=5∧c=b)∨(e.op=6∧c=0-b))(hG:allG [((linS (arg0 e) b s).2,true)]):linS e b s=linS (arg1 e) c (linS (arg0 e) b s).1:=by
 have h2:(linS (arg0 e) b s).2=true:=hG _ (List.mem_singleton.2 rfl)
 rw [lin_two hl h,h2];rfl
theorem lin_two_f {m bs:Nat}{R:List HO}{v:Value}{e:Ex}{b c:Int}{s:Su}(hl:1<e.args.length)(h:(e.op=5∧c=b)∨(e.op=6∧c=0-b))(hG:¬allG [((linS (arg0 e) b s).2,true)]):∃u,sumH m bs v (linS (arg0 e) b s).1 R=sumH m bs u (linS e b s).1 R:=by
 have h2:(linS (arg0 e) b s).2=false:=by
  rw [Bool.eq_false_iff]
  intro hx
  exact hG fun p hp=>by rw [List.mem_singleton.1 hp];exact hx
 refine ⟨v,?_⟩
 rw [lin_two hl h,h2];rfl
theorem lin_two_snd {e:Ex}{b c:Int}{s:Su}(hl:1<e.args.length)(h:(e.op=5∧c=b)∨(e.op=6∧c=0-b)):((linS (arg0 e) b s).2&&(linS (arg1 e) c (linS (arg0 e) b s).1).2)=(linS e b s).2:=by
 rw [lin_two hl h]
 cases hq:(linS (arg0 e) b s).2 <;> simp
theorem lin_call {f:FuncId}{m bs:Nat}{R:List HO}{e:Ex}{b c:Int}{s:Su}{args:List AV}{H:List HO}(hl:1<e.args.length)(h:(e.op=5∧c=b)∨(e.op=6∧c=0-b))(hG:allG [((linS (arg0 e) b s).2,true)])(hc:ACall Tryz.prog f H args fun r H'=>r = .bool (linS (arg1 e) c (linS (arg0 e) b s).1).2∧∃v,H'=sumH m bs v (linS (arg1 e) c (linS (arg0 e) b s).1).1 R) :
  ACall Tryz.prog f H args fun r H'=>r = .bool (linS (arg1 e) c (linS (arg0 e) b s).1).2∧∃v,H'=sumH m bs v (linS e b s).1 R:=by
 rw [lin_two_t hl h hG];exact hc
theorem sum_new {m bs:Nat}{v:Value}{R:List HO}{t:Tm}{b:Int}{s:Su}(h:hasT t s.ts=false) :
  (HO.row v ((s.ts.map fun p=>cTm p.1) ++ [cTm t]).length 143 3 :: .box bs 207 [.val (.map (some m)),.row v 3 ((s.ts.map fun p=>cTm p.1) ++ [cTm t]),.int .i64 s.rest] :: .kmap m (kput (sMap s.ts ++ [(cTm t,.int .i64 0)]) (sMap s.ts).length (.int .i64 (coefS t s.ts+b)))::R)=sumH m bs v ⟨addT t b s.ts,s.rest⟩ R:=by
 obtain ⟨h1,h2⟩:=add_new (b:=b) h
 rw [sMap_put_end,h1,h2,Int.zero_add]
 show _=HO.row v ((s.ts ++ [(t,b)]).map fun p=>cTm p.1).length 143 3::_
 rw [List.map_append];rfl
theorem mod_fst {c:Int}:∀(l:List (Tm×Int)) (j:Nat),((l.modify j (fun p=>(p.1,c))).map fun p=>cTm p.1)=l.map fun p=>cTm p.1
 | [],j=>by cases j <;> rfl
 | a::r,0=>rfl
 | a::r,j+1=>by simp only [List.modify_succ_cons,List.map_cons];rw [mod_fst r j]
theorem sum_old {m bs j:Nat}{v:Value}{R:List HO}{t:Tm}{b:Int}{s:Su}(h3:addT t b s.ts=s.ts.modify j (fun p=>(p.1,coefS t s.ts+b))) :
  (HO.row v (s.ts.map fun p=>cTm p.1).length 143 3 :: .box bs 207 [.val (.map (some m)),.row v 3 (s.ts.map fun p=>cTm p.1),.int .i64 s.rest] :: .kmap m (kput (sMap s.ts) j (.int .i64 (coefS t s.ts+b)))::R)=sumH m bs v ⟨addT t b s.ts,s.rest⟩ R:=by
 have hm:=mod_fst (c:=coefS t s.ts+b) s.ts j
 rw [sMap_put,h3]
 show _=HO.row v ((s.ts.modify j (fun p=>(p.1,coefS t s.ts+b))).map fun p=>cTm p.1).length 143 3::HO.box bs 207 [.val (.map (some m)),.row v 3 ((s.ts.modify j (fun p=>(p.1,coefS t s.ts+b))).map fun p=>cTm p.1),.int .i64 s.rest]::_
 rw [hm]
theorem or1 {a b:Bool}(h:a=true):(a||b)=true:=by rw [h];rfl
theorem or2 {a b:Bool}(h:b=true):(a||b)=true:=by rw [h];simp
theorem or0 {a b:Bool}(h:a=false)(h':b=false):(a||b)=false:=by rw [h,h'];rfl
theorem coef_ok {n:Nat}{s:Su}(h:suOK n s)(t:Tm) : -(n:Int)≤coefS t s.ts∧coefS t s.ts≤(n:Int):=by
 unfold coefS
 cases hf:s.ts.find? fun q=>eqT t q.1 with
 | none=>simp only [Option.map_none,Option.getD_none];omega
 | some q=>exact h.coef q (List.mem_of_find?_eq_some hf)
theorem OpP_or2 {P:Program}{o:Oper}{ρ:Operand→AV}{x:AV}{a b:HO}{K:List HO→Prop}(h1:∀k:Nat,OpP P o ρ (fun H=>H[k]? = some a) x)(h2:∀k:Nat,OpP P o ρ (fun H=>H[k]? = some b) x)(h:∀H,K H→a∈H∨b∈H):OpP P o ρ K x:=by
 intro g w c H next Q hr hH hk hn
 rcases h H hk with h | h
 ·
  obtain ⟨k,hk⟩:=List.getElem?_of_mem h
  exact h1 k g w c H next Q hr hH hk hn
 ·
  obtain ⟨k,hk⟩:=List.getElem?_of_mem h
  exact h2 k g w c H next Q hr hH hk hn
theorem sMap_eq' (t:Tm)(ts:List (Tm×Int)):∀p∈sMap ts ++ [(cTm t,AV.int .i64 0)],aeqs TL [(0,1,true,3),(1,1,true,3),(2,1,true,3)] (cTm t) p.1=some (eqTm t p.1):=by
 have:sMap ts ++ [(cTm t,AV.int .i64 0)]=sMap (ts ++ [(t,0)]):=by unfold sMap;rw [List.map_append];rfl
 rw [this];exact sMap_eq t _
theorem look_t' {t:Tm}{ts:List (Tm×Int)}(h:hasT t ts=false):match kget (eqTm t) (sMap ts ++ [(cTm t,AV.int .i64 0)]) with | some y=>y = .int .i64 (coefS t ts) | none=>[AV.int .i64 0] = [.int .i64 (coefS t ts)]:=by
 have h1:sMap ts ++ [(cTm t,AV.int .i64 0)]=sMap (ts ++ [(t,0)]):=by unfold sMap;rw [List.map_append];rfl
 have h2:coefS t (ts ++ [(t,0)])=coefS t ts:=by
  rw [(add_new (b:=0) h).2]
  unfold coefS
  unfold hasT at h
  rw [List.find?_append]
  cases hf:ts.find? fun q=>eqT t q.1 with
  | some q=>rw [hf] at h;cases h
  | none=>rw [List.find?_cons,eqT_iff.2 rfl];rfl
 rw [h1,←h2];exact look_t t _
theorem arg_sizes {e:Ex}(h:1<e.args.length):sizeN (arg0 e)+sizeN (arg1 e)+1≤sizeN e:=by
  have hp:=sizeN_eq e
  cases ha:e.args with
  | nil=>rw [ha] at h;simp at h
  | cons a r=>
    cases r with
    | nil=>rw [ha] at h;simp at h
    | cons b r=>
      have e0:arg0 e=a:=by unfold arg0;rw [ha];rfl
      have e1:arg1 e=b:=by unfold arg1;rw [ha];rfl
      rw [e0,e1,hp,ha];simp;omega

/-- the sum where between ends -/
def sumEnd (a b:Ex):Su:=if !(linS a 1 su0).2 then (linS a 1 su0).1 else (linS b (-1) (linS a 1 su0).1).1
theorem sumEnd_t {a b:Ex}(hG:allG [(!(linS a 1 su0).2,false)]):sumEnd a b=(linS b (-1) (linS a 1 su0).1).1:=by
 have h2:(!(linS a 1 su0).2)=false:=hG _ (List.mem_singleton.2 rfl)
 unfold sumEnd;rw [ifF h2]
theorem btw_call {f:FuncId}{m bs:Nat}{R:List HO}{a b:Ex}{args:List AV}{H:List HO}(hG:allG [(!(linS a 1 su0).2,false)])(hc:ACall Tryz.prog f H args fun r H'=>r = .bool (linS b (-1) (linS a 1 su0).1).2∧∃v,H'=sumH m bs v (linS b (-1) (linS a 1 su0).1).1 R) :
  ACall Tryz.prog f H args fun r H'=>r = .bool (linS b (-1) (linS a 1 su0).1).2∧∃v,H'=sumH m bs v (sumEnd a b) R:=by
 rw [sumEnd_t hG];exact hc
theorem btw_f {m bs:Nat}{R:List HO}{v:Value}{a b:Ex}(hG:¬allG [(!(linS a 1 su0).2,false)]):∃u,sumH m bs v (linS a 1 su0).1 R=sumH m bs u (sumEnd a b) R:=by
 have h2:(!(linS a 1 su0).2)=true:=by
  rw [←Bool.not_eq_false]
  intro hx
  exact hG fun p hp=>by rw [List.mem_singleton.1 hp];exact hx
 refine ⟨v,?_⟩
 unfold sumEnd;rw [if_pos h2]
theorem btw_no {a b:Ex}(h:(!(linS a 1 su0).2 || !(linS b (-1) (linS a 1 su0).1).2)=true):betweenS a b=(gp0,false):=by
 unfold betweenS
 by_cases h1:(!(linS a 1 su0).2)=true
 · rw [if_pos h1]
 · rw [if_neg h1,if_pos (by simpa [Bool.eq_false_iff.2 h1] using h)]
theorem btw_yes {a b:Ex}(h:(!(linS a 1 su0).2 || !(linS b (-1) (linS a 1 su0).1).2)=false):betweenS a b=gapOf (sumEnd a b):=by
 have h1:(!(linS a 1 su0).2)=false:=by cases hx:(!(linS a 1 su0).2) <;> simp_all
 have h2:(!(linS b (-1) (linS a 1 su0).1).2)=false:=by rw [h1] at h;simpa using h
 unfold betweenS sumEnd
 rw [ifF h1,ifF h2,ifF h1]
theorem btw_part_no {a b:Ex}(h:(!(linS a 1 su0).2 || !(linS b (-1) (linS a 1 su0).1).2)=false)(hp:partsS (sumEnd a b).ts [] []=none):betweenS a b=(gp0,false):=by
 rw [btw_yes h,gapOf,hp]
theorem btw_part {a b:Ex}{p m:List Tm}(h:(!(linS a 1 su0).2 || !(linS b (-1) (linS a 1 su0).1).2)=false)(hp:partsS (sumEnd a b).ts [] []=some (p,m)):betweenS a b=(⟨p,m,(sumEnd a b).rest⟩,decide ((p.length:Int)≤1)&&decide ((m.length:Int)≤1)):=by
 rw [btw_yes h,gapOf,hp]
theorem su0_ok:suOK 0 su0:=⟨by simp [su0],by simp [su0],by simp [su0]⟩
theorem sumEnd_ok {a b:Ex}(ha:nodesS a=0)(hb:nodesS b=0):suOK (sizeN a+sizeN b) (sumEnd a b):=by
 have h1:suOK (0+sizeN a) (linS a 1 su0).1:=lin_ok a ha (.inl rfl) su0_ok
 unfold sumEnd
 split
 · exact h1.mono (by omega)
 · exact (lin_ok b hb (.inr rfl) h1).mono (by omega)
/-- the terms of a sum are different ones -/
theorem addT_nodup {t:Tm}{b:Int}:∀{ts:List (Tm×Int)},(ts.map (·.1)).Nodup→((addT t b ts).map (·.1)).Nodup∧∀u,u∈(addT t b ts).map (·.1)→u=t∨u∈ts.map (·.1)
  | [],_=>by simp [addT]
  | q::r,h=>by
    rw [addT]
    rw [List.map_cons,List.nodup_cons] at h
    split
    · rename_i he
      refine ⟨by simpa using h,fun u hu=>.inr (by simpa using hu)⟩
    · rename_i hne
      obtain ⟨h1,h2⟩:=addT_nodup (t:=t) (b:=b) h.2
      refine ⟨?_,fun u hu=>?_⟩
      · rw [List.map_cons,List.nodup_cons]
        refine ⟨fun hu=>?_,h1⟩
        rcases h2 _ hu with e | hm
        · exact hne e.symm
        · exact h.1 hm
      · rw [List.map_cons,List.mem_cons] at hu
        rcases hu with e | hu
        · right;rw [e];simp
        · rcases h2 _ hu with e | hm
          · exact .inl e
          · right;rw [List.map_cons];exact List.mem_cons_of_mem _ hm
theorem lin_nodup (e:Ex):nodesS e=0→∀{b:Int} {s:Su},(s.ts.map (·.1)).Nodup→((linS e b s).1.ts.map (·.1)).Nodup:=by
 refine Ex.ind (P:=fun e=>nodesS e=0→∀{b:Int} {s:Su},(s.ts.map (·.1)).Nodup→((linS e b s).1.ts.map (·.1)).Nodup) (fun e ih hn b s hs=>?_) e
 have hz:=nodes_zero hn
 rw [linS_eq]
 unfold linN
 split
 · exact hs
 ·
  split
  · exact (addT_nodup hs).1
  ·
   have two:(e.op=5∨e.op=6)→∀c,((if !((hd0 (fun _ s=>(s,false)) (e.args.map linS):LinF) b s).2 then (((hd0 (fun _ s=>(s,false)) (e.args.map linS):LinF) b s).1,false) else (hd1 (fun _ s=>(s,false)) (e.args.map linS):LinF) c ((hd0 (fun _ s=>(s,false)) (e.args.map linS):LinF) b s).1).1.ts.map (·.1)).Nodup:=by
    intro ho c
    have hl:=len_two' hz.1 (by omega)
    rw [hd0_map linS _ (by omega),hd1_map linS _ hl]
    have m0:=arg0_mem (show 0<e.args.length by omega)
    have m1:=arg1_mem hl
    have i0:=ih _ m0 (hz.2 _ m0) (b:=b) hs
    split
    · exact i0
    · exact ih _ m1 (hz.2 _ m1) i0
   split
   · rename_i h5;exact two (.inl (by simpa using h5)) b
   ·
    split
    · rename_i h6;exact two (.inr (by simpa using h6)) (0-b)
    · exact hs
theorem sumEnd_nodup {a b:Ex}(ha:nodesS a=0)(hb:nodesS b=0):((sumEnd a b).ts.map (·.1)).Nodup:=by
 have h1:=lin_nodup a ha (b:=1) (s:=su0) (by simp [su0])
 unfold sumEnd
 split
 · exact h1
 · exact lin_nodup b hb h1
/-- the coefficient that the map holds at a term of the list -/
theorem coef_at {ts:List (Tm×Int)}{k:Nat}{q:Tm×Int}(hn:(ts.map (·.1)).Nodup)(h:ts[k]? = some q):coefS q.1 ts=q.2:=by
  induction ts generalizing k with
  | nil=>simp at h
  | cons p r ih=>
    rw [List.map_cons,List.nodup_cons] at hn
    unfold coefS
    rw [List.find?_cons]
    cases k with
    | zero=>
      have:p=q:=by simpa using h
      subst this
      rw [eqT_iff.2 rfl];rfl
    | succ k=>
      have hq:r[k]? = some q:=by simpa using h
      have hm:=List.mem_of_getElem? hq
      have hne:eqT q.1 p.1=false:=by
        rw [Bool.eq_false_iff]
        intro he
        have:=eqT_iff.1 he
        exact hn.1 (by rw [←this];exact List.mem_map_of_mem hm)
      rw [hne]
      exact ih hn.2 hq
theorem look_at {ts:List (Tm×Int)}{k:Nat}{q:Tm×Int}(hn:(ts.map (·.1)).Nodup)(h:ts[k]? = some q):match kget (eqTm q.1) (sMap ts) with | some y=>y = .int .i64 q.2 | none=>[AV.int .i64 0] = [.int .i64 q.2]:=by
 have h1:=look_t q.1 ts
 rw [coef_at hn h] at h1
 exact h1
theorem parts_0 {t:Tm×Int}{r:List (Tm×Int)}{p m:List Tm}(h:(t.2==0)=true):partsS (t::r) p m=partsS r p m:=by rw [partsS,if_pos h]
theorem parts_1 {t:Tm×Int}{r:List (Tm×Int)}{p m:List Tm}(h:(t.2==0)=false)(h1:(t.2==1)=true):partsS (t::r) p m=partsS r (p ++ [t.1]) m:=by rw [partsS,ifF h,if_pos h1]
theorem parts_2 {t:Tm×Int}{r:List (Tm×Int)}{p m:List Tm}(h:(t.2==0)=false)(h1:(t.2==1)=false)(h2:(t.2 == -1)=true):partsS (t::r) p m=partsS r p (m ++ [t.1]):=by rw [partsS,ifF h,ifF h1,if_pos h2]
theorem parts_3 {t:Tm×Int}{r:List (Tm×Int)}{p m:List Tm}(h:(t.2==0)=false)(h1:(t.2==1)=false)(h2:(t.2 == -1)=false):partsS (t::r) p m=none:=by rw [partsS,ifF h,ifF h1,ifF h2]

theorem cmp_two {T:List Sc}{V:List Va}{e:Ex}(hk:KOK T V e)(h:comparesS e=true):1<e.args.length:=by
 unfold comparesS at h
 have h':e.op=7∨e.op=8∨e.op=9:=by simp at h;omega
 exact len_two' (nodes_zero hk.nodes).1 (by omega)
theorem simple_1 {T:List Sc}{V:List Va}{e:Ex}(h:(e.op==1)=true):simpleS T V e=true:=by rw [simpleS,if_pos h]
theorem simple_2 {T:List Sc}{V:List Va}{e:Ex}(h:(e.op==1)=false)(h2:(!comparesS e)=true):simpleS T V e=false:=by rw [simpleS,ifF h,if_pos h2]
theorem simple_3 {T:List Sc}{V:List Va}{e:Ex}(h:(e.op==1)=false)(h2:(!comparesS e)=false)(h3:textsS T V e=true):simpleS T V e=(directS (arg0 e)&&directS (arg1 e)):=by rw [simpleS,ifF h,ifF h2,if_pos h3]
theorem simple_4 {T:List Sc}{V:List Va}{e:Ex}(h:(e.op==1)=false)(h2:(!comparesS e)=false)(h3:textsS T V e=false):simpleS T V e=(betweenS (arg0 e) (arg1 e)).2:=by rw [simpleS,ifF h,ifF h2,ifF h3]
theorem condE_kok {T:List Sc}{V:List Va}{e:Ex}(h:(condE T V e != 0)=false):KOK T V e:=by
 have h0:condE T V e=0:=by simpa using h
 unfold condE at h0
 by_cases h1:((KindS T V e).2 != 0)=true
 · rw [if_pos h1] at h0;rw [h0] at h1;cases h1
 · exact (KindS_kok (by simpa using h1)).1

theorem leaf_tm {e:Ex}(h:nodeS e=0)(ho:(e.op==1||e.op==2)=true):tmE (tmOf e)=e:=by
 have ho':e.op=1∨e.op=2:=by simpa using ho
 have hn:=leaf_nil h (by omega)
 unfold nodeS at h
 split at h
 · cases h
 split at h
 · cases h
 split at h
 · cases h
 split at h
 · cases h
 rw [if_neg (by simp;omega)] at h
 unfold formS at h
 have hu:(usesS e.op).1=true:=by rcases ho' with ho | ho <;> rw [ho] <;> rfl
 split at h
 · cases h
 rename_i hf
 cases e with | mk op args var field kind val=>
 simp only at ho' hn hf hu ⊢
 rw [hu] at hf
 simp only [Bool.not_true,Bool.false_and,Bool.false_or,Bool.or_eq_true,not_or,Bool.and_eq_true,not_and,Bool.not_eq_true',bne_iff_ne,ne_eq,Decidable.not_not,Bool.or_eq_false_iff,beq_eq_false_iff_ne] at hf
 have hk:kind=0:=hf.1.2 (by omega)
 have hv:val=v0:=by
  have:=hf.2 ⟨by omega,by omega⟩
  rw [←isV0_iff];simpa using this
 have hfd:op=2→field=0:=fun h2=>hf.1.1 (by rw [h2];rfl)
 unfold tmE tmOf
 subst hn;subst hk;subst hv
 rfl
abbrev LinC:=Int→Su×Bool→Su×Bool
def colN (e:Ex)(fs:List LinC):LinC:=fun b s=>
 if e.op==0 then (⟨s.1.ts,s.1.rest+b*e.val.num⟩,s.2)
 else if e.op==1||e.op==2 then (⟨addT (tmOf e) b s.1.ts,s.1.rest⟩,s.2)
 else if e.op==5 then (hd1 (fun _ s=>(s.1,false)) fs:LinC) b ((hd0 (fun _ s=>(s.1,false)) fs:LinC) b s)
 else if e.op==6 then (hd1 (fun _ s=>(s.1,false)) fs:LinC) (0-b) ((hd0 (fun _ s=>(s.1,false)) fs:LinC) b s)
 else (s.1,false)
def colS:Ex→LinC:=recE colN
theorem op_cases {e:Ex}(h:nodeS e=0):(e.op==0)=true∨((e.op==0)=false∧(e.op==1||e.op==2)=true)∨((e.op=5∨e.op=6)∧1<e.args.length)∨((e.op==0)=false∧(e.op==1||e.op==2)=false∧(e.op==5)=false∧(e.op==6)=false):=by
 by_cases h0:e.op=0
 · left;simpa using h0
 by_cases h1:e.op=1∨e.op=2
 · right;left;exact ⟨by simpa using h0,by simpa using h1⟩
 by_cases h5:e.op=5∨e.op=6
 · right;right;left;exact ⟨h5,len_two' h (by omega)⟩
 · right;right;right;refine ⟨by simpa using h0,by simp;omega,by simp;omega,by simp;omega⟩
/-- the sum where difference ends -/
def colEnd (a b:Ex):Su×Bool:=colS b (-1) (colS a 1 (su0,true))
def differS (a b:Ex):Gp×Bool:=match partsS (colEnd a b).1.ts [] [] with
 | some (p,m)=>(⟨p,m,(colEnd a b).1.rest⟩,(colEnd a b).2&&(decide ((p.length:Int)≤1)&&decide ((m.length:Int)≤1)))
 | none=>(gp0,false)
/-! ### the sum in the heap -/
abbrev rTm (ts:List (Tm×Int)):List (List AV):=ts.map fun p=>cE (tmE p.1)
abbrev rCo (ts:List (Tm×Int)):List (List AV):=ts.map fun p=>[AV.int .i64 p.2]
abbrev linH (v u:Value)(ts:List (Tm×Int))(R:List HO):List HO:=.row v (rTm ts).length 30 8 :: .buf u (rCo ts) 3 1::R
abbrev linR (v u:Value)(s:Su)(ok:Bool):AV:=.agg [.row v 8 (rTm s.ts),.val u,.int .i64 s.rest,.bool ok]
def cGpR (g:Gp):List AV:=[.sl 8 (g.plus.map fun t=>cE (tmE t)),.sl 8 (g.minus.map fun t=>cE (tmE t)),.int .i64 g.rest]

/-- a well-typed expression within the limits -/
structure KC (T:List Sc) (V:List Va) (e:Ex):Prop where
 kok:KOK T V e
 types:allTS T=0
 vars:varsE T V=0
 check:checkS e=0
theorem check_zero {e:Ex}(h:checkS e=0):sizeN e≤64∧depthN e≤12∧nodesS e=0:=by
 unfold checkS at h
 split at h
 · cases h
 rename_i h1
 split at h
 · cases h
 rename_i h2
 simp only [decide_eq_true_eq] at h1 h2
 exact ⟨by omega,by omega,h⟩
theorem kc_size {T:List Sc}{V:List Va}{e:Ex}(h:KC T V e):sizeN e≤64:=(check_zero h.check).1
theorem kc_kind {T:List Sc}{V:List Va}{e:Ex}(h:KC T V e):KindS T V e=kindS T V e:=by
 unfold KindS
 rw [if_neg (by rw [h.types];decide),if_neg (by rw [h.vars];decide),if_neg (by rw [h.check];decide)]
theorem kc_kindR {T:List Sc}{V:List Va}{e:Ex}(h:KC T V e):(KindS T V e).1=kindR T V e:=by rw [kc_kind h,kok_kind h.kok]
theorem KindS_kc {T:List Sc}{V:List Va}{e:Ex}(h:(KindS T V e).2=0):KC T V e:=by
 have hk:=(KindS_kok h).1
 unfold KindS at h
 by_cases h1:(allTS T != 0)=true
 · rw [if_pos h1] at h;simp only at h;rw [h] at h1;cases h1
 rw [if_neg h1] at h
 by_cases h2:(varsE T V != 0)=true
 · rw [if_pos h2] at h;simp only at h;rw [h] at h2;cases h2
 rw [if_neg h2] at h
 by_cases h3:(checkS e != 0)=true
 · rw [if_pos h3] at h;simp only at h;rw [h] at h3;cases h3
 exact ⟨hk,by simpa using h1,by simpa using h2,by simpa using h3⟩
theorem condE_kc {T:List Sc}{V:List Va}{e:Ex}(h:(condE T V e != 0)=false):KC T V e∧kindR T V e=1:=by
 have h0:condE T V e=0:=by simpa using h
 unfold condE at h0
 by_cases h1:((KindS T V e).2 != 0)=true
 · rw [if_pos h1] at h0;rw [h0] at h1;cases h1
 ·
  rw [if_neg h1] at h0
  have hk:=KindS_kc (by simpa using h1)
  refine ⟨hk,?_⟩
  by_cases h2:((KindS T V e).1 != 1)=true
  · rw [if_pos h2] at h0;cases h0
  · rw [←kc_kindR hk];simpa using h2
theorem kok_ok {T:List Sc}{V:List Va}{e a:Ex}(h:KOK T V e)(ha:a∈e.args):okS e.op (kindR T V a) (kindR T V (arg0 e))=true:=by
 have hp:e.args≠[]:=by intro hn;rw [hn] at ha;cases ha
 have h1:=(kok_args h hp).2.1
 unfold operandsS at h1
 have h2:=first_zero h1 _ (List.mem_map_of_mem (f:=fun a=>(kindS T V a).1) ha)
 have h0:0<e.args.length:=List.length_pos_iff.2 hp
 have h3:((e.args.map fun a=>(kindS T V a).1).headD 0)=(kindS T V (arg0 e)).1:=by
  cases hargs:e.args with
  | nil=>exact absurd hargs hp
  | cons x r=>unfold arg0;rw [hargs];rfl
 rw [h3] at h2
 rw [kok_kind (kok_arg h ha),kok_kind (kok_arg h (arg0_mem h0))] at h2
 split at h2
 · assumption
 · cases h2
theorem kok_same {T:List Sc}{V:List Va}{e a:Ex}(h:KOK T V e)(ho:e.op=9)(ha:a∈e.args):kindR T V a=kindR T V (arg0 e):=by
 have h1:=kok_ok h ha
 unfold okS at h1
 rw [if_neg (by simp;omega),if_neg (by simp;omega),if_pos (by simp;omega)] at h1
 simpa using h1
/-! ### The reference's -/
def rcmpS (e:Ex):Bool:=(e.op != 7&&e.op != 8)&&e.op != 9
end Go.Proofs.YtkddpedfbicbeaaGreatDoor
