/-
  Several texts in one: S13, Ay. No condition.
-/
import Derived.Test.YtjedflcpjlgokaaGreatDoorK04
import Derived.Test.YtjedflcpjlgokaaGreatDoorW25
import Derived.Test.YtjedflcpjlgokaaGreatDoorAx
set_option linter.unusedVariables false
set_option linter.unusedSimpArgs false
namespace Go.Proofs.YtjedflcpjlgokaaGreatDoor
open Go Go.Aw

def Cf (T:List Sc)(V:List Va):List AV:=[.sl 2 (T.map Ob),.sl 2 (V.map S4)]
structure KOK (T:List Sc) (V:List Va) (e:Ex):Prop where
 ty:Ki T V
 nodes:Ca e=0
 kind:(Cj T V e).2=0
theorem Sd {T:List Sc}{V:List Va}{e:Ex}(h:KOK T V e)(hp:e.args≠[]):Ao (fun a=>(Cj T V a).2) e.args=0∧D0 e.op (e.args.map fun a=>(Cj T V a).1)=0∧(Cj T V e).1=Vk e.op:=by
 have hk:=h.kind
 rw [E0] at hk ⊢
 have hi:e.args.isEmpty=false:=by simpa using hp
 rw [hi] at hk ⊢
 simp only [Bool.false_eq_true,if_false] at hk ⊢
 by_cases h1:(Ao (fun a=>(Cj T V a).2) e.args != 0)=true
 · rw [if_pos h1] at hk;simp only at hk;rw [hk] at h1;cases h1
 ·
  rw [if_neg h1] at hk ⊢
  by_cases h2:(D0 e.op (e.args.map fun a=>(Cj T V a).1) != 0)=true
  · rw [if_pos h2] at hk;simp only at hk;rw [hk] at h2;cases h2
  ·
   rw [if_neg h2]
   exact ⟨by simpa using h1,by simpa using h2,rfl⟩
theorem A2 {T:List Sc}{V:List Va}{e a:Ex}(h:KOK T V e)(ha:a∈e.args):KOK T V a:=by
 have hp:e.args≠[]:=by intro hn;rw [hn] at ha;cases ha
 exact ⟨h.ty,(Bc h.nodes).2 a ha,Gy (Sd h hp).1 a ha⟩
theorem Sm {T:List Sc}{V:List Va}{e:Ex}(h:KOK T V e)(ho:e.op<5):Cj T V e=F2 T V e:=by
 rw [E0,W7 (Bc h.nodes).1 ho];rfl
theorem kok_ne {T:List Sc}{V:List Va}{e:Ex}(h:KOK T V e)(ho:5≤e.op):e.args≠[]:=by
 obtain ⟨h0,h1,h2⟩:=F6 (Bc h.nodes).1
 intro hn
 rw [hn] at h2
 unfold D8 at h2
 rw [if_neg (by omega),if_neg (by omega)] at h2
 split at h2 <;> simp at h2
theorem Jb {T:List Sc}{V:List Va}{e:Ex}(h:KOK T V e):(Cj T V e).1=An T V e:=by
  obtain ⟨h0,h1,h2⟩:=F6 (Bc h.nodes).1
  by_cases ho:e.op<5
  · have hk:=h.kind
    rw [Sm h ho] at hk ⊢
    unfold F2 An at *
    by_cases c0:(e.op==0)=true
    · rw [if_pos c0,if_pos (by rw [c0];rfl)]
    · rw [if_neg c0] at hk ⊢
      by_cases c1:decide ((V.length:Int)≤e.var)=true
      · rw [if_pos c1] at hk;cases hk
      · rw [if_neg c1] at hk ⊢
        by_cases c2:(e.op==2||e.op==3)=true
        · rw [if_pos c2]
          have c2':e.op=2∨e.op=3:=by simpa using c2
          rcases c2' with c | c <;> rw [c] <;> rfl
        · rw [if_neg c2] at hk ⊢
          by_cases c3:decide (((Ez T V e.var).length:Int)≤e.field)=true
          · rw [if_pos c3] at hk;cases hk
          · rw [if_neg c3] at hk ⊢
            have c2':e.op≠2∧e.op≠3:=by simpa using c2
            have c0':e.op≠0:=by simpa using c0
            have:e.op=1∨e.op=4:=by omega
            rcases this with c | c
            · by_cases c4:(e.op==4&&(Hg (Ez T V e.var) e.field != e.val.kind || !Dz e.kind ⟨Hg (Ez T V e.var) e.field,0,[]⟩))=true
              · rw [c] at c4;cases c4
              · rw [if_neg c4,c];rfl
            · by_cases c4:(e.op==4&&(Hg (Ez T V e.var) e.field != e.val.kind || !Dz e.kind ⟨Hg (Ez T V e.var) e.field,0,[]⟩))=true
              · rw [if_pos c4] at hk;cases hk
              · rw [if_neg c4]
                have:Hg (Ez T V e.var) e.field=e.val.kind:=by
                  rw [c] at c4
                  simp at c4
                  exact c4.1
                rw [this,c];rfl
  · rw [(Sd h (kok_ne h (by omega))).2.2]
    have c0:(e.op==0||e.op==4)=false:=by simp;omega
    have c1:(e.op==1)=false:=by simp;omega
    unfold An Vk
    rw [C8 c0,C8 c1]
    by_cases c:(e.op==5||e.op==6)=true
    · rw [if_pos c,if_pos (by simp at c ⊢;omega)]
    · rw [if_neg c,if_neg (by simp at c ⊢;omega)]
theorem lV {T:List Sc}{V:List Va}{e:Ex}(h:KOK T V e)(ho:e.op=1∨e.op=2∨e.op=3∨e.op=4):0≤e.var∧e.var<(V.length:Int):=by
 have hk:=h.kind
 rw [Sm h (by omega)] at hk
 have hv:=Mm (Bc h.nodes).1
 unfold F2 at hk
 rw [C8 (by simp;omega)] at hk
 by_cases c1:decide ((V.length:Int)≤e.var)=true
 · rw [if_pos c1] at hk;cases hk
 ·
  simp at c1
  have hn:=(Bc h.nodes).1
  refine ⟨?_,by omega⟩
  unfold B3 at hn
  split at hn
  · cases hn
  split at hn
  · cases hn
  split at hn
  · cases hn
  rename_i h3
  have hu:(D2 e.op).1=true:=by rcases ho with ho | ho | ho | ho <;> rw [ho] <;> rfl
  rw [hu] at h3
  simp at h3
  omega
theorem nU {T:List Sc}{V:List Va}{e:Ex}(h:KOK T V e)(ho:e.op=1∨e.op=4):0≤e.field∧e.field<((Ez T V e.var).length:Int):=by
 have hk:=h.kind
 rw [Sm h (by omega)] at hk
 have hv:=lV h (by omega)
 unfold F2 at hk
 rw [C8 (by simp;omega),C8 (by simp;omega),C8 (by simp;omega)] at hk
 by_cases c1:decide (((Ez T V e.var).length:Int)≤e.field)=true
 · rw [if_pos c1] at hk;cases hk
 ·
  simp at c1
  have hn:=(Bc h.nodes).1
  refine ⟨?_,by omega⟩
  unfold B3 at hn
  split at hn
  · cases hn
  split at hn
  · cases hn
  split at hn
  · cases hn
  rename_i h3
  have hu:(D2 e.op).2=true:=by rcases ho with ho | ho <;> rw [ho] <;> rfl
  rw [hu] at h3
  simp at h3
  omega
theorem iE {T:List Sc}{V:List Va}{e:Ex}(h:KOK T V e)(ho:e.op=1):∃v s f,0≤e.var∧V[e.var.toNat]? = some v∧0≤v.type∧T[v.type.toNat]? = some s∧0≤e.field∧s.fields[e.field.toNat]? = some f∧An T V e=f.kind:=by
 have hv:=lV h (by omega)
 have hf:=nU h (by omega)
 have hl:e.var.toNat<V.length:=by omega
 have hvm:=h.ty _ (List.getElem_mem hl)
 have hl2:(V[e.var.toNat]).type.toNat<T.length:=by omega
 have hfl:Ez T V e.var=(T[(V[e.var.toNat]).type.toNat]).fields:=by
  unfold Ez
  rw [List.getElem?_eq_getElem hl]
  simp only [Option.getD_some]
  rw [List.getElem?_eq_getElem hl2];rfl
 have hl3:e.field.toNat<(T[(V[e.var.toNat]).type.toNat]).fields.length:=by rw [hfl] at hf;omega
 refine ⟨_,_,_,hv.1,List.getElem?_eq_getElem hl,hvm.1,List.getElem?_eq_getElem hl2,hf.1,List.getElem?_eq_getElem hl3,?_⟩
 unfold An Hg
 rw [C8 (by simp;omega),if_pos (by simp;omega),hfl,List.getElem?_eq_getElem hl3];rfl
theorem X8 {T:List Sc}{V:List Va}{e:Ex}(h:(Cn T V e).2=0):KOK T V e∧(Cn T V e).1=An T V e:=by
 unfold Cn at h ⊢
 by_cases h1:(Ep T != 0)=true
 · rw [if_pos h1] at h;simp only at h;rw [h] at h1;cases h1
 rw [if_neg h1] at h ⊢
 by_cases h2:(Iv T V != 0)=true
 · rw [if_pos h2] at h;simp only at h;rw [h] at h2;cases h2
 rw [if_neg h2] at h ⊢
 by_cases h3:(B4 e != 0)=true
 · rw [if_pos h3] at h;simp only at h;rw [h] at h3;cases h3
 rw [if_neg h3] at h ⊢
 have hk:KOK T V e:=⟨cJ (Wz (by simpa using h2)),aJ (by simpa using h3),h⟩
 exact ⟨hk,Jb hk⟩
theorem kU {T:List Sc}{V:List Va}{e:Ex}(h:((Cn T V e).2 != 0)=true):D1 T V e=(Cn T V e).2:=by rw [D1,if_pos h]
theorem lJ {T:List Sc}{V:List Va}{e:Ex}(h:((Cn T V e).2 != 0)=false)(h2:((Cn T V e).1 != 1)=true):D1 T V e=9:=by rw [D1,C8 h,if_pos h2]
theorem lK {T:List Sc}{V:List Va}{e:Ex}(h:((Cn T V e).2 != 0)=false)(h2:((Cn T V e).1 != 1)=false):D1 T V e=0:=by rw [D1,C8 h,C8 h2]
theorem g9 {T:List Sc}{V:List Va}{e:Ex}(hk:KOK T V e)(hG:Ij [(e.op==9,true)]):1<e.args.length:=by
 have h:=eq_of_beq (hG _ (List.mem_singleton.2 rfl))
 exact Ei (Bc hk.nodes).1 (by omega)
theorem l9 {T:List Sc}{V:List Va}{e:Ex}(hk:KOK T V e)(h:(e.op==9)=true):1<e.args.length:=by
 have h:=eq_of_beq h
 exact Ei (Bc hk.nodes).1 (by omega)
end Go.Proofs.YtjedflcpjlgokaaGreatDoor

namespace Go.Aw
section
variable {P:Program} {T:List (Nat×TD)} {d:Option Nat} {ty:TypeId} {pos:String} {aft:Array Edge} {gd:Option (Nat×Bool)} {ρ:Operand→AV}
theorem Pt {t:TypeId}{m k:Operand}{kt et b i:Nat}{td tk te:TD}{gs:List (Nat×Nat×Bool×Nat)}{n:List AV}{es:List (List AV×AV)}{eq:List AV→Bool}{r:Bool}{x:AV}{ok:Bool}(hT:Hb P T)(ht:Bv T t=some td)(hk:td.kind = .map kt et)(htk:Bv T kt=some tk)(hkk:tk.kind = .struct gs)
    (hte:Bv T et=some te) (hzs:P4 P et=true) (hm:ρ m = .val (.map (some b))) (hkey:ρ k = .agg n) (hnn:G1 T gs n n=some r) (heq:∀p∈es,G1 T gs n p.1=some (eq p.1)) (hx:match G4 eq es with | some y=>y=x | none=>te.zero = [x]) (hok:(G4 eq es).isSome=ok) :
    Dn P ⟨d,.lookup t m k true,ty,pos,aft,gd⟩ ρ (fun H=>H[i]? = some (.kmap b es)) (.tuple [x,.bool ok]):=by
  subst hok
  intro g w a H next Q hr hHK hH hn
  have h1:=(hm▸hr m (by simp [Op.operands]):Rep g w _ _).inv_val
  obtain ⟨us,h2,hus⟩:=(hkey▸hr k (by simp [Op.operands]):Rep g w _ _).inv_agg
  obtain ⟨hg,ms,clock,hheap,hl,⟨hclk,hbn⟩,hks,hvs⟩:=hHK.ok _ (List.mem_of_getElem? hH)
  have hu:=Il (hT t td ht) hk
  have hget:(getObj b).run P w = .ok (.map ms clock) w:=by simp [getObj,Sem.run,hheap]
  have hck:=G0 hT htk hkk hus hnn (em:=ms.isEmpty) (m:=9997)
  have hf:=Iw hT htk hkk hus (eq:=eq) ms.toList es 0 (by simpa using hl) (fun j k x hj=>by simpa using hks j k x hj) heq
  rw [←Fc hT htk hkk] at hf
  have tup:∀(v:Value) (y:AV) (o:Bool),Rep g w v y→Rep g w (.tuple #[v,.bool o]) (.tuple [y,.bool o]):=fun v y o hv=>.tuple _ _ rfl fun j z hj=>by
    match j,hj with
    | 0,hj=>cases hj;exact hv
    | 1,hj=>cases hj;exact .bool _
    | j+2,hj=>cases hj
  unfold Oper.wp
  cases hs:Lm eq es with
  | some j=>
    obtain ⟨k',y,hj,hg2⟩:=Vb hs
    rw [hs] at hf
    have hrep:Rep g w (ms.toList.getD j default).val y:=by simpa using hvs j k' y hj
    simp only [Option.map_some] at hf
    simp only [execOp,Instr.lookup,Sem.run_bind,Ba hu,Result.andThen_ok,h1,hget,Sem.run_pure,h2,hck,hf,if_true]
    refine hn g w _ ?_ hHK (Ext.refl g w)
    rw [hg2] at hx ⊢
    simp only at hx
    subst hx
    exact tup _ _ _ hrep
  | none=>
    rw [hs] at hf
    simp only [Option.map_none] at hf
    obtain ⟨z,hz1,hz2,hz3⟩:=Mp (hT et te hte) w
    simp only [execOp,Instr.lookup,Sem.run_bind,Ba hu,Result.andThen_ok,h1,hget,Sem.run_pure,h2,hck,hf,hz1,if_true]
    refine hn g w _ ?_ hHK (Ext.refl g w)
    rw [Pw.1 hs] at hx ⊢
    simp only at hx
    have hz4:=hz3 g w
    rw [hx] at hz4
    have hna:∀vs,z≠.agg vs:=by
      rintro vs rfl
      obtain ⟨it,hit,_,_,zv,hzv,_⟩:=(hT et te hte).info
      have hzz:(zeroValue et).run P w = .ok zv w:=by simp [zeroValue,G7 hit,hzv]
      rw [hzz] at hz1
      cases hz1
      simp [P4,hit,hzv] at hzs
    have hcell:z.cells = #[z]:=by cases z <;> first | rfl | exact absurd rfl (hna _)
    rw [hcell] at hz4
    exact tup _ _ _ (hz4.2 0 x rfl)

theorem AOL.geX {ops:Array Oper}{KK:St→Prop}{s:St}{o:Oper}{r:List Oper}{x:AV}{α:Type}{F:α→List HO}(G:List (Bool×Bool))(L:List (Nat×AV))(hw:H6 ops o s.sl=some G)
  (hL:∀p∈L,qN G (get s.sl p.1) p.2) (h:Ij G→Km P o (Gz (L++s.sl)) s.H fun x' H'=>x'=x∧∃v,H'=F v) (hn:¬Ij G→∃v,s.H=F v) (hd:Oa o.dst s.n=true)
  (k:∀v,AOL P ops KK r ⟨Fw o.dst (.opt G x) s.sl,F v,s.n⟩):AOL P ops KK (o::r) s:=by
 refine ⟨fun Q g a w hG hQ=>?_⟩
 obtain ⟨h1,h2⟩:=Lt (ops:=ops) (o:=o) (sl:=s.sl) hw (g:=g) (w:=w) (a:=a) (fun d _=>hG.sl d)
 unfold tA
 by_cases hg:Ij G
 ·
  rw [if_pos (h1 hg)]
  refine h hg g w a _ _ (fun y _=>uJ hG hg hL y) hG.heap fun g' w' v x' H' ⟨e1,u,e2⟩ hv hH hx=>?_
  subst e1;subst e2
  exact (k u).run Q g' _ w' (hG.put hx hd (.opt _ _ _ (fun _=>hv) (fun h=>absurd hg h)) hH) fun g'' s'' a'' w'' q1 q2 q3=>hQ g'' s'' a'' w'' q1 (hx.trans q2) q3
 ·
  rw [if_neg (by rw [h2 hg];decide)]
  obtain ⟨u,hu⟩:=hn hg
  have hH:HOK g w (F u):=by have:=hG.heap;rwa [hu] at this
  exact (k u).run Q g _ w (hG.put (Ext.refl g w) hd (.opt _ _ _ (fun h=>absurd h hg) (fun _=>rfl)) hH) hQ

theorem nI {g:Gh}{w:World}{H:List HO}{k:Nat}{v:Value}{es:List (List AV)}{E z:Nat}(hH:HOK g w H)(hk:H[k]? = some (.buf v es E z)) :
  (v = .slice none 0 0∧es = [])∨∃b cap J,v = .slice (some ⟨b,0,none⟩) es.length cap∧es.length≤cap∧cap≤maxLen∧J.length=(cap-es.length)*z∧(∀e∈es,e.length=z)∧HOK g w (H.set k (.box b E (es.flatten++J))):=by
 rcases hH.ok _ (List.mem_of_getElem? hk) with h | ⟨b,cap,cur,e1,hg,hcur,hcsz,hcap,hcmax,hz1,hrep⟩
 · exact .inl h
 ·
  have hfl:es.flatten.length=es.length*z:=Cz hz1
  have hle:es.length*z≤cur.size:=by rw [hcsz];exact Nat.mul_le_mul_right z hcap
  refine .inr ⟨b,cap,List.replicate ((cap-es.length)*z) .junk,e1,hcap,hcmax,List.length_replicate,hz1,?_⟩
  refine hH.set (Ext.refl g w) hk (fun c hc=>.inl (by rw [e1];exact hc)) ⟨hg,cur,hcur,?_,fun i x hi=>?_⟩ (fun _ _ _ _=>⟨rfl,rfl⟩)
  ·
   rw [List.length_append,List.length_replicate,hfl,hcsz,Nat.sub_mul]
   have:=Nat.mul_le_mul_right z hcap
   omega
  ·
   rw [List.getElem?_append] at hi
   split at hi
   · exact hrep i x hi
   ·
    have:=List.eq_of_mem_replicate (List.mem_of_getElem? hi)
    rw [this];exact .junk _
theorem AW.unbuf {c:Code}{Q:Exit→St→Prop}{sl:List (Nat×AV)}{H:List HO}{n:Nat}(k:Nat){v:Value}{es:List (List AV)}{E z:Nat}(hk:H[k]? = some (.buf v es E z))(hne:es≠[])
  (h:∀b cap J,v = .slice (some ⟨b,0,none⟩) es.length cap→es.length≤cap→cap≤maxLen→J.length=(cap-es.length)*z→(∀e∈es,e.length=z)→AW P c Q ⟨sl,H.set k (.box b E (es.flatten++J)),n⟩):AW P c Q ⟨sl,H,n⟩:=fun Q' g a w hG hQ=>by
 rcases nI hG.heap hk with ⟨_,h2⟩ | ⟨b,cap,J,h1,h2,h3,h4,h5,h6⟩
 · exact absurd h2 hne
 · exact h b cap J h1 h2 h3 h4 h5 Q' g a w ⟨hG.size,hG.defers,hG.sl,h6⟩ hQ
theorem GS.rebuf {sl:List (Nat×AV)}{H H2:List HO}{n:Nat}(k:Nat){b cap E z:Nat}{cs:List AV}(es:List (List AV))(J:List AV){m:Nat}(hm:es.length=m)(hk:H[k]? = some (.box b E cs))(hcs:cs=es.flatten++J)(hcap:es.length≤cap)(hcm:cap≤maxLen)(hJ:J.length=(cap-es.length)*z)(hz:∀e∈es,e.length=z)
  (hH2:H.set k (.buf (.slice (some ⟨b,0,none⟩) m cap) es E z)=H2):GS ⟨sl,H,n⟩ ⟨sl,H2,n⟩:=fun g a w hG=>by
 subst hcs;subst hH2;subst hm
 obtain ⟨hg,vs,hvs,h3⟩:=hG.heap.ok _ (List.mem_of_getElem? hk)
 have hfl:es.flatten.length=es.length*z:=Cz hz
 refine ⟨g,⟨hG.size,hG.defers,hG.sl,?_⟩,Ext.refl g w⟩
 refine hG.heap.set (Ext.refl g w) hk (fun c hc=>.inl hc) (.inr ⟨b,cap,vs,rfl,hg,hvs,?_,hcap,hcm,hz,fun i x hi=>?_⟩) (fun _ _ _ _=>⟨rfl,rfl⟩)
 ·
  rw [h3.1,List.length_append,hfl,hJ,Nat.sub_mul]
  have:=Nat.mul_le_mul_right z hcap
  omega
 ·
  refine h3.2 i x ?_
  rw [List.getElem?_append_left (List.getElem?_eq_some_iff.1 hi).1];exact hi

theorem HO.buf_one {g:Gh}{w:World}{v:Value}{es:List (List AV)}{E z:Nat}(h:HO.ok g w (.buf v es E z)):v.oneCell'=true:=by
 rcases h with ⟨rfl,_⟩ | ⟨b,cap,cur,rfl,_⟩ <;> rfl
theorem Dk.bufOne {f:FuncId}{H:List HO}{args:List AV}{Q:AV→List HO→Prop}{v:Value}{es:List (List AV)}{E z:Nat}(k:Nat)(hk:H[k]? = some (.buf v es E z))(h:v.oneCell'=true→Dk P f H args Q):Dk P f H args Q:=
 fun g w vs hH hA=>h (HO.buf_one (hH.ok _ (List.mem_of_getElem? hk))) g w vs hH hA
theorem AW.bufOne {c:Code}{Q:Exit→St→Prop}{sl:List (Nat×AV)}{H:List HO}{n:Nat}{v:Value}{es:List (List AV)}{E z:Nat}(k:Nat)(hk:H[k]? = some (.buf v es E z))(h:v.oneCell'=true→AW P c Q ⟨sl,H,n⟩):AW P c Q ⟨sl,H,n⟩:=fun Q' g a w hG hQ=>
 h (HO.buf_one (hG.heap.ok _ (List.mem_of_getElem? hk))) Q' g a w hG hQ
def xC (H:List HO):Prop:=∀v es E z,HO.buf v es E z∈H→v.oneCell'=true
theorem Km.bufs {o:Oper}{H:List HO}{R:AV→List HO→Prop}(h:Km P o ρ H R):Km P o ρ H (fun r H'=>R r H'∧xC H'):=by
 intro g w a next Q hr hHK hn
 exact h g w a next Q hr hHK fun g' w' v x H' h1 h2 h3 h4=>hn g' w' v x H' ⟨h1,fun v es E z hm=>HO.buf_one (h3.ok _ hm)⟩ h2 h3 h4

theorem Dn.weakV {o:Oper}{K:List HO→Prop}{x x':AV}(h:Dn P o ρ K x)(hw:∀g w u,Rep g w u x→Rep g w u x'):Dn P o ρ K x':=
 fun g w a H next Q hr hH hK hn=>h g w a H next Q hr hH hK fun g' w' v hv hH' hx=>hn g' w' v (hw _ _ _ hv) hH' hx
theorem jD {z:Nat}{r:List AV}:∀g w u,Rep g w u (.agg (.val (.slice none 0 0)::r))→Rep g w u (.agg (.row (.slice none 0 0) z []::r)):=fun g w u h=>by
  obtain ⟨vs,rfl,h1,h2⟩:=h.inv_agg
  refine .agg vs _ (by simpa using h1) fun i x hi=>?_
  cases i with
  | zero=>
    simp at hi;subst hi
    have:=(h2 0 _ rfl).inv_val
    rw [this];exact .row _ _ _ (.sl0 _ _ _ (Nat.zero_le _))
  | succ i=>exact h2 (i+1) x (by simpa using hi)
theorem GS.rowZ {sl:List (Nat×AV)}{H:List HO}{n:Nat}(E z:Nat):GS ⟨sl,H,n⟩ ⟨sl,.row (.slice none 0 0) 0 E z::H,n⟩:=fun g a w hG=>
 ⟨g,⟨hG.size,hG.defers,hG.sl,hG.heap.cons (.inl ⟨rfl,rfl⟩) (fun b hb=>by simp [HO.blk] at hb)⟩,Ext.refl g w⟩
theorem L6 {g:Gh}{w:World}{H:List HO}{k:Nat}{v:Value}{es:List (List AV)}{E z:Nat}(hH:HOK g w H)(hk:H[k]? = some (.buf v es E z)):∃g',Ext g w g' w∧HOK g' w (H.eraseIdx k)∧Rep g' w v (.sl z es):=by
 have hok:=hH.ok _ (List.mem_of_getElem? hk)
 rcases hok with ⟨rfl,rfl⟩ | ⟨b,cap,cur,rfl,hg,hcur,hcsz,hcap,hcmax,hz1,hrep⟩
 · exact ⟨g,Ext.refl g w,hH.sub (List.eraseIdx_sublist ..),.sl0 _ _ _ (Nat.zero_le _)⟩
 ·
  have hx:Ext g w (g.put b none) w:=by
   refine ⟨rfl,rfl,rfl,Nat.le_refl _,fun c hc hgc=>⟨?_,rfl⟩,fun c m hc hgc=>⟨fun m' hm=>?_,fun _ _=>rfl⟩⟩
   ·
    by_cases e:c=b
    · subst e;exact Gh.Aap _ _ _
    · rw [Gh.Aau _ _ e];exact hgc
   ·
    by_cases e:c=b
    · subst e;rw [Gh.Aap] at hm;cases hm
    · rw [Gh.Aau _ _ e,hgc] at hm;cases hm;exact Nat.le_refl _
  refine ⟨g.put b none,hx,?_,?_⟩
  ·
   have hsub:(H.eraseIdx k).Sublist H:=List.eraseIdx_sublist ..
   refine ⟨(hH.sub hsub).nodup,fun o ho=>?_,hH.glob.mono hx⟩
   obtain ⟨j,hj⟩:=List.getElem?_of_mem ho
   rw [List.getElem?_eraseIdx] at hj
   obtain ⟨j',hjk,hj'⟩:∃j',j'≠k∧H[j']? = some o:=by
    split at hj
    · exact ⟨j,by omega,hj⟩
    · exact ⟨j+1,by omega,hj⟩
   have hok:=hH.ok o (List.mem_of_getElem? hj')
   refine HO.ok_of_same hx hok fun c hc=>⟨Gh.Aau _ _ fun e=>hjk (hH.nodup_blk hj' hk (e▸hc) rfl),rfl⟩
  ·
   refine .sl b 0 es.length cap z es rfl hcap hcmax hz1 (fun i j=>cur.getD (i*z+j) undef) (fun i e hi j y hj=>⟨by unfold Er;rw [Gh.Aap];trivial,?_⟩) (fun i e hi j y hj=>?_)
   ·
    have h3:=E6 hz1 hi hj
    have hlt:i*z+j<cur.size:=by
     have h4:=(List.getElem?_eq_some_iff.1 h3).1
     rw [Cz hz1] at h4
     have:=Nat.mul_le_mul_right z hcap
     omega
    rw [Nat.zero_add,Cd hcur];simp [hlt]
   · exact (hrep _ _ (E6 hz1 hi hj)).mono hx
theorem GS.freezeBufCell {sl:List (Nat×AV)}{H H2:List HO}{n b TT:Nat}{cs cs':List AV}{v:Value}{es:List (List AV)}{E z:Nat}(k j o:Nat)(hk:H[k]? = some (.buf v es E z))(hj:(H.eraseIdx k)[j]? = some (.box b TT cs))(hc:cs[o]? = some (.val v))(hcs:cs.set o (.sl z es)=cs')
  (hH2:(H.eraseIdx k).set j (.box b TT cs')=H2):GS ⟨sl,H,n⟩ ⟨sl,H2,n⟩:=fun g a w hG=>by
 subst hcs;subst hH2
 obtain ⟨g',hx,hH,hv⟩:=L6 hG.heap hk
 refine ⟨g',⟨hG.size,hG.defers,fun i=>(hG.sl i).mono hx,?_⟩,hx⟩
 refine hH.set (Ext.refl g' w) hj (fun b h=>.inl h) ?_ (fun _ _ _ _=>⟨rfl,rfl⟩)
 obtain ⟨h1,vs,h2,h3,h4⟩:=hH.ok _ (List.mem_of_getElem? hj)
 refine ⟨h1,vs,h2,by simpa using h3,fun i x hi=>?_⟩
 rw [List.getElem?_set] at hi
 split at hi
 ·
  rename_i e;subst e
  split at hi
  · cases hi;rw [(h4 _ _ hc).inv_val];exact hv
  · cases hi
 · exact h4 i x hi
theorem Dk.front3 {f:FuncId}{args:List AV}{H R:List HO}{Q:AV→List HO→Prop}{o1 o2 o3:HO}(k3 k2 k1:Nat)(hk3:H[k3]? = some o3)(hk2:(H.eraseIdx k3)[k2]? = some o2)(hk1:((H.eraseIdx k3).eraseIdx k2)[k1]? = some o1)(hR:((H.eraseIdx k3).eraseIdx k2).eraseIdx k1=R)
  (h:Dk P f (o1::o2::o3::R) args Q):Dk P f H args Q:=by
 subst hR
 refine h.perm ?_
 have h1:=Hz hk3
 have h2:=Hz hk2
 have h3:=Hz hk1
 refine h1.trans ((h2.cons o3).trans (((h3.cons o2).cons o3).trans ?_))
 exact (List.Perm.swap o2 o3 _).trans (((List.Perm.swap o1 o3 _).cons o2).trans (List.Perm.swap o1 o2 _))
theorem GS.heapTo {sl:List (Nat×AV)}{H H2:List HO}{n:Nat}(h:H=H2):GS ⟨sl,H,n⟩ ⟨sl,H2,n⟩:=by subst h;exact GS.refl _
end
end Go.Aw
