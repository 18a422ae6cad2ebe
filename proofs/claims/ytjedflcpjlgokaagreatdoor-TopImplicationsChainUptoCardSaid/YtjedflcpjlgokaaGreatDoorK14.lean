/-
  Several texts in one: S13, Ay, S14. No condition.
-/
import Derived.Test.YtjedflcpjlgokaaGreatDoorK04
import Derived.Test.YtjedflcpjlgokaaGreatDoorW25
import Derived.Test.YtjedflcpjlgokaaGreatDoorAx
set_option linter.unusedVariables false
set_option linter.unusedSimpArgs false
namespace Go.Proofs.YtjedflcpjlgokaaGreatDoor
open Go Go.Aw

def Cw (T:List Sc)(V:List Va):List AV:=[.sl 2 (T.map O2),.sl 2 (V.map Xr)]
structure KOK (T:List Sc) (V:List Va) (e:Ex):Prop where
 ty:Ju T V
 nodes:Dc e=0
 kind:(Ce T V e).2=0
theorem R6 {T:List Sc}{V:List Va}{e:Ex}(h:KOK T V e)(hp:e.args≠[]):Aq (fun a=>(Ce T V a).2) e.args=0∧Dm e.op (e.args.map fun a=>(Ce T V a).1)=0∧(Ce T V e).1=Wv e.op:=by
 have hk:=h.kind
 rw [Ep] at hk ⊢
 have hi:e.args.isEmpty=false:=by simpa using hp
 rw [hi] at hk ⊢
 simp only [Bool.false_eq_true,if_false] at hk ⊢
 by_cases h1:(Aq (fun a=>(Ce T V a).2) e.args != 0)=true
 · rw [if_pos h1] at hk;simp only at hk;rw [hk] at h1;cases h1
 ·
  rw [if_neg h1] at hk ⊢
  by_cases h2:(Dm e.op (e.args.map fun a=>(Ce T V a).1) != 0)=true
  · rw [if_pos h2] at hk;simp only at hk;rw [hk] at h2;cases h2
  ·
   rw [if_neg h2]
   exact ⟨by simpa using h1,by simpa using h2,rfl⟩
theorem Az {T:List Sc}{V:List Va}{e a:Ex}(h:KOK T V e)(ha:a∈e.args):KOK T V a:=by
 have hp:e.args≠[]:=by intro hn;rw [hn] at ha;cases ha
 exact ⟨h.ty,(A8 h.nodes).2 a ha,Hj (R6 h hp).1 a ha⟩
theorem Ri {T:List Sc}{V:List Va}{e:Ex}(h:KOK T V e)(ho:e.op<5):Ce T V e=Fm T V e:=by
 rw [Ep,Xh (A8 h.nodes).1 ho];rfl
theorem kok_ne {T:List Sc}{V:List Va}{e:Ex}(h:KOK T V e)(ho:5≤e.op):e.args≠[]:=by
 obtain ⟨h0,h1,h2⟩:=Gu (A8 h.nodes).1
 intro hn
 rw [hn] at h2
 unfold D6 at h2
 rw [if_neg (by omega),if_neg (by omega)] at h2
 split at h2 <;> simp at h2
theorem Iw {T:List Sc}{V:List Va}{e:Ex}(h:KOK T V e):(Ce T V e).1=Ak T V e:=by
  obtain ⟨h0,h1,h2⟩:=Gu (A8 h.nodes).1
  by_cases ho:e.op<5
  · have hk:=h.kind
    rw [Ri h ho] at hk ⊢
    unfold Fm Ak at *
    by_cases c0:(e.op==0)=true
    · rw [if_pos c0,if_pos (by rw [c0];rfl)]
    · rw [if_neg c0] at hk ⊢
      by_cases c1:decide ((V.length:Int)≤e.var)=true
      · rw [if_pos c1] at hk;cases hk
      · rw [if_neg c1] at hk ⊢
        by_cases c2:(e.op==2||e.op==3)=true
        · rw [if_pos c2]
          have c2':e.op=2∨e.op=3:=by simpa using c2
          rcases c2' with c | c <;> rw [c] <;> rfl
        · rw [if_neg c2] at hk ⊢
          by_cases c3:decide (((Fa T V e.var).length:Int)≤e.field)=true
          · rw [if_pos c3] at hk;cases hk
          · rw [if_neg c3] at hk ⊢
            have c2':e.op≠2∧e.op≠3:=by simpa using c2
            have c0':e.op≠0:=by simpa using c0
            have:e.op=1∨e.op=4:=by omega
            rcases this with c | c
            · by_cases c4:(e.op==4&&(G8 (Fa T V e.var) e.field != e.val.kind || !Dk e.kind ⟨G8 (Fa T V e.var) e.field,0,[]⟩))=true
              · rw [c] at c4;cases c4
              · rw [if_neg c4,c];rfl
            · by_cases c4:(e.op==4&&(G8 (Fa T V e.var) e.field != e.val.kind || !Dk e.kind ⟨G8 (Fa T V e.var) e.field,0,[]⟩))=true
              · rw [if_pos c4] at hk;cases hk
              · rw [if_neg c4]
                have:G8 (Fa T V e.var) e.field=e.val.kind:=by
                  rw [c] at c4
                  simp at c4
                  exact c4.1
                rw [this,c];rfl
  · rw [(R6 h (kok_ne h (by omega))).2.2]
    have c0:(e.op==0||e.op==4)=false:=by simp;omega
    have c1:(e.op==1)=false:=by simp;omega
    unfold Ak Wv
    rw [C3 c0,C3 c1]
    by_cases c:(e.op==5||e.op==6)=true
    · rw [if_pos c,if_pos (by simp at c ⊢;omega)]
    · rw [if_neg c,if_neg (by simp at c ⊢;omega)]
theorem lJ {T:List Sc}{V:List Va}{e:Ex}(h:KOK T V e)(ho:e.op=1∨e.op=2∨e.op=3∨e.op=4):0≤e.var∧e.var<(V.length:Int):=by
 have hk:=h.kind
 rw [Ri h (by omega)] at hk
 have hv:=L7 (A8 h.nodes).1
 unfold Fm at hk
 rw [C3 (by simp;omega)] at hk
 by_cases c1:decide ((V.length:Int)≤e.var)=true
 · rw [if_pos c1] at hk;cases hk
 ·
  simp at c1
  have hn:=(A8 h.nodes).1
  refine ⟨?_,by omega⟩
  unfold Bt at hn
  split at hn
  · cases hn
  split at hn
  · cases hn
  split at hn
  · cases hn
  rename_i h3
  have hu:(Dq e.op).1=true:=by rcases ho with ho | ho | ho | ho <;> rw [ho] <;> rfl
  rw [hu] at h3
  simp at h3
  omega
theorem nO {T:List Sc}{V:List Va}{e:Ex}(h:KOK T V e)(ho:e.op=1∨e.op=4):0≤e.field∧e.field<((Fa T V e.var).length:Int):=by
 have hk:=h.kind
 rw [Ri h (by omega)] at hk
 have hv:=lJ h (by omega)
 unfold Fm at hk
 rw [C3 (by simp;omega),C3 (by simp;omega),C3 (by simp;omega)] at hk
 by_cases c1:decide (((Fa T V e.var).length:Int)≤e.field)=true
 · rw [if_pos c1] at hk;cases hk
 ·
  simp at c1
  have hn:=(A8 h.nodes).1
  refine ⟨?_,by omega⟩
  unfold Bt at hn
  split at hn
  · cases hn
  split at hn
  · cases hn
  split at hn
  · cases hn
  rename_i h3
  have hu:(Dq e.op).2=true:=by rcases ho with ho | ho <;> rw [ho] <;> rfl
  rw [hu] at h3
  simp at h3
  omega
theorem jQ {T:List Sc}{V:List Va}{e:Ex}(h:KOK T V e)(ho:e.op=1):∃v s f,0≤e.var∧V[e.var.toNat]? = some v∧0≤v.type∧T[v.type.toNat]? = some s∧0≤e.field∧s.fields[e.field.toNat]? = some f∧Ak T V e=f.kind:=by
 have hv:=lJ h (by omega)
 have hf:=nO h (by omega)
 have hl:e.var.toNat<V.length:=by omega
 have hvm:=h.ty _ (List.getElem_mem hl)
 have hl2:(V[e.var.toNat]).type.toNat<T.length:=by omega
 have hfl:Fa T V e.var=(T[(V[e.var.toNat]).type.toNat]).fields:=by
  unfold Fa
  rw [List.getElem?_eq_getElem hl]
  simp only [Option.getD_some]
  rw [List.getElem?_eq_getElem hl2];rfl
 have hl3:e.field.toNat<(T[(V[e.var.toNat]).type.toNat]).fields.length:=by rw [hfl] at hf;omega
 refine ⟨_,_,_,hv.1,List.getElem?_eq_getElem hl,hvm.1,List.getElem?_eq_getElem hl2,hf.1,List.getElem?_eq_getElem hl3,?_⟩
 unfold Ak G8
 rw [C3 (by simp;omega),if_pos (by simp;omega),hfl,List.getElem?_eq_getElem hl3];rfl
theorem nS {T:List Sc}{V:List Va}{e:Ex}(h:(C7 T V e).2=0):KOK T V e∧(C7 T V e).1=Ak T V e:=by
 unfold C7 at h ⊢
 by_cases h1:(D8 T != 0)=true
 · rw [if_pos h1] at h;simp only at h;rw [h] at h1;cases h1
 rw [if_neg h1] at h ⊢
 by_cases h2:(Hb T V != 0)=true
 · rw [if_pos h2] at h;simp only at h;rw [h] at h2;cases h2
 rw [if_neg h2] at h ⊢
 by_cases h3:(B4 e != 0)=true
 · rw [if_pos h3] at h;simp only at h;rw [h] at h3;cases h3
 rw [if_neg h3] at h ⊢
 have hk:KOK T V e:=⟨bV (Vg (by simpa using h2)),aZ (by simpa using h3),h⟩
 exact ⟨hk,Iw hk⟩
theorem kG {T:List Sc}{V:List Va}{e:Ex}(h:((C7 T V e).2 != 0)=true):Fg T V e=(C7 T V e).2:=by rw [Fg,if_pos h]
theorem lE {T:List Sc}{V:List Va}{e:Ex}(h:((C7 T V e).2 != 0)=false)(h2:((C7 T V e).1 != 1)=true):Fg T V e=9:=by rw [Fg,C3 h,if_pos h2]
theorem lD {T:List Sc}{V:List Va}{e:Ex}(h:((C7 T V e).2 != 0)=false)(h2:((C7 T V e).1 != 1)=false):Fg T V e=0:=by rw [Fg,C3 h,C3 h2]
theorem g9 {T:List Sc}{V:List Va}{e:Ex}(hk:KOK T V e)(hG:Ig [(e.op==9,true)]):1<e.args.length:=by
 have h:=eq_of_beq (hG _ (List.mem_singleton.2 rfl))
 exact Fh (A8 hk.nodes).1 (by omega)
end Go.Proofs.YtjedflcpjlgokaaGreatDoor

namespace Go.Aw
section
variable {P:Program} {T:List (Nat×TD)} {d:Option Nat} {ty:TypeId} {pos:String} {aft:Array Edge} {gd:Option (Nat×Bool)} {ρ:Operand→AV}
theorem Ox {t:TypeId}{m k:Operand}{kt et b i:Nat}{td tk te:TD}{gs:List (Nat×Nat×Bool×Nat)}{n:List AV}{es:List (List AV×AV)}{eq:List AV→Bool}{r:Bool}{x:AV}{ok:Bool}(hT:G3 P T)(ht:Bl T t=some td)(hk:td.kind = .map kt et)(htk:Bl T kt=some tk)(hkk:tk.kind = .struct gs)
    (hte:Bl T et=some te) (hzs:Ps P et=true) (hm:ρ m = .val (.map (some b))) (hkey:ρ k = .agg n) (hnn:Gq T gs n n=some r) (heq:∀p∈es,Gq T gs n p.1=some (eq p.1)) (hx:match Gy eq es with | some y=>y=x | none=>te.zero = [x]) (hok:(Gy eq es).isSome=ok) :
    C6 P ⟨d,.lookup t m k true,ty,pos,aft,gd⟩ ρ (fun H=>H[i]? = some (.kmap b es)) (.tuple [x,.bool ok]):=by
  subst hok
  intro g w a H next Q hr hHK hH hn
  have h1:=(hm▸hr m (by simp [Op.operands]):Rep g w _ _).inv_val
  obtain ⟨us,h2,hus⟩:=(hkey▸hr k (by simp [Op.operands]):Rep g w _ _).inv_agg
  obtain ⟨hg,ms,clock,hheap,hl,⟨hclk,hbn⟩,hks,hvs⟩:=hHK.ok _ (List.mem_of_getElem? hH)
  have hu:=Ic (hT t td ht) hk
  have hget:(getObj b).run P w = .ok (.map ms clock) w:=by simp [getObj,Sem.run,hheap]
  have hck:=Gt hT htk hkk hus hnn (em:=ms.isEmpty) (m:=9997)
  have hf:=Ik hT htk hkk hus (eq:=eq) ms.toList es 0 (by simpa using hl) (fun j k x hj=>by simpa using hks j k x hj) heq
  rw [←E4 hT htk hkk] at hf
  have tup:∀(v:Value) (y:AV) (o:Bool),Rep g w v y→Rep g w (.tuple #[v,.bool o]) (.tuple [y,.bool o]):=fun v y o hv=>.tuple _ _ rfl fun j z hj=>by
    match j,hj with
    | 0,hj=>cases hj;exact hv
    | 1,hj=>cases hj;exact .bool _
    | j+2,hj=>cases hj
  unfold Oper.wp
  cases hs:Kv eq es with
  | some j=>
    obtain ⟨k',y,hj,hg2⟩:=U7 hs
    rw [hs] at hf
    have hrep:Rep g w (ms.toList.getD j default).val y:=by simpa using hvs j k' y hj
    simp only [Option.map_some] at hf
    simp only [execOp,Instr.lookup,Sem.run_bind,A1 hu,Result.andThen_ok,h1,hget,Sem.run_pure,h2,hck,hf,if_true]
    refine hn g w _ ?_ hHK (Ext.refl g w)
    rw [hg2] at hx ⊢
    simp only at hx
    subst hx
    exact tup _ _ _ hrep
  | none=>
    rw [hs] at hf
    simp only [Option.map_none] at hf
    obtain ⟨z,hz1,hz2,hz3⟩:=Lp (hT et te hte) w
    simp only [execOp,Instr.lookup,Sem.run_bind,A1 hu,Result.andThen_ok,h1,hget,Sem.run_pure,h2,hck,hf,hz1,if_true]
    refine hn g w _ ?_ hHK (Ext.refl g w)
    rw [Ov.1 hs] at hx ⊢
    simp only at hx
    have hz4:=hz3 g w
    rw [hx] at hz4
    have hna:∀vs,z≠.agg vs:=by
      rintro vs rfl
      obtain ⟨it,hit,_,_,zv,hzv,_⟩:=(hT et te hte).info
      have hzz:(zeroValue et).run P w = .ok zv w:=by simp [zeroValue,G1 hit,hzv]
      rw [hzz] at hz1
      cases hz1
      simp [Ps,hit,hzv] at hzs
    have hcell:z.cells = #[z]:=by cases z <;> first | rfl | exact absurd rfl (hna _)
    rw [hcell] at hz4
    exact tup _ _ _ (hz4.2 0 x rfl)

theorem AOL.geX {ops:Array Oper}{KK:St→Prop}{s:St}{o:Oper}{r:List Oper}{x:AV}{α:Type}{F:α→List HO}(G:List (Bool×Bool))(L:List (Nat×AV))(hw:Ht ops o s.sl=some G)
  (hL:∀p∈L,qL G (get s.sl p.1) p.2) (h:Ig G→Ks P o (Gw (L++s.sl)) s.H fun x' H'=>x'=x∧∃v,H'=F v) (hn:¬Ig G→∃v,s.H=F v) (hd:Nk o.dst s.n=true)
  (k:∀v,AOL P ops KK r ⟨E8 o.dst (.opt G x) s.sl,F v,s.n⟩):AOL P ops KK (o::r) s:=by
 refine ⟨fun Q g a w hG hQ=>?_⟩
 obtain ⟨h1,h2⟩:=Le (ops:=ops) (o:=o) (sl:=s.sl) hw (g:=g) (w:=w) (a:=a) (fun d _=>hG.sl d)
 unfold vU
 by_cases hg:Ig G
 ·
  rw [if_pos (h1 hg)]
  refine h hg g w a _ _ (fun y _=>qW hG hg hL y) hG.heap fun g' w' v x' H' ⟨e1,u,e2⟩ hv hH hx=>?_
  subst e1;subst e2
  exact (k u).run Q g' _ w' (hG.put hx hd (.opt _ _ _ (fun _=>hv) (fun h=>absurd hg h)) hH) fun g'' s'' a'' w'' q1 q2 q3=>hQ g'' s'' a'' w'' q1 (hx.trans q2) q3
 ·
  rw [if_neg (by rw [h2 hg];decide)]
  obtain ⟨u,hu⟩:=hn hg
  have hH:HOK g w (F u):=by have:=hG.heap;rwa [hu] at this
  exact (k u).run Q g _ w (hG.put (Ext.refl g w) hd (.opt _ _ _ (fun h=>absurd h hg) (fun _=>rfl)) hH) hQ

theorem nW {g:Gh}{w:World}{H:List HO}{k:Nat}{v:Value}{es:List (List AV)}{E z:Nat}(hH:HOK g w H)(hk:H[k]? = some (.buf v es E z)) :
  (v = .slice none 0 0∧es = [])∨∃b cap J,v = .slice (some ⟨b,0,none⟩) es.length cap∧es.length≤cap∧cap≤maxLen∧J.length=(cap-es.length)*z∧(∀e∈es,e.length=z)∧HOK g w (H.set k (.box b E (es.flatten++J))):=by
 rcases hH.ok _ (List.mem_of_getElem? hk) with h | ⟨b,cap,cur,e1,hg,hcur,hcsz,hcap,hcmax,hz1,hrep⟩
 · exact .inl h
 ·
  have hfl:es.flatten.length=es.length*z:=D9 hz1
  have hle:es.length*z≤cur.size:=by rw [hcsz];exact Nat.mul_le_mul_right z hcap
  refine .inr ⟨b,cap,List.replicate ((cap-es.length)*z) .junk,e1,hcap,hcmax,List.length_replicate,hz1,?_⟩
  refine hH.set (Ext.refl g w) hk (fun c hc=>.inl (by rw [e1];exact hc)) ⟨hg,cur,hcur,?_,fun i x hi=>?_⟩ (fun _ _ _ _=>⟨rfl,rfl⟩)
  ·
   rw [List.length_append,List.length_replicate,hfl,hcsz,Nat.sub_mul]
   have:=Nat.mul_le_mul_right z hcap
   omega
  ·
   rw [List.getElem?_append] at hi
   split at hi
   · exact hrep i x hi
   ·
    have:=List.eq_of_mem_replicate (List.mem_of_getElem? hi)
    rw [this];exact .junk _
theorem AW.unbuf {c:Code}{Q:Exit→St→Prop}{sl:List (Nat×AV)}{H:List HO}{n:Nat}(k:Nat){v:Value}{es:List (List AV)}{E z:Nat}(hk:H[k]? = some (.buf v es E z))(hne:es≠[])
  (h:∀b cap J,v = .slice (some ⟨b,0,none⟩) es.length cap→es.length≤cap→cap≤maxLen→J.length=(cap-es.length)*z→(∀e∈es,e.length=z)→AW P c Q ⟨sl,H.set k (.box b E (es.flatten++J)),n⟩):AW P c Q ⟨sl,H,n⟩:=fun Q' g a w hG hQ=>by
 rcases nW hG.heap hk with ⟨_,h2⟩ | ⟨b,cap,J,h1,h2,h3,h4,h5,h6⟩
 · exact absurd h2 hne
 · exact h b cap J h1 h2 h3 h4 h5 Q' g a w ⟨hG.size,hG.defers,hG.sl,h6⟩ hQ
theorem GS.rebuf {sl:List (Nat×AV)}{H H2:List HO}{n:Nat}(k:Nat){b cap E z:Nat}{cs:List AV}(es:List (List AV))(J:List AV){m:Nat}(hm:es.length=m)(hk:H[k]? = some (.box b E cs))(hcs:cs=es.flatten++J)(hcap:es.length≤cap)(hcm:cap≤maxLen)(hJ:J.length=(cap-es.length)*z)(hz:∀e∈es,e.length=z)
  (hH2:H.set k (.buf (.slice (some ⟨b,0,none⟩) m cap) es E z)=H2):GS ⟨sl,H,n⟩ ⟨sl,H2,n⟩:=fun g a w hG=>by
 subst hcs;subst hH2;subst hm
 obtain ⟨hg,vs,hvs,h3⟩:=hG.heap.ok _ (List.mem_of_getElem? hk)
 have hfl:es.flatten.length=es.length*z:=D9 hz
 refine ⟨g,⟨hG.size,hG.defers,hG.sl,?_⟩,Ext.refl g w⟩
 refine hG.heap.set (Ext.refl g w) hk (fun c hc=>.inl hc) (.inr ⟨b,cap,vs,rfl,hg,hvs,?_,hcap,hcm,hz,fun i x hi=>?_⟩) (fun _ _ _ _=>⟨rfl,rfl⟩)
 ·
  rw [h3.1,List.length_append,hfl,hJ,Nat.sub_mul]
  have:=Nat.mul_le_mul_right z hcap
  omega
 ·
  refine h3.2 i x ?_
  rw [List.getElem?_append_left (List.getElem?_eq_some_iff.1 hi).1];exact hi

theorem HO.buf_one {g:Gh}{w:World}{v:Value}{es:List (List AV)}{E z:Nat}(h:HO.ok g w (.buf v es E z)):v.oneCell'=true:=by
 rcases h with ⟨rfl,_⟩ | ⟨b,cap,cur,rfl,_⟩ <;> rfl
theorem AW.bufOne {c:Code}{Q:Exit→St→Prop}{sl:List (Nat×AV)}{H:List HO}{n:Nat}{v:Value}{es:List (List AV)}{E z:Nat}(k:Nat)(hk:H[k]? = some (.buf v es E z))(h:v.oneCell'=true→AW P c Q ⟨sl,H,n⟩):AW P c Q ⟨sl,H,n⟩:=fun Q' g a w hG hQ=>
 h (HO.buf_one (hG.heap.ok _ (List.mem_of_getElem? hk))) Q' g a w hG hQ
def vW (H:List HO):Prop:=∀v es E z,HO.buf v es E z∈H→v.oneCell'=true
theorem Ks.bufs {o:Oper}{H:List HO}{R:AV→List HO→Prop}(h:Ks P o ρ H R):Ks P o ρ H (fun r H'=>R r H'∧vW H'):=by
 intro g w a next Q hr hHK hn
 exact h g w a next Q hr hHK fun g' w' v x H' h1 h2 h3 h4=>hn g' w' v x H' ⟨h1,fun v es E z hm=>HO.buf_one (h3.ok _ hm)⟩ h2 h3 h4

theorem C6.weakV {o:Oper}{K:List HO→Prop}{x x':AV}(h:C6 P o ρ K x)(hw:∀g w u,Rep g w u x→Rep g w u x'):C6 P o ρ K x':=
 fun g w a H next Q hr hH hK hn=>h g w a H next Q hr hH hK fun g' w' v hv hH' hx=>hn g' w' v (hw _ _ _ hv) hH' hx
theorem Pk {g:Gh}{w:World}{H:List HO}{k:Nat}{v:Value}{es:List (List AV)}{E z:Nat}(hH:HOK g w H)(hk:H[k]? = some (.buf v es E z)):∃g',Ext g w g' w∧HOK g' w (H.eraseIdx k)∧Rep g' w v (.sl z es):=by
 have hok:=hH.ok _ (List.mem_of_getElem? hk)
 rcases hok with ⟨rfl,rfl⟩ | ⟨b,cap,cur,rfl,hg,hcur,hcsz,hcap,hcmax,hz1,hrep⟩
 · exact ⟨g,Ext.refl g w,hH.sub (List.eraseIdx_sublist ..),.sl0 _ _ _ (Nat.zero_le _)⟩
 ·
  have hx:Ext g w (g.put b none) w:=by
   refine ⟨rfl,rfl,rfl,Nat.le_refl _,fun c hc hgc=>⟨?_,rfl⟩,fun c m hc hgc=>⟨fun m' hm=>?_,fun _ _=>rfl⟩⟩
   ·
    by_cases e:c=b
    · subst e;exact Gh.Aae _ _ _
    · rw [Gh.Aai _ _ e];exact hgc
   ·
    by_cases e:c=b
    · subst e;rw [Gh.Aae] at hm;cases hm
    · rw [Gh.Aai _ _ e,hgc] at hm;cases hm;exact Nat.le_refl _
  refine ⟨g.put b none,hx,?_,?_⟩
  ·
   have hsub:(H.eraseIdx k).Sublist H:=List.eraseIdx_sublist ..
   refine ⟨(hH.sub hsub).nodup,fun o ho=>?_,hH.glob.mono hx⟩
   obtain ⟨j,hj⟩:=List.getElem?_of_mem ho
   rw [List.getElem?_eraseIdx] at hj
   obtain ⟨j',hjk,hj'⟩:∃j',j'≠k∧H[j']? = some o:=by
    split at hj
    · exact ⟨j,by omega,hj⟩
    · exact ⟨j+1,by omega,hj⟩
   have hok:=hH.ok o (List.mem_of_getElem? hj')
   refine HO.ok_of_same hx hok fun c hc=>⟨Gh.Aai _ _ fun e=>hjk (hH.nodup_blk hj' hk (e▸hc) rfl),rfl⟩
  ·
   refine .sl b 0 es.length cap z es rfl hcap hcmax hz1 (fun i j=>cur.getD (i*z+j) undef) (fun i e hi j y hj=>⟨by unfold Eu;rw [Gh.Aae];trivial,?_⟩) (fun i e hi j y hj=>?_)
   ·
    have h3:=Gl hz1 hi hj
    have hlt:i*z+j<cur.size:=by
     have h4:=(List.getElem?_eq_some_iff.1 h3).1
     rw [D9 hz1] at h4
     have:=Nat.mul_le_mul_right z hcap
     omega
    rw [Nat.zero_add,B8 hcur];simp [hlt]
   · exact (hrep _ _ (Gl hz1 hi hj)).mono hx
theorem Dj.front3 {f:FuncId}{args:List AV}{H R:List HO}{Q:AV→List HO→Prop}{o1 o2 o3:HO}(k3 k2 k1:Nat)(hk3:H[k3]? = some o3)(hk2:(H.eraseIdx k3)[k2]? = some o2)(hk1:((H.eraseIdx k3).eraseIdx k2)[k1]? = some o1)(hR:((H.eraseIdx k3).eraseIdx k2).eraseIdx k1=R)
  (h:Dj P f (o1::o2::o3::R) args Q):Dj P f H args Q:=by
 subst hR
 refine h.perm ?_
 have h1:=Hv hk3
 have h2:=Hv hk2
 have h3:=Hv hk1
 refine h1.trans ((h2.cons o3).trans (((h3.cons o2).cons o3).trans ?_))
 exact (List.Perm.swap o2 o3 _).trans (((List.Perm.swap o1 o3 _).cons o2).trans (List.Perm.swap o1 o2 _))
theorem GS.heapTo {sl:List (Nat×AV)}{H H2:List HO}{n:Nat}(h:H=H2):GS ⟨sl,H,n⟩ ⟨sl,H2,n⟩:=by subst h;exact GS.refl _
end
end Go.Aw

namespace Go.Proofs.YtjedflcpjlgokaaGreatDoor
open Go Go.Aw

def GT:List (Nat×Nat×Bool×Nat):=[(0,1,true,3),(1,1,true,3),(2,1,true,3)]
def F8 (ts:List (Tm×Int)):List (List AV×AV):=ts.map fun p=>(Hz p.1,.int .i64 p.2)
def bO (t u:Tm):Bool:=t.op==u.op&&(t.v==u.v&&t.field==u.field)
theorem Km {t u:Tm}:bO t u=true↔t=u:=by
 unfold bO
 cases t;cases u
 simp
def G4 (t:Tm)(k:List AV):Bool:=(Gq TL [(0,1,true,3),(1,1,true,3),(2,1,true,3)] (Hz t) k).getD false
theorem aK (t u:Tm):Gq TL [(0,1,true,3),(1,1,true,3),(2,1,true,3)] (Hz t) (Hz u)=some (bO t u):=by
 show some ((t.op==u.op)&&((t.v==u.v)&&((t.field==u.field)&&true)))=_
 rw [Bool.and_true];rfl
theorem Rb (t u:Tm):G4 t (Hz u)=bO t u:=by unfold G4;rw [aK];rfl
theorem Ib (t:Tm)(ts:List (Tm×Int)):∀p∈F8 ts,Gq TL [(0,1,true,3),(1,1,true,3),(2,1,true,3)] (Hz t) p.1=some (G4 t p.1):=by
 intro p hp
 obtain ⟨x,_,rfl⟩:=List.mem_map.1 hp
 show Gq TL _ (Hz t) (Hz x.1)=some (G4 t (Hz x.1))
 rw [aK,Rb]
theorem sW (ts:List (Tm×Int)):(F8 ts).length=ts.length:=List.length_map ..
def oF (t:Tm):List (Tm×Int)→Option Nat
 | []=>none
 | q::r=>if bO t q.1 then some 0 else (oF t r).map (· + 1)
theorem jF (t:Tm):∀ts:List (Tm×Int),Kv (G4 t) (F8 ts)=oF t ts
  | []=>rfl
  | q::r=>by
    have ih:=jF t r
    unfold F8 at ih ⊢
    rw [List.map_cons,Kv,Rb,ih,oF]
theorem bG (t:Tm):∀ts:List (Tm×Int),Gy (G4 t) (F8 ts)=(ts.find? fun q=>bO t q.1).map fun q=>.int .i64 q.2
  | []=>rfl
  | q::r=>by
    have ih:=bG t r
    unfold F8 at ih ⊢
    rw [List.map_cons,Gy,Rb,ih,List.find?_cons]
    cases bO t q.1 <;> rfl
def Fq (t:Tm)(ts:List (Tm×Int)):Int:=((ts.find? fun q=>bO t q.1).map fun q=>q.2).getD 0
def Qb (t:Tm)(ts:List (Tm×Int)):Bool:=(ts.find? fun q=>bO t q.1).isSome
theorem Nl (t:Tm)(ts:List (Tm×Int)):match Gy (G4 t) (F8 ts) with | some y=>y = .int .i64 (Fq t ts) | none=>[AV.int .i64 0] = [.int .i64 (Fq t ts)]:=by
 rw [bG]
 unfold Fq
 cases ts.find? fun q=>bO t q.1 <;> rfl
theorem has_t (t:Tm)(ts:List (Tm×Int)):(Gy (G4 t) (F8 ts)).isSome=Qb t ts:=by
 rw [bG]
 unfold Qb
 cases ts.find? fun q=>bO t q.1 <;> rfl
theorem cY {t:Tm}{ts:List (Tm×Int)}(h:Qb t ts=false):Gy (G4 t) (F8 ts)=none:=by
 rw [bG]
 unfold Qb at h
 cases hf:ts.find? fun q=>bO t q.1 with
 | none=>rfl
 | some q=>rw [hf] at h;cases h
theorem aE {t:Tm}{b:Int}:∀{ts:List (Tm×Int)},Qb t ts=false→H5 t b ts=ts ++ [(t,b)]∧Fq t ts=0
  | [],_=>⟨rfl,rfl⟩
  | q::r,h=>by
    unfold Qb at h
    rw [List.find?_cons] at h
    cases hq:bO t q.1 with
    | true=>rw [hq] at h;cases h
    | false=>
      rw [hq] at h
      obtain ⟨h1,h2⟩:=aE (t:=t) (b:=b) (ts:=r) h
      have hne:¬t=q.1:=fun he=>by rw [Km.2 he] at hq;cases hq
      refine ⟨by rw [H5,if_neg hne,h1];rfl,?_⟩
      unfold Fq at h2 ⊢
      rw [List.find?_cons,hq];exact h2
theorem bL {t:Tm}{b:Int}:∀{ts:List (Tm×Int)},Qb t ts=true→∃j,oF t ts=some j∧ts[j]? = some (t,Fq t ts)∧H5 t b ts=ts.modify j (fun p=>(p.1,Fq t ts+b))
  | [],h=>by cases h
  | q::r,h=>by
    unfold Qb at h
    rw [List.find?_cons] at h
    cases hq:bO t q.1 with
    | true=>
      have he:=Km.1 hq
      have hc:Fq t (q::r)=q.2:=by unfold Fq;rw [List.find?_cons,hq];rfl
      rw [hc]
      exact ⟨0,by rw [oF,if_pos hq],by subst he;rfl,by rw [H5,if_pos he];subst he;rfl⟩
    | false=>
      rw [hq] at h
      obtain ⟨j,h1,h2,h3⟩:=bL (t:=t) (b:=b) (ts:=r) h
      have hne:¬t=q.1:=fun he=>by rw [Km.2 he] at hq;cases hq
      have hc:Fq t (q::r)=Fq t r:=by unfold Fq;rw [List.find?_cons,hq]
      rw [hc]
      exact ⟨j+1,by rw [oF,if_neg (by rw [hq];decide),h1];rfl,by simpa using h2,by rw [H5,if_neg hne,h3];rfl⟩
theorem Us {ts:List (Tm×Int)}{j:Nat}{t:Tm}{c:Int}(h:ts[j]? = some (t,c)):(F8 ts)[j]? = some (Hz t,.int .i64 c):=by
 unfold F8;rw [List.getElem?_map,h];rfl
theorem V8 {x:Int}:∀{ts:List (Tm×Int)} {j:Nat},Nd (F8 ts) j (.int .i64 x)=F8 (ts.modify j fun p=>(p.1,x))
  | [],j=>by cases j <;> rfl
  | p::r,0=>rfl
  | p::r,j+1=>by
    have ih:=V8 (x:=x) (ts:=r) (j:=j)
    unfold Nd F8 at ih ⊢
    simp only [List.map_cons,List.modify_succ_cons]
    rw [ih]
theorem fO {ts:List (Tm×Int)}{t:Tm}{c:Int}:(F8 ts ++ [(Hz t,.int .i64 c)])[(F8 ts).length]? = some (Hz t,.int .i64 c):=by
 rw [List.getElem?_append_right (Nat.le_refl _),Nat.sub_self];rfl
theorem aV {ts:List (Tm×Int)}{t:Tm}{c x:Int}:Nd (F8 ts ++ [(Hz t,.int .i64 c)]) (F8 ts).length (.int .i64 x)=F8 (ts ++ [(t,x)]):=by
 rw [show F8 ts ++ [(Hz t,AV.int .i64 c)]=F8 (ts ++ [(t,c)]) by unfold F8;rw [List.map_append];rfl,sW,V8]
 congr 1
 induction ts with
 | nil=>rfl
 | cons a r ih=>simpa using ih

structure suOK (n:Nat) (s:Su):Prop where
 rest : -(n:Int)*1099511627776≤s.rest∧s.rest≤(n:Int)*1099511627776
 coef:∀p∈s.ts,-(n:Int)≤p.2∧p.2≤(n:Int)
 len:s.ts.length≤n
theorem Sw {e:Ex}(h:Bt e=0)(ho:e.op=0) : -1099511627776≤e.val.num∧e.val.num≤1099511627776:=by
 unfold Bt at h
 split at h
 · cases h
 split at h
 · cases h
 split at h
 · cases h
 split at h
 · cases h
 rw [if_pos (by rw [ho];rfl)] at h
 have hc:E3 e=0:=by
  by_cases hx:(E3 e != 0)=true
  · rw [if_pos hx] at h;exact h
  · simpa using hx
 have hv:An e.val=0:=by
  unfold E3 at hc
  by_cases hx:(An e.val != 0)=true
  · rw [if_pos hx] at hc;exact hc
  · simpa using hx
 have vs:e.val.kind=0∨e.val.kind=1→Dy e.val=0→-1099511627776≤e.val.num∧e.val.num≤1099511627776:=by
  intro hk hz
  unfold Dy at hz
  by_cases h1:(e.val.kind==0&&(decide (e.val.num < -1099511627776)||decide (1099511627776<e.val.num)))=true
  · rw [if_pos h1] at hz;cases hz
  ·
   rw [if_neg h1] at hz
   rcases hk with hk | hk
   · simp [hk] at h1;omega
   ·
    by_cases h2:(e.val.kind==1&&e.val.num != 0&&e.val.num != 1)=true
    · rw [if_pos h2] at hz;cases hz
    · simp [hk] at h2;omega
 unfold An at hv
 by_cases h1:(e.val.kind==0||e.val.kind==1)=true
 ·
  rw [if_pos h1] at hv
  split at hv
  · cases hv
  · exact vs (by simpa using h1) hv
 ·
  rw [if_neg h1] at hv
  by_cases h2:(e.val.kind==2)=true
  ·
   rw [if_pos h2] at hv
   by_cases h3:(e.val.num != 0)=true
   · rw [if_pos h3] at hv;cases hv
   ·
    have:e.val.num=0:=by simpa using h3
    omega
  · rw [if_neg h2] at hv;cases hv
theorem suOK.mono {n m:Nat}{s:Su}(h:suOK n s)(hm:n≤m):suOK m s:=
 ⟨by have:=h.rest;omega,fun p hp=>by have:=h.coef p hp;omega,Nat.le_trans h.len hm⟩
theorem lH {n:Nat}{t:Tm}{b:Int}(hb:b=1∨b = -1):∀{ts:List (Tm×Int)},(∀p∈ts,-(n:Int)≤p.2∧p.2≤(n:Int))→(∀p∈H5 t b ts,-((n+1:Nat):Int)≤p.2∧p.2≤((n+1:Nat):Int))∧(H5 t b ts).length≤ts.length+1
  | [],_=>by simp [H5];omega
  | q::r,h=>by
    rw [H5]
    split
    · refine ⟨fun p hp=>?_,by simp⟩
      rcases List.mem_cons.1 hp with rfl | hp
      · have:=h q (by simp);simp only;omega
      · have:=h p (by simp [hp]);omega
    · obtain ⟨h1,h2⟩:=lH hb (ts:=r) fun p hp=>h p (by simp [hp])
      refine ⟨fun p hp=>?_,by simp;omega⟩
      rcases List.mem_cons.1 hp with rfl | hp
      · have:=h p (by simp);omega
      · exact h1 p hp
theorem Vp (e:Ex):Dc e=0→∀{n:Nat} {b:Int} {s:Su},b=1∨b = -1→suOK n s→suOK (n+At e) (Bh e b s).1:=by
  refine Ex.Aaj (P:=fun e=>Dc e=0→∀{n:Nat} {b:Int} {s:Su},b=1∨b = -1→suOK n s→suOK (n+At e) (Bh e b s).1) (fun e ih hn n b s hb hs=>?_) e
  have hz:=A8 hn
  have hsz:1≤At e:=by rw [Ek];omega
  have hsum2:∀h:1<e.args.length,At (Ap e)+At (Bj e)+1≤At e:=fun h=>by
    have hp:=Ek e
    cases ha:e.args with
    | nil=>rw [ha] at h;simp at h
    | cons a r=>
      cases r with
      | nil=>rw [ha] at h;simp at h
      | cons b r=>
        have e0:Ap e=a:=by unfold Ap;rw [ha];rfl
        have e1:Bj e=b:=by unfold Bj;rw [ha];rfl
        rw [e0,e1,hp,ha];simp;omega
  rw [O0]
  unfold aY
  split
  · rename_i h0
    have hc:=Sw hz.1 (by simpa using h0)
    refine (show suOK (n+1) _ from ⟨?_,fun p hp=>by have:=hs.coef p hp;omega,by have:=hs.len;simp only;omega⟩).mono (by omega)
    have:=hs.rest
    rcases hb with rfl | rfl <;> simp only <;> omega
  · split
    · obtain ⟨h1,h2⟩:=lH (t:=Dp e) hb hs.coef
      exact (show suOK (n+1) _ from ⟨by have:=hs.rest;simp only;omega,h1,by have:=hs.len;simp only;omega⟩).mono (by omega)
    · have two:(e.op=5∨e.op=6)→∀c,(c=1∨c = -1)→suOK (n+At e) (if !((Qq (fun _ s=>(s,false)) (e.args.map Bh):Mu) b s).2 then (((Qq (fun _ s=>(s,false)) (e.args.map Bh):Mu) b s).1,false) else (Zf (fun _ s=>(s,false)) (e.args.map Bh):Mu) c ((Qq (fun _ s=>(s,false)) (e.args.map Bh):Mu) b s).1).1:=by
        intro ho c hc
        have hl:=Fh hz.1 (by omega)
        have hs2:=hsum2 hl
        rw [Lc Bh _ (by omega),Mp Bh _ hl]
        have m0:=Ba (show 0<e.args.length by omega)
        have m1:=Bw hl
        have i0:=ih _ m0 (hz.2 _ m0) hb hs
        split
        · exact i0.mono (by omega)
        · exact (ih _ m1 (hz.2 _ m1) hc i0).mono (by omega)
      split
      · rename_i h5;exact two (.inl (by simpa using h5)) b hb
      · split
        · rename_i h6;exact two (.inr (by simpa using h6)) (0-b) (by omega)
        · exact hs.mono (by omega)

abbrev Ng (m bs:Nat)(v:Value)(s:Su)(R:List HO):List HO:=.row v (s.ts.map fun p=>Hz p.1).length 103 3 :: .box bs 196 [.val (.map (some m)),.row v 3 (s.ts.map fun p=>Hz p.1),.int .i64 s.rest] :: .kmap m (F8 s.ts)::R
theorem Bf {m bs:Nat}{R:List HO}{e:Ex}{b:Int}{s:Su}{X:Su×Bool}{r:AV}{H:List HO}(h:Bh e b s=X)(k:r = .bool X.2∧∃v,H=Ng m bs v X.1 R):r = .bool (Bh e b s).2∧∃v,H=Ng m bs v (Bh e b s).1 R:=by rw [h];exact k
theorem Fe {e:Ex}{b:Int}{s:Su}(h:(e.op==0)=true):Bh e b s=(⟨s.ts,s.rest+b*e.val.num⟩,true):=by rw [O0,aY,if_pos h]
theorem B2 {e:Ex}{b:Int}{s:Su}(h:(e.op==0)=false)(h1:(e.op==1||e.op==2)=true):Bh e b s=(⟨H5 (Dp e) b s.ts,s.rest⟩,true):=by rw [O0,aY,C3 h,if_pos h1]
theorem Ge {e:Ex}{b:Int}{s:Su}(h:(e.op==0)=false)(h1:(e.op==1||e.op==2)=false)(h2:(e.op==5)=false)(h3:(e.op==6)=false):Bh e b s=(s,false):=by rw [O0,aY,C3 h,C3 h1,C3 h2,C3 h3]
theorem Jp {e:Ex}{b c:Int}{s:Su}(hl:1<e.args.length)(h:(e.op=5∧c=b)∨(e.op=6∧c=0-b)):Bh e b s=if !(Bh (Ap e) b s).2 then ((Bh (Ap e) b s).1,false) else Bh (Bj e) c (Bh (Ap e) b s).1:=by
 rw [O0,aY]
 rcases h with ⟨h,rfl⟩ | ⟨h,rfl⟩
 · rw [C3 (by simp;omega),C3 (by simp;omega),if_pos (by simpa using h),Lc Bh _ (by omega),Mp Bh _ hl]
 · rw [C3 (by simp;omega),C3 (by simp;omega),C3 (by simp;omega),if_pos (by simpa using h),Lc Bh _ (by omega),Mp Bh _ hl]
theorem oN {e:Ex}{b c:Int}{s:Su}(hl:1<e.args.length)(h:(e.op=5∧c=b)∨(e.op=6∧c=0-b))(hG:Ig [((Bh (Ap e) b s).2,true)]):Bh e b s=Bh (Bj e) c (Bh (Ap e) b s).1:=by
 have h2:(Bh (Ap e) b s).2=true:=hG _ (List.mem_singleton.2 rfl)
 rw [Jp hl h,h2];rfl
theorem Zj {m bs:Nat}{R:List HO}{v:Value}{e:Ex}{b c:Int}{s:Su}(hl:1<e.args.length)(h:(e.op=5∧c=b)∨(e.op=6∧c=0-b))(hG:¬Ig [((Bh (Ap e) b s).2,true)]):∃u,Ng m bs v (Bh (Ap e) b s).1 R=Ng m bs u (Bh e b s).1 R:=by
 have h2:(Bh (Ap e) b s).2=false:=by
  rw [Bool.eq_false_iff]
  intro hx
  exact hG fun p hp=>by rw [List.mem_singleton.1 hp];exact hx
 refine ⟨v,?_⟩
 rw [Jp hl h,h2];rfl
theorem C2 {e:Ex}{b c:Int}{s:Su}(hl:1<e.args.length)(h:(e.op=5∧c=b)∨(e.op=6∧c=0-b)):((Bh (Ap e) b s).2&&(Bh (Bj e) c (Bh (Ap e) b s).1).2)=(Bh e b s).2:=by
 rw [Jp hl h]
 cases hq:(Bh (Ap e) b s).2 <;> simp
theorem dQ {f:FuncId}{m bs:Nat}{R:List HO}{e:Ex}{b c:Int}{s:Su}{args:List AV}{H:List HO}(hl:1<e.args.length)(h:(e.op=5∧c=b)∨(e.op=6∧c=0-b))(hG:Ig [((Bh (Ap e) b s).2,true)])(hc:Dj Tryz.prog f H args fun r H'=>r = .bool (Bh (Bj e) c (Bh (Ap e) b s).1).2∧∃v,H'=Ng m bs v (Bh (Bj e) c (Bh (Ap e) b s).1).1 R) :
  Dj Tryz.prog f H args fun r H'=>r = .bool (Bh (Bj e) c (Bh (Ap e) b s).1).2∧∃v,H'=Ng m bs v (Bh e b s).1 R:=by
 rw [oN hl h hG];exact hc
theorem Fy {m bs:Nat}{v:Value}{R:List HO}{t:Tm}{b:Int}{s:Su}(h:Qb t s.ts=false) :
  (HO.row v ((s.ts.map fun p=>Hz p.1) ++ [Hz t]).length 103 3 :: .box bs 196 [.val (.map (some m)),.row v 3 ((s.ts.map fun p=>Hz p.1) ++ [Hz t]),.int .i64 s.rest] :: .kmap m (Nd (F8 s.ts ++ [(Hz t,.int .i64 0)]) (F8 s.ts).length (.int .i64 (Fq t s.ts+b)))::R)=Ng m bs v ⟨H5 t b s.ts,s.rest⟩ R:=by
 obtain ⟨h1,h2⟩:=aE (b:=b) h
 rw [aV,h1,h2,Int.zero_add]
 show _=HO.row v ((s.ts ++ [(t,b)]).map fun p=>Hz p.1).length 103 3::_
 rw [List.map_append];rfl
theorem nF {c:Int}:∀(l:List (Tm×Int)) (j:Nat),((l.modify j (fun p=>(p.1,c))).map fun p=>Hz p.1)=l.map fun p=>Hz p.1
 | [],j=>by cases j <;> rfl
 | a::r,0=>rfl
 | a::r,j+1=>by simp only [List.modify_succ_cons,List.map_cons];rw [nF r j]
theorem Fx {m bs j:Nat}{v:Value}{R:List HO}{t:Tm}{b:Int}{s:Su}(h3:H5 t b s.ts=s.ts.modify j (fun p=>(p.1,Fq t s.ts+b))) :
  (HO.row v (s.ts.map fun p=>Hz p.1).length 103 3 :: .box bs 196 [.val (.map (some m)),.row v 3 (s.ts.map fun p=>Hz p.1),.int .i64 s.rest] :: .kmap m (Nd (F8 s.ts) j (.int .i64 (Fq t s.ts+b)))::R)=Ng m bs v ⟨H5 t b s.ts,s.rest⟩ R:=by
 have hm:=nF (c:=Fq t s.ts+b) s.ts j
 rw [V8,h3]
 show _=HO.row v ((s.ts.modify j (fun p=>(p.1,Fq t s.ts+b))).map fun p=>Hz p.1).length 103 3::HO.box bs 196 [.val (.map (some m)),.row v 3 ((s.ts.modify j (fun p=>(p.1,Fq t s.ts+b))).map fun p=>Hz p.1),.int .i64 s.rest]::_
 rw [hm]
theorem X5 {a b:Bool}(h:a=true):(a||b)=true:=by rw [h];rfl
theorem Zi {a b:Bool}(h:b=true):(a||b)=true:=by rw [h];simp
theorem aU {a b:Bool}(h:a=false)(h':b=false):(a||b)=false:=by rw [h,h'];rfl
theorem U1 {n:Nat}{s:Su}(h:suOK n s)(t:Tm) : -(n:Int)≤Fq t s.ts∧Fq t s.ts≤(n:Int):=by
 unfold Fq
 cases hf:s.ts.find? fun q=>bO t q.1 with
 | none=>simp only [Option.map_none,Option.getD_none];omega
 | some q=>exact h.coef q (List.mem_of_find?_eq_some hf)
theorem lN {P:Program}{o:Oper}{ρ:Operand→AV}{x:AV}{a b:HO}{K:List HO→Prop}(h1:∀k:Nat,C6 P o ρ (fun H=>H[k]? = some a) x)(h2:∀k:Nat,C6 P o ρ (fun H=>H[k]? = some b) x)(h:∀H,K H→a∈H∨b∈H):C6 P o ρ K x:=by
 intro g w c H next Q hr hH hk hn
 rcases h H hk with h | h
 ·
  obtain ⟨k,hk⟩:=List.getElem?_of_mem h
  exact h1 k g w c H next Q hr hH hk hn
 ·
  obtain ⟨k,hk⟩:=List.getElem?_of_mem h
  exact h2 k g w c H next Q hr hH hk hn
theorem dS (t:Tm)(ts:List (Tm×Int)):∀p∈F8 ts ++ [(Hz t,AV.int .i64 0)],Gq TL [(0,1,true,3),(1,1,true,3),(2,1,true,3)] (Hz t) p.1=some (G4 t p.1):=by
 have:F8 ts ++ [(Hz t,AV.int .i64 0)]=F8 (ts ++ [(t,0)]):=by unfold F8;rw [List.map_append];rfl
 rw [this];exact Ib t _
theorem lS {t:Tm}{ts:List (Tm×Int)}(h:Qb t ts=false):match Gy (G4 t) (F8 ts ++ [(Hz t,AV.int .i64 0)]) with | some y=>y = .int .i64 (Fq t ts) | none=>[AV.int .i64 0] = [.int .i64 (Fq t ts)]:=by
 have h1:F8 ts ++ [(Hz t,AV.int .i64 0)]=F8 (ts ++ [(t,0)]):=by unfold F8;rw [List.map_append];rfl
 have h2:Fq t (ts ++ [(t,0)])=Fq t ts:=by
  rw [(aE (b:=0) h).2]
  unfold Fq
  unfold Qb at h
  rw [List.find?_append]
  cases hf:ts.find? fun q=>bO t q.1 with
  | some q=>rw [hf] at h;cases h
  | none=>rw [List.find?_cons,Km.2 rfl];rfl
 rw [h1,←h2];exact Nl t _
theorem Dl {e:Ex}(h:1<e.args.length):At (Ap e)+At (Bj e)+1≤At e:=by
  have hp:=Ek e
  cases ha:e.args with
  | nil=>rw [ha] at h;simp at h
  | cons a r=>
    cases r with
    | nil=>rw [ha] at h;simp at h
    | cons b r=>
      have e0:Ap e=a:=by unfold Ap;rw [ha];rfl
      have e1:Bj e=b:=by unfold Bj;rw [ha];rfl
      rw [e0,e1,hp,ha];simp;omega
end Go.Proofs.YtjedflcpjlgokaaGreatDoor
