/-
  The abstract layer: abstract values, what represents them, states, operations, code, calls. No condition.
-/
import Derived.Test.YtjedflcpjlgokaaGreatDoorAv
set_option linter.unusedVariables false
set_option linter.unusedSimpArgs false
namespace Go.Aw

section
variable {P:Program} {Q:Exit→St→Prop} {N:St→Prop} {s:St}
theorem Ad (h:N s):Kc N Q .normal s:=h
theorem A5 {i:Nat}(h:Q (.exit i) s):Kc N Q (.exit i) s:=h
theorem Aj (h:Q .ret s):Kc N Q .ret s:=h
theorem Bu {i:Nat}(h:Q .normal s):Qd i Q .normal s:=h
theorem Bb {i:Nat}(h:Q .ret s):Qd i Q .ret s:=h
theorem Bq {i:Nat}(h:Q .normal s):Qd i Q (.exit i) s:=by
 show (bif Nat.beq i i then Q .normal s else Q (.exit i) s)
 rw [Nat.beq_refl];exact h
theorem GS.refl (s:St):GS s s:=fun g _ w h=>⟨g,h,Ext.refl g w⟩
theorem GS.trans {s t u:St}(h:GS s t)(k:GS t u):GS s u:=fun g a w hG=>
 let ⟨g',hG',hx⟩:=h g a w hG
 let ⟨g'',hG'',hy⟩:=k g' a w hG'
 ⟨g'',hG'',hx.trans hy⟩

theorem AW.Aao {c:Code}{ι:Type}(S:ι→St)(R:ι→Prop)(μ:ι→Nat)(i:ι)(h0:R i)(g0:GS s (S i))(round:∀i,R i→AW P c (Kc (fun s'=>∃j,R j∧μ j<μ i∧GS s' (S j)) Q) (S i)):AW P (.loop c) Q s:=by
 refine AW.loop (fun n s=>∃i,R i∧μ i=n∧GS s (S i)) (μ i) ⟨i,h0,rfl,g0⟩ ?_
 rintro n s ⟨i,hR,rfl,hG⟩
 refine AW.ghost hG ((round i hR).mono ?_)
 intro e s' h
 cases e with
 | normal=>obtain ⟨j,h1,h2,h3⟩:=h;exact ⟨μ j,h2,j,h1,rfl,h3⟩
 | _=>exact h

theorem AW.cut {x y:Code}{ι:Type}(S:ι→St)(R:ι→Prop)(h:AW P x (Kc (fun s'=>∃i,R i∧GS s' (S i)) Q) s)(k:∀i,R i→AW P y Q (S i)):AW P (.seq x y) Q s:=by
 refine AW.seq (h.mono ?_)
 intro e s' hs
 cases e with
 | normal=>obtain ⟨i,h1,h2⟩:=hs;exact AW.ghost h2 (k i h1)
 | _=>exact hs
end

theorem Ff {c:List AV}(h:Be c=true):∀x∈[c],Be x=true:=by
 intro x hx;simp only [List.mem_singleton] at hx;subst hx;exact h
theorem rK:∀x∈([]:List (List AV)),Be x=true:=by simp
theorem Ed {α:Type}{f:α→List AV}{l:List α}(h:∀a,Be (f a)=true):∀x∈l.map f,Be x=true:=by
 intro x hx
 obtain ⟨a,_,rfl⟩:=List.mem_map.1 hx
 exact h a

def nC (G:List (Bool×Bool))(sl:List (Nat×AV)):List (Nat×AV)→Prop
 | []=>True
 | (t,x)::r=>qN G (get sl t) x∧nC G sl r
theorem nC.all {G:List (Bool×Bool)}{sl:List (Nat×AV)}:∀{L:List (Nat×AV)},nC G sl L→∀p∈L,qN G (get sl p.1) p.2
  | [],_,p,hp=>by cases hp
  | (t,x)::r,h,p,hp=>by
    rcases List.mem_cons.1 hp with rfl | hp
    · exact h.1
    · exact nC.all h.2 p hp
end Go.Aw
namespace Go.Aw

def bF:List (Int×AV)→Int→Option AV
 | [],_=>none
 | (k,x)::r,n=>if k=n then some x else bF r n

section
variable {P:Program} {T:List (Nat×TD)} {d:Option Nat} {ty:TypeId} {pos:String} {aft:Array Edge} {gd:Option (Nat×Bool)} {ρ:Operand→AV} {K:List HO→Prop}

theorem Il {t:TypeId}{x:TD}{k e:Nat}(h:TyOK P t x)(hk:x.kind = .map k e):P.underlying t=some (.map k e):=by
 obtain ⟨u,hu,_,hk'⟩:=h.desc
 rw [hk] at hk'
 cases u <;> simp only [L4] at hk' <;> first | exact hk'.elim | (obtain ⟨rfl,rfl⟩:=hk';exact hu)

theorem nJ {t:TypeId}{H:List HO}:Km P ⟨d,.makeMap t none,ty,pos,aft,gd⟩ ρ H (fun x H'=>∃b,x = .val (.map (some b))∧H' = .mapo b []::H):=by
 intro g w a next Q hr hH hn
 unfold Oper.wp
 simp only [execOp,Instr.makeMap,Option.map_none,Sem.run_bind,Sem.run_pure,run_newObj,Result.andThen_ok]
 have hx:=Ext.alloc g w (.map #[] 0) (some 0)
 refine hn (g.put w.heap.size (some 0)) _ _ _ _ ⟨w.heap.size,rfl,rfl⟩ (.val _) ((hH.alloc _ (some 0)).cons ⟨Gh.Aap _ _ _,#[],0,Da w _,rfl,by simp,by simp⟩ ?_) hx
 intro b hb x hx' hb'
 simp only [HO.blk,Option.some.injEq] at hb
 have:=(HO.ok_lt (hH.ok x hx') hb').1
 omega

theorem Rf {k:IntKind}{n:Int}:∀(l:List MapEntry) (es:List (Int×AV)) (i:Nat),l.length=es.length→(∀(j:Nat) m x,es[j]? = some (m,x)→(l.getD j default).key = .int .i64 m)→bF es n=none→
    Instr.findNow (.int k) (.int .i64 n) l i=some none
  | [],_,_,_,_,_=>rfl
  | e::l,[],_,h,_,_=>by simp at h
  | e::l,(m,x)::es,i,h,hk,hg=>by
    have h1:e.key = .int .i64 m:=by simpa using hk 0 m x rfl
    simp only [bF] at hg
    by_cases hm:m=n
    · simp [hm] at hg
    · rw [if_neg hm] at hg
      have:(n==m)=false:=by simp;exact fun e=>hm e.symm
      unfold Instr.findNow
      simp only [h1,Instr.sameNow,if_true,this]
      exact Rf l es (i+1) (by simpa using h) (fun j m x hj=>by simpa using hk (j+1) m x hj) hg

theorem Si {k:IntKind}{n:Int}{x:AV}{g:Gh}{w:World}:∀(l:List MapEntry) (es:List (Int×AV)) (i:Nat),l.length=es.length→(∀(j:Nat) m x,es[j]? = some (m,x)→(l.getD j default).key = .int .i64 m)→(∀(j:Nat) m x,es[j]? = some (m,x)→Rep g w (l.getD j default).val x)→bF es n=some x→
    ∃i' v,Instr.findNow (.int k) (.int .i64 n) l i=some (some (i',v))∧Rep g w v x
  | [],[],_,_,_,_,hg=>by simp [bF] at hg
  | [],_::_,_,h,_,_,_=>by simp at h
  | e::l,[],_,h,_,_,_=>by simp at h
  | e::l,(m,y)::es,i,h,hk,hv,hg=>by
    have h1:e.key = .int .i64 m:=by simpa using hk 0 m y rfl
    have h2:Rep g w e.val y:=by simpa using hv 0 m y rfl
    simp only [bF] at hg
    by_cases hm:m=n
    · subst hm
      simp only [if_true,Option.some.injEq] at hg;subst hg
      refine ⟨i,e.val,?_,h2⟩
      unfold Instr.findNow
      simp [h1,Instr.sameNow]
    · rw [if_neg hm] at hg
      have:(n==m)=false:=by simp;exact fun e=>hm e.symm
      unfold Instr.findNow
      simp only [h1,Instr.sameNow,if_true,this]
      exact Si l es (i+1) (by simpa using h) (fun j m x hj=>by simpa using hk (j+1) m x hj) (fun j m x hj=>by simpa using hv (j+1) m x hj) hg

theorem Rg {n:Nat}{kt:TypeId}{k:IntKind}(h:P.underlying kt=some (.int k)){b:Bool}{j:IntKind}{m:Int}(w:World):(Instr.checkKey b (n+1) kt (.int j m)).run P w = .ok () w:=by
 unfold Instr.checkKey
 rw [Sem.run_bind,Ba h];rfl

theorem Ld {t:TypeId}{m k v:Operand}{kt et b i:Nat}{td tk:TD}{kk:IntKind}{n:Int}{es:List (Int×AV)}{x:AV}{H H2:List HO}(hT:Hb P T)(ht:Bv T t=some td)(hk:td.kind = .map kt et)(htk:Bv T kt=some tk)(hkk:tk.kind = .int kk)
  (hm:ρ m = .val (.map (some b))) (hkey:ρ k = .int .i64 n) (hv:ρ v=x) (hH:H[i]? = some (.mapo b es)) (hnew:bF es n=none) (hH2:H.set i (.mapo b (es ++ [(n,x)]))=H2) :
  Km P ⟨d,.insert t m k v,ty,pos,aft,gd⟩ ρ H (fun y H'=>y = .junk∧H'=H2):=by
 subst hH2
 intro g w a next Q hr hHK hn
 have h1:=(hm▸hr m (by simp [Op.operands]):Rep g w _ _).inv_val
 have h2:=(hkey▸hr k (by simp [Op.operands]):Rep g w _ _).inv_int
 have h3:Rep g w (a.eval v) x:=hv▸hr v (by simp [Op.operands])
 obtain ⟨hg,ms,clock,hheap,hl,hks,hvs⟩:=hHK.ok _ (List.mem_of_getElem? hH)
 have hb:b<w.heap.size:=(Array.getElem?_eq_some_iff.1 hheap).1
 have hu:=Il (hT t td ht) hk
 have huk:=J9 (hT kt tk htk) hkk
 have hl':ms.toList.length=es.length:=by simpa using hl
 have hfind:=Rf (k:=kk) (n:=n) ms.toList es 0 hl' (fun j m x hj=>by simpa using hks j m x hj) hnew
 have hget:(getObj b).run P w = .ok (.map ms clock) w:=by simp [getObj,Sem.run,hheap]
 have hset:∀o:Obj,(setObj b o).run P w = .ok () { w with heap:=w.heap.setIfInBounds b o }:=fun o=>by simp [setObj,Sem.run,hheap]
 have hrun:(Instr.mapUpdate t (a.eval m) (a.eval k) (a.eval v)).run P w = .ok () { w with heap:=w.heap.setIfInBounds b (.map (ms.push { key:=.int .i64 n,val:=a.eval v,born:=clock }) (clock+1)) }:=by
  unfold Instr.mapUpdate
  rw [Sem.run_bind,Ba hu]
  simp only [Result.andThen_ok,h1,Sem.run_bind,hget,h2,Rg (n:=9999) huk]
  have hfk:(Instr.findKey kt (.int .i64 n) ms.toList).run P w = .ok none w:=by
   unfold Instr.findKey
   rw [Sem.run_bind,Ba huk]
   simp only [Result.andThen_ok,hfind,Sem.run_pure]
  simp only [hfk,Result.andThen_ok,hset]
 unfold Oper.wp
 simp only [execOp,Sem.run_bind,hrun,Result.andThen_ok,Sem.run_pure]
 have hnew':({ w with heap:=w.heap.setIfInBounds b (.map (ms.push { key:=.int .i64 n,val:=a.eval v,born:=clock }) (clock+1)) }:World).heap[b]? = some (.map (ms.push { key:=.int .i64 n,val:=a.eval v,born:=clock }) (clock+1)):=by
  simp [hb]
 have hoth:∀c,c≠b→({ w with heap:=w.heap.setIfInBounds b (.map (ms.push { key:=.int .i64 n,val:=a.eval v,born:=clock }) (clock+1)) }:World).heap[c]? = w.heap[c]? :=fun c hc=>by
  simp [Array.getElem?_setIfInBounds_ne (Ne.symm hc)]
 have hx:Ext g w g { w with heap:=w.heap.setIfInBounds b (.map (ms.push { key:=.int .i64 n,val:=a.eval v,born:=clock }) (clock+1)) }:=by
  refine ⟨rfl,rfl,rfl,by simp,fun c hc hgc=>⟨hgc,hoth c fun e=>by rw [e,hg] at hgc;cases hgc⟩,fun c m' hc hgc=>⟨fun m'' hm''=>by rw [hgc] at hm'';cases hm'';exact Nat.le_refl _,fun o ho=>?_⟩⟩
  have hne:c≠b:=fun e=>by rw [e,hg] at hgc;cases hgc;omega
  unfold World.cell?
  rw [hoth c hne]
 refine hn g _ undef .junk _ ⟨rfl,rfl⟩ (.junk _) (hHK.set hx hH (fun c hc=>.inl hc) ⟨hg,_,_,hnew',by simp [hl],?_,?_⟩ (fun c hc hne _=>⟨rfl,hoth c fun e=>hne (by rw [e];rfl)⟩)) hx
 ·
  intro j m' y hj
  rw [List.getElem?_append] at hj
  split at hj
  ·
   rename_i hlt
   have:=hks j m' y hj
   have hlt':j<ms.size:=by omega
   simpa [Array.getD_eq_getD_getElem?,Array.getElem?_push,show j≠ms.size by omega] using this
  ·
   rename_i hlt
   have:j-es.length=0:=by
    rcases Nat.eq_zero_or_pos (j-es.length) with h | h
    · exact h
    · rw [List.getElem?_eq_none (by simp;omega)] at hj;cases hj
   rw [this] at hj;simp at hj
   have hj':j=ms.size:=by omega
   subst hj'
   simp [Array.getD_eq_getD_getElem?,hj.1]
 ·
  intro j m' y hj
  rw [List.getElem?_append] at hj
  split at hj
  ·
   rename_i hlt
   have:=(hvs j m' y hj).mono hx
   have hlt':j<ms.size:=by omega
   simpa [Array.getD_eq_getD_getElem?,Array.getElem?_push,show j≠ms.size by omega] using this
  ·
   rename_i hlt
   have:j-es.length=0:=by
    rcases Nat.eq_zero_or_pos (j-es.length) with h | h
    · exact h
    · rw [List.getElem?_eq_none (by simp;omega)] at hj;cases hj
   rw [this] at hj;simp at hj
   have hj':j=ms.size:=by omega
   subst hj'
   simp only [Array.getD_eq_getD_getElem?,Array.getElem?_push,if_true,Option.getD_some]
   rw [←hj.2];exact h3.mono hx

theorem GS.freezeMap {sl:List (Nat×AV)}{H:List HO}{n t b:Nat}{es:List (Int×AV)}(k:Nat)(h:get sl t = .val (.map (some b)))(hk:H[k]? = some (.mapo b es)):GS ⟨sl,H,n⟩ ⟨(t,.mapv es)::sl,H.eraseIdx k,n⟩:=fun g a w hG=>by
 obtain ⟨hg,ms,clock,h1,h2,h3,h4⟩:=hG.heap.ok _ (List.mem_of_getElem? hk)
 have hx:Ext g w (g.put b none) w:=by
  refine ⟨rfl,rfl,rfl,Nat.le_refl _,fun c hc hgc=>⟨?_,rfl⟩,fun c m hc hgc=>⟨fun m' hm=>?_,fun _ _=>rfl⟩⟩
  ·
   by_cases e:c=b
   · subst e;exact Gh.Aap _ _ _
   · rw [Gh.Aau _ _ e];exact hgc
  ·
   by_cases e:c=b
   · subst e;rw [Gh.Aap] at hm;cases hm
   · rw [Gh.Aau _ _ e,hgc] at hm;cases hm;exact Nat.le_refl _
 refine ⟨g.put b none,⟨hG.size,hG.defers,fun i=>?_,?_⟩,hx⟩
 ·
  show Rep _ w _ (get ((t,.mapv es)::sl) i)
  rw [Fg]
  by_cases e:t=i
  ·
   subst e
   simp only [if_true]
   have h5:a.tmps.getD t undef = .map (some b):=(h▸hG.sl t:Rep g w _ _).inv_val
   rw [h5]
   exact .mapv b ms clock es (Gh.Aap _ _ _) (Array.getElem?_eq_some_iff.1 h1).1 h1 h2 h3 (fun i k x hi=>(h4 i k x hi).mono hx)
  · simp only [e,if_false];exact (hG.sl i).mono hx
 ·
  have hsub:(H.eraseIdx k).Sublist H:=List.eraseIdx_sublist ..
  refine ⟨(hG.heap.sub hsub).nodup,fun o ho=>?_,hG.heap.glob.mono hx⟩
  obtain ⟨j,hj⟩:=List.getElem?_of_mem ho
  rw [List.getElem?_eraseIdx] at hj
  obtain ⟨j',hjk,hj'⟩:∃j',j'≠k∧H[j']? = some o:=by
   split at hj
   · exact ⟨j,by omega,hj⟩
   · exact ⟨j+1,by omega,hj⟩
  have hok:=hG.heap.ok o (List.mem_of_getElem? hj')
  refine HO.ok_of_same hx hok fun c hc=>⟨Gh.Aau _ _ fun e=>hjk (hG.heap.nodup_blk hj' hk (e▸hc) rfl),rfl⟩

theorem tV {t:TypeId}{m k:Operand}{kt et:Nat}{td tk:TD}{kk:IntKind}{n:Int}{es:List (Int×AV)}{x:AV}(hT:Hb P T)(ht:Bv T t=some td)(hk:td.kind = .map kt et)(htk:Bv T kt=some tk)(hkk:tk.kind = .int kk)
    (hm:ρ m = .mapv es) (hkey:ρ k = .int .i64 n) (hx:bF es n=some x):Dn P ⟨d,.lookup t m k false,ty,pos,aft,gd⟩ ρ K x:=
  .of_run fun g w a hr=>by
    have h1:=(hm▸hr m (by simp [Op.operands]):Rep g w _ _)
    have h2:=(hkey▸hr k (by simp [Op.operands]):Rep g w _ _).inv_int
    have hu:=Il (hT t td ht) hk
    have huk:=J9 (hT kt tk htk) hkk
    generalize he:a.eval m=vm at h1
    cases h1 with
    | mapv b ms clock _ hg hb hheap hl hks hvs=>
      obtain ⟨i',v,hf,hrep⟩:=Si (k:=kk) (n:=n) (x:=x) (g:=g) (w:=w) ms.toList es 0 (by simpa using hl) (fun j m x hj=>by simpa using hks j m x hj) (fun j m x hj=>by simpa using hvs j m x hj) hx
      refine ⟨v,?_,hrep⟩
      have hget:(getObj b).run P w = .ok (.map ms clock) w:=by simp [getObj,Sem.run,hheap]
      have hfk:(Instr.findKey kt (.int .i64 n) ms.toList).run P w = .ok (some (i',v)) w:=by
        unfold Instr.findKey
        rw [Sem.run_bind,Ba huk]
        simp only [Result.andThen_ok,hf,Sem.run_pure]
      simp only [execOp,Instr.lookup,Sem.run_bind,Ba hu,Result.andThen_ok,he,hget,Sem.run_pure,h2,Rg (n:=9999) huk,hfk,Bool.false_eq_true,if_false]

end
end Go.Aw
namespace Go.Aw
section
variable {P:Program} {T:List (Nat×TD)} {ρ:Operand→AV} {K:List HO→Prop} {d:Option Nat} {ty:TypeId} {pos:String} {aft:Array Edge} {gd:Option (Nat×Bool)}

theorem Iz {x i:Operand}{t e len:Nat}{td te:TD}{k:IntKind}{n:Int}{cs:List AV}{c:AV}(hT:Hb P T)(h:ρ x = .agg cs)(hi:ρ i = .int k n)(ht:Bv T t=some td)(hk:td.kind = .array len e)
  (hte:Bv T e=some te) (hz:te.size=1) (ha:te.agg=false) (h0:0≤n) (hl:n<len) (hc:cs[n.toNat]? = some c):Dn P ⟨d,.index t x i,ty,pos,aft,gd⟩ ρ K c:=
 .of_run fun g w a hr=>by
  obtain ⟨vs,h1,h2⟩:=(h▸hr x (by simp [Op.operands]):Rep g w _ _).inv_agg
  have h4:=(hi▸hr i (by simp [Op.operands]):Rep g w _ _).inv_int
  have hu:=Zc (hT t td ht) hk
  have hlt:n.toNat<vs.size:=by rw [h2.1];exact (List.getElem?_eq_some_iff.1 hc).1
  refine ⟨vs.getD n.toNat undef,?_,h2.2 _ _ hc⟩
  simp only [execOp,h1,h4,Instr.index,asIntOf,Sem.run_bind,Sem.run_pure,Result.andThen_ok,Ba hu]
  simp [h0,hl,Hq (hT e te hte),hz,part,Mg (hT e te hte),ha,hlt]

def V9 (z:Nat):Nat→Nat→List (Nat×Nat×Bool×Nat)
 | _,0=>[]
 | k,n+1=>(k*z,z,true,0)::V9 z (k+1) n

theorem Zq (z:Nat):∀(n k i:Nat) (off zz:Nat) (nm:Bool) (ft:Nat),(V9 z k n)[i]? = some (off,zz,nm,ft)→off=(k+i)*z∧zz=z
  | 0,_,i,_,_,_,_,h=>by simp [V9] at h
  | n+1,k,0,off,zz,nm,ft,h=>by simp [V9] at h;exact ⟨h.1.symm,h.2.1.symm⟩
  | n+1,k,i+1,off,zz,nm,ft,h=>by
    simp only [V9,List.getElem?_cons_succ] at h
    obtain ⟨h1,h2⟩:=Zq z n (k+1) i off zz nm ft h
    exact ⟨by rw [h1];congr 1;omega,h2⟩

theorem Jp {t e len:Nat}{td te:TD}{parts:Array (Nat×Operand)}{l:List AV}(hT:Hb P T)(ht:Bv T t=some td)(hk:td.kind = .array len e)(hte:Bv T e=some te)
    (h:Ua (V9 te.size 0 len) td.zero (L5 ρ parts.toList)=some l):Dn P ⟨d,.build t parts,ty,pos,aft,gd⟩ ρ K (.agg l):=
  .of_run fun g w a hr=>by
    have hu:=Zc (hT t td ht) hk
    obtain ⟨it,hit,_,_,z,hz,hzs,hzr⟩:=(hT t td ht).info
    obtain ⟨cells',h1,h2⟩:=U2 (g:=g) (w:=w) (fs:=V9 te.size 0 len) (place:=fun i=>some (i*te.size,te.size)) (fun i off zz nm ft hf=>by
        obtain ⟨h1,h2⟩:=Zq _ _ _ _ _ _ _ _ hf
        subst h2;subst h1;simp) (parts.toList.map fun p=>(p.1,a.eval p.2)) (L5 ρ parts.toList) z.cells td.zero l (by simp [Js]) (fun k p q hp hq=>by
        rw [Js,List.getElem?_map] at hq
        rw [List.getElem?_map] at hp
        cases hk':parts.toList[k]? with
        | none=>simp [hk'] at hp
        | some r=>
          simp only [hk',Option.map_some,Option.some.injEq] at hp hq
          subst hp;subst hq
          exact ⟨rfl,hr r.2 (by simp only [Op.operands,List.mem_toArray,List.mem_map];exact ⟨r,List.mem_of_getElem? hk',rfl⟩)⟩) (hzr g w) h
    refine ⟨.agg cells',?_,.agg _ _ h2.1 h2.2⟩
    have hb:P.built t (parts.map fun (i,x)=>(i,a.eval x)).toList=some cells':=by
      obtain ⟨ie,hie,hse,_⟩:=(hT e te hte).info
      unfold Program.built
      simp only [hit,hu,hz,hie,hse]
      simpa using h1
    simp only [execOp,Sem.run_bind,run_build w t _ _ hb,Result.andThen_ok,Sem.run_pure]

theorem GS.cell {sl:List (Nat×AV)}{H H2:List HO}{n b TT:Nat}{cs cs':List AV}(k o:Nat){c c':AV}(hk:H[k]? = some (.box b TT cs))(hc:cs[o]? = some c)(hcs:cs.set o c'=cs')(hH2:H.set k (.box b TT cs')=H2)
  (hw:∀g w v,Rep g w v c→Rep g w v c'):GS ⟨sl,H,n⟩ ⟨sl,H2,n⟩:=fun g a w hG=>by
 subst hcs;subst hH2
 refine ⟨g,⟨hG.size,hG.defers,hG.sl,?_⟩,Ext.refl g w⟩
 refine hG.heap.set (Ext.refl g w) hk (fun b h=>.inl h) ?_ (fun _ _ _ _=>⟨rfl,rfl⟩)
 obtain ⟨h1,vs,h2,h3,h4⟩:=hG.heap.ok _ (List.mem_of_getElem? hk)
 refine ⟨h1,vs,h2,by simpa using h3,fun i x hi=>?_⟩
 rw [List.getElem?_set] at hi
 split at hi
 ·
  rename_i e;subst e
  split at hi
  · cases hi;exact hw g w _ (h4 _ _ hc)
  · cases hi
 · exact h4 i x hi

theorem Ej {v:Value}{z:Nat}{es:List (List AV)}:∀g w u,Rep g w u (.row v z es)→Rep g w u (.sl z es):=fun _ _ _ h=>h.inv_row.2
theorem vG {z:Nat}:∀g w u,Rep g w u (.val (.slice none 0 0))→Rep g w u (.sl z []):=fun g w u h=>by rw [h.inv_val];exact .sl0 _ _ _ (Nat.zero_le _)

theorem GS.cellRow {sl:List (Nat×AV)}{H H2:List HO}{n b TT:Nat}{cs cs':List AV}(k o E z:Nat)(hk:H[k]? = some (.box b TT cs))(hc:cs[o]? = some (.val (.slice none 0 0)))
  (hcs:cs.set o (.row (.slice none 0 0) z [])=cs') (hH2:H.set k (.box b TT cs')=H2):GS ⟨sl,H,n⟩ ⟨sl,.row (.slice none 0 0) 0 E z::H2,n⟩:=fun g a w hG=>by
 have h1:GS ⟨sl,H,n⟩ ⟨sl,H2,n⟩:=GS.cell k o hk hc hcs hH2 (fun g w u h=>by rw [h.inv_val];exact .row _ _ _ (.sl0 _ _ _ (Nat.zero_le _)))
 obtain ⟨g',hG',hx⟩:=h1 g a w hG
 exact ⟨g',⟨hG'.size,hG'.defers,hG'.sl,hG'.heap.cons (.inl ⟨rfl,rfl⟩) (fun b hb=>by cases hb)⟩,hx⟩

theorem AW.sllen {c:Code}{Q:Exit→St→Prop}{s:St}{z:Nat}{es:List (List AV)}(t:Nat)(h:get s.sl t = .sl z es)(k:es.length≤maxLen→AW P c Q s):AW P c Q s:=by
 intro Q' g a w hG hQ
 obtain ⟨_,n,cap,_,h1,h2,h3,_⟩:=(h▸hG.sl t:Rep g w _ _).inv_sl
 exact k (by omega) Q' g a w hG hQ
theorem OpP.Aaq {o:Oper}{x:AV}{ho:HO}{KK:List HO→Prop}(h:∀k:Nat,Dn P o ρ (fun H=>H[k]? = some ho) x)(hK:∀H,KK H→ho∈H):Dn P o ρ KK x:=by
 intro g w a H next Q hr hH hk hn
 obtain ⟨k,hk⟩:=List.getElem?_of_mem (hK H hk)
 exact h k g w a H next Q hr hH hk hn

end
end Go.Aw
namespace Go.Aw

def g0:Gh:=fun _=>none

structure Bulk {H:Type} (B:DataW H→Nat) (BA:List (DataW H)→Nat):Prop where
 nil:BA []=0
 cons:∀x r,BA (x::r)=B x+BA r
 agg:∀ps,BA ps≤B (.agg ps)
 slice:∀es sp,BA es+1≤B (.slice es sp)
 str:∀s,s.length+1≤B (.lit (.string s))
 one:∀d,1≤B d

section
variable {H:Type} {enc:TypeId×Value→H} {P:Program} {w:World} {sp:Nat→Bool} {hd:Bool} {B:DataW H→Nat} {BA:List (DataW H)→Nat}

def Rd (enc:TypeId×Value→H)(P:Program)(w:World)(sp:Nat→Bool)(hd:Bool)(B:DataW H→Nat){α:Type}(fuel:Nat)(t:TypeId)(f:α→List AV)(ok:α→Prop)(bk:α→Nat):Prop:=
 ∀cs d ps,DataW.trod enc P w 0 sp hd fuel t cs=some (d,ps)→∃x,ok x∧bk x≤B d∧Cx g0 w cs.toArray (f x)

def Rds (enc:TypeId×Value→H)(P:Program)(w:World)(sp:Nat→Bool)(hd:Bool)(BA:List (DataW H)→Nat){α:Type}(fuel:Nat)(off:Nat)(ts:List TypeId)(f:α→List AV)(ok:α→Prop)(bk:α→Nat):Prop:=
 ∀(cs:List Value) (xs:List (DataW H×List MemPlace)),cs.length=off+(ts.map P.cellsOf).sum→xs.length=ts.length→
  (∀i t,ts[i]? = some t→DataW.trod enc P w 0 sp hd fuel t ((cs.drop (off+((ts.take i).map P.cellsOf).sum)).take (P.cellsOf t))=xs[i]?)→
  ∃x,ok x∧bk x≤BA (xs.map (·.1))∧Cx g0 w (cs.drop off).toArray (f x)

theorem Rd.map {α β:Type}{fuel:Nat}{t:TypeId}{f:α→List AV}{ok:α→Prop}{bk:α→Nat}{f':β→List AV}{ok':β→Prop}{bk':β→Nat}(h:Rd enc P w sp hd B fuel t f ok bk)(g:α→β)
  (hf:∀x,f' (g x)=f x) (ho:∀x,ok x→ok' (g x)) (hb:∀x,bk' (g x)≤bk x):Rd enc P w sp hd B fuel t f' ok' bk':=by
 intro cs d ps hr
 obtain ⟨x,h1,h2,h3⟩:=h cs d ps hr
 exact ⟨g x,ho x h1,Nat.le_trans (hb x) h2,by rw [hf];exact h3⟩

theorem Om {g:Gh}{w:World}{v:Value}{x:AV}(h:Rep g w v x):Cx g w [v].toArray [x]:=by
 refine ⟨rfl,fun i y hi=>?_⟩
 match i,hi with
 | 0,hi=>simp at hi;subst hi;exact h
 | n+1,hi=>simp at hi

theorem jK {g:Gh}{w:World}{cs:List Value}{k:Nat}{l m:List AV}(h:Cx g w (cs.take k).toArray l)(h':Cx g w (cs.drop k).toArray m):Cx g w cs.toArray (l++m):=by
 have:=h.append h'
 rw [List.append_toArray,List.take_append_drop] at this
 exact this

theorem Sx {t:TypeId}{cs:List Value}{x:DataW H×List MemPlace}(h:DataW.trod enc P w 0 sp hd 0 t cs=some x):False:=by simp [DataW.trod] at h
theorem Rd.zero {α:Type}{t:TypeId}{f:α→List AV}{ok:α→Prop}{bk:α→Nat}:Rd enc P w sp hd B 0 t f ok bk:=fun _ _ _ h=>(Sx h).elim

theorem Rd.int {fuel:Nat}{t:TypeId}{k:IntKind}(h:P.underlying t=some (.int k))(hB:Bulk B BA):Rd enc P w sp hd B fuel t (fun n:Int=>[.int k n]) (fun n=>(Lit.int k n).wf=true) (fun _=>1):=by
  intro cs d ps hr
  cases fuel with
  | zero=>exact (Sx hr).elim
  | succ n=>
    unfold DataW.trod at hr
    rw [h] at hr
    split at hr <;> simp_all
    obtain ⟨⟨rfl,h1⟩,rfl,rfl⟩:=hr
    exact ⟨_,h1,hB.one _,Om (.int _ _)⟩

theorem Rd.str {fuel:Nat}{t:TypeId}(h:P.underlying t=some .string)(hB:Bulk B BA):Rd enc P w sp hd B fuel t (fun s:List UInt8=>[.str s]) (fun s=>s.length≤maxLen) (fun s=>s.length+1):=by
  intro cs d ps hr
  cases fuel with
  | zero=>exact (Sx hr).elim
  | succ n=>
    unfold DataW.trod at hr
    rw [h] at hr
    split at hr <;> simp_all
    obtain ⟨h1,rfl,rfl⟩:=hr
    rename_i s
    have hl:s.data.toList.length≤maxLen:=h1
    exact ⟨s.data.toList,hl,by simpa using hB.str s.data.toList,Om (.str s _ rfl hl)⟩

theorem eW (hB:Bulk B BA){α:Type}{bk:α→Nat}:∀(l:List α) (ds:List (DataW H)),l.length=ds.length→(∀(i:Nat) (x:α) (d:DataW H),l[i]? = some x→ds[i]? = some d→bk x≤B d)→(l.map bk).sum≤BA ds
  | [],[],_,_=>by simp
  | [],_::_,h,_=>by simp at h
  | _::_,[],h,_=>by simp at h
  | x::l,d::ds,h,hb=>by
    have h1:=eW hB l ds (by simpa using h) fun i y e hy he=>hb (i+1) y e (by simpa using hy) (by simpa using he)
    have h2:=hb 0 x d rfl rfl
    rw [hB.cons]
    simp only [List.map_cons,List.sum_cons]
    omega

theorem Tw {α:Type}{R:Nat→α→Prop}:∀(n:Nat),(∀i,i<n→∃x,R i x)→∃l:List α,l.length=n∧∀i x,l[i]? = some x→R i x
  | 0,_=>⟨[],rfl,by simp⟩
  | n+1,h=>by
    obtain ⟨l,hl,hr⟩:=Tw n fun i hi=>h i (by omega)
    obtain ⟨x,hx⟩:=h n (by omega)
    refine ⟨l ++ [x],by simp [hl],fun i y hi=>?_⟩
    rw [List.getElem?_append] at hi
    split at hi
    · exact hr i y hi
    · rename_i h1
      have:i=n:=by
        have:=(List.getElem?_eq_some_iff.1 hi).1
        simp at this;omega
      subst this
      simp [hl] at hi;subst hi;exact hx

theorem Qk {a:Addr}{n:Nat}{cs:List Value}(h:w.cells? 0 a n=some cs):cs.length=n∧∀j v,cs[j]? = some v→w.cell? (a.add j)=some v:=by
 unfold World.cells? at h
 simp only [Nat.zero_le,if_true] at h
 have hl:cs.length=n:=by simpa using mapM_some_length h
 refine ⟨hl,fun j v hj=>?_⟩
 have:j<n:=by rw [←hl];exact (List.getElem?_eq_some_iff.1 hj).1
 rw [mapM_some_get h j j (by simp [this]),hj]

theorem Rd.slice {α:Type}{fuel:Nat}{t e:TypeId}{z:Nat}{f:α→List AV}{ok:α→Prop}{bk:α→Nat}(h:P.underlying t=some (.slice e))(hz:P.cellsOf e=z)(hpos:0<z)(hB:Bulk B BA)
  (he:Rd enc P w sp hd B fuel e f ok bk):Rd enc P w sp hd B (fuel+1) t (fun l:List α=>[.sl z (l.map f)]) (fun l=>∀x∈l,ok x) (fun l=>(l.map bk).sum+1):=by
 intro cs d ps hr
 rcases DataW.trod_slice h hr with ⟨rfl,hx⟩ | ⟨a,len,cap,elems,rest,n,hn,rfl,hx,_,hlc,hcm,hel,hg,_,_⟩
 ·
  refine ⟨[],by simp,?_,Om (.sl0 _ _ _ (Nat.zero_le _))⟩
  simp only [List.map_nil,List.sum_nil];exact hB.one _
 ·
  simp only [Prod.mk.injEq] at hx
  obtain ⟨rfl,rfl⟩:=hx
  cases hn
  have key:∀i,i<len→∃x:α,ok x∧(∀d,(elems.map (·.1))[i]? = some d→bk x≤B d)∧∃ds:List Value,w.cells? 0 (a.add (i*z)) z=some ds∧Cx g0 w ds.toArray (f x):=by
   intro i hi
   have hi':=hg i hi
   rw [hz] at hi'
   have hlt:i<elems.length:=by omega
   rw [List.getElem?_eq_getElem hlt] at hi'
   obtain ⟨ds,h1,h2⟩:=Option.bind_eq_some_iff.1 hi'
   obtain ⟨x,h3,h4,h5⟩:=he ds elems[i].1 elems[i].2 h2
   refine ⟨x,h3,fun d hd=>?_,ds,h1,h5⟩
   simp [hlt] at hd
   subst hd;exact h4
  obtain ⟨l,hl,hr⟩:=Tw len key
  refine ⟨l,fun x hx=>?_,?_,?_⟩
  ·
   obtain ⟨i,hi⟩:=List.getElem?_of_mem hx
   exact (hr i x hi).1
  ·
   have:=eW hB (bk:=bk) l (elems.map (·.1)) (by simp [hl,hel]) fun i x d hi hd=>(hr i x hi).2.1 d hd
   have:=hB.slice (elems.map (·.1)) (rest.map (·.1))
   show (l.map bk).sum+1≤_
   omega
  ·
   refine Om ?_
   by_cases h0:len=0
   ·
    have:l = []:=List.eq_nil_of_length_eq_zero (by omega)
    subst this;subst h0
    exact .sl0 _ _ _ hcm
   ·
    have hne:0<len:=by omega
    have hlx:∀i x,l[i]? = some x→(f x).length=z:=fun i x hi=>by
     obtain ⟨_,_,ds,h1,h2⟩:=hr i x hi
     have:=(Qk h1).1
     have h3:=h2.1
     simp at h3;omega
    have hspot:a.spot=none:=by
     have h0':0<l.length:=by omega
     obtain ⟨_,_,ds,h1,h2⟩:=hr 0 l[0] (List.getElem?_eq_getElem h0')
     obtain ⟨h3,h4⟩:=Qk h1
     have h5:=h4 0 ds[0] (List.getElem?_eq_getElem (by omega))
     have:=World.cell?_spot h5
     simpa [Addr.add] using this
    obtain ⟨b,o,spot⟩:=a
    simp only at hspot;subst hspot
    have hcell:∀i x,l[i]? = some x→∀j y,(f x)[j]? = some y→∃v,w.cell? ⟨b,o+i*z+j,none⟩=some v∧Rep g0 w v y:=by
     intro i x hi j y hj
     obtain ⟨_,_,ds,h1,h2⟩:=hr i x hi
     obtain ⟨h3,h4⟩:=Qk h1
     have hjl:j<ds.length:=by
      have:=(List.getElem?_eq_some_iff.1 hj).1
      have:=hlx i x hi;omega
     have h5:=h4 j ds[j] (List.getElem?_eq_getElem hjl)
     have h6:=h2.2 j y hj
     rw [WideShapes.add_plain,WideShapes.add_plain] at h5
     refine ⟨ds[j],h5,?_⟩
     simpa [hjl] using h6
    refine .sl b o len cap z (l.map f) (by simp [hl]) hlc hcm ?_ (fun i j=>(w.cell? ⟨b,o+i*z+j,none⟩).getD undef) ?_ ?_
    ·
     intro e he
     obtain ⟨x,hx,rfl⟩:=List.mem_map.1 he
     obtain ⟨i,hi⟩:=List.getElem?_of_mem hx
     exact hlx i x hi
    ·
     intro i e hi j y hj
     simp only [List.getElem?_map,Option.map_eq_some_iff] at hi
     obtain ⟨x,hi,rfl⟩:=hi
     obtain ⟨v,h1,_⟩:=hcell i x hi j y hj
     exact ⟨trivial,by rw [h1];rfl⟩
    ·
     intro i e hi j y hj
     simp only [List.getElem?_map,Option.map_eq_some_iff] at hi
     obtain ⟨x,hi,rfl⟩:=hi
     obtain ⟨v,h1,h2⟩:=hcell i x hi j y hj
     rw [h1];exact h2

theorem Rds.nil {fuel off:Nat}:Rds enc P w sp hd BA fuel off [] (fun _:Unit=>[]) (fun _=>True) (fun _=>0):=by
 intro cs xs hl _ _
 refine ⟨(),trivial,Nat.zero_le _,?_,by simp⟩
 simp at hl
 simp;omega

theorem Rds.cons {α β:Type}{fuel off z:Nat}{t:TypeId}{ts:List TypeId}{f:α→List AV}{ok:α→Prop}{bk:α→Nat}{F:β→List AV}{OK:β→Prop}{BK:β→Nat}(hB:Bulk B BA)(hz:P.cellsOf t=z)
    (h:Rd enc P w sp hd B fuel t f ok bk) (hs:Rds enc P w sp hd BA fuel (off+z) ts F OK BK):Rds enc P w sp hd BA fuel off (t::ts) (fun x:α×β=>f x.1++F x.2) (fun x=>ok x.1∧OK x.2) (fun x=>bk x.1+BK x.2):=by
  intro cs xs hl hx hg
  cases xs with
  | nil=>simp at hx
  | cons x xs=>
    have h0:=hg 0 t rfl
    simp only [List.take_zero,List.map_nil,List.sum_nil,Nat.add_zero,List.getElem?_cons_zero] at h0
    obtain ⟨a,h1,h2,h3⟩:=h _ x.1 x.2 h0
    obtain ⟨b,k1,k2,k3⟩:=hs cs xs (by simp only [List.map_cons,List.sum_cons,hz] at hl;omega) (by simpa using hx) (fun i t' hi=>by
      have:=hg (i+1) t' (by simpa using hi)
      simp only [List.take_succ_cons,List.map_cons,List.sum_cons,hz,List.getElem?_cons_succ] at this
      rw [←this]
      congr 3
      omega)
    refine ⟨(a,b),⟨h1,k1⟩,?_,?_⟩
    · simp only [List.map_cons,hB.cons];omega
    · rw [hz] at h3
      refine jK (k:=z) h3 ?_
      rw [List.drop_drop];exact k3

theorem Rd.struct {α:Type}{fuel:Nat}{t:TypeId}{fs:Array Field}{ts:List TypeId}{f:α→List AV}{ok:α→Prop}{bk:α→Nat}(h:P.underlying t=some (.struct fs))(hB:Bulk B BA)
  (hts:fs.toList.map (·.type)=ts) (hoff:fs.toList.map (·.offset)=(List.range ts.length).map fun i=>((ts.take i).map P.cellsOf).sum) (hsz:P.cellsOf t=(ts.map P.cellsOf).sum)
  (hs:Rds enc P w sp hd BA fuel 0 ts f ok bk):Rd enc P w sp hd B (fuel+1) t f ok bk:=by
 intro cs d ps hr
 obtain ⟨xs,n,hn,hx,hl,hxl,hg⟩:=DataW.trod_struct h hr
 cases hn
 simp only [Prod.mk.injEq] at hx
 obtain ⟨rfl,rfl⟩:=hx
 have htl:ts.length=fs.size:=by rw [←hts];simp
 obtain ⟨x,h1,h2,h3⟩:=hs cs xs (by omega) (by omega) (fun i t' hi=>by
  have hlt:i<fs.size:=by have:=(List.getElem?_eq_some_iff.1 hi).1;omega
  have hf:fs[i]? = some fs[i]:=by simp [hlt]
  have e1:fs[i].type=t':=by
   have:(fs.toList.map (·.type))[i]? = some t':=by rw [hts];exact hi
   simpa [hlt] using this
  have e2:fs[i].offset=((ts.take i).map P.cellsOf).sum:=by
   have:(fs.toList.map (·.offset))[i]? = ((List.range ts.length).map fun i=>((ts.take i).map P.cellsOf).sum)[i]? :=by rw [hoff]
   have hi2:i<ts.length:=by omega
   simpa [hlt,hi2] using this
  have:=hg i fs[i] hf
  rw [e1,e2] at this
  simpa using this)
 refine ⟨x,h1,Nat.le_trans h2 (hB.agg _),by simpa using h3⟩

theorem Rd.value {α:Type}{t:TypeId}{f:α→List AV}{ok:α→Prop}{bk:α→Nat}(hr:∀fuel,Rd enc P w sp hd B fuel t f ok bk){v:Value}{d:DataW H}{ps:List MemPlace}(h:DataW.Trod enc P w 0 sp hd t v d ps) :
  ∃x,ok x∧bk x≤B d∧Cx g0 w v.cells.toList.toArray (f x):=by
 obtain ⟨n,hn⟩:=h
 exact hr n _ d ps hn

theorem lO {v:Value}{l:List AV}{vs:Array Value}(hv:v = .agg vs)(h:Cx g0 w v.cells.toList.toArray l):Rep g0 w v (.agg l):=by
 subst hv
 exact .agg vs l h.1 h.2
end


theorem Ext.below {w w':World}{g':Gh}(h:Ext g0 w g' w'):RowKit.Below w.heap.size w w':=
 ⟨h.os,h.tape,h.output,h.size,fun k hk=>(h.full k hk rfl).2⟩

section
open Go.ChangeShapes
variable {H:Type} {enc:TypeId×Value→H} {P:Program}

theorem P8 (hl:laidOutB P=true){W W':World}{sp':Nat→Bool}:∀{ts:List TypeId} {vs:List Value} {ds:List (DataW H)} {ps:List MemPlace},(ts.all fun t=>P.readableRec t&&decide (t<P.types.size))=true→
    DataW.TrodAll enc P W 0 (fun _=>true) true ts vs ds ps→(∀p∈ps,W.sameAt W' p)→(∀p∈ps,sp' p.block=true)→DataW.TrodAll enc P W' 0 sp' true ts vs ds ps
  | [],vs,ds,ps,_,h,_,_=>by
    obtain ⟨rfl,rfl,rfl⟩:=trodAll_nil h
    exact trodAll_mk0
  | t::ts,vs,ds,ps,ht,h,hs,hsp=>by
    obtain ⟨v,vs1,d,ds1,a,b,rfl,rfl,rfl,h1,h2⟩:=trodAll_cons h
    simp only [List.all_cons,Bool.and_eq_true,decide_eq_true_eq] at ht
    exact trodAll_cons_mk (WideElems.Trod_stays hl ht.1.1 ht.1.2 h1 (fun p hp=>hs p (List.mem_append_left _ hp)) (fun p hp=>hsp p (List.mem_append_left _ hp)))
      (P8 hl ht.2 h2 (fun p hp=>hs p (List.mem_append_right _ hp)) (fun p hp=>hsp p (List.mem_append_right _ hp)))

theorem Xw {f:Func}{s:ChangeSpec}{apart fresh handsOn again:Bool}{W W':World}{args:Array Value}{v:Value}{ds gs:List (DataW H)}{before:List MemPlace}
  (hl:laidOutB P=true) (ht:(f.params.toList.all fun t=>P.readableRec t&&decide (t<P.types.size))=true) (hv:s.vars = [])
  (hW:DataW.Whole enc P f.params.toList s.vars apart W args.toList ds gs before)
  (hres:∀(b:Nat) (sp:Nat→Bool) (hd:Bool),DataW.TrodAll enc P W' b sp hd f.resultTypes.toList (v.resultList f.resultTypes.size) (s.fn H (ds++gs)).results [])
  (hargs:(s.fn H (ds++gs)).args=ds) (hvars:(s.fn H (ds++gs)).vars = []) (hb:RowKit.Below W.heap.size W W')
  (hok:∀(j:Nat) (t:TypeId) (r:Value),f.resultTypes[j]? = some t→(v.resultList f.resultTypes.size)[j]? = some r→Value.okWide P W' .any 0 t r) :
  s.post enc P f apart fresh handsOn again W args v W':=by
 have hlt:=hW.lt
 have hW':=hW
 obtain ⟨p,q,hA,hV,rfl,hz,hn⟩:=hW
 rw [hv] at hV
 obtain ⟨rfl,rfl⟩:=trodVars_none hV
 have hA':∀sp':Nat→Bool,(∀x∈p,sp' x.block=true)→DataW.TrodAll enc P W' 0 sp' true f.params.toList args.toList ds p:=fun sp' hsp=>
  P8 hl ht hA (fun x hx=>hb.same (hlt x (by simpa using hx))) hsp
 refine ⟨ds,[],p ++ [],[],p,[],hW',hres _ _ _,by rw [hargs];exact hA' _ fun x hx=>by simpa using hlt x (by simpa using hx),by rw [hv,hvars];rfl,hb.frame _,fun _=>?_⟩
 refine ⟨hok,_,[],([]++p) ++ [],⟨[]++p,[],trodAll_append (hA' _ fun _ _=>rfl) (hres _ _ _),by rw [hv];rfl,rfl,?_,?_⟩,?_⟩
 ·
  intro b off hp
  rw [hb.frozen (hlt _ (by simpa using hp))]
  exact hz b off (by simpa using hp)
 ·
  intro ha
  simpa using hn ha
 ·
  intro x hx _
  simpa using hx

end
end Go.Aw
namespace Go.Aw
section
variable {H:Type} {enc:TypeId×Value→H} {P:Program} {w:World} {sp:Nat→Bool} {hd:Bool} {B:DataW H→Nat} {BA:List (DataW H)→Nat}

theorem Rd.slice' {α:Type}{fuel:Nat}{t e:TypeId}{z:Nat}{f:α→List AV}{ok:α→Prop}{bk:α→Nat}(h:P.underlying t=some (.slice e))(hz:P.cellsOf e=z)(hpos:0<z)(hB:Bulk B BA)
  (he:∀m,m<fuel→Rd enc P w sp hd B m e f ok bk):Rd enc P w sp hd B fuel t (fun l:List α=>[.sl z (l.map f)]) (fun l=>∀x∈l,ok x) (fun l=>(l.map bk).sum+1):=by
 cases fuel with
 | zero=>exact Rd.zero
 | succ n=>exact Rd.slice h hz hpos hB (he n (Nat.lt_succ_self n))

theorem Rd.struct' {α:Type}{fuel:Nat}{t:TypeId}{fs:Array Field}{ts:List TypeId}{f:α→List AV}{ok:α→Prop}{bk:α→Nat}(h:P.underlying t=some (.struct fs))(hB:Bulk B BA)
  (hts:fs.toList.map (·.type)=ts) (hoff:fs.toList.map (·.offset)=(List.range ts.length).map fun i=>((ts.take i).map P.cellsOf).sum) (hsz:P.cellsOf t=(ts.map P.cellsOf).sum)
  (hs:∀m,m<fuel→Rds enc P w sp hd BA m 0 ts f ok bk):Rd enc P w sp hd B fuel t f ok bk:=by
 cases fuel with
 | zero=>exact Rd.zero
 | succ n=>exact Rd.struct h hB hts hoff hsz (hs n (Nat.lt_succ_self n))

theorem Rd.congr {α:Type}{fuel:Nat}{t:TypeId}{f f':α→List AV}{ok ok':α→Prop}{bk bk':α→Nat}(h:Rd enc P w sp hd B fuel t f ok bk)(hf:f=f')(ho:∀x,ok x→ok' x)(hb:∀x,bk' x≤bk x):Rd enc P w sp hd B fuel t f' ok' bk':=
 h.map id (fun x=>by rw [←hf];rfl) ho hb
end
end Go.Aw
namespace Go.Aw
open Go.ChangeShapes Go.WideShapes Go.RowKit
section
variable {H:Type} {enc:TypeId×Value→H} {P:Program}

theorem gF {f:FuncId}{fn:Func}{s:ChangeSpec}{apart fresh handsOn again:Bool}{W:World}{args:Array Value}{ds gs:List (DataW H)}{before:List MemPlace}{tb:TypeId}{avs:List AV}
  (hl:laidOutB P=true) (ht:(fn.params.toList.all fun t=>P.readableRec t&&decide (t<P.types.size))=true) (hv:s.vars = []) (hr:fn.resultTypes = #[tb]) (htb:P.underlying tb=some .bool)
  (hcell:P.cellsOf tb=1) (hW:DataW.Whole enc P fn.params.toList s.vars apart W args.toList ds gs before) (hs:s.fn H (ds++gs) = { results:=[.lit (.bool true)],args:=ds })
  (ha:Cx g0 W args avs) (hgl:GlobOK g0 W) (hp:Ax P f avs (.bool true)):Calls P f args W fun e W'=>∃v,e = .returned v∧s.post enc P fn apart fresh handsOn again W args v W':=by
 refine (hp [] g0 W args (HOK.nil hgl) ha).mono ?_
 rintro e W' ⟨v,g',r,H',rfl,h1,_,h2,rfl,_⟩
 have hb:=h1.inv_bool
 subst hb
 refine ⟨_,rfl,Xw hl ht hv hW ?_ (by rw [hs]) (by rw [hs]) h2.below ?_⟩
 ·
  intro b sp hd
  rw [hs,hr]
  exact trodAll_cons_mk (shut_bool htb _) trodAll_mk0
 · exact ok_one hr rfl (okWide_bool_mk htb _)

theorem Zf {g:Gh}{w:World}{v:Value}{x:AV}{vs:List Value}{l:List AV}(h:Rep g w v x)(hs:Cx g w vs.toArray l):Cx g w (v::vs).toArray (x::l):=by
 have:=(Om h).append hs
 simpa using this
theorem sD {g:Gh}{w:World}:Cx g w ([]:List Value).toArray []:=⟨rfl,by simp⟩
end
end Go.Aw
namespace Go.Aw
section
variable {P:Program} {W:World} {r:Reach} {b:Nat} {t:TypeId} {v:Value}
end
end Go.Aw
namespace Go.Aw

theorem He {l:List AV}(hl:0<l.length):∀(n k:Nat) (x:AV),(List.replicate n l).flatten[k]? = some x→l[k % l.length]? = some x
  | 0,k,x,h=>by simp at h
  | n+1,k,x,h=>by
    rw [List.replicate_succ,List.flatten_cons,List.getElem?_append] at h
    split at h
    · rename_i hk;rw [Nat.mod_eq_of_lt hk];exact h
    · rename_i hk
      have:=He hl n (k-l.length) x h
      rwa [Nat.mod_eq_sub_mod (by omega)]

section
variable {P:Program} {T:List (Nat×TD)} {ρ:Operand→AV} {ty:TypeId} {pos:String} {aft:Array Edge} {gd:Option (Nat×Bool)} {d:Option Nat}

theorem O4 {t e z n:Nat}{x y:Operand}{kl kc:IntKind}{td te:TD}{H:List HO}(hT:Hb P T)(ht:Bv T t=some td)(hk:td.kind = .slice e)(hte:Bv T e=some te)(hz:te.size=z)(hpos:Nat.blt 0 z=true)
  (hx:ρ x = .int kl n) (hy:ρ y = .int kc n) (hb:te.bytes*n≤281474976710656) (hm:n≤maxLen) :
  Km P ⟨d,.makeSlice t x y,ty,pos,aft,gd⟩ ρ H (fun r H'=>∃b,r = .val (.slice (some ⟨b,0,none⟩) n n)∧H' = .box b e (List.replicate n te.zero).flatten::H):=by
 intro g w a next Q hr hH hn
 have h1:=(hx▸hr x (by simp [Op.operands]):Rep g w _ _).inv_int
 have h2:=(hy▸hr y (by simp [Op.operands]):Rep g w _ _).inv_int
 have hu:=D3 (hT t td ht) hk
 have hp:0<z:=by simpa using hpos
 obtain ⟨it,hit,his,hib,zv,hzv,hzs,hzr⟩:=(hT e te hte).info
 have h63:(n:Int)≤9223372036854775807:=by
  have h8:maxLen≤9223372036854775807:=by decide
  omega
 have hb':(it.bytes:Int)*(n:Int)≤281474976710656:=by
  have h9:((te.bytes*n:Nat):Int)≤281474976710656:=by omega
  rw [Int.natCast_mul] at h9
  rw [hib];exact h9
 have hrun:=run_make (P:=P) w t e it zv hu hit hzv kl kc n n (by omega) (Int.le_refl _) hb' h63
 simp only [Int.toNat_natCast] at hrun
 unfold Oper.wp
 simp only [execOp,h1,h2,Sem.run_bind,hrun,Result.andThen_ok,Sem.run_pure]
 have hxx:=Ext.alloc g w (.cells (madeCells zv.cells (n*it.size)) e) (some 0)
 refine hn (g.put w.heap.size (some 0)) _ _ _ _ ⟨w.heap.size,rfl,rfl⟩ (.val _) ((hH.alloc _ (some 0)).cons ⟨Gh.Aap _ _ _,_,Da w _,?_⟩ ?_) hxx
 ·
  have hzl:te.zero.length=z:=by rw [←hz,←hzs];exact ((hzr g w).1).symm
  refine ⟨?_,fun i x hi=>?_⟩
  · rw [size_madeCells,Cz (z:=z) (by intro e he;rw [List.eq_of_mem_replicate he];exact hzl),List.length_replicate,his,hz]
  ·
   have h3:=He (by omega) n i x hi
   have hlt:i<n*z:=by
    have:=(List.getElem?_eq_some_iff.1 hi).1
    rwa [Cz (z:=z) (by intro e he;rw [List.eq_of_mem_replicate he];exact hzl),List.length_replicate] at this
   have h4:=(hzr (g.put w.heap.size (some 0)) (w.alloc (.cells (madeCells zv.cells (n*it.size)) e))).2 _ x h3
   have hcs:zv.cells.size=z:=by rw [←hz,←hzs]
   have hm2:i % z<zv.cells.size:=by rw [hcs];exact Nat.mod_lt _ hp
   have e1:(madeCells zv.cells (n*it.size)).getD i undef=zv.cells.getD (i % te.zero.length) undef:=by
    have hs:it.size=z:=by rw [his,hz]
    rw [hzl]
    simp only [madeCells,hs,Array.getD_eq_getD_getElem?]
    simp [hlt,hcs,hm2,Nat.mod_lt _ hp]
   rw [e1];exact h4
 ·
  intro b hb x hx' hb'
  simp only [HO.blk,Option.some.injEq] at hb
  have:=(HO.ok_lt (hH.ok x hx') hb').1
  omega

theorem iS {s t:TypeId}{x:Operand}{k k':IntKind}{n m:Int}{ts td:TD}(hT:Hb P T)(hs:Bv T s=some ts)(hsk:ts.kind = .int k')(ht:Bv T t=some td)(hk:td.kind = .int k){k2:IntKind}(hx:ρ x = .int k2 n)(hm:k.wrap n=m){K:List HO→Prop} :
  Dn P ⟨d,.convert s t x,ty,pos,aft,gd⟩ ρ K (.int k m):=
 .of_run fun g w a hr=>by
  have h1:=(hx▸hr x (by simp [Op.operands]):Rep g w _ _).inv_int
  have hu:=J9 (hT s ts hs) hsk
  have hv:=J9 (hT t td ht) hk
  refine ⟨.int k m,?_,.int _ _⟩
  subst hm
  simp only [execOp,h1,convert,Ba hu,Ba hv,Sem.run_bind,Result.andThen_ok,Conv.intToInt,Sem.run_pure]

theorem GS.freezeSl {sl:List (Nat×AV)}{H:List HO}{n t b m c z TT:Nat}{cs:List AV}{es:List (List AV)}{x y:AV}(k:Nat)(h:get sl t=x)(hk:H[k]? = some (.box b TT cs))(hf:es.flatten=cs)(hm:m=es.length)(hc:m≤c)(hcm:c≤maxLen)
  (hz:∀e∈es,e.length=z) (hw:∀g w u,Rep g w (.slice (some ⟨b,0,none⟩) m c) (.sl z es)→Rep g w u x→Rep g w u y):GS ⟨sl,H,n⟩ ⟨(t,y)::sl,H.eraseIdx k,n⟩:=fun g a w hG=>by
 obtain ⟨hg,vs,h1,h2⟩:=hG.heap.ok _ (List.mem_of_getElem? hk)
 have hx:Ext g w (g.put b none) w:=by
  refine ⟨rfl,rfl,rfl,Nat.le_refl _,fun c hc hgc=>⟨?_,rfl⟩,fun c m hc hgc=>⟨fun m' hm=>?_,fun _ _=>rfl⟩⟩
  ·
   by_cases e:c=b
   · subst e;exact Gh.Aap _ _ _
   · rw [Gh.Aau _ _ e];exact hgc
  ·
   by_cases e:c=b
   · subst e;rw [Gh.Aap] at hm;cases hm
   · rw [Gh.Aau _ _ e,hgc] at hm;cases hm;exact Nat.le_refl _
 refine ⟨g.put b none,⟨hG.size,hG.defers,fun i=>?_,?_⟩,hx⟩
 ·
  show Rep _ w _ (get ((t,y)::sl) i)
  rw [Fg]
  by_cases e:t=i
  ·
   subst e
   simp only [if_true]
   refine hw _ w _ ?_ ((h▸hG.sl t:Rep g w _ _).mono hx)
   refine .sl b 0 m c z es hm hc hcm hz (fun i j=>vs.getD (i*z+j) undef) (fun i e hi j y hj=>⟨by unfold Er;rw [Gh.Aap];trivial,?_⟩) (fun i e hi j y hj=>?_)
   ·
    have h3:=E6 hz hi hj
    rw [hf] at h3
    have hlt:i*z+j<vs.size:=by rw [h2.1];exact (List.getElem?_eq_some_iff.1 h3).1
    rw [Nat.zero_add,Cd h1];simp [hlt]
   ·
    have h3:=E6 hz hi hj
    rw [hf] at h3
    exact (h2.2 _ _ h3).mono hx
  · simp only [e,if_false];exact (hG.sl i).mono hx
 ·
  have hsub:(H.eraseIdx k).Sublist H:=List.eraseIdx_sublist ..
  refine ⟨(hG.heap.sub hsub).nodup,fun o ho=>?_,hG.heap.glob.mono hx⟩
  obtain ⟨j,hj⟩:=List.getElem?_of_mem ho
  rw [List.getElem?_eraseIdx] at hj
  obtain ⟨j',hjk,hj'⟩:∃j',j'≠k∧H[j']? = some o:=by
   split at hj
   · exact ⟨j,by omega,hj⟩
   · exact ⟨j+1,by omega,hj⟩
  have hok:=hG.heap.ok o (List.mem_of_getElem? hj')
  refine HO.ok_of_same hx hok fun c hc=>⟨Gh.Aau _ _ fun e=>hjk (hG.heap.nodup_blk hj' hk (e▸hc) rfl),rfl⟩

theorem lE {b m c z:Nat}{es:List (List AV)}:∀g w u,Rep g w (.slice (some ⟨b,0,none⟩) m c) (.sl z es)→Rep g w u (.val (.slice (some ⟨b,0,none⟩) m c))→Rep g w u (.sl z es):=fun _ _ _ h h'=>by rw [h'.inv_val];exact h
end
end Go.Aw
namespace Go.Aw
theorem GS.cells {sl:List (Nat×AV)}{H:List HO}{n b TT:Nat}{cs cs':List AV}(k:Nat)(hk:H[k]? = some (.box b TT cs))(h:cs=cs'):GS ⟨sl,H,n⟩ ⟨sl,H.set k (.box b TT cs'),n⟩:=by
 subst h
 have:H.set k (.box b TT cs)=H:=by
  apply List.ext_getElem?
  intro i
  rw [List.getElem?_set]
  split
  · rename_i e;subst e;rw [hk];split <;> simp_all
  · rfl
 rw [this];exact GS.refl _
end Go.Aw
namespace Go.Aw

def Mo:List (List UInt8×AV)→List UInt8→Option AV
 | [],_=>none
 | (k,x)::r,n=>if k=n then some x else Mo r n

theorem oC (a b:List UInt8):((⟨a.toArray⟩:ByteArray)==⟨b.toArray⟩)=(a==b):=by
 show (a.toArray==b.toArray)=_
 simp

def P4 (P:Program)(t:TypeId):Bool:=
 match P.info? t with
 | some i=>match i.zero with | some (.agg _)=>false | some _=>true | none=>false
 | none=>false

section
variable {P:Program} {T:List (Nat×TD)} {d:Option Nat} {ty:TypeId} {pos:String} {aft:Array Edge} {gd:Option (Nat×Bool)} {ρ:Operand→AV}

theorem Q0 {t:TypeId}{H:List HO}:Km P ⟨d,.makeMap t none,ty,pos,aft,gd⟩ ρ H (fun x H'=>∃b,x = .val (.map (some b))∧H' = .smap b []::H):=by
 intro g w a next Q hr hH hn
 unfold Oper.wp
 simp only [execOp,Instr.makeMap,Option.map_none,Sem.run_bind,Sem.run_pure,run_newObj,Result.andThen_ok]
 have hx:=Ext.alloc g w (.map #[] 0) (some 0)
 refine hn (g.put w.heap.size (some 0)) _ _ _ _ ⟨w.heap.size,rfl,rfl⟩ (.val _) ((hH.alloc _ (some 0)).cons ⟨Gh.Aap _ _ _,#[],0,Da w _,rfl,by simp,by simp⟩ ?_) hx
 intro b hb x hx' hb'
 simp only [HO.blk,Option.some.injEq] at hb
 have:=(HO.ok_lt (hH.ok x hx') hb').1
 omega

theorem Qx {n:List UInt8}:∀(l:List MapEntry) (es:List (List UInt8×AV)) (i:Nat),l.length=es.length→(∀(j:Nat) m x,es[j]? = some (m,x)→(l.getD j default).key = .string ⟨m.toArray⟩)→Mo es n=none→
    Instr.findNow .string (.string ⟨n.toArray⟩) l i=some none
  | [],_,_,_,_,_=>rfl
  | e::l,[],_,h,_,_=>by simp at h
  | e::l,(m,x)::es,i,h,hk,hg=>by
    have h1:e.key = .string ⟨m.toArray⟩:=by simpa using hk 0 m x rfl
    simp only [Mo] at hg
    by_cases hm:m=n
    · simp [hm] at hg
    · rw [if_neg hm] at hg
      have:((⟨n.toArray⟩:ByteArray)==⟨m.toArray⟩)=false:=by rw [oC];simp;exact fun e=>hm e.symm
      unfold Instr.findNow
      simp only [h1,Instr.sameNow,this]
      exact Qx l es (i+1) (by simpa using h) (fun j m x hj=>by simpa using hk (j+1) m x hj) hg

theorem Xg {n:List UInt8}{x:AV}{g:Gh}{w:World}:∀(l:List MapEntry) (es:List (List UInt8×AV)) (i:Nat),l.length=es.length→(∀(j:Nat) m x,es[j]? = some (m,x)→(l.getD j default).key = .string ⟨m.toArray⟩)→(∀(j:Nat) m x,es[j]? = some (m,x)→Rep g w (l.getD j default).val x)→Mo es n=some x→
    ∃i' v,Instr.findNow .string (.string ⟨n.toArray⟩) l i=some (some (i',v))∧Rep g w v x
  | [],[],_,_,_,_,hg=>by simp [Mo] at hg
  | [],_::_,_,h,_,_,_=>by simp at h
  | e::l,[],_,h,_,_,_=>by simp at h
  | e::l,(m,y)::es,i,h,hk,hv,hg=>by
    have h1:e.key = .string ⟨m.toArray⟩:=by simpa using hk 0 m y rfl
    have h2:Rep g w e.val y:=by simpa using hv 0 m y rfl
    simp only [Mo] at hg
    by_cases hm:m=n
    · subst hm
      simp only [if_true,Option.some.injEq] at hg;subst hg
      refine ⟨i,e.val,?_,h2⟩
      unfold Instr.findNow
      simp [h1,Instr.sameNow,oC]
    · rw [if_neg hm] at hg
      have:((⟨n.toArray⟩:ByteArray)==⟨m.toArray⟩)=false:=by rw [oC];simp;exact fun e=>hm e.symm
      unfold Instr.findNow
      simp only [h1,Instr.sameNow,this]
      exact Xg l es (i+1) (by simpa using h) (fun j m x hj=>by simpa using hk (j+1) m x hj) (fun j m x hj=>by simpa using hv (j+1) m x hj) hg

theorem K2 {n:Nat}{kt:TypeId}(h:P.underlying kt=some .string){b:Bool}{s:ByteArray}(w:World):(Instr.checkKey b (n+1) kt (.string s)).run P w = .ok () w:=by
 unfold Instr.checkKey
 rw [Sem.run_bind,Ba h];rfl

theorem Tx {t:TypeId}{m k v:Operand}{kt et b i:Nat}{td tk:TD}{n:List UInt8}{es:List (List UInt8×AV)}{x:AV}{H H2:List HO}(hT:Hb P T)(ht:Bv T t=some td)(hk:td.kind = .map kt et)(htk:Bv T kt=some tk)(hkk:tk.kind = .str)
  (hm:ρ m = .val (.map (some b))) (hkey:ρ k = .str n) (hv:ρ v=x) (hH:H[i]? = some (.smap b es)) (hnew:Mo es n=none) (hH2:H.set i (.smap b (es ++ [(n,x)]))=H2) :
  Km P ⟨d,.mapUpdate t m k v,ty,pos,aft,gd⟩ ρ H (fun y H'=>y = .junk∧H'=H2):=by
 subst hH2
 intro g w a next Q hr hHK hn
 have h1:=(hm▸hr m (by simp [Op.operands]):Rep g w _ _).inv_val
 have h2:=(hkey▸hr k (by simp [Op.operands]):Rep g w _ _).inv_str.1
 have h3:Rep g w (a.eval v) x:=hv▸hr v (by simp [Op.operands])
 obtain ⟨hg,ms,clock,hheap,hl,hks,hvs⟩:=hHK.ok _ (List.mem_of_getElem? hH)
 have hb:b<w.heap.size:=(Array.getElem?_eq_some_iff.1 hheap).1
 have hu:=Il (hT t td ht) hk
 have huk:=Kz (hT kt tk htk) hkk
 have hl':ms.toList.length=es.length:=by simpa using hl
 have hfind:=Qx (n:=n) ms.toList es 0 hl' (fun j m x hj=>by simpa using hks j m x hj) hnew
 have hget:(getObj b).run P w = .ok (.map ms clock) w:=by simp [getObj,Sem.run,hheap]
 have hset:∀o:Obj,(setObj b o).run P w = .ok () { w with heap:=w.heap.setIfInBounds b o }:=fun o=>by simp [setObj,Sem.run,hheap]
 have hrun:(Instr.mapUpdate t (a.eval m) (a.eval k) (a.eval v)).run P w = .ok () { w with heap:=w.heap.setIfInBounds b (.map (ms.push { key:=.string ⟨n.toArray⟩,val:=a.eval v,born:=clock }) (clock+1)) }:=by
  unfold Instr.mapUpdate
  rw [Sem.run_bind,Ba hu]
  simp only [Result.andThen_ok,h1,Sem.run_bind,hget,h2,K2 (n:=9999) huk]
  have hfk:(Instr.findKey kt (.string ⟨n.toArray⟩) ms.toList).run P w = .ok none w:=by
   unfold Instr.findKey
   rw [Sem.run_bind,Ba huk]
   simp only [Result.andThen_ok,hfind,Sem.run_pure]
  simp only [hfk,Result.andThen_ok,hset]
 unfold Oper.wp
 simp only [execOp,Sem.run_bind,hrun,Result.andThen_ok,Sem.run_pure]
 have hnew':({ w with heap:=w.heap.setIfInBounds b (.map (ms.push { key:=.string ⟨n.toArray⟩,val:=a.eval v,born:=clock }) (clock+1)) }:World).heap[b]? = some (.map (ms.push { key:=.string ⟨n.toArray⟩,val:=a.eval v,born:=clock }) (clock+1)):=by
  simp [hb]
 have hoth:∀c,c≠b→({ w with heap:=w.heap.setIfInBounds b (.map (ms.push { key:=.string ⟨n.toArray⟩,val:=a.eval v,born:=clock }) (clock+1)) }:World).heap[c]? = w.heap[c]? :=fun c hc=>by
  simp [Array.getElem?_setIfInBounds_ne (Ne.symm hc)]
 have hx:Ext g w g { w with heap:=w.heap.setIfInBounds b (.map (ms.push { key:=.string ⟨n.toArray⟩,val:=a.eval v,born:=clock }) (clock+1)) }:=by
  refine ⟨rfl,rfl,rfl,by simp,fun c hc hgc=>⟨hgc,hoth c fun e=>by rw [e,hg] at hgc;cases hgc⟩,fun c m' hc hgc=>⟨fun m'' hm''=>by rw [hgc] at hm'';cases hm'';exact Nat.le_refl _,fun o ho=>?_⟩⟩
  have hne:c≠b:=fun e=>by rw [e,hg] at hgc;cases hgc;omega
  unfold World.cell?
  rw [hoth c hne]
 refine hn g _ undef .junk _ ⟨rfl,rfl⟩ (.junk _) (hHK.set hx hH (fun c hc=>.inl hc) ⟨hg,_,_,hnew',by simp [hl],?_,?_⟩ (fun c hc hne _=>⟨rfl,hoth c fun e=>hne (by rw [e];rfl)⟩)) hx
 ·
  intro j m' y hj
  rw [List.getElem?_append] at hj
  split at hj
  ·
   rename_i hlt
   have:=hks j m' y hj
   have hlt':j<ms.size:=by omega
   simpa [Array.getD_eq_getD_getElem?,Array.getElem?_push,show j≠ms.size by omega] using this
  ·
   rename_i hlt
   have:j-es.length=0:=by
    rcases Nat.eq_zero_or_pos (j-es.length) with h | h
    · exact h
    · rw [List.getElem?_eq_none (by simp;omega)] at hj;cases hj
   rw [this] at hj;simp at hj
   have hj':j=ms.size:=by omega
   subst hj'
   simp [Array.getD_eq_getD_getElem?,hj.1]
 ·
  intro j m' y hj
  rw [List.getElem?_append] at hj
  split at hj
  ·
   rename_i hlt
   have:=(hvs j m' y hj).mono hx
   have hlt':j<ms.size:=by omega
   simpa [Array.getD_eq_getD_getElem?,Array.getElem?_push,show j≠ms.size by omega] using this
  ·
   rename_i hlt
   have:j-es.length=0:=by
    rcases Nat.eq_zero_or_pos (j-es.length) with h | h
    · exact h
    · rw [List.getElem?_eq_none (by simp;omega)] at hj;cases hj
   rw [this] at hj;simp at hj
   have hj':j=ms.size:=by omega
   subst hj'
   simp only [Array.getD_eq_getD_getElem?,Array.getElem?_push,if_true,Option.getD_some]
   rw [←hj.2];exact h3.mono hx

theorem kO {t:TypeId}{m k:Operand}{kt et b i:Nat}{td tk te:TD}{n:List UInt8}{es:List (List UInt8×AV)}{x:AV}(hT:Hb P T)(ht:Bv T t=some td)(hk:td.kind = .map kt et)(htk:Bv T kt=some tk)(hkk:tk.kind = .str)
    (hte:Bv T et=some te) (hzs:P4 P et=true) (hm:ρ m = .val (.map (some b))) (hkey:ρ k = .str n) (hx:match Mo es n with | some y=>y=x | none=>te.zero = [x]) :
    Dn P ⟨d,.lookup t m k false,ty,pos,aft,gd⟩ ρ (fun H=>H[i]? = some (.smap b es)) x:=by
  intro g w a H next Q hr hHK hH hn
  have h1:=(hm▸hr m (by simp [Op.operands]):Rep g w _ _).inv_val
  have h2:=(hkey▸hr k (by simp [Op.operands]):Rep g w _ _).inv_str.1
  obtain ⟨hg,ms,clock,hheap,hl,hks,hvs⟩:=hHK.ok _ (List.mem_of_getElem? hH)
  have hu:=Il (hT t td ht) hk
  have huk:=Kz (hT kt tk htk) hkk
  have hget:(getObj b).run P w = .ok (.map ms clock) w:=by simp [getObj,Sem.run,hheap]
  unfold Oper.wp
  cases hs:Mo es n with
  | some y=>
    rw [hs] at hx
    simp only at hx;subst hx
    obtain ⟨i',v,hf,hrep⟩:=Xg (n:=n) (x:=y) (g:=g) (w:=w) ms.toList es 0 (by simpa using hl) (fun j m x hj=>by simpa using hks j m x hj) (fun j m x hj=>by simpa using hvs j m x hj) hs
    have hfk:(Instr.findKey kt (.string ⟨n.toArray⟩) ms.toList).run P w = .ok (some (i',v)) w:=by
      unfold Instr.findKey
      rw [Sem.run_bind,Ba huk]
      simp only [Result.andThen_ok,hf,Sem.run_pure]
    simp only [execOp,Instr.lookup,Sem.run_bind,Ba hu,Result.andThen_ok,h1,hget,Sem.run_pure,h2,K2 (n:=9999) huk,hfk,Bool.false_eq_true,if_false]
    exact hn g w v hrep hHK (Ext.refl g w)
  | none=>
    rw [hs] at hx
    simp only at hx
    have hf:=Qx (n:=n) ms.toList es 0 (by simpa using hl) (fun j m x hj=>by simpa using hks j m x hj) hs
    have hfk:(Instr.findKey kt (.string ⟨n.toArray⟩) ms.toList).run P w = .ok none w:=by
      unfold Instr.findKey
      rw [Sem.run_bind,Ba huk]
      simp only [Result.andThen_ok,hf,Sem.run_pure]
    obtain ⟨z,hz1,hz2,hz3⟩:=Mp (hT et te hte) w
    simp only [execOp,Instr.lookup,Sem.run_bind,Ba hu,Result.andThen_ok,h1,hget,Sem.run_pure,h2,K2 (n:=9999) huk,hfk,hz1,Bool.false_eq_true,if_false]
    refine hn g w z ?_ hHK (Ext.refl g w)
    have hz4:=hz3 g w
    rw [hx] at hz4
    have hna:∀vs,z≠.agg vs:=by
      rintro vs rfl
      obtain ⟨it,hit,_,_,zv,hzv,_⟩:=(hT et te hte).info
      have hzz:(zeroValue et).run P w = .ok zv w:=by simp [zeroValue,G7 hit,hzv]
      rw [hzz] at hz1
      cases hz1
      simp [P4,hit,hzv] at hzs
    have hcell:z.cells = #[z]:=by cases z <;> first | rfl | exact absurd rfl (hna _)
    rw [hcell] at hz4
    exact hz4.2 0 x rfl

def Uf (ks:List (List UInt8)):List (List UInt8×AV):=ks.map fun k=>(k,.bool true)
theorem fQ (ks:List (List UInt8))(n:List UInt8):Mo (Uf ks) n=if ks.contains n then some (.bool true) else none:=by
  induction ks with
  | nil=>rfl
  | cons k r ih=>
    show (if k=n then some (AV.bool true) else Mo (Uf r) n)=_
    rw [ih,List.contains_cons]
    by_cases h:k=n
    · subst h;simp
    · have:(n==k)=false:=by rw [beq_eq_false_iff_ne];exact fun e=>h e.symm
      rw [if_neg h,this,Bool.false_or]
theorem qX (ks:List (List UInt8))(n:List UInt8){te:TD}(h:te.zero = [.bool false]):match Mo (Uf ks) n with | some y=>y = .bool (ks.contains n) | none=>te.zero = [.bool (ks.contains n)]:=by
 rw [fQ]
 by_cases hc:ks.contains n=true
 · rw [if_pos hc,hc]
 · rw [if_neg hc,h];simp only [Bool.eq_false_iff.mpr hc]
theorem wP {ks:List (List UInt8)}{n:List UInt8}(h:ks.contains n=false):Mo (Uf ks) n=none:=by rw [fQ,if_neg (by simp only [h];decide)]
theorem wY (ks:List (List UInt8))(n:List UInt8):Uf ks ++ [(n,.bool true)]=Uf (ks ++ [n]):=by simp [Uf]
theorem dM {t:TypeId}{m k v:Operand}{kt et b i:Nat}{td tk:TD}{n:List UInt8}{ks:List (List UInt8)}{H H2:List HO}(hT:Hb P T)(ht:Bv T t=some td)(hk:td.kind = .map kt et)(htk:Bv T kt=some tk)(hkk:tk.kind = .str)
  (hm:ρ m = .val (.map (some b))) (hkey:ρ k = .str n) (hv:ρ v = .bool true) (hH:H[i]? = some (.smap b (Uf ks))) (hnew:ks.contains n=false) (hH2:H.set i (.smap b (Uf (ks ++ [n])))=H2) :
  Km P ⟨d,.mapUpdate t m k v,ty,pos,aft,gd⟩ ρ H (fun y H'=>y = .junk∧H'=H2):=
 Tx hT ht hk htk hkk hm hkey hv hH (wP hnew) (by rw [wY];exact hH2)
theorem Zd {t:TypeId}{m k:Operand}{kt et b i:Nat}{td tk te:TD}{n:List UInt8}{ks:List (List UInt8)}(hT:Hb P T)(ht:Bv T t=some td)(hk:td.kind = .map kt et)(htk:Bv T kt=some tk)(hkk:tk.kind = .str)
  (hte:Bv T et=some te) (hzs:P4 P et=true) (hm:ρ m = .val (.map (some b))) (hkey:ρ k = .str n) (hz:te.zero = [.bool false]) :
  Dn P ⟨d,.lookup t m k false,ty,pos,aft,gd⟩ ρ (fun H=>H[i]? = some (.smap b (Uf ks))) (.bool (ks.contains n)):=
 kO hT ht hk htk hkk hte hzs hm hkey (qX ks n hz)

variable {K:List HO→Prop}
theorem Lk {t:TypeId}{l0:List AV}{td:TD}{gs:List (Nat×Nat×Bool×Nat)}{parts:Array (Nat×Operand)}{l:List AV}(hT:Hb P T)(ht:Bv T t=some td)(hk:td.kind = .struct gs)
    (hz0:zOK P t l0=true) (h:Ua gs l0 (L5 ρ parts.toList)=some l):Dn P ⟨d,.build t parts,ty,pos,aft,gd⟩ ρ K (.agg l):=
  .of_run fun g w a hr=>by
    obtain ⟨fs,hu,hm,_,_,hall⟩:=Hv (hT t td ht) hk
    obtain ⟨it,hit,_,_,z,hz,hzs,hzr⟩:=(hT t td ht).info
    have hzr0:∀g w,Cx g w z.cells l0:=fun g w=>by
      unfold zOK at hz0
      simp only [hit,hz] at hz0
      obtain ⟨k1,k2⟩:=Rl hz0 g w
      exact ⟨by simpa using k1,fun i x hi=>by simpa using k2 i x hi⟩
    have hmm:∀(l:List Field),(l.all fun f=>(P.info? f.type).isSome)=true→l.mapM (fun f=>(P.info? f.type).map fun i=>(f.offset,i.size))=some (l.map fun f=>(f.offset,P.cellsOf f.type)):=by
      intro l
      induction l with
      | nil=>intro _;rfl
      | cons f r ih=>
        intro hl
        simp only [List.all_cons,Bool.and_eq_true] at hl
        obtain ⟨i,hi⟩:=Option.isSome_iff_exists.1 hl.1
        simp [List.mapM_cons,hi,ih hl.2,Program.cellsOf]
    obtain ⟨cells',h1,h2⟩:=U2 (g:=g) (w:=w) (fs:=gs) (place:=((fs.toList.map fun f=>(f.offset,P.cellsOf f.type)).toArray[·]?)) (fun i off zz nm ft hf=>by
        obtain ⟨fd,k1,k2,k3,_⟩:=S1 hm hf
        have:fs.toList[i]? = some fd:=by simpa using k1
        simp [this,k2,k3]) (parts.toList.map fun p=>(p.1,a.eval p.2)) (L5 ρ parts.toList) z.cells l0 l (by simp [Js]) (fun k p q hp hq=>by
        rw [Js,List.getElem?_map] at hq
        rw [List.getElem?_map] at hp
        cases hk':parts.toList[k]? with
        | none=>simp [hk'] at hp
        | some r=>
          simp only [hk',Option.map_some,Option.some.injEq] at hp hq
          subst hp;subst hq
          exact ⟨rfl,hr r.2 (by simp only [Op.operands,List.mem_toArray,List.mem_map];exact ⟨r,List.mem_of_getElem? hk',rfl⟩)⟩) (hzr0 g w) h
    refine ⟨.agg cells',?_,.agg _ _ h2.1 h2.2⟩
    have hb:P.built t (parts.map fun (i,x)=>(i,a.eval x)).toList=some cells':=by
      unfold Program.built
      simp only [hit,hu,hz,hmm fs.toList hall]
      simpa using h1
    simp only [execOp,Sem.run_bind,run_build w t _ _ hb,Result.andThen_ok,Sem.run_pure]

end
end Go.Aw
namespace Go.Aw

abbrev bcells (s:List UInt8):List (List AV):=s.map fun c=>[AV.int .u8 (c.toNat:Int)]

section
variable {P:Program} {T:List (Nat×TD)} {d:Option Nat} {ty:TypeId} {pos:String} {aft:Array Edge} {gd:Option (Nat×Bool)} {ρ:Operand→AV} {K:List HO→Prop}

theorem kG {g:Gh}{w:World}{s:List UInt8}(h:s.length≤maxLen):Rep g w (.string ⟨s.toArray⟩) (.str s):=.str _ _ (by simp) h

end

theorem Ext.of_below {g:Gh}{w w':World}(h:RowKit.Below w.heap.size w w'):Ext g w g w':=
 ⟨h.os,h.tape,h.output,h.size,fun b hb hg=>⟨hg,h.block b hb⟩,fun b n hb hg=>⟨fun m hm=>(by rw [hg] at hm;cases hm;exact Nat.le_refl _),fun o _=>by unfold World.cell?;simp only [h.block b hb]⟩⟩

theorem Ax.of_calls {P:Program}{f:FuncId}{args:List AV}{r:AV}
  (h:∀g w vs,GlobOK g w→Cx g w vs args→∃v,(∀g' w',Ext g w g' w'→Rep g' w' v r)∧Calls P f vs w (fun e w'=>e = .returned v∧RowKit.Below w.heap.size w w')):Ax P f args r:=by
 intro H g w vs hH ha
 obtain ⟨v,hv,hc⟩:=h g w vs hH.glob ha
 refine hc.mono ?_
 rintro e w' ⟨rfl,hb⟩
 have hx:=Ext.of_below (g:=g) hb
 exact ⟨v,g,r,H,rfl,hv g w' hx,hH.of_same hx fun o ho b hb'=>⟨rfl,hb.block b (HO.ok_lt (hH.ok o ho) hb').1⟩,hx,rfl,rfl⟩

theorem Ax.of_same {P:Program}{f:FuncId}{args:List AV}{r:AV}
  (h:∀g w vs,GlobOK g w→Cx g w vs args→∃v,(∀g' w',Rep g' w' v r)∧Calls P f vs w (fun e w'=>e = .returned v∧w'=w)):Ax P f args r:=
 .of_calls fun g w vs hg ha=>by
  obtain ⟨v,hv,hc⟩:=h g w vs hg ha
  exact ⟨v,fun g' w' _=>hv g' w',hc.mono (by rintro e w' ⟨rfl,rfl⟩;exact ⟨rfl,RowKit.Below.refl _ _⟩)⟩

theorem Cx.inv1 {g:Gh}{w:World}{vs:Array Value}{x:AV}(h:Cx g w vs [x]):∃v,vs = #[v]∧Rep g w v x:=by
 obtain ⟨h1,h2⟩:=h
 refine ⟨vs.getD 0 undef,?_,h2 0 x rfl⟩
 apply Array.ext
 · simpa using h1
 ·
  intro i hi hi'
  have:i=0:=by simp at h1;omega
  subst this
  simp [hi]
theorem Cx.inv2 {g:Gh}{w:World}{vs:Array Value}{x y:AV}(h:Cx g w vs [x,y]):∃u v,vs = #[u,v]∧Rep g w u x∧Rep g w v y:=by
 obtain ⟨h1,h2⟩:=h
 refine ⟨vs.getD 0 undef,vs.getD 1 undef,?_,h2 0 x rfl,h2 1 y rfl⟩
 have hs:vs.size=2:=by simpa using h1
 apply Array.ext
 · simpa using hs
 ·
  intro i hi hi'
  have:i=0∨i=1:=by omega
  rcases this with rfl | rfl <;> simp [hi,hs]

end Go.Aw
namespace Go.Aw

section
variable {P:Program} {T:List (Nat×TD)} {d:Option Nat} {ty:TypeId} {pos:String} {aft:Array Edge} {gd:Option (Nat×Bool)} {ρ:Operand→AV} {K:List HO→Prop}

theorem Bn {x:Operand}{a0:Addr}(h:ρ x = .val (.pointer (some a0))):Dn P ⟨d,.nilCheck x,ty,pos,aft,gd⟩ ρ K (.val (.pointer (some a0))):=
 .of_run fun g w a hr=>by
  have h1:=(h▸hr x (by simp [Op.operands]):Rep g w _ _).inv_val
  exact ⟨_,by simp [execOp,h1],.val _⟩

theorem HOK.perm {g:Gh}{w:World}{H K:List HO}(h:H.Perm K)(hH:HOK g w H):HOK g w K:=
 ⟨(h.filterMap _).nodup_iff.1 hH.nodup,fun o ho=>hH.ok o (h.mem_iff.2 ho),hH.glob⟩

theorem Dk.perm {f:FuncId}{args:List AV}{H K:List HO}{Q:AV→List HO→Prop}(h:H.Perm K)(hc:Dk P f K args Q):Dk P f H args Q:=
 fun g w vs hH hr=>hc g w vs (hH.perm h) hr

theorem Dk.post {f:FuncId}{args:List AV}{H:List HO}{Q Q':AV→List HO→Prop}(hc:Dk P f H args Q)(h:∀r K,Q r K→∃K',K.Perm K'∧Q' r K'):Dk P f H args Q':=
 fun g w vs hH hr=>(hc g w vs hH hr).mono fun e w' ⟨v,g',r,H',h1,h2,h3,h4,h5⟩=>
  let ⟨K',k1,k2⟩:=h r H' h5
  ⟨v,g',r,K',h1,h2,h3.perm k1,h4,k2⟩

def PCallS (P:Program)(f:FuncId)(b:Nat)(TT:TypeId)(cs cs':List AV)(args:List AV)(r:AV):Prop:=
 ∀R,Dk P f (.box b TT cs::R) args fun r' H'=>r'=r∧H' = .box b TT cs'::R

theorem Hz:∀{H:List HO} {k:Nat} {o:HO},H[k]? = some o→H.Perm (o::H.eraseIdx k)
  | [],k,o,h=>by simp at h
  | x::H,0,o,h=>by
    simp only [List.getElem?_cons_zero,Option.some.injEq] at h;subst h
    exact .refl _
  | x::H,k+1,o,h=>by
    have ih:=Hz (H:=H) (k:=k) (o:=o) (by simpa using h)
    exact (ih.cons x).trans (List.Perm.swap ..)
theorem AOL.gk {ops:Array Oper}{KK:St→Prop}{s:St}{o:Oper}{r:List Oper}{y:AV}{C:List HO→Prop}(G:List (Bool×Bool))(L:List (Nat×AV))(hw:H6 ops o s.sl=some G)
  (hL:∀p∈L,qN G (get s.sl p.1) p.2) (h:Ij G→Dn P o (Gz (L++s.sl)) C y) (hC:C s.H) (hd:Oa o.dst s.n=true) (k:AOL P ops KK r ⟨Fw o.dst (.opt G y) s.sl,s.H,s.n⟩):AOL P ops KK (o::r) s:=
 AOL.ps (.opt G y L hw hL h rfl) hC hd k

theorem uJ {g:Gh}{w:World}{a:Act}{s:St}(hG:Gm g s a w){G:List (Bool×Bool)}(hg:Ij G){L:List (Nat×AV)}(hL:∀p∈L,qN G (get s.sl p.1) p.2)(y:Operand):Rep g w (a.eval y) (Gz (L++s.sl) y):=by
  cases y with
  | tmp t=>
    show Rep g w _ (get (L++s.sl) t)
    rcases Nb L s.sl t with ⟨x,hx,e⟩ | e
    · rw [e];exact hL (t,x) hx g w _ hg (hG.sl t)
    · rw [e];exact hG.sl t
  | const v=>exact E9 g w v
  | global n=>exact .val _
  | func f=>exact .fn _ _ _ _ _ rfl (by simp) rfl (by simp)

end
end Go.Aw
namespace Go.Aw

section
variable {P:Program} {T:List (Nat×TD)} {d:Option Nat} {ty:TypeId} {pos:String} {aft:Array Edge} {gd:Option (Nat×Bool)} {ρ:Operand→AV} {K:List HO→Prop}

end


theorem ACall.Aat {P:Program}{f:FuncId}{args:List AV}{H R:List HO}{Q:AV→List HO→Prop}{o1 o2:HO}(k2 j:Nat)(hk2:H[k2]? = some o2)(hk1:(H.eraseIdx k2)[j]? = some o1)(hR:(H.eraseIdx k2).eraseIdx j=R)(h:Dk P f (o1::o2::R) args Q):Dk P f H args Q:=
 h.perm ((Hz hk2).trans ((((Hz hk1).trans (by rw [hR])).cons o2).trans (List.Perm.swap ..)))
theorem Dk.mono' {P:Program}{f:FuncId}{args:List AV}{H:List HO}{Q Q':AV→List HO→Prop}(h:Dk P f H args Q)(hq:∀r K,Q r K→Q' r K):Dk P f H args Q':=
 h.post fun r K hk=>⟨K,.refl _,hq r K hk⟩

section
variable {P:Program} {T:List (Nat×TD)} {d:Option Nat} {ty:TypeId} {pos:String} {aft:Array Edge} {gd:Option (Nat×Bool)} {ρ:Operand→AV} {K:List HO→Prop}
end
end Go.Aw
namespace Go.Aw

section
variable {P:Program} {T:List (Nat×TD)} {d:Option Nat} {ty:TypeId} {pos:String} {aft:Array Edge} {gd:Option (Nat×Bool)} {ρ:Operand→AV} {K:List HO→Prop}

theorem Yp {n:Nat}{t e:TypeId}(hu:P.underlying t=some (.slice e))(a:Option Addr)(k c:Nat)(w:World):(Op.equalIn (n+1) t (.slice a k c) (.slice none 0 0)).run P w = .ok a.isNone w:=by
 unfold Op.equalIn
 rw [Sem.run_bind,Ba hu]
 cases a <;> rfl



def byc (s:List UInt8):List (List AV):=s.map fun b=>[.int .u8 (b.toNat:Int)]
end
end Go.Aw
