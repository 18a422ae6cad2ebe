/-
  The abstract layer: abstract values, what represents them, states, operations, code, calls. No condition.
-/
import Derived.Test.YtkdhionilabokaaGreatDoorAv
set_option linter.unusedVariables false
set_option linter.unusedSimpArgs false
namespace Go.Aw

section
variable {P:Program} {Q:Exit->St->Prop} {N:St->Prop} {s:St}
theorem Aa (h:N s):Ea N Q .normal s:=h
theorem A1 {i:Nat}(h:Q (.exit i) s):Ea N Q (.exit i) s:=h
theorem Ap (h:Q .ret s):Ea N Q .ret s:=h
theorem C9 {i:Nat}(h:Q .normal s):Im i Q .normal s:=h
theorem Cn {i:Nat}(h:Q .ret s):Im i Q .ret s:=h
theorem Cd {i:Nat}(h:Q .normal s):Im i Q (.exit i) s:=by
 show (bif Nat.beq i i then Q .normal s else Q (.exit i) s);rw [Nat.beq_refl];exact h
theorem GS.refl (s:St):GS s s:=fun g _ w h=>⟨g,h,Ext.refl g w⟩
theorem GS.trans {s t u:St}(h:GS s t)(k:GS t u):GS s u:=fun g a w hG=>
 let ⟨g',hG',hx⟩:=h g a w hG
 let ⟨g'',hG'',hy⟩:=k g' a w hG'
 ⟨g'',hG'',hx.trans hy⟩

theorem AW.loopS {c:Code}{ι:Type}(S:ι->St)(R:ι->Prop)(μ:ι->Nat)(i:ι)(h0:R i)(g0:GS s (S i))(round:∀i,R i->AW P c (Ea (fun s'=>∃j,R j/\μ j<μ i/\GS s' (S j)) Q) (S i)):AW P (.loop c) Q s:=by
 refine AW.loop (fun n s=>∃i,R i/\μ i=n/\GS s (S i)) (μ i) ⟨i,h0,rfl,g0⟩ ?_;rintro n s ⟨i,hR,rfl,hG⟩;refine AW.ghost hG ((round i hR).mono ?_);intro e s' h;cases e with
 | normal=>obtain ⟨j,h1,h2,h3⟩:=h;exact ⟨μ j,h2,j,h1,rfl,h3⟩
 | _=>exact h

theorem AW.cut {x y:Code}{ι:Type}(S:ι->St)(R:ι->Prop)(h:AW P x (Ea (fun s'=>∃i,R i/\GS s' (S i)) Q) s)(k:∀i,R i->AW P y Q (S i)):AW P (.seq x y) Q s:=by
 refine AW.seq (h.mono ?_);intro e s' hs;cases e with
 | normal=>obtain ⟨i,h1,h2⟩:=hs;exact AW.ghost h2 (k i h1)
 | _=>exact hs
end

theorem Hn {c:List AV}(h:Bm c=true):∀x∈[c],Bm x=true:=by
 intro x hx;simp only [F3] at hx;subst hx;exact h
theorem sc_nil:∀x∈([]:List (List AV)),Bm x=true:=by simp
theorem M3 {α:Type}{f:α->List AV}{l:List α}(h:∀a,Bm (f a)=true):∀x∈l.map f,Bm x=true:=by
 intro x hx;obtain ⟨a,_,rfl⟩:=B7.1 hx;exact h a

def Un (G:List (Bool×Bool))(sl:List (Nat×AV)):List (Nat×AV)->Prop
 | []=>True
 | (t,x)::r=>Zs G (get sl t) x/\Un G sl r
theorem Un.all {G:List (Bool×Bool)}{sl:List (Nat×AV)}:∀{L:List (Nat×AV)},Un G sl L->∀p∈L,Zs G (get sl p.1) p.2
  | [],_,p,hp=>by cases hp
  | (t,x)::r,h,p,hp=>by
    rcases Cz.1 hp with rfl | hp
    . exact h.1
    exact Un.all h.2 p hp
end Go.Aw
namespace Go.Aw

def Y0:List (Int×AV)->Int->Option AV
 | [],_=>none
 | (k,x)::r,n=>if k=n then some x else Y0 r n

section
variable {P:Program} {T:List (Nat×TD)} {d:Option Nat} {ty:TypeId} {pos:String} {aft:Array Edge} {gd:Option (Nat×Bool)} {ρ:Operand->AV} {K:List HO->Prop}

theorem O0 {t:TypeId}{x:TD}{k e:Nat}(h:TyOK P t x)(hk:x.kind = .map k e):P.underlying t=some (.map k e):=by
 obtain ⟨u,hu,_,hk'⟩:=h.desc;rw [hk] at hk';cases u <;> simp only [Ls] at hk' <;> first | exact hk'.elim | (obtain ⟨rfl,rfl⟩:=hk';exact hu)

theorem jH {t:TypeId}{H:List HO}:Jj P ⟨d,.makeMap t none,ty,pos,aft,gd⟩ ρ H (fun x H'=>∃b,x = .val (.map (some b))/\H' = .mapo b []::H):=by
 intro g w a next Q hr hH hn
 unfold Oper.wp;simp only [execOp,Instr.makeMap,M8,Sem.run_bind,Sem.run_pure,run_newObj,Result.andThen_ok];have hx:=Ext.alloc g w (.map #[] 0) (some 0);refine hn (g.put w.heap.size (some 0)) _ _ _ _ ⟨w.heap.size,rfl,rfl⟩ (.val _) ((hH.alloc _ (some 0)).cons ⟨Gh.Aai _ _ _,#[],0,Ci w _,rfl,by simp,by simp⟩ ?_) hx;intro b hb x hx' hb';simp only [HO.blk,Option.some.injEq] at hb;have:=(HO.ok_lt (hH.ok x hx') hb').1;omega

theorem Rg {k:IntKind}{n:Int}:∀(l:List MapEntry) (es:List (Int×AV)) (i:Nat),l.length=es.length->(∀(j:Nat) m x,es[j]? = some (m,x)->(l.getD j default).key = .int .i64 m)->Y0 es n=none->
    Instr.findNow (.int k) (.int .i64 n) l i=some none
  | [],_,_,_,_,_=>rfl
  | e::l,[],_,h,_,_=>by simp at h
  | e::l,(m,x)::es,i,h,hk,hg=>by
    have h1:e.key = .int .i64 m:=by simpa using hk 0 m x rfl
    simp only [Y0] at hg;by_cases hm:m=n
    . simp [hm] at hg
    . rw [if_neg hm] at hg
      have:(n==m)=false:=by simp;exact fun e=>hm e.symm
      unfold Instr.findNow;simp only [h1,Instr.sameNow,if_true,this];exact Rg l es (i+1) (by simpa using h) (fun j m x hj=>by simpa using hk (j+1) m x hj) hg

theorem Rh {k:IntKind}{n:Int}{x:AV}{g:Gh}{w:World}:∀(l:List MapEntry) (es:List (Int×AV)) (i:Nat),l.length=es.length->(∀(j:Nat) m x,es[j]? = some (m,x)->(l.getD j default).key = .int .i64 m)->(∀(j:Nat) m x,es[j]? = some (m,x)->Rep g w (l.getD j default).val x)->Y0 es n=some x->
    ∃i' v,Instr.findNow (.int k) (.int .i64 n) l i=some (some (i',v))/\Rep g w v x
  | [],[],_,_,_,_,hg=>by simp [Y0] at hg
  | [],_::_,_,h,_,_,_=>by simp at h
  | e::l,[],_,h,_,_,_=>by simp at h
  | e::l,(m,y)::es,i,h,hk,hv,hg=>by
    have h1:e.key = .int .i64 m:=by simpa using hk 0 m y rfl
    have h2:Rep g w e.val y:=by simpa using hv 0 m y rfl
    simp only [Y0] at hg;by_cases hm:m=n
    . subst hm
      simp only [if_true,Option.some.injEq] at hg;subst hg;refine ⟨i,e.val,?_,h2⟩;unfold Instr.findNow;simp [h1,Instr.sameNow]
    . rw [if_neg hm] at hg
      have:(n==m)=false:=by simp;exact fun e=>hm e.symm
      unfold Instr.findNow;simp only [h1,Instr.sameNow,if_true,this];exact Rh l es (i+1) (by simpa using h) (fun j m x hj=>by simpa using hk (j+1) m x hj) (fun j m x hj=>by simpa using hv (j+1) m x hj) hg

theorem Qx {n:Nat}{kt:TypeId}{k:IntKind}(h:P.underlying kt=some (.int k)){b:Bool}{j:IntKind}{m:Int}(w:World):(Instr.checkKey b (n+1) kt (.int j m)).run P w = .ok () w:=by
 unfold Instr.checkKey;rw [Sem.run_bind,Bg h];rfl

theorem Kw {t:TypeId}{m k v:Operand}{kt et b i:Nat}{td tk:TD}{kk:IntKind}{n:Int}{es:List (Int×AV)}{x:AV}{H H2:List HO}(hT:G9 P T)(ht:Bp T t=some td)(hk:td.kind = .map kt et)(htk:Bp T kt=some tk)(hkk:tk.kind = .int kk)
  (hm:ρ m = .val (.map (some b))) (hkey:ρ k = .int .i64 n) (hv:ρ v=x) (hH:H[i]? = some (.mapo b es)) (hnew:Y0 es n=none) (hH2:H.set i (.mapo b (es ++ [(n,x)]))=H2) :
  Jj P ⟨d,.insert t m k v,ty,pos,aft,gd⟩ ρ H (fun y H'=>y = .junk/\H'=H2):=by
 subst hH2;intro g w a next Q hr hHK hn
 have h1:=(hm▸hr m (by simp [Op.operands]):Rep g w _ _).inv_val;have h2:=(hkey▸hr k (by simp [Op.operands]):Rep g w _ _).inv_int;have h3:Rep g w (a.eval v) x:=hv▸hr v (by simp [Op.operands]);obtain ⟨hg,ms,clock,hheap,hl,hks,hvs⟩:=hHK.ok _ (A0 hH);have hb:b<w.heap.size:=(Array.getElem?_eq_some_iff.1 hheap).1;have hu:=O0 (hT t td ht) hk;have huk:=Ja (hT kt tk htk) hkk;have hl':ms.toList.length=es.length:=by simpa using hl
 have hfind:=Rg (k:=kk) (n:=n) ms.toList es 0 hl' (fun j m x hj=>by simpa using hks j m x hj) hnew;have hget:(getObj b).run P w = .ok (.map ms clock) w:=by simp [getObj,Sem.run,hheap]
 have hset:∀o:Obj,(setObj b o).run P w = .ok () { w with heap:=w.heap.setIfInBounds b o }:=fun o=>by simp [setObj,Sem.run,hheap]
 have hrun:(Instr.mapUpdate t (a.eval m) (a.eval k) (a.eval v)).run P w = .ok () { w with heap:=w.heap.setIfInBounds b (.map (ms.push { key:=.int .i64 n,val:=a.eval v,born:=clock }) (clock+1)) }:=by
  unfold Instr.mapUpdate;rw [Sem.run_bind,Bg hu];simp only [Result.andThen_ok,h1,Sem.run_bind,hget,h2,Qx (n:=9999) huk]
  have hfk:(Instr.findKey kt (.int .i64 n) ms.toList).run P w = .ok none w:=by
   unfold Instr.findKey;rw [Sem.run_bind,Bg huk];simp only [Result.andThen_ok,hfind,Sem.run_pure]
  simp only [hfk,Result.andThen_ok,hset]
 unfold Oper.wp;simp only [execOp,Sem.run_bind,hrun,Result.andThen_ok,Sem.run_pure]
 have hnew':({ w with heap:=w.heap.setIfInBounds b (.map (ms.push { key:=.int .i64 n,val:=a.eval v,born:=clock }) (clock+1)) }:World).heap[b]? = some (.map (ms.push { key:=.int .i64 n,val:=a.eval v,born:=clock }) (clock+1)):=by
  simp [hb]
 have hoth:∀c,c≠b->({ w with heap:=w.heap.setIfInBounds b (.map (ms.push { key:=.int .i64 n,val:=a.eval v,born:=clock }) (clock+1)) }:World).heap[c]? = w.heap[c]? :=fun c hc=>by
  simp [Array.getElem?_setIfInBounds_ne (Ne.symm hc)]
 have hx:Ext g w g { w with heap:=w.heap.setIfInBounds b (.map (ms.push { key:=.int .i64 n,val:=a.eval v,born:=clock }) (clock+1)) }:=by
  refine ⟨rfl,rfl,rfl,by simp,fun c hc hgc=>⟨hgc,hoth c fun e=>by rw [e,hg] at hgc;cases hgc⟩,fun c m' hc hgc=>⟨fun m'' hm''=>by rw [hgc] at hm'';cases hm'';exact Bi _,fun o ho=>?_⟩⟩;have hne:c≠b:=fun e=>by rw [e,hg] at hgc;cases hgc;omega
  unfold World.cell?;rw [hoth c hne]
 refine hn g _ undef .junk _ ⟨rfl,rfl⟩ (.junk _) (hHK.set hx hH (fun c hc=>.inl hc) ⟨hg,_,_,hnew',by simp [hl],?_,?_⟩ (fun c hc hne _=>⟨rfl,hoth c fun e=>hne (by rw [e];rfl)⟩)) hx
 .
  intro j m' y hj;rw [List.getElem?_append] at hj;split at hj
  .
   rename_i hlt;have:=hks j m' y hj;have hlt':j<ms.size:=by omega
   simpa [Ce,Array.getElem?_push,show j≠ms.size by omega] using this
  rename_i hlt
  have:j-es.length=0:=by
   rcases Te (j-es.length) with h | h
   . exact h
   rw [List.getElem?_eq_none (by simp;omega)] at hj;cases hj
  rw [this] at hj;simp at hj;have hj':j=ms.size:=by omega
  subst hj';simp [Ce,hj.1]
 intro j m' y hj;rw [List.getElem?_append] at hj;split at hj
 .
  rename_i hlt;have:=(hvs j m' y hj).mono hx;have hlt':j<ms.size:=by omega
  simpa [Ce,Array.getElem?_push,show j≠ms.size by omega] using this
 rename_i hlt
 have:j-es.length=0:=by
  rcases Te (j-es.length) with h | h
  . exact h
  rw [List.getElem?_eq_none (by simp;omega)] at hj;cases hj
 rw [this] at hj;simp at hj;have hj':j=ms.size:=by omega
 subst hj';simp only [Ce,Array.getElem?_push,if_true,K7];rw [<-hj.2];exact h3.mono hx
theorem GS.freezeMap {sl:List (Nat×AV)}{H:List HO}{n t b:Nat}{es:List (Int×AV)}(k:Nat)(h:get sl t = .val (.map (some b)))(hk:H[k]? = some (.mapo b es)):GS ⟨sl,H,n⟩ ⟨(t,.mapv es)::sl,H.eraseIdx k,n⟩:=fun g a w hG=>by
 obtain ⟨hg,ms,clock,h1,h2,h3,h4⟩:=hG.heap.ok _ (A0 hk)
 have hx:Ext g w (g.put b none) w:=by
  refine ⟨rfl,rfl,rfl,⟨Bi _,Bi _⟩,fun c hc hgc=>⟨?_,rfl⟩,fun c m hc hgc=>⟨fun m' hm=>?_,fun _ _=>rfl⟩⟩
  .
   by_cases e:c=b
   . subst e;exact Gh.Aai _ _ _
   rw [Gh.Aal _ _ e];exact hgc
  by_cases e:c=b
  . subst e;rw [Gh.Aai] at hm;cases hm
  rw [Gh.Aal _ _ e,hgc] at hm;cases hm;exact Bi _
 refine ⟨g.put b none,⟨hG.size,hG.defers,fun i=>?_,?_⟩,hx⟩
 .
  show Rep _ w _ (get ((t,.mapv es)::sl) i);rw [Fo];by_cases e:t=i
  .
   subst e;simp only [if_true];have h5:a.tmps.getD t undef = .map (some b):=(h▸hG.sl t:Rep g w _ _).inv_val;rw [h5];exact .mapv b ms clock es (Gh.Aai _ _ _) (Array.getElem?_eq_some_iff.1 h1).1 h1 h2 h3 (fun i k x hi=>(h4 i k x hi).mono hx)
  simp only [e,if_false];exact (hG.sl i).mono hx
 have hsub:(H.eraseIdx k).Sublist H:=Qa ..;refine ⟨(hG.heap.sub hsub).nodup,fun o ho=>?_,hG.heap.glob.mono hx⟩;obtain ⟨j,hj⟩:=List.getElem?_of_mem ho;rw [List.getElem?_eraseIdx] at hj
 obtain ⟨j',hjk,hj'⟩:∃j',j'≠k/\H[j']? = some o:=by
  split at hj
  . exact ⟨j,by omega,hj⟩
  exact ⟨j+1,by omega,hj⟩
 have hok:=hG.heap.ok o (A0 hj');refine HO.ok_of_same hx hok fun c hc=>⟨Gh.Aal _ _ fun e=>hjk (hG.heap.nodup_blk hj' hk (e▸hc) rfl),rfl⟩
theorem lR {t:TypeId}{m k:Operand}{kt et:Nat}{td tk:TD}{kk:IntKind}{n:Int}{es:List (Int×AV)}{x:AV}(hT:G9 P T)(ht:Bp T t=some td)(hk:td.kind = .map kt et)(htk:Bp T kt=some tk)(hkk:tk.kind = .int kk)
    (hm:ρ m = .mapv es) (hkey:ρ k = .int .i64 n) (hx:Y0 es n=some x):Dr P ⟨d,.lookup t m k false,ty,pos,aft,gd⟩ ρ K x:=
  .of_run fun g w a hr=>by
    have h1:=(hm▸hr m (by simp [Op.operands]):Rep g w _ _);have h2:=(hkey▸hr k (by simp [Op.operands]):Rep g w _ _).inv_int;have hu:=O0 (hT t td ht) hk;have huk:=Ja (hT kt tk htk) hkk;generalize he:a.eval m=vm at h1;cases h1 with
    | mapv b ms clock _ hg hb hheap hl hks hvs=>
      obtain ⟨i',v,hf,hrep⟩:=Rh (k:=kk) (n:=n) (x:=x) (g:=g) (w:=w) ms.toList es 0 (by simpa using hl) (fun j m x hj=>by simpa using hks j m x hj) (fun j m x hj=>by simpa using hvs j m x hj) hx;refine ⟨v,?_,hrep⟩;have hget:(getObj b).run P w = .ok (.map ms clock) w:=by simp [getObj,Sem.run,hheap]
      have hfk:(Instr.findKey kt (.int .i64 n) ms.toList).run P w = .ok (some (i',v)) w:=by
        unfold Instr.findKey;rw [Sem.run_bind,Bg huk];simp only [Result.andThen_ok,hf,Sem.run_pure]
      simp only [execOp,Instr.lookup,Sem.run_bind,Bg hu,Result.andThen_ok,he,hget,Sem.run_pure,h2,Qx (n:=9999) huk,hfk,A2,if_false]

end
end Go.Aw
namespace Go.Aw
section
variable {P:Program} {T:List (Nat×TD)} {ρ:Operand->AV} {K:List HO->Prop} {d:Option Nat} {ty:TypeId} {pos:String} {aft:Array Edge} {gd:Option (Nat×Bool)}

theorem Gz {x i:Operand}{t e len:Nat}{td te:TD}{k:IntKind}{n:Int}{cs:List AV}{c:AV}(hT:G9 P T)(h:ρ x = .agg cs)(hi:ρ i = .int k n)(ht:Bp T t=some td)(hk:td.kind = .array len e)
  (hte:Bp T e=some te) (hz:te.size=1) (ha:te.agg=false) (h0:0<=n) (hl:n<len) (hc:cs[n.toNat]? = some c):Dr P ⟨d,.index t x i,ty,pos,aft,gd⟩ ρ K c:=
 .of_run fun g w a hr=>by
  obtain ⟨vs,h1,h2⟩:=(h▸hr x (by simp [Op.operands]):Rep g w _ _).inv_agg;have h4:=(hi▸hr i (by simp [Op.operands]):Rep g w _ _).inv_int;have hu:=Ot (hT t td ht) hk;have hlt:n.toNat<vs.size:=by rw [h2.1];exact (List.getElem?_eq_some_iff.1 hc).1
  refine ⟨vs.getD n.toNat undef,?_,h2.2 _ _ hc⟩;simp only [execOp,h1,h4,Instr.index,asIntOf,Sem.run_bind,Sem.run_pure,Result.andThen_ok,Bg hu];simp [h0,hl,Gc (hT e te hte),hz,part,Mb (hT e te hte),ha,hlt]

def Us (z:Nat):Nat->Nat->List (Nat×Nat×Bool×Nat)
 | _,0=>[]
 | k,n+1=>(k*z,z,true,0)::Us z (k+1) n

theorem Wu (z:Nat):∀(n k i:Nat) (off zz:Nat) (nm:Bool) (ft:Nat),(Us z k n)[i]? = some (off,zz,nm,ft)->off=(k+i)*z/\zz=z
  | 0,_,i,_,_,_,_,h=>by simp [Us] at h
  | n+1,k,0,off,zz,nm,ft,h=>by simp [Us] at h;exact ⟨h.1.symm,h.2.1.symm⟩
  | n+1,k,i+1,off,zz,nm,ft,h=>by
    simp only [Us,List.getElem?_cons_succ] at h;obtain ⟨h1,h2⟩:=Wu z n (k+1) i off zz nm ft h;exact ⟨by rw [h1];congr 1;omega,h2⟩

theorem Ij {t e len:Nat}{td te:TD}{parts:Array (Nat×Operand)}{l:List AV}(hT:G9 P T)(ht:Bp T t=some td)(hk:td.kind = .array len e)(hte:Bp T e=some te)
    (h:Ur (Us te.size 0 len) td.zero (N9 ρ parts.toList)=some l):Dr P ⟨d,.build t parts,ty,pos,aft,gd⟩ ρ K (.agg l):=
  .of_run fun g w a hr=>by
    have hu:=Ot (hT t td ht) hk;obtain ⟨it,hit,_,_,z,hz,hzs,hzr⟩:=(hT t td ht).info
    obtain ⟨cells',h1,h2⟩:=X9 (g:=g) (w:=w) (fs:=Us te.size 0 len) (place:=fun i=>some (i*te.size,te.size)) (fun i off zz nm ft hf=>by
        obtain ⟨h1,h2⟩:=Wu _ _ _ _ _ _ _ _ hf;subst h2;subst h1;simp) (parts.toList.map fun p=>(p.1,a.eval p.2)) (N9 ρ parts.toList) z.cells td.zero l (by simp [Mf]) (fun k p q hp hq=>by
        rw [Mf,List.getElem?_map] at hq;rw [List.getElem?_map] at hp;cases hk':parts.toList[k]? with
        | none=>simp [hk'] at hp
        | some r=>
          simp only [hk',E4,Option.some.injEq] at hp hq;subst hp;subst hq;exact ⟨rfl,hr r.2 (by simp only [Op.operands,List.mem_toArray,B7];exact ⟨r,A0 hk',rfl⟩)⟩) (hzr g w) h
    refine ⟨.agg cells',?_,.agg _ _ h2.1 h2.2⟩
    have hb:P.built t (parts.map fun (i,x)=>(i,a.eval x)).toList=some cells':=by
      obtain ⟨ie,hie,hse,_⟩:=(hT e te hte).info;unfold Program.built;simp only [hit,hu,hz,hie,hse];simpa using h1
    simp only [execOp,Sem.run_bind,run_build w t _ _ hb,Result.andThen_ok,Sem.run_pure]

theorem GS.cell {sl:List (Nat×AV)}{H H2:List HO}{n b TT:Nat}{cs cs':List AV}(k o:Nat){c c':AV}(hk:H[k]? = some (.box b TT cs))(hc:cs[o]? = some c)(hcs:cs.set o c'=cs')(hH2:H.set k (.box b TT cs')=H2)
  (hw:∀g w v,Rep g w v c->Rep g w v c'):GS ⟨sl,H,n⟩ ⟨sl,H2,n⟩:=fun g a w hG=>by
 subst hcs;subst hH2;refine ⟨g,⟨hG.size,hG.defers,hG.sl,?_⟩,Ext.refl g w⟩;refine hG.heap.set (Ext.refl g w) hk (fun b h=>.inl h) ?_ (fun _ _ _ _=>⟨rfl,rfl⟩);obtain ⟨h1,vs,h2,h3,h4⟩:=hG.heap.ok _ (A0 hk);refine ⟨h1,vs,h2,by simpa using h3,fun i x hi=>?_⟩;rw [List.getElem?_set] at hi;split at hi
 .
  rename_i e;subst e;split at hi
  . cases hi;exact hw g w _ (h4 _ _ hc)
  cases hi
 exact h4 i x hi
theorem Wa {v:Value}{z:Nat}{es:List (List AV)}:∀g w u,Rep g w u (.row v z es)->Rep g w u (.sl z es):=fun _ _ _ h=>h.inv_row.2
theorem GS.cellRow {sl:List (Nat×AV)}{H H2:List HO}{n b TT:Nat}{cs cs':List AV}(k o E z:Nat)(hk:H[k]? = some (.box b TT cs))(hc:cs[o]? = some (.val (.slice none 0 0)))
  (hcs:cs.set o (.row (.slice none 0 0) z [])=cs') (hH2:H.set k (.box b TT cs')=H2):GS ⟨sl,H,n⟩ ⟨sl,.row (.slice none 0 0) 0 E z::H2,n⟩:=fun g a w hG=>by
 have h1:GS ⟨sl,H,n⟩ ⟨sl,H2,n⟩:=GS.cell k o hk hc hcs hH2 (fun g w u h=>by rw [h.inv_val];exact .row _ _ _ (.sl0 _ _ _ (Bn _)));obtain ⟨g',hG',hx⟩:=h1 g a w hG;exact ⟨g',⟨hG'.size,hG'.defers,hG'.sl,hG'.heap.cons (.inl ⟨rfl,rfl⟩) (fun b hb=>by cases hb)⟩,hx⟩

theorem AW.sllen {c:Code}{Q:Exit->St->Prop}{s:St}{z:Nat}{es:List (List AV)}(t:Nat)(h:get s.sl t = .sl z es)(k:es.length<=maxLen->AW P c Q s):AW P c Q s:=by
 intro Q' g a w hG hQ;obtain ⟨_,n,cap,_,h1,h2,h3,_⟩:=(h▸hG.sl t:Rep g w _ _).inv_sl;exact k (by omega) Q' g a w hG hQ
theorem OpP.Aan {o:Oper}{x:AV}{ho:HO}{KK:List HO->Prop}(h:∀k:Nat,Dr P o ρ (fun H=>H[k]? = some ho) x)(hK:∀H,KK H->ho∈H):Dr P o ρ KK x:=by
 intro g w a H next Q hr hH hk hn
 obtain ⟨k,hk⟩:=List.getElem?_of_mem (hK H hk);exact h k g w a H next Q hr hH hk hn

end
end Go.Aw
namespace Go.Aw

def g0:Gh:=fun _=>none

structure Bulk {H:Type} (B:DataW H->Nat) (BA:List (DataW H)->Nat):Prop where
 nil:BA []=0
 cons:∀x r,BA (x::r)=B x+BA r
 agg:∀ps,BA ps<=B (.agg ps)
 slice:∀es sp,BA es+1<=B (.slice es sp)
 str:∀s,s.length+1<=B (.lit (.string s))
 one:∀d,1<=B d

section
variable {H:Type} {enc:TypeId×Value->H} {P:Program} {w:World} {sp:Nat->Bool} {hd:Bool} {B:DataW H->Nat} {BA:List (DataW H)->Nat}

def Rd (enc:TypeId×Value->H)(P:Program)(w:World)(sp:Nat->Bool)(hd:Bool)(B:DataW H->Nat){α:Type}(fuel:Nat)(t:TypeId)(f:α->List AV)(ok:α->Prop)(bk:α->Nat):Prop:=
 ∀cs d ps,DataW.trod enc P w 0 sp hd fuel t cs=some (d,ps)->∃x,ok x/\bk x<=B d/\Cv g0 w cs.toArray (f x)

def Rds (enc:TypeId×Value->H)(P:Program)(w:World)(sp:Nat->Bool)(hd:Bool)(BA:List (DataW H)->Nat){α:Type}(fuel:Nat)(off:Nat)(ts:List TypeId)(f:α->List AV)(ok:α->Prop)(bk:α->Nat):Prop:=
 ∀(cs:List Value) (xs:List (DataW H×List MemPlace)),cs.length=off+(ts.map P.cellsOf).sum->xs.length=ts.length->
  (∀i t,ts[i]? = some t->DataW.trod enc P w 0 sp hd fuel t ((cs.drop (off+((ts.take i).map P.cellsOf).sum)).take (P.cellsOf t))=xs[i]?)->
  ∃x,ok x/\bk x<=BA (xs.map (·.1))/\Cv g0 w (cs.drop off).toArray (f x)

theorem Rd.map {α β:Type}{fuel:Nat}{t:TypeId}{f:α->List AV}{ok:α->Prop}{bk:α->Nat}{f':β->List AV}{ok':β->Prop}{bk':β->Nat}(h:Rd enc P w sp hd B fuel t f ok bk)(g:α->β)
  (hf:∀x,f' (g x)=f x) (ho:∀x,ok x->ok' (g x)) (hb:∀x,bk' (g x)<=bk x):Rd enc P w sp hd B fuel t f' ok' bk':=by
 intro cs d ps hr;obtain ⟨x,h1,h2,h3⟩:=h cs d ps hr;exact ⟨g x,ho x h1,Fp (hb x) h2,by rw [hf];exact h3⟩

theorem Ob {g:Gh}{w:World}{v:Value}{x:AV}(h:Rep g w v x):Cv g w [v].toArray [x]:=by
 refine ⟨rfl,fun i y hi=>?_⟩
 match i,hi with
 | 0,hi=>simp at hi;subst hi;exact h
 | n+1,hi=>simp at hi

theorem fI {g:Gh}{w:World}{cs:List Value}{k:Nat}{l m:List AV}(h:Cv g w (cs.take k).toArray l)(h':Cv g w (cs.drop k).toArray m):Cv g w cs.toArray (l++m):=by
 have:=h.append h';rw [List.append_toArray,Iv] at this;exact this

theorem Tc {t:TypeId}{cs:List Value}{x:DataW H×List MemPlace}(h:DataW.trod enc P w 0 sp hd 0 t cs=some x):False:=by simp [DataW.trod] at h
theorem Rd.zero {α:Type}{t:TypeId}{f:α->List AV}{ok:α->Prop}{bk:α->Nat}:Rd enc P w sp hd B 0 t f ok bk:=fun _ _ _ h=>(Tc h).elim

theorem Rd.int {fuel:Nat}{t:TypeId}{k:IntKind}(h:P.underlying t=some (.int k))(hB:Bulk B BA):Rd enc P w sp hd B fuel t (fun n:Int=>[.int k n]) (fun n=>(Lit.int k n).wf=true) (fun _=>1):=by
  intro cs d ps hr;cases fuel with
  | zero=>exact (Tc hr).elim
  | succ n=>
    unfold DataW.trod at hr;rw [h] at hr;split at hr <;> simp_all
    obtain ⟨⟨rfl,h1⟩,rfl,rfl⟩:=hr;exact ⟨_,h1,hB.one _,Ob (.int _ _)⟩

theorem Rd.str {fuel:Nat}{t:TypeId}(h:P.underlying t=some .string)(hB:Bulk B BA):Rd enc P w sp hd B fuel t (fun s:List UInt8=>[.str s]) (fun s=>s.length<=maxLen) (fun s=>s.length+1):=by
  intro cs d ps hr;cases fuel with
  | zero=>exact (Tc hr).elim
  | succ n=>
    unfold DataW.trod at hr;rw [h] at hr;split at hr <;> simp_all
    obtain ⟨h1,rfl,rfl⟩:=hr;rename_i s;have hl:s.data.toList.length<=maxLen:=h1;exact ⟨s.data.toList,hl,by simpa using hB.str s.data.toList,Ob (.str s _ rfl hl)⟩

theorem Z8 (hB:Bulk B BA){α:Type}{bk:α->Nat}:∀(l:List α) (ds:List (DataW H)),l.length=ds.length->(∀(i:Nat) (x:α) (d:DataW H),l[i]? = some x->ds[i]? = some d->bk x<=B d)->(l.map bk).sum<=BA ds
  | [],[],_,_=>by simp
  | [],_::_,h,_=>by simp at h
  | _::_,[],h,_=>by simp at h
  | x::l,d::ds,h,hb=>by
    have h1:=Z8 hB l ds (by simpa using h) fun i y e hy he=>hb (i+1) y e (by simpa using hy) (by simpa using he)
    have h2:=hb 0 x d rfl rfl;rw [hB.cons];simp only [Ba,Dq];omega

theorem Tj {α:Type}{R:Nat->α->Prop}:∀(n:Nat),(∀i,i<n->∃x,R i x)->∃l:List α,l.length=n/\∀i x,l[i]? = some x->R i x
  | 0,_=>⟨[],rfl,by simp⟩
  | n+1,h=>by
    obtain ⟨l,hl,hr⟩:=Tj n fun i hi=>h i (by omega)
    obtain ⟨x,hx⟩:=h n (by omega);refine ⟨l ++ [x],by simp [hl],fun i y hi=>?_⟩;rw [List.getElem?_append] at hi;split at hi
    . exact hr i y hi
    . rename_i h1
      have:i=n:=by
        have:=(List.getElem?_eq_some_iff.1 hi).1;simp at this;omega
      subst this;simp [hl] at hi;subst hi;exact hx

theorem Pm {a:Addr}{n:Nat}{cs:List Value}(h:w.cells? 0 a n=some cs):cs.length=n/\∀j v,cs[j]? = some v->w.cell? (a.add j)=some v:=by
 unfold World.cells? at h;simp only [Bn,if_true] at h;have hl:cs.length=n:=by simpa using mapM_some_length h
 refine ⟨hl,fun j v hj=>?_⟩;have:j<n:=by rw [<-hl];exact (List.getElem?_eq_some_iff.1 hj).1
 rw [mapM_some_get h j j (by simp [this]),hj]

theorem Rd.slice {α:Type}{fuel:Nat}{t e:TypeId}{z:Nat}{f:α->List AV}{ok:α->Prop}{bk:α->Nat}(h:P.underlying t=some (.slice e))(hz:P.cellsOf e=z)(hpos:0<z)(hB:Bulk B BA)
  (he:Rd enc P w sp hd B fuel e f ok bk):Rd enc P w sp hd B (fuel+1) t (fun l:List α=>[.sl z (l.map f)]) (fun l=>∀x∈l,ok x) (fun l=>(l.map bk).sum+1):=by
 intro cs d ps hr;rcases DataW.trod_slice h hr with ⟨rfl,hx⟩ | ⟨a,len,cap,elems,rest,n,hn,rfl,hx,_,hlc,hcm,hel,hg,_,_⟩
 .
  refine ⟨[],by simp,?_,Ob (.sl0 _ _ _ (Bn _))⟩;simp only [Gv,List.sum_nil];exact hB.one _
 simp only [Prod.mk.injEq] at hx;obtain ⟨rfl,rfl⟩:=hx;cases hn
 have key:∀i,i<len->∃x:α,ok x/\(∀d,(elems.map (·.1))[i]? = some d->bk x<=B d)/\∃ds:List Value,w.cells? 0 (a.add (i*z)) z=some ds/\Cv g0 w ds.toArray (f x):=by
  intro i hi;have hi':=hg i hi;rw [hz] at hi';have hlt:i<elems.length:=by omega
  rw [List.getElem?_eq_getElem hlt] at hi';obtain ⟨ds,h1,h2⟩:=Option.bind_eq_some_iff.1 hi';obtain ⟨x,h3,h4,h5⟩:=he ds elems[i].1 elems[i].2 h2;refine ⟨x,h3,fun d hd=>?_,ds,h1,h5⟩;simp [hlt] at hd;subst hd;exact h4
 obtain ⟨l,hl,hr⟩:=Tj len key;refine ⟨l,fun x hx=>?_,?_,?_⟩
 .
  obtain ⟨i,hi⟩:=List.getElem?_of_mem hx;exact (hr i x hi).1
 .
  have:=Z8 hB (bk:=bk) l (elems.map (·.1)) (by simp [hl,hel]) fun i x d hi hd=>(hr i x hi).2.1 d hd
  have:=hB.slice (elems.map (·.1)) (rest.map (·.1));show (l.map bk).sum+1<=_;omega
 refine Ob ?_;by_cases h0:len=0
 .
  have:l = []:=List.eq_nil_of_length_eq_zero (by omega);subst this;subst h0;exact .sl0 _ _ _ hcm
 have hne:0<len:=by omega
 have hlx:∀i x,l[i]? = some x->(f x).length=z:=fun i x hi=>by
  obtain ⟨_,_,ds,h1,h2⟩:=hr i x hi;have:=(Pm h1).1;have h3:=h2.1;simp at h3;omega
 have hspot:a.spot=none:=by
  have h0':0<l.length:=by omega
  obtain ⟨_,_,ds,h1,h2⟩:=hr 0 l[0] (List.getElem?_eq_getElem h0');obtain ⟨h3,h4⟩:=Pm h1;have h5:=h4 0 ds[0] (List.getElem?_eq_getElem (by omega));have:=World.cell?_spot h5;simpa [Addr.add] using this
 obtain ⟨b,o,spot⟩:=a;simp only at hspot;subst hspot
 have hcell:∀i x,l[i]? = some x->∀j y,(f x)[j]? = some y->∃v,w.cell? ⟨b,o+i*z+j,none⟩=some v/\Rep g0 w v y:=by
  intro i x hi j y hj;obtain ⟨_,_,ds,h1,h2⟩:=hr i x hi;obtain ⟨h3,h4⟩:=Pm h1
  have hjl:j<ds.length:=by
   have:=(List.getElem?_eq_some_iff.1 hj).1;have:=hlx i x hi;omega
  have h5:=h4 j ds[j] (List.getElem?_eq_getElem hjl);have h6:=h2.2 j y hj;rw [WideShapes.add_plain,WideShapes.add_plain] at h5;refine ⟨ds[j],h5,?_⟩;simpa [hjl] using h6
 refine .sl b o len cap z (l.map f) (by simp [hl]) hlc hcm ?_ (fun i j=>(w.cell? ⟨b,o+i*z+j,none⟩).getD undef) ?_ ?_
 .
  intro e he;obtain ⟨x,hx,rfl⟩:=B7.1 he;obtain ⟨i,hi⟩:=List.getElem?_of_mem hx;exact hlx i x hi
 .
  intro i e hi j y hj;simp only [List.getElem?_map,Option.map_eq_some_iff] at hi;obtain ⟨x,hi,rfl⟩:=hi;obtain ⟨v,h1,_⟩:=hcell i x hi j y hj;exact ⟨trivial,by rw [h1];rfl⟩
 intro i e hi j y hj;simp only [List.getElem?_map,Option.map_eq_some_iff] at hi;obtain ⟨x,hi,rfl⟩:=hi;obtain ⟨v,h1,h2⟩:=hcell i x hi j y hj;rw [h1];exact h2
theorem Rds.nil {fuel off:Nat}:Rds enc P w sp hd BA fuel off [] (fun _:Unit=>[]) (fun _=>True) (fun _=>0):=by
 intro cs xs hl _ _;refine ⟨(),trivial,Bn _,?_,by simp⟩;simp at hl;simp;omega

theorem Rds.cons {α β:Type}{fuel off z:Nat}{t:TypeId}{ts:List TypeId}{f:α->List AV}{ok:α->Prop}{bk:α->Nat}{F:β->List AV}{OK:β->Prop}{BK:β->Nat}(hB:Bulk B BA)(hz:P.cellsOf t=z)
    (h:Rd enc P w sp hd B fuel t f ok bk) (hs:Rds enc P w sp hd BA fuel (off+z) ts F OK BK):Rds enc P w sp hd BA fuel off (t::ts) (fun x:α×β=>f x.1++F x.2) (fun x=>ok x.1/\OK x.2) (fun x=>bk x.1+BK x.2):=by
  intro cs xs hl hx hg;cases xs with
  | nil=>simp at hx
  | cons x xs=>
    have h0:=hg 0 t rfl;simp only [List.take_zero,Gv,List.sum_nil,Nat.add_zero,List.getElem?_cons_zero] at h0;obtain ⟨a,h1,h2,h3⟩:=h _ x.1 x.2 h0
    obtain ⟨b,k1,k2,k3⟩:=hs cs xs (by simp only [Ba,Dq,hz] at hl;omega) (by simpa using hx) (fun i t' hi=>by
      have:=hg (i+1) t' (by simpa using hi);simp only [List.take_succ_cons,Ba,Dq,hz,List.getElem?_cons_succ] at this;rw [<-this]
      congr 3
      omega)
    refine ⟨(a,b),⟨h1,k1⟩,?_,?_⟩
    . simp only [Ba,hB.cons];omega
    . rw [hz] at h3
      refine fI (k:=z) h3 ?_;rw [List.drop_drop];exact k3

theorem Rd.struct {α:Type}{fuel:Nat}{t:TypeId}{fs:Array Field}{ts:List TypeId}{f:α->List AV}{ok:α->Prop}{bk:α->Nat}(h:P.underlying t=some (.struct fs))(hB:Bulk B BA)
  (hts:fs.toList.map (·.type)=ts) (hoff:fs.toList.map (·.offset)=(List.range ts.length).map fun i=>((ts.take i).map P.cellsOf).sum) (hsz:P.cellsOf t=(ts.map P.cellsOf).sum)
  (hs:Rds enc P w sp hd BA fuel 0 ts f ok bk):Rd enc P w sp hd B (fuel+1) t f ok bk:=by
 intro cs d ps hr;obtain ⟨xs,n,hn,hx,hl,hxl,hg⟩:=DataW.trod_struct h hr;cases hn
 simp only [Prod.mk.injEq] at hx;obtain ⟨rfl,rfl⟩:=hx;have htl:ts.length=fs.size:=by rw [<-hts];simp
 obtain ⟨x,h1,h2,h3⟩:=hs cs xs (by omega) (by omega) (fun i t' hi=>by
  have hlt:i<fs.size:=by have:=(List.getElem?_eq_some_iff.1 hi).1;omega
  have hf:fs[i]? = some fs[i]:=by simp [hlt]
  have e1:fs[i].type=t':=by
   have:(fs.toList.map (·.type))[i]? = some t':=by rw [hts];exact hi
   simpa [hlt] using this
  have e2:fs[i].offset=((ts.take i).map P.cellsOf).sum:=by
   have:(fs.toList.map (·.offset))[i]? = ((List.range ts.length).map fun i=>((ts.take i).map P.cellsOf).sum)[i]? :=by rw [hoff]
   have hi2:i<ts.length:=by omega
   simpa [hlt,hi2] using this
  have:=hg i fs[i] hf;rw [e1,e2] at this;simpa using this)
 refine ⟨x,h1,Fp h2 (hB.agg _),by simpa using h3⟩

theorem Rd.value {α:Type}{t:TypeId}{f:α->List AV}{ok:α->Prop}{bk:α->Nat}(hr:∀fuel,Rd enc P w sp hd B fuel t f ok bk){v:Value}{d:DataW H}{ps:List MemPlace}(h:DataW.Trod enc P w 0 sp hd t v d ps) :
  ∃x,ok x/\bk x<=B d/\Cv g0 w v.cells.toList.toArray (f x):=by
 obtain ⟨n,hn⟩:=h;exact hr n _ d ps hn

theorem iS {v:Value}{l:List AV}{vs:Array Value}(hv:v = .agg vs)(h:Cv g0 w v.cells.toList.toArray l):Rep g0 w v (.agg l):=by
 subst hv;exact .agg vs l h.1 h.2
theorem pV {v:Value}{x:AV}(hv:∀vs,v≠.agg vs)(h:Cv g0 w v.cells.toList.toArray [x]):Rep g0 w v x:=by
 have e:v.cells = #[v]:=by cases v <;> first | rfl | exact absurd rfl (hv _)
 rw [e] at h;exact h.2 0 x rfl
end


theorem Ext.below {w w':World}{g':Gh}(h:Ext g0 w g' w'):RowKit.Below w.heap.size w w':=
 ⟨h.os,h.tape,h.output,h.size,fun k hk=>(h.full k hk rfl).2⟩

section
open Go.ChangeShapes
set_option maxHeartbeats 1000000
variable {H:Type} {enc:TypeId×Value->H} {P:Program}

theorem Pk (hl:laidOutB P=true){W W':World}{sp':Nat->Bool}:∀{ts:List TypeId} {vs:List Value} {ds:List (DataW H)} {ps:List MemPlace},(ts.all fun t=>P.readableRec t&&decide (t<P.types.size))=true->
    DataW.TrodAll enc P W 0 (fun _=>true) true ts vs ds ps->(∀p∈ps,W.sameAt W' p)->(∀p∈ps,sp' p.block=true)->DataW.TrodAll enc P W' 0 sp' true ts vs ds ps
  | [],vs,ds,ps,_,h,_,_=>by
    obtain ⟨rfl,rfl,rfl⟩:=trodAll_nil h;exact trodAll_mk0
  | t::ts,vs,ds,ps,ht,h,hs,hsp=>by
    obtain ⟨v,vs1,d,ds1,a,b,rfl,rfl,rfl,h1,h2⟩:=trodAll_cons h;simp only [List.all_cons,Cq,Di] at ht
    exact trodAll_cons_mk (WideElems.Trod_stays hl ht.1.1 ht.1.2 h1 (fun p hp=>hs p (La _ hp)) (fun p hp=>hsp p (La _ hp)))
      (Pk hl ht.2 h2 (fun p hp=>hs p (Qb _ hp)) (fun p hp=>hsp p (Qb _ hp)))

theorem Wo {f:Func}{s:ChangeSpec}{apart fresh handsOn again:Bool}{W W':World}{args:Array Value}{v:Value}{ds gs:List (DataW H)}{before:List MemPlace}
  (hl:laidOutB P=true) (ht:(f.params.toList.all fun t=>P.readableRec t&&decide (t<P.types.size))=true) (hv:s.vars = [])
  (hW:DataW.Whole enc P f.params.toList s.vars apart W args.toList ds gs before)
  (hres:∀(b:Nat) (sp:Nat->Bool) (hd:Bool),DataW.TrodAll enc P W' b sp hd f.resultTypes.toList (v.resultList f.resultTypes.size) (s.fn H (ds++gs)).results [])
  (hargs:(s.fn H (ds++gs)).args=ds) (hvars:(s.fn H (ds++gs)).vars = []) (hb:RowKit.Below W.heap.size W W')
  (hok:∀(j:Nat) (t:TypeId) (r:Value),f.resultTypes[j]? = some t->(v.resultList f.resultTypes.size)[j]? = some r->Value.okWide P W' .any 0 t r) :
  s.post enc P f apart fresh handsOn again W args v W':=by
 have hlt:=hW.lt;have hW':=hW;obtain ⟨p,q,hA,hV,rfl,hz,hn⟩:=hW;rw [hv] at hV;obtain ⟨rfl,rfl⟩:=trodVars_none hV
 have hA':∀sp':Nat->Bool,(∀x∈p,sp' x.block=true)->DataW.TrodAll enc P W' 0 sp' true f.params.toList args.toList ds p:=fun sp' hsp=>
  Pk hl ht hA (fun x hx=>hb.same (hlt x (by simpa using hx))) hsp
 refine ⟨ds,[],p ++ [],[],p,[],hW',hres _ _ _,by rw [hargs];exact hA' _ fun x hx=>by simpa using hlt x (by simpa using hx),by rw [hv,hvars];rfl,hb.frame _,fun _=>?_⟩;refine ⟨hok,_,[],([]++p) ++ [],⟨[]++p,[],trodAll_append (hA' _ fun _ _=>rfl) (hres _ _ _),by rw [hv];rfl,rfl,?_,?_⟩,?_⟩
 .
  intro b off hp;rw [hb.frozen (hlt _ (by simpa using hp))];exact hz b off (by simpa using hp)
 .
  intro ha;simpa using hn ha
 intro x hx _;simpa using hx
end
end Go.Aw
namespace Go.Aw
section
variable {H:Type} {enc:TypeId×Value->H} {P:Program} {w:World} {sp:Nat->Bool} {hd:Bool} {B:DataW H->Nat} {BA:List (DataW H)->Nat}

theorem Rd.slice' {α:Type}{fuel:Nat}{t e:TypeId}{z:Nat}{f:α->List AV}{ok:α->Prop}{bk:α->Nat}(h:P.underlying t=some (.slice e))(hz:P.cellsOf e=z)(hpos:0<z)(hB:Bulk B BA)
  (he:∀m,m<fuel->Rd enc P w sp hd B m e f ok bk):Rd enc P w sp hd B fuel t (fun l:List α=>[.sl z (l.map f)]) (fun l=>∀x∈l,ok x) (fun l=>(l.map bk).sum+1):=by
 cases fuel with
 | zero=>exact Rd.zero
 | succ n=>exact Rd.slice h hz hpos hB (he n (Nat.lt_succ_self n))

theorem Rd.struct' {α:Type}{fuel:Nat}{t:TypeId}{fs:Array Field}{ts:List TypeId}{f:α->List AV}{ok:α->Prop}{bk:α->Nat}(h:P.underlying t=some (.struct fs))(hB:Bulk B BA)
  (hts:fs.toList.map (·.type)=ts) (hoff:fs.toList.map (·.offset)=(List.range ts.length).map fun i=>((ts.take i).map P.cellsOf).sum) (hsz:P.cellsOf t=(ts.map P.cellsOf).sum)
  (hs:∀m,m<fuel->Rds enc P w sp hd BA m 0 ts f ok bk):Rd enc P w sp hd B fuel t f ok bk:=by
 cases fuel with
 | zero=>exact Rd.zero
 | succ n=>exact Rd.struct h hB hts hoff hsz (hs n (Nat.lt_succ_self n))

theorem Rd.congr {α:Type}{fuel:Nat}{t:TypeId}{f f':α->List AV}{ok ok':α->Prop}{bk bk':α->Nat}(h:Rd enc P w sp hd B fuel t f ok bk)(hf:f=f')(ho:∀x,ok x->ok' x)(hb:∀x,bk' x<=bk x):Rd enc P w sp hd B fuel t f' ok' bk':=
 h.map id (fun x=>by rw [<-hf];rfl) ho hb
end
end Go.Aw
namespace Go.Aw
open Go.ChangeShapes Go.WideShapes Go.RowKit
section
variable {H:Type} {enc:TypeId×Value->H} {P:Program}

theorem bO {f:FuncId}{fn:Func}{s:ChangeSpec}{apart fresh handsOn again:Bool}{W:World}{args:Array Value}{ds gs:List (DataW H)}{before:List MemPlace}{tb:TypeId}{avs:List AV}
  (hl:laidOutB P=true) (ht:(fn.params.toList.all fun t=>P.readableRec t&&decide (t<P.types.size))=true) (hv:s.vars = []) (hr:fn.resultTypes = #[tb]) (htb:P.underlying tb=some .bool)
  (hcell:P.cellsOf tb=1) (hW:DataW.Whole enc P fn.params.toList s.vars apart W args.toList ds gs before) (hs:s.fn H (ds++gs) = { results:=[.lit (.bool true)],args:=ds })
  (ha:Cv g0 W args avs) (hgl:GlobOK g0 W) (hp:Al P f avs (.bool true)):Calls P f args W fun e W'=>∃v,e = .returned v/\s.post enc P fn apart fresh handsOn again W args v W':=by
 refine (hp [] g0 W args (HOK.nil hgl) ha).mono ?_;rintro e W' ⟨v,g',r,H',rfl,h1,_,h2,rfl,_⟩;have hb:=h1.inv_bool;subst hb;refine ⟨_,rfl,Wo hl ht hv hW ?_ (by rw [hs]) (by rw [hs]) h2.below ?_⟩
 .
  intro b sp hd;rw [hs,hr];exact trodAll_cons_mk (shut_bool htb _) trodAll_mk0
 exact ok_one hr rfl (okWide_bool_mk htb _)
theorem Sz {g:Gh}{w:World}{v:Value}{x:AV}{vs:List Value}{l:List AV}(h:Rep g w v x)(hs:Cv g w vs.toArray l):Cv g w (v::vs).toArray (x::l):=by
 have:=(Ob h).append hs;simpa using this
theorem pU {g:Gh}{w:World}:Cv g w ([]:List Value).toArray []:=⟨rfl,by simp⟩
end
end Go.Aw
namespace Go.Aw
section
variable {P:Program} {W:World} {r:Reach} {b:Nat} {t:TypeId} {v:Value}
theorem Y4 {e:TypeId}(h:P.underlying t=some (.slice e))(hv:Value.okWide P W r b t v):∀vs,v≠.agg vs:=by
 rintro vs rfl;simp [Value.okWide,h,Cell.okWide,Cell.ok] at hv
end
end Go.Aw
namespace Go.Aw

theorem Jp {l:List AV}(hl:0<l.length):∀(n k:Nat) (x:AV),(List.replicate n l).flatten[k]? = some x->l[k % l.length]? = some x
  | 0,k,x,h=>by simp at h
  | n+1,k,x,h=>by
    rw [Tf,Jz,List.getElem?_append] at h;split at h
    . rename_i hk;rw [Nat.mod_eq_of_lt hk];exact h
    . rename_i hk
      have:=Jp hl n (k-l.length) x h
      rwa [Nat.mod_eq_sub_mod (by omega)]

section
variable {P:Program} {T:List (Nat×TD)} {ρ:Operand->AV} {ty:TypeId} {pos:String} {aft:Array Edge} {gd:Option (Nat×Bool)} {d:Option Nat}

theorem Nn {t e z n:Nat}{x y:Operand}{kl kc:IntKind}{td te:TD}{H:List HO}(hT:G9 P T)(ht:Bp T t=some td)(hk:td.kind = .slice e)(hte:Bp T e=some te)(hz:te.size=z)(hpos:Nat.blt 0 z=true)
  (hx:ρ x = .int kl n) (hy:ρ y = .int kc n) (hb:te.bytes*n<=281474976710656) (hm:n<=maxLen) :
  Jj P ⟨d,.makeSlice t x y,ty,pos,aft,gd⟩ ρ H (fun r H'=>∃b,r = .val (.slice (some ⟨b,0,none⟩) n n)/\H' = .box b e (List.replicate n te.zero).flatten::H):=by
 intro g w a next Q hr hH hn
 have h1:=(hx▸hr x (by simp [Op.operands]):Rep g w _ _).inv_int;have h2:=(hy▸hr y (by simp [Op.operands]):Rep g w _ _).inv_int;have hu:=Dc (hT t td ht) hk;have hp:0<z:=by simpa using hpos
 obtain ⟨it,hit,his,hib,zv,hzv,hzs,hzr⟩:=(hT e te hte).info
 have h63:(n:Int)<=9223372036854775807:=by
  have h8:maxLen<=9223372036854775807:=by decide
  omega
 have hb':(it.bytes:Int)*(n:Int)<=281474976710656:=by
  have h9:((te.bytes*n:Nat):Int)<=281474976710656:=by omega
  rw [Int.natCast_mul] at h9;rw [hib];exact h9
 have hrun:=run_make (P:=P) w t e it zv hu hit hzv kl kc n n (by omega) (Lx _) hb' h63;simp only [Jy] at hrun;unfold Oper.wp;simp only [execOp,h1,h2,Sem.run_bind,hrun,Result.andThen_ok,Sem.run_pure];have hxx:=Ext.alloc g w (.cells (madeCells zv.cells (n*it.size)) e) (some 0);refine hn (g.put w.heap.size (some 0)) _ _ _ _ ⟨w.heap.size,rfl,rfl⟩ (.val _) ((hH.alloc _ (some 0)).cons ⟨Gh.Aai _ _ _,_,Ci w _,?_⟩ ?_) hxx
 .
  have hzl:te.zero.length=z:=by rw [<-hz,<-hzs];exact ((hzr g w).1).symm
  refine ⟨?_,fun i x hi=>?_⟩
  . rw [size_madeCells,Cm (z:=z) (by intro e he;rw [O7 he];exact hzl),Jg,his,hz]
  have h3:=Jp (by omega) n i x hi
  have hlt:i<n*z:=by
   have:=(List.getElem?_eq_some_iff.1 hi).1
   rwa [Cm (z:=z) (by intro e he;rw [O7 he];exact hzl),Jg] at this
  have h4:=(hzr (g.put w.heap.size (some 0)) (w.alloc (.cells (madeCells zv.cells (n*it.size)) e))).2 _ x h3;have hcs:zv.cells.size=z:=by rw [<-hz,<-hzs]
  have hm2:i % z<zv.cells.size:=by rw [hcs];exact Nat.mod_lt _ hp
  have e1:(madeCells zv.cells (n*it.size)).getD i undef=zv.cells.getD (i % te.zero.length) undef:=by
   have hs:it.size=z:=by rw [his,hz]
   rw [hzl];simp only [madeCells,hs,Ce];simp [hlt,hcs,hm2,Nat.mod_lt _ hp]
  rw [e1];exact h4
 intro b hb x hx' hb';simp only [HO.blk,Option.some.injEq] at hb;have:=(HO.ok_lt (hH.ok x hx') hb').1;omega
theorem I6 {s t:TypeId}{x:Operand}{k k':IntKind}{n m:Int}{ts td:TD}(hT:G9 P T)(hs:Bp T s=some ts)(hsk:ts.kind = .int k')(ht:Bp T t=some td)(hk:td.kind = .int k){k2:IntKind}(hx:ρ x = .int k2 n)(hm:k.wrap n=m){K:List HO->Prop} :
  Dr P ⟨d,.convert s t x,ty,pos,aft,gd⟩ ρ K (.int k m):=
 .of_run fun g w a hr=>by
  have h1:=(hx▸hr x (by simp [Op.operands]):Rep g w _ _).inv_int;have hu:=Ja (hT s ts hs) hsk;have hv:=Ja (hT t td ht) hk;refine ⟨.int k m,?_,.int _ _⟩;subst hm;simp only [execOp,h1,convert,Bg hu,Bg hv,Sem.run_bind,Result.andThen_ok,Conv.intToInt,Sem.run_pure]

theorem GS.freezeSl {sl:List (Nat×AV)}{H:List HO}{n t b m c z TT:Nat}{cs:List AV}{es:List (List AV)}{x y:AV}(k:Nat)(h:get sl t=x)(hk:H[k]? = some (.box b TT cs))(hf:es.flatten=cs)(hm:m=es.length)(hc:m<=c)(hcm:c<=maxLen)
  (hz:∀e∈es,e.length=z) (hw:∀g w u,Rep g w (.slice (some ⟨b,0,none⟩) m c) (.sl z es)->Rep g w u x->Rep g w u y):GS ⟨sl,H,n⟩ ⟨(t,y)::sl,H.eraseIdx k,n⟩:=fun g a w hG=>by
 obtain ⟨hg,vs,h1,h2⟩:=hG.heap.ok _ (A0 hk)
 have hx:Ext g w (g.put b none) w:=by
  refine ⟨rfl,rfl,rfl,⟨Bi _,Bi _⟩,fun c hc hgc=>⟨?_,rfl⟩,fun c m hc hgc=>⟨fun m' hm=>?_,fun _ _=>rfl⟩⟩
  .
   by_cases e:c=b
   . subst e;exact Gh.Aai _ _ _
   rw [Gh.Aal _ _ e];exact hgc
  by_cases e:c=b
  . subst e;rw [Gh.Aai] at hm;cases hm
  rw [Gh.Aal _ _ e,hgc] at hm;cases hm;exact Bi _
 refine ⟨g.put b none,⟨hG.size,hG.defers,fun i=>?_,?_⟩,hx⟩
 .
  show Rep _ w _ (get ((t,y)::sl) i);rw [Fo];by_cases e:t=i
  .
   subst e;simp only [if_true];refine hw _ w _ ?_ ((h▸hG.sl t:Rep g w _ _).mono hx);refine .sl b 0 m c z es hm hc hcm hz (fun i j=>vs.getD (i*z+j) undef) (fun i e hi j y hj=>⟨by unfold Dz;rw [Gh.Aai];trivial,?_⟩) (fun i e hi j y hj=>?_)
   .
    have h3:=Fl hz hi hj;rw [hf] at h3;have hlt:i*z+j<vs.size:=by rw [h2.1];exact (List.getElem?_eq_some_iff.1 h3).1
    rw [Cg,Bq h1];simp [hlt]
   have h3:=Fl hz hi hj;rw [hf] at h3;exact (h2.2 _ _ h3).mono hx
  simp only [e,if_false];exact (hG.sl i).mono hx
 have hsub:(H.eraseIdx k).Sublist H:=Qa ..;refine ⟨(hG.heap.sub hsub).nodup,fun o ho=>?_,hG.heap.glob.mono hx⟩;obtain ⟨j,hj⟩:=List.getElem?_of_mem ho;rw [List.getElem?_eraseIdx] at hj
 obtain ⟨j',hjk,hj'⟩:∃j',j'≠k/\H[j']? = some o:=by
  split at hj
  . exact ⟨j,by omega,hj⟩
  exact ⟨j+1,by omega,hj⟩
 have hok:=hG.heap.ok o (A0 hj');refine HO.ok_of_same hx hok fun c hc=>⟨Gh.Aal _ _ fun e=>hjk (hG.heap.nodup_blk hj' hk (e▸hc) rfl),rfl⟩
end
end Go.Aw
namespace Go.Aw
theorem GS.cells {sl:List (Nat×AV)}{H:List HO}{n b TT:Nat}{cs cs':List AV}(k:Nat)(hk:H[k]? = some (.box b TT cs))(h:cs=cs'):GS ⟨sl,H,n⟩ ⟨sl,H.set k (.box b TT cs'),n⟩:=by
 subst h
 have:H.set k (.box b TT cs)=H:=by
  apply M9
  intro i;rw [List.getElem?_set];split
  . rename_i e;subst e;rw [hk];split <;> simp_all
  rfl
 rw [this];exact GS.refl _
end Go.Aw
namespace Go.Aw

def S9:List (List UInt8×AV)->List UInt8->Option AV
 | [],_=>none
 | (k,x)::r,n=>if k=n then some x else S9 r n

theorem xR (a b:List UInt8):((⟨a.toArray⟩:ByteArray)==⟨b.toArray⟩)=(a==b):=by
 show (a.toArray==b.toArray)=_;simp

def dQ (P:Program)(t:TypeId):Bool:=
 match P.info? t with
 | some i=>match i.zero with | some (.agg _)=>false | some _=>true | none=>false
 | none=>false

section
variable {P:Program} {T:List (Nat×TD)} {d:Option Nat} {ty:TypeId} {pos:String} {aft:Array Edge} {gd:Option (Nat×Bool)} {ρ:Operand->AV}

theorem dZ {t:TypeId}{H:List HO}:Jj P ⟨d,.makeMap t none,ty,pos,aft,gd⟩ ρ H (fun x H'=>∃b,x = .val (.map (some b))/\H' = .smap b []::H):=by
 intro g w a next Q hr hH hn
 unfold Oper.wp;simp only [execOp,Instr.makeMap,M8,Sem.run_bind,Sem.run_pure,run_newObj,Result.andThen_ok];have hx:=Ext.alloc g w (.map #[] 0) (some 0);refine hn (g.put w.heap.size (some 0)) _ _ _ _ ⟨w.heap.size,rfl,rfl⟩ (.val _) ((hH.alloc _ (some 0)).cons ⟨Gh.Aai _ _ _,#[],0,Ci w _,rfl,by simp,by simp⟩ ?_) hx;intro b hb x hx' hb';simp only [HO.blk,Option.some.injEq] at hb;have:=(HO.ok_lt (hH.ok x hx') hb').1;omega

theorem P5 {n:List UInt8}:∀(l:List MapEntry) (es:List (List UInt8×AV)) (i:Nat),l.length=es.length->(∀(j:Nat) m x,es[j]? = some (m,x)->(l.getD j default).key = .string ⟨m.toArray⟩)->S9 es n=none->
    Instr.findNow .string (.string ⟨n.toArray⟩) l i=some none
  | [],_,_,_,_,_=>rfl
  | e::l,[],_,h,_,_=>by simp at h
  | e::l,(m,x)::es,i,h,hk,hg=>by
    have h1:e.key = .string ⟨m.toArray⟩:=by simpa using hk 0 m x rfl
    simp only [S9] at hg;by_cases hm:m=n
    . simp [hm] at hg
    . rw [if_neg hm] at hg
      have:((⟨n.toArray⟩:ByteArray)==⟨m.toArray⟩)=false:=by rw [xR];simp;exact fun e=>hm e.symm
      unfold Instr.findNow;simp only [h1,Instr.sameNow,this];exact P5 l es (i+1) (by simpa using h) (fun j m x hj=>by simpa using hk (j+1) m x hj) hg

theorem V5 {n:List UInt8}{x:AV}{g:Gh}{w:World}:∀(l:List MapEntry) (es:List (List UInt8×AV)) (i:Nat),l.length=es.length->(∀(j:Nat) m x,es[j]? = some (m,x)->(l.getD j default).key = .string ⟨m.toArray⟩)->(∀(j:Nat) m x,es[j]? = some (m,x)->Rep g w (l.getD j default).val x)->S9 es n=some x->
    ∃i' v,Instr.findNow .string (.string ⟨n.toArray⟩) l i=some (some (i',v))/\Rep g w v x
  | [],[],_,_,_,_,hg=>by simp [S9] at hg
  | [],_::_,_,h,_,_,_=>by simp at h
  | e::l,[],_,h,_,_,_=>by simp at h
  | e::l,(m,y)::es,i,h,hk,hv,hg=>by
    have h1:e.key = .string ⟨m.toArray⟩:=by simpa using hk 0 m y rfl
    have h2:Rep g w e.val y:=by simpa using hv 0 m y rfl
    simp only [S9] at hg;by_cases hm:m=n
    . subst hm
      simp only [if_true,Option.some.injEq] at hg;subst hg;refine ⟨i,e.val,?_,h2⟩;unfold Instr.findNow;simp [h1,Instr.sameNow,xR]
    . rw [if_neg hm] at hg
      have:((⟨n.toArray⟩:ByteArray)==⟨m.toArray⟩)=false:=by rw [xR];simp;exact fun e=>hm e.symm
      unfold Instr.findNow;simp only [h1,Instr.sameNow,this];exact V5 l es (i+1) (by simpa using h) (fun j m x hj=>by simpa using hk (j+1) m x hj) (fun j m x hj=>by simpa using hv (j+1) m x hj) hg

theorem Mq {n:Nat}{kt:TypeId}(h:P.underlying kt=some .string){b:Bool}{s:ByteArray}(w:World):(Instr.checkKey b (n+1) kt (.string s)).run P w = .ok () w:=by
 unfold Instr.checkKey;rw [Sem.run_bind,Bg h];rfl

theorem Zv {t:TypeId}{m k v:Operand}{kt et b i:Nat}{td tk:TD}{n:List UInt8}{es:List (List UInt8×AV)}{x:AV}{H H2:List HO}(hT:G9 P T)(ht:Bp T t=some td)(hk:td.kind = .map kt et)(htk:Bp T kt=some tk)(hkk:tk.kind = .str)
  (hm:ρ m = .val (.map (some b))) (hkey:ρ k = .str n) (hv:ρ v=x) (hH:H[i]? = some (.smap b es)) (hnew:S9 es n=none) (hH2:H.set i (.smap b (es ++ [(n,x)]))=H2) :
  Jj P ⟨d,.mapUpdate t m k v,ty,pos,aft,gd⟩ ρ H (fun y H'=>y = .junk/\H'=H2):=by
 subst hH2;intro g w a next Q hr hHK hn
 have h1:=(hm▸hr m (by simp [Op.operands]):Rep g w _ _).inv_val;have h2:=(hkey▸hr k (by simp [Op.operands]):Rep g w _ _).inv_str.1;have h3:Rep g w (a.eval v) x:=hv▸hr v (by simp [Op.operands]);obtain ⟨hg,ms,clock,hheap,hl,hks,hvs⟩:=hHK.ok _ (A0 hH);have hb:b<w.heap.size:=(Array.getElem?_eq_some_iff.1 hheap).1;have hu:=O0 (hT t td ht) hk;have huk:=J6 (hT kt tk htk) hkk;have hl':ms.toList.length=es.length:=by simpa using hl
 have hfind:=P5 (n:=n) ms.toList es 0 hl' (fun j m x hj=>by simpa using hks j m x hj) hnew;have hget:(getObj b).run P w = .ok (.map ms clock) w:=by simp [getObj,Sem.run,hheap]
 have hset:∀o:Obj,(setObj b o).run P w = .ok () { w with heap:=w.heap.setIfInBounds b o }:=fun o=>by simp [setObj,Sem.run,hheap]
 have hrun:(Instr.mapUpdate t (a.eval m) (a.eval k) (a.eval v)).run P w = .ok () { w with heap:=w.heap.setIfInBounds b (.map (ms.push { key:=.string ⟨n.toArray⟩,val:=a.eval v,born:=clock }) (clock+1)) }:=by
  unfold Instr.mapUpdate;rw [Sem.run_bind,Bg hu];simp only [Result.andThen_ok,h1,Sem.run_bind,hget,h2,Mq (n:=9999) huk]
  have hfk:(Instr.findKey kt (.string ⟨n.toArray⟩) ms.toList).run P w = .ok none w:=by
   unfold Instr.findKey;rw [Sem.run_bind,Bg huk];simp only [Result.andThen_ok,hfind,Sem.run_pure]
  simp only [hfk,Result.andThen_ok,hset]
 unfold Oper.wp;simp only [execOp,Sem.run_bind,hrun,Result.andThen_ok,Sem.run_pure]
 have hnew':({ w with heap:=w.heap.setIfInBounds b (.map (ms.push { key:=.string ⟨n.toArray⟩,val:=a.eval v,born:=clock }) (clock+1)) }:World).heap[b]? = some (.map (ms.push { key:=.string ⟨n.toArray⟩,val:=a.eval v,born:=clock }) (clock+1)):=by
  simp [hb]
 have hoth:∀c,c≠b->({ w with heap:=w.heap.setIfInBounds b (.map (ms.push { key:=.string ⟨n.toArray⟩,val:=a.eval v,born:=clock }) (clock+1)) }:World).heap[c]? = w.heap[c]? :=fun c hc=>by
  simp [Array.getElem?_setIfInBounds_ne (Ne.symm hc)]
 have hx:Ext g w g { w with heap:=w.heap.setIfInBounds b (.map (ms.push { key:=.string ⟨n.toArray⟩,val:=a.eval v,born:=clock }) (clock+1)) }:=by
  refine ⟨rfl,rfl,rfl,by simp,fun c hc hgc=>⟨hgc,hoth c fun e=>by rw [e,hg] at hgc;cases hgc⟩,fun c m' hc hgc=>⟨fun m'' hm''=>by rw [hgc] at hm'';cases hm'';exact Bi _,fun o ho=>?_⟩⟩;have hne:c≠b:=fun e=>by rw [e,hg] at hgc;cases hgc;omega
  unfold World.cell?;rw [hoth c hne]
 refine hn g _ undef .junk _ ⟨rfl,rfl⟩ (.junk _) (hHK.set hx hH (fun c hc=>.inl hc) ⟨hg,_,_,hnew',by simp [hl],?_,?_⟩ (fun c hc hne _=>⟨rfl,hoth c fun e=>hne (by rw [e];rfl)⟩)) hx
 .
  intro j m' y hj;rw [List.getElem?_append] at hj;split at hj
  .
   rename_i hlt;have:=hks j m' y hj;have hlt':j<ms.size:=by omega
   simpa [Ce,Array.getElem?_push,show j≠ms.size by omega] using this
  rename_i hlt
  have:j-es.length=0:=by
   rcases Te (j-es.length) with h | h
   . exact h
   rw [List.getElem?_eq_none (by simp;omega)] at hj;cases hj
  rw [this] at hj;simp at hj;have hj':j=ms.size:=by omega
  subst hj';simp [Ce,hj.1]
 intro j m' y hj;rw [List.getElem?_append] at hj;split at hj
 .
  rename_i hlt;have:=(hvs j m' y hj).mono hx;have hlt':j<ms.size:=by omega
  simpa [Ce,Array.getElem?_push,show j≠ms.size by omega] using this
 rename_i hlt
 have:j-es.length=0:=by
  rcases Te (j-es.length) with h | h
  . exact h
  rw [List.getElem?_eq_none (by simp;omega)] at hj;cases hj
 rw [this] at hj;simp at hj;have hj':j=ms.size:=by omega
 subst hj';simp only [Ce,Array.getElem?_push,if_true,K7];rw [<-hj.2];exact h3.mono hx
theorem sA {t:TypeId}{m k:Operand}{kt et b i:Nat}{td tk te:TD}{n:List UInt8}{es:List (List UInt8×AV)}{x:AV}(hT:G9 P T)(ht:Bp T t=some td)(hk:td.kind = .map kt et)(htk:Bp T kt=some tk)(hkk:tk.kind = .str)
    (hte:Bp T et=some te) (hzs:dQ P et=true) (hm:ρ m = .val (.map (some b))) (hkey:ρ k = .str n) (hx:match S9 es n with | some y=>y=x | none=>te.zero = [x]) :
    Dr P ⟨d,.lookup t m k false,ty,pos,aft,gd⟩ ρ (fun H=>H[i]? = some (.smap b es)) x:=by
  intro g w a H next Q hr hHK hH hn
  have h1:=(hm▸hr m (by simp [Op.operands]):Rep g w _ _).inv_val;have h2:=(hkey▸hr k (by simp [Op.operands]):Rep g w _ _).inv_str.1;obtain ⟨hg,ms,clock,hheap,hl,hks,hvs⟩:=hHK.ok _ (A0 hH);have hu:=O0 (hT t td ht) hk;have huk:=J6 (hT kt tk htk) hkk;have hget:(getObj b).run P w = .ok (.map ms clock) w:=by simp [getObj,Sem.run,hheap]
  unfold Oper.wp;cases hs:S9 es n with
  | some y=>
    rw [hs] at hx;simp only at hx;subst hx;obtain ⟨i',v,hf,hrep⟩:=V5 (n:=n) (x:=y) (g:=g) (w:=w) ms.toList es 0 (by simpa using hl) (fun j m x hj=>by simpa using hks j m x hj) (fun j m x hj=>by simpa using hvs j m x hj) hs
    have hfk:(Instr.findKey kt (.string ⟨n.toArray⟩) ms.toList).run P w = .ok (some (i',v)) w:=by
      unfold Instr.findKey;rw [Sem.run_bind,Bg huk];simp only [Result.andThen_ok,hf,Sem.run_pure]
    simp only [execOp,Instr.lookup,Sem.run_bind,Bg hu,Result.andThen_ok,h1,hget,Sem.run_pure,h2,Mq (n:=9999) huk,hfk,A2,if_false];exact hn g w v hrep hHK (Ext.refl g w)
  | none=>
    rw [hs] at hx;simp only at hx;have hf:=P5 (n:=n) ms.toList es 0 (by simpa using hl) (fun j m x hj=>by simpa using hks j m x hj) hs
    have hfk:(Instr.findKey kt (.string ⟨n.toArray⟩) ms.toList).run P w = .ok none w:=by
      unfold Instr.findKey;rw [Sem.run_bind,Bg huk];simp only [Result.andThen_ok,hf,Sem.run_pure]
    obtain ⟨z,hz1,hz2,hz3⟩:=dP (hT et te hte) w;simp only [execOp,Instr.lookup,Sem.run_bind,Bg hu,Result.andThen_ok,h1,hget,Sem.run_pure,h2,Mq (n:=9999) huk,hfk,hz1,A2,if_false];refine hn g w z ?_ hHK (Ext.refl g w);have hz4:=hz3 g w;rw [hx] at hz4
    have hna:∀vs,z≠.agg vs:=by
      rintro vs rfl;obtain ⟨it,hit,_,_,zv,hzv,_⟩:=(hT et te hte).info;have hzz:(zeroValue et).run P w = .ok zv w:=by simp [zeroValue,L9 hit,hzv]
      rw [hzz] at hz1;cases hz1
      simp [dQ,hit,hzv] at hzs
    have hcell:z.cells = #[z]:=by cases z <;> first | rfl | exact absurd rfl (hna _)
    rw [hcell] at hz4;exact hz4.2 0 x rfl

def T2 (ks:List (List UInt8)):List (List UInt8×AV):=ks.map fun k=>(k,.bool true)
theorem cS (ks:List (List UInt8))(n:List UInt8):S9 (T2 ks) n=if ks.contains n then some (.bool true) else none:=by
  induction ks with
  | nil=>rfl
  | cons k r ih=>
    show (if k=n then some (AV.bool true) else S9 (T2 r) n)=_;rw [ih,List.contains_cons];by_cases h:k=n
    . subst h;simp
    . have:(n==k)=false:=by rw [Iu];exact fun e=>h e.symm
      rw [if_neg h,this,Bl]
theorem qL (ks:List (List UInt8))(n:List UInt8){te:TD}(h:te.zero = [.bool false]):match S9 (T2 ks) n with | some y=>y = .bool (ks.contains n) | none=>te.zero = [.bool (ks.contains n)]:=by
 rw [cS];by_cases hc:ks.contains n=true
 . rw [if_pos hc,hc]
 rw [if_neg hc,h];simp only [Bool.eq_false_iff.mpr hc]
theorem vE {ks:List (List UInt8)}{n:List UInt8}(h:ks.contains n=false):S9 (T2 ks) n=none:=by rw [cS,if_neg (by simp only [h];decide)]
theorem vD (ks:List (List UInt8))(n:List UInt8):T2 ks ++ [(n,.bool true)]=T2 (ks ++ [n]):=by simp [T2]
theorem lP {t:TypeId}{m k v:Operand}{kt et b i:Nat}{td tk:TD}{n:List UInt8}{ks:List (List UInt8)}{H H2:List HO}(hT:G9 P T)(ht:Bp T t=some td)(hk:td.kind = .map kt et)(htk:Bp T kt=some tk)(hkk:tk.kind = .str)
  (hm:ρ m = .val (.map (some b))) (hkey:ρ k = .str n) (hv:ρ v = .bool true) (hH:H[i]? = some (.smap b (T2 ks))) (hnew:ks.contains n=false) (hH2:H.set i (.smap b (T2 (ks ++ [n])))=H2) :
  Jj P ⟨d,.mapUpdate t m k v,ty,pos,aft,gd⟩ ρ H (fun y H'=>y = .junk/\H'=H2):=
 Zv hT ht hk htk hkk hm hkey hv hH (vE hnew) (by rw [vD];exact hH2)
theorem jL {t:TypeId}{m k:Operand}{kt et b i:Nat}{td tk te:TD}{n:List UInt8}{ks:List (List UInt8)}(hT:G9 P T)(ht:Bp T t=some td)(hk:td.kind = .map kt et)(htk:Bp T kt=some tk)(hkk:tk.kind = .str)
  (hte:Bp T et=some te) (hzs:dQ P et=true) (hm:ρ m = .val (.map (some b))) (hkey:ρ k = .str n) (hz:te.zero = [.bool false]) :
  Dr P ⟨d,.lookup t m k false,ty,pos,aft,gd⟩ ρ (fun H=>H[i]? = some (.smap b (T2 ks))) (.bool (ks.contains n)):=
 sA hT ht hk htk hkk hte hzs hm hkey (qL ks n hz)

variable {K:List HO->Prop}
end
end Go.Aw
namespace Go.Aw

abbrev Uu (s:List UInt8):List (List AV):=s.map fun c=>[AV.int .u8 (c.toNat:Int)]

section
variable {P:Program} {T:List (Nat×TD)} {d:Option Nat} {ty:TypeId} {pos:String} {aft:Array Edge} {gd:Option (Nat×Bool)} {ρ:Operand->AV} {K:List HO->Prop}

theorem V1 {g:Gh}{w:World}{s:List UInt8}(h:s.length<=maxLen):Rep g w (.string ⟨s.toArray⟩) (.str s):=.str _ _ (by simp) h

theorem xQ {s:List UInt8}{u:Value}{es:List (List AV)}(h:es=Uu s):∀g w v,Rep g w v (.row u 1 es)->Rep g w v (.sl 1 (Uu s)):=fun _ _ _ r=>h▸r.inv_row.2
theorem eA {t u e:TypeId}{x:Operand}{y:AV}{s:List UInt8}{tt tu te:TD}(hT:G9 P T)(ht:Bp T t=some tt)(htk:tt.kind = .slice e)(hu:Bp T u=some tu)(huk:tu.kind = .str)(he:Bp T e=some te)(hek:te.kind = .int .u8)
    (hx:ρ x=y) (hm:s.length<=maxLen) (hy:∀g w v,Rep g w v y->Rep g w v (.sl 1 (Uu s))):Dr P ⟨d,.convert t u x,ty,pos,aft,gd⟩ ρ K (.str s):=
  .of_run fun g w a hr=>by
    obtain ⟨a0,n,cap,h1,h2,_,_,h5⟩:=(hy g w _ (hx▸hr x (by simp [Op.operands]):Rep g w _ _)).inv_sl;have h2':n=s.length:=by simpa using h2
    subst h2';have hs:=Dc (hT t tt ht) htk;have hd:=J6 (hT u tu hu) huk;have hb:=Ja (hT e te he) hek;refine ⟨.string ⟨s.toArray⟩,?_,V1 hm⟩;simp only [execOp,h1];rcases h5 with h5 | ⟨b,o,rfl,_,f,hcs,hf⟩
    . have hs0:s = []:=by simpa using h5
      subst hs0;cases a0 with
      | none=>
        rw [Sem.run_bind,run_convert_bytes_string w t u e none _ cap hs hb hd];simp [Conv.bytesToString];rfl
      | some a1=>
        have:=run_convert_bytes_back (P:=P) w t u e a1 cap [] hs hb hd (fun j hj=>by simp at hj);rw [Sem.run_bind];simp only [K9] at this ⊢;rw [this];rfl
    . have:=run_convert_bytes_back (P:=P) w t u e ⟨b,o,none⟩ cap s hs hb hd (fun j hj=>by
        have hj':(Uu s)[j]? = some [AV.int .u8 (s[j].toNat:Int)]:=by simp [Uu,List.getElem?_eq_getElem hj]
        have h6:=(hcs j _ hj' 0 _ rfl).2;have h7:=(hf j _ hj' 0 _ rfl).inv_int;rw [E8,<-h7,<-h6];simp)
      rw [Sem.run_bind,this];rfl

end

theorem Ext.of_below {g:Gh}{w w':World}(h:RowKit.Below w.heap.size w w')(hd:w.drawn<=w'.drawn):Ext g w g w':=
 ⟨h.os,h.tape,h.output,⟨h.size,hd⟩,fun b hb hg=>⟨hg,h.block b hb⟩,fun b n hb hg=>⟨fun m hm=>(by rw [hg] at hm;cases hm;exact Bi _),fun o _=>by unfold World.cell?;simp only [h.block b hb]⟩⟩

theorem Al.of_calls {P:Program}{f:FuncId}{args:List AV}{r:AV}
  (h:∀g w vs,GlobOK g w->Cv g w vs args->∃v,(∀g' w',Ext g w g' w'->Rep g' w' v r)/\Calls P f vs w (fun e w'=>e = .returned v/\RowKit.Below w.heap.size w w'/\w.drawn<=w'.drawn)):Al P f args r:=by
 intro H g w vs hH ha;obtain ⟨v,hv,hc⟩:=h g w vs hH.glob ha;refine hc.mono ?_;rintro e w' ⟨rfl,hb,hd⟩;have hx:=Ext.of_below (g:=g) hb hd;exact ⟨v,g,r,H,rfl,hv g w' hx,hH.of_same hx fun o ho b hb'=>⟨rfl,hb.block b (HO.ok_lt (hH.ok o ho) hb').1⟩,hx,rfl,rfl⟩

theorem Al.of_same {P:Program}{f:FuncId}{args:List AV}{r:AV}
  (h:∀g w vs,GlobOK g w->Cv g w vs args->∃v,(∀g' w',Rep g' w' v r)/\Calls P f vs w (fun e w'=>e = .returned v/\w'=w)):Al P f args r:=
 .of_calls fun g w vs hg ha=>by
  obtain ⟨v,hv,hc⟩:=h g w vs hg ha;exact ⟨v,fun g' w' _=>hv g' w',hc.mono (by rintro e w' ⟨rfl,rfl⟩;exact ⟨rfl,RowKit.Below.refl _ _,Bi _⟩)⟩

theorem Cv.inv2 {g:Gh}{w:World}{vs:Array Value}{x y:AV}(h:Cv g w vs [x,y]):∃u v,vs = #[u,v]/\Rep g w u x/\Rep g w v y:=by
 obtain ⟨h1,h2⟩:=h;refine ⟨vs.getD 0 undef,vs.getD 1 undef,?_,h2 0 x rfl,h2 1 y rfl⟩;have hs:vs.size=2:=by simpa using h1
 apply Array.ext
 . simpa using hs
 intro i hi hi';have:i=0\/i=1:=by omega
 rcases this with rfl | rfl <;> simp [hi,hs]
end Go.Aw
namespace Go.Aw

section
variable {P:Program} {T:List (Nat×TD)} {d:Option Nat} {ty:TypeId} {pos:String} {aft:Array Edge} {gd:Option (Nat×Bool)} {ρ:Operand->AV} {K:List HO->Prop}

theorem HOK.perm {g:Gh}{w:World}{H K:List HO}(h:H.Perm K)(hH:HOK g w H):HOK g w K:=
 ⟨(h.filterMap _).nodup_iff.1 hH.nodup,fun o ho=>hH.ok o (h.mem_iff.2 ho),hH.glob⟩

theorem Cb.perm {f:FuncId}{args:List AV}{H K:List HO}{Q:AV->List HO->Prop}(h:H.Perm K)(hc:Cb P f K args Q):Cb P f H args Q:=
 fun g w vs hH hr=>hc g w vs (hH.perm h) hr

theorem Cb.post {f:FuncId}{args:List AV}{H:List HO}{Q Q':AV->List HO->Prop}(hc:Cb P f H args Q)(h:∀r K,Q r K->∃K',K.Perm K'/\Q' r K'):Cb P f H args Q':=
 fun g w vs hH hr=>(hc g w vs hH hr).mono fun e w' ⟨v,g',r,H',h1,h2,h3,h4,h5⟩=>
  let ⟨K',k1,k2⟩:=h r H' h5
  ⟨v,g',r,K',h1,h2,h3.perm k1,h4,k2⟩

def Lp (P:Program)(f:FuncId)(b:Nat)(TT:TypeId)(cs cs':List AV)(args:List AV)(r:AV):Prop:=
 ∀R,Cb P f (.box b TT cs::R) args fun r' H'=>r'=r/\H' = .box b TT cs'::R

theorem Sb:∀{H:List HO} {k:Nat} {o:HO},H[k]? = some o->H.Perm (o::H.eraseIdx k)
  | [],k,o,h=>by simp at h
  | x::H,0,o,h=>by
    simp only [List.getElem?_cons_zero,Option.some.injEq] at h;subst h;exact .refl _
  | x::H,k+1,o,h=>by
    have ih:=Sb (H:=H) (k:=k) (o:=o) (by simpa using h);exact (ih.cons x).trans (List.Perm.swap ..)
theorem lY {H:List HO}{k:Nat}{o o':HO}(hk:H[k]? = some o):(o'::H.eraseIdx k).Perm (H.set k o'):=by
 obtain ⟨h,_⟩:=List.getElem?_eq_some_iff.1 hk;have h2:(H.set k o')[k]? = some o':=by rw [List.getElem?_set_self h]
 have:=(Sb h2).symm
 rwa [List.eraseIdx_set_eq] at this

theorem Lp.at {f:FuncId}{b:Nat}{TT:TypeId}{cs cs' args:List AV}{r:AV}(h:Lp P f b TT cs cs' args r){H H2:List HO}{k:Nat}(hk:H[k]? = some (.box b TT cs))(hK:H.set k (.box b TT cs')=H2) :
  Cb P f H args fun r' H'=>r'=r/\H'=H2:=
 ((h (H.eraseIdx k)).perm (Sb hk)).post fun r' K ⟨h1,h2⟩=>⟨H2,by subst h2;rw [<-hK];exact lY hk,h1,rfl⟩

theorem AOL.gk {ops:Array Oper}{KK:St->Prop}{s:St}{o:Oper}{r:List Oper}{y:AV}{C:List HO->Prop}(G:List (Bool×Bool))(L:List (Nat×AV))(hw:El ops o s.sl=some G)
  (hL:∀p∈L,Zs G (get s.sl p.1) p.2) (h:H9 G->Dr P o (Dn (L++s.sl)) C y) (hC:C s.H) (hd:J5 o.dst s.n=true) (k:AOL P ops KK r ⟨Dy o.dst (.opt G y) s.sl,s.H,s.n⟩):AOL P ops KK (o::r) s:=
 AOL.ps (.opt G y L hw hL h rfl) hC hd k

theorem Ns {g:Gh}{w:World}{a:Act}{s:St}(hG:Gm g s a w){G:List (Bool×Bool)}(hg:H9 G){L:List (Nat×AV)}(hL:∀p∈L,Zs G (get s.sl p.1) p.2)(y:Operand):Rep g w (a.eval y) (Dn (L++s.sl) y):=by
  cases y with
  | tmp t=>
    show Rep g w _ (get (L++s.sl) t);rcases K2 L s.sl t with ⟨x,hx,e⟩ | e
    . rw [e];exact hL (t,x) hx g w _ hg (hG.sl t)
    rw [e];exact hG.sl t
  | const v=>exact Fb g w v
  | global n=>exact .val _
  | func f=>exact .fn _ _ _ _ _ rfl (by simp) rfl (by simp)

theorem GS.cellsTo {sl:List (Nat×AV)}{H H2:List HO}{n b TT:Nat}{cs cs':List AV}(k:Nat)(hk:H[k]? = some (.box b TT cs))(h:cs=cs')(hH2:H.set k (.box b TT cs')=H2):GS ⟨sl,H,n⟩ ⟨sl,H2,n⟩:=by
 subst hH2;exact GS.cells k hk h

theorem flat_at {z:Nat}:∀(es:List (List AV)),(∀e∈es,e.length=z)->∀i e,es[i]? = some e->∀j x,e[j]? = some x->es.flatten[i*z+j]? = some x
  | [],_,i,e,h,_,_,_=>by simp at h
  | a::r,hz,0,e,h,j,x,hj=>by
    simp only [List.getElem?_cons_zero,Option.some.injEq] at h;subst h;have hlt:j<a.length:=(List.getElem?_eq_some_iff.1 hj).1;rw [Jz,Nat.zero_mul,Cg,List.getElem?_append_left hlt];exact hj
  | a::r,hz,i+1,e,h,j,x,hj=>by
    have ha:a.length=z:=hz a (Fs ..);have ih:=flat_at r (fun e he=>hz e (Ft _ he)) i e (by simpa using h) j x hj;rw [Jz,List.getElem?_append_right (by rw [ha,Nat.succ_mul];omega),ha];have:(i+1)*z+j-z=i*z+j:=by rw [Nat.succ_mul];omega
    rw [this];exact ih

end
end Go.Aw
namespace Go.Aw

section
variable {P:Program} {T:List (Nat×TD)} {d:Option Nat} {ty:TypeId} {pos:String} {aft:Array Edge} {gd:Option (Nat×Bool)} {ρ:Operand->AV} {K:List HO->Prop}

end


theorem Cb.mono' {P:Program}{f:FuncId}{args:List AV}{H:List HO}{Q Q':AV->List HO->Prop}(h:Cb P f H args Q)(hq:∀r K,Q r K->Q' r K):Cb P f H args Q':=
 h.post fun r K hk=>⟨K,.refl _,hq r K hk⟩

section
variable {P:Program} {T:List (Nat×TD)} {d:Option Nat} {ty:TypeId} {pos:String} {aft:Array Edge} {gd:Option (Nat×Bool)} {ρ:Operand->AV} {K:List HO->Prop}
end
end Go.Aw
namespace Go.Aw

section
variable {P:Program} {T:List (Nat×TD)} {d:Option Nat} {ty:TypeId} {pos:String} {aft:Array Edge} {gd:Option (Nat×Bool)} {ρ:Operand->AV} {K:List HO->Prop}

theorem jZ {n:Nat}{t e:TypeId}(hu:P.underlying t=some (.slice e))(a:Option Addr)(k c:Nat)(w:World):(Op.equalIn (n+1) t (.slice a k c) (.slice none 0 0)).run P w = .ok a.isNone w:=by
 unfold Op.equalIn;rw [Sem.run_bind,Bg hu];cases a <;> rfl

theorem rW {x:Operand}{t yt e z:Nat}{td:TD}{es:List (List AV)}{H:List HO}(hT:G9 P T)(hx:ρ x = .sl z es)(ht:Bp T t=some td)(hk:td.kind = .slice e) :
  Jj P ⟨d,.binOp .eql t x (.const (.slice none 0 0)) yt,ty,pos,aft,gd⟩ ρ H (fun r H'=>∃b,(b=true->es = [])/\r = .bool b/\H'=H):=by
 intro g w a next Q hr hHK hn
 obtain ⟨a0,n,cap,h1,h2,_,_,h5⟩:=(hx▸hr x (by simp [Op.operands]):Rep g w _ _).inv_sl;have hu:=Dc (hT t td ht) hk;unfold Oper.wp
 have hrun:(execOp a.eval ⟨d,.binOp .eql t x (.const (.slice none 0 0)) yt,ty,pos,aft,gd⟩).run P w = .ok (.value (.bool a0.isNone)) w:=by
  have e2:a.eval (.const (.slice none 0 0)) = .slice none 0 0:=rfl;simp only [execOp,h1,e2];rw [Sem.run_bind,Sem.run_bind,Lk rfl];have:=jZ (n:=9999) hu a0 n cap w;simp only [Result.andThen_ok,binOp,Op.equal,Op.maxDepth,Sem.run_bind,this,Sem.run_pure]
 rw [hrun];refine hn g w _ _ H ⟨a0.isNone,fun h=>?_,rfl,rfl⟩ (.bool _) hHK (Ext.refl g w);rcases h5 with h5 | ⟨b,o,rfl,_⟩
 . exact h5
 cases h


def Ou (s:List UInt8):List (List AV):=s.map fun b=>[.int .u8 (b.toNat:Int)]
theorem T6 (s:List UInt8):(Ou s).length=s.length:=B1 ..
theorem sK (s t:List UInt8):Ou (s++t)=Ou s++Ou t:=Cy ..
theorem Uv (s:List UInt8):∀c∈Ou s,Bm c=true:=M3 fun _=>rfl
theorem sL (s:List UInt8):∀e∈Ou s,e.length=1:=fun e he=>by obtain ⟨b,_,rfl⟩:=B7.1 he;rfl
theorem cU (s:List UInt8):Lib.strCells ⟨s.toArray⟩=s.map fun b=>Value.int .u8 (b.toNat:Int):=by
 simp [Lib.strCells]
theorem gB (g:Gh)(w:World)(s:List UInt8):Cv g w (Lib.strCells ⟨s.toArray⟩).toArray (Ou s).flatten:=by
  have hf:(Ou s).flatten=s.map fun b=>AV.int .u8 (b.toNat:Int):=by
    induction s with
    | nil=>rfl
    | cons a r ih=>show [AV.int .u8 (a.toNat:Int)]++(Ou r).flatten=_;rw [ih];rfl
  rw [cU,hf];refine ⟨by simp,fun i x hi=>?_⟩;rw [List.getElem?_map] at hi;cases h:s[i]? with
  | none=>rw [h] at hi;cases hi
  | some b=>
    rw [h] at hi;simp only [E4,Option.some.injEq] at hi;subst hi;rw [Ce,List.getElem?_toArray,List.getElem?_map,h];exact .int _ _

theorem Zu {x y:Operand}{t u e k:Nat}{td te:TD}{v:Value}{es:List (List AV)}{s:List UInt8}{H:List HO}(hT:G9 P T)(hx:ρ x = .row v 1 es)(hy:ρ y = .str s)(ht:Bp T t=some td)(hk:td.kind = .slice e)
  (hu':P.underlying u=some .string) (hte:Bp T e=some te) (hz:te.size=1) (hby:te.bytes=1) (hH:H[k]? = some (.row v es.length e 1)) (hs1:∀c∈es,Bm c=true) (hb:es.length+s.length<=140737488355328) :
  Jj P ⟨d,.call ⟨.builtin .append,#[x,y],#[t,u]⟩,ty,pos,aft,gd⟩ ρ H (fun r H'=>∃v',r = .row v' 1 (es++Ou s)/\H'=H.set k (.row v' (es++Ou s).length e 1)):=by
 intro g w a next Q hr hHK hn
 obtain ⟨e1,r1⟩:=(hx▸hr x (by simp [Op.operands,Call.operands]):Rep g w _ _).inv_row;have r2:=(hy▸hr y (by simp [Op.operands,Call.operands]):Rep g w _ _).inv_str.1;have hu:=Dc (hT t td ht) hk;obtain ⟨it,hit,his,hib,zv,hzv,hzs,_⟩:=(hT e te hte).info;have hok:=hHK.ok _ (A0 hH);rw [e1] at r1;have hlen:(es++Ou s).length=es.length+s.length:=by simp [T6]
 have hkl:k<H.length:=(List.getElem?_eq_some_iff.1 hH).1;have hss:(⟨s.toArray⟩:ByteArray).size=s.length:=by simp [ByteArray.size]
 have hmax:maxLen=9223372036854775807:=rfl;have hnl:(Lib.strCells ⟨s.toArray⟩).length=s.length:=by rw [Lib.strCells_length,hss]
 have fin:∀v' g' w',(Builtin.append_ #[t,u] ty #[a.eval x,a.eval y]).run P w = .ok v' w'->Rep g' w' v' (.sl 1 (es++Ou s))->HOK g' w' (H.set k (.row v' (es++Ou s).length e 1))->Ext g w g' w'->Oper.wp P ⟨d,.call ⟨.builtin .append,#[x,y],#[t,u]⟩,ty,pos,aft,gd⟩ a w next Q:=by
  intro v' g' w' hrun hrep hok' hext;unfold Oper.wp
  rw [E0 (v:=v') (w':=w') (by
   have:(#[x,y]:Array Operand).map a.eval = #[a.eval x,a.eval y]:=by simp
   rw [this];simp only [builtin,Sem.run_bind,hrun,Result.andThen_ok,Sem.run_pure])]
  exact hn g' w' v' _ _ ⟨v',rfl,rfl⟩ (.row _ _ _ hrep) hok' hext
 by_cases h2:s = []
 .
  subst h2
  have hset:H.set k (.row v (es++Ou []).length e 1)=H:=by
   apply M9
   intro j;rw [List.getElem?_set];split
   . rename_i hj;subst hj;first | (rw [if_pos hkl,show es++Ou []=es from H1 es];exact hH.symm) | (rw [show es++Ou []=es from H1 es];exact hH.symm)
   rfl
  refine fin v g w ?_ (by rw [show es++Ou []=es from H1 es];exact e1▸r1) (by rw [hset];exact hHK) (Ext.refl g w);rw [e1,r2];have hf:(Builtin.firstCells 1 0 (.string ⟨#[]⟩)).run P w = .ok #[] w:=Lib.run_firstCells_string (P:=P) w 1 ⟨#[]⟩;have h00:(⟨#[]⟩:ByteArray).size=0:=rfl;rcases hok with ⟨rfl,h0⟩ | ⟨b,cap,cur,rfl,hg,hcur,hcsz,hcap,hcmax⟩
  . simp [Builtin.append_,run_underlying hu,run_underlying hu',sizeOf,typeInfo,hit,his,hz,Builtin.lenOf,h00,hf]
  simp [Builtin.append_,run_underlying hu,run_underlying hu',sizeOf,typeInfo,hit,his,hz,Builtin.lenOf,h00,hf,hcap,storeCells]
 have hm0:0<s.length:=Iw.2 h2;have hz2:∀c∈Ou s,c.length=1:=sL s;have hsz:it.size=1:=by rw [his,hz]
 have hbb:it.bytes=1:=by rw [hib,hby]
 have hzc:zv.cells.size=1:=hzs.trans hz;rcases hok with ⟨rfl,h0⟩ | ⟨b,cap,cur,rfl,hg,hcur,hcsz,hcap,hcmax⟩
 .
  have hes:es = []:=by simpa using h0
  subst hes;simp only [H6,K9,Cg,T6] at hb fin hlen ⊢;have hrun:=run_append_nil_string (P:=P) w t u ty e it zv hu hu' hit hzv ⟨s.toArray⟩ (by rw [hss];exact hm0) (by rw [hss];omega) (by rw [hss,hbb];omega)
  have e5:((⟨s.toArray⟩:ByteArray).data.map fun b=>Value.int .u8 b.toNat)=(Lib.strCells ⟨s.toArray⟩).toArray:=by
   apply Array.ext';simp [Lib.strCells]
  rw [e5,hss] at hrun;have hext:Ext g w (g.put w.heap.size (some (s.length*1))) (w.drew.alloc (.cells ((Lib.strCells ⟨s.toArray⟩).toArray++Builtin.zeroCells zv.cells (grownCap w s.length 0 e-s.length)) e)):=(Ext.drew g w).trans (Ext.alloc g w.drew _ _);have hcapm:=grownCap_ge w s.length 0 e;have hcapM:=grownCap_le_maxLen w s.length 0 e (by omega);refine fin _ (g.put w.heap.size (some (s.length*1))) _ (by rw [e1,r2];exact hrun) ?_ ?_ hext
  .
   refine Ds (T6 s).symm hcapm hcapM hz2 ((gB g w s).mono hext) (fun k hk=>?_) (fun k u hk=>?_)
   . unfold Dz;rw [Gh.Aai];show 0+k<_;omega
   rw [Cg,Bq (b:=w.heap.size) (Ci w.drew _)];have hlt:=(Array.getElem?_eq_some_iff.1 hk).1;rw [Array.getElem?_append_left hlt];exact hk
  refine hHK.set hext hH (fun b hb=>?_) (.inr ⟨w.heap.size,grownCap w s.length 0 e,_,rfl,by rw [Gh.Aai],Ci w.drew _,?_,hcapm,hcapM⟩) (fun c hc _ _=>?_)
  . simp only [HO.blk,Option.some.injEq] at hb;exact .inr (by omega)
  . simp only [H7,Hd,hnl,size_zeroCells,hzc];omega
  exact ⟨Gh.Aal _ _ (by omega),F4 w.drew _ hc⟩
 obtain ⟨hz1,rl1,hle⟩:=Xq r1 rfl (Nat.zero_lt_one) hs1 hcur
 have hzall:∀c∈es++Ou s,c.length=1:=fun c hc=>by
  rcases Da.1 hc with h | h
  . exact hz1 c h
  exact hz2 c h
 have hrl:Cv g w ((cur.toList.take (es.length*1)).toArray++(Lib.strCells ⟨s.toArray⟩).toArray) (es++Ou s).flatten:=by
  rw [Ol];exact rl1.append (gB g w s)
 by_cases hroom:es.length+s.length<=cap
 .
  have hrun:=Lib.run_append_room_string (P:=P) w t u ty e it hu hu' hit hsz b es.length cap cur hcur ⟨s.toArray⟩ (by rw [hss];exact hroom) (by rw [hss];omega);rw [hss] at hrun;have hnew:=setRow_heap w b cur (cur.toList.take es.length++Lib.strCells ⟨s.toArray⟩++cur.toList.drop (es.length+s.length)).toArray e (0,0) hcur
  have hext:Ext g w (g.put b (some ((es.length+s.length)*1))) (w.setRow b (cur.toList.take es.length++Lib.strCells ⟨s.toArray⟩++cur.toList.drop (es.length+s.length)).toArray):=by
   refine Ext.setRowTail hg (Fu 1 (by omega)) hcur fun o ho=>?_
   have:o<(cur.toList.take es.length).length:=by simp;omega
   simp only [List.getElem?_toArray,Cs];rw [List.getElem?_append_left this,List.getElem?_take,if_pos (by omega)];simp
  refine fin _ (g.put b (some ((es.length+s.length)*1))) _ (by rw [e1,r2];exact hrun) ?_ ?_ hext
  .
   refine Ds hlen.symm (by omega) hcmax hzall (hrl.mono hext) (fun k hk=>?_) (fun k u hk=>?_)
   . unfold Dz;rw [Gh.Aai];show 0+k<_;omega
   rw [Cg,Bq hnew];have hlt:=(Array.getElem?_eq_some_iff.1 hk).1
   have e3:(cur.toList.take es.length++Lib.strCells ⟨s.toArray⟩++cur.toList.drop (es.length+s.length)).toArray=((cur.toList.take (es.length*1)).toArray++(Lib.strCells ⟨s.toArray⟩).toArray)++(cur.toList.drop (es.length+s.length)).toArray:=by
    apply Ly.1;simp
   rw [e3,Array.getElem?_append_left hlt];exact hk
  refine hHK.set hext hH (fun b' hb'=>.inl hb') (.inr ⟨b,cap,_,by rw [hlen],by rw [Gh.Aai,hlen],hnew,?_,by rw [hlen];exact hroom,hcmax⟩) (fun c hc hne _=>?_)
  . simp only [Hd,Do,Fr,Na,Qd,hnl];omega
  have hcb:c≠b:=fun h=>hne (by rw [h];rfl)
  exact ⟨Gh.Aal _ _ hcb,setRow_other w b c _ hcb⟩
 have hg':cap<es.length+s.length:=by omega
 have hfit:Builtin.nextslicecap (es.length+s.length) cap*it.bytes<=281474976710656:=growslice_fits hg' (by rw [hbb];omega);have hol:(cur.toList.take (es.length*1)).length=es.length*it.size:=by simp [hsz];omega
 have holds:∀j u,(cur.toList.take (es.length*1))[j]? = some u->w.cell? ((⟨b,0,none⟩:Addr).add j)=some u:=fun j u hj=>by
  rw [E8,Cg,Bq hcur];rw [List.getElem?_take] at hj;split at hj
  . simpa using hj
  cases hj
 have hrun:=Lib.run_append_grow_string (P:=P) w t u ty e it zv hu hu' hit hzv ⟨b,0,none⟩ es.length cap (cur.toList.take (es.length*1)) hol holds ⟨s.toArray⟩ (by rw [hss];exact hg') (by rw [hss];omega) (by rw [hss];exact hfit);rw [hss] at hrun;have hext:Ext g w (g.put w.heap.size (some ((es.length+s.length)*1))) (w.drew.alloc (.cells ((cur.toList.take (es.length*1)).toArray++(Lib.strCells ⟨s.toArray⟩).toArray++Builtin.zeroCells zv.cells (grownCap w (es.length+s.length) cap e-(es.length+s.length))) e)):=(Ext.drew g w).trans (Ext.alloc g w.drew _ _);have hcapm:=grownCap_ge w (es.length+s.length) cap e;have hcapM:=grownCap_le_maxLen w (es.length+s.length) cap e (by omega);refine fin _ (g.put w.heap.size (some ((es.length+s.length)*1))) _ (by rw [e1,r2];exact hrun) ?_ ?_ hext
 .
  refine Ds hlen.symm hcapm hcapM hzall (hrl.mono hext) (fun k hk=>?_) (fun k u hk=>?_)
  . unfold Dz;rw [Gh.Aai];show 0+k<_;omega
  rw [Cg,Bq (b:=w.heap.size) (Ci w.drew _)];have hlt:=(Array.getElem?_eq_some_iff.1 hk).1;rw [Array.getElem?_append_left hlt];exact hk
 refine hHK.set hext hH (fun b' hb'=>?_) (.inr ⟨w.heap.size,grownCap w (es.length+s.length) cap e,_,by rw [hlen],by rw [Gh.Aai,hlen],Ci w.drew _,?_,by rw [hlen];exact hcapm,hcapM⟩) (fun c hc _ _=>?_)
 . simp only [HO.blk,Option.some.injEq] at hb';exact .inr (by omega)
 . simp only [H7,Hd,hnl,size_zeroCells,hzc,hol,hsz];omega
 exact ⟨Gh.Aal _ _ (by omega),F4 w.drew _ hc⟩
end
end Go.Aw
