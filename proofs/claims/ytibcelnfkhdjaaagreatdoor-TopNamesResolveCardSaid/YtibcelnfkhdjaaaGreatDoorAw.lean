/-
  The abstract layer: abstract values, what represents them, states, operations, code, calls. No condition.
-/
import Derived.Test.YtibcelnfkhdjaaaGreatDoorAv
set_option linter.unusedVariables false
set_option linter.unusedSimpArgs false
namespace Go.Aw

section
variable {P:Program} {Q:Exit->St->Prop} {N:St->Prop} {s:St}
theorem Aa (h:N s):Ej N Q .normal s:=h
theorem Br {i:Nat}(h:Q (.exit i) s):Ej N Q (.exit i) s:=h
theorem A4 (h:Q .ret s):Ej N Q .ret s:=h
theorem Ff {i:Nat}(h:Q .normal s):Ji i Q .normal s:=h
theorem Dw {i:Nat}(h:Q .ret s):Ji i Q .ret s:=h
theorem Gp {i:Nat}(h:Q .normal s):Ji i Q (.exit i) s:=by
 show (bif Nat.beq i i then Q .normal s else Q (.exit i) s);rw [Nat.beq_refl];exact h
theorem blkMiss {i j:Nat}(hj:Nat.beq j i=false)(h:Q (.exit j) s):Ji i Q (.exit j) s:=by
 show (bif Nat.beq j i then Q .normal s else Q (.exit j) s);rw [hj];exact h

theorem GS.refl (s:St):GS s s:=fun g _ w h=>⟨g,h,Ext.refl g w⟩
theorem GS.trans {s t u:St}(h:GS s t)(k:GS t u):GS s u:=fun g a w hG=>
 let ⟨g',hG',hx⟩:=h g a w hG
 let ⟨g'',hG'',hy⟩:=k g' a w hG'
 ⟨g'',hG'',hx.trans hy⟩

theorem AW.loopS {c:Code}{ι:Type}(S:ι->St)(R:ι->Prop)(μ:ι->Nat)(i:ι)(h0:R i)(g0:GS s (S i))(round:∀i,R i->AW P c (Ej (fun s'=>∃j,R j/\μ j<μ i/\GS s' (S j)) Q) (S i)):AW P (.loop c) Q s:=by
 refine AW.loop (fun n s=>∃i,R i/\μ i=n/\GS s (S i)) (μ i) ⟨i,h0,rfl,g0⟩ ?_;rintro n s ⟨i,hR,rfl,hG⟩;refine AW.ghost hG ((round i hR).mono ?_);intro e s' h;cases e with
 | normal=>obtain ⟨j,h1,h2,h3⟩:=h;exact ⟨μ j,h2,j,h1,rfl,h3⟩
 | _=>exact h

theorem AW.cut {x y:Code}{ι:Type}(S:ι->St)(R:ι->Prop)(h:AW P x (Ej (fun s'=>∃i,R i/\GS s' (S i)) Q) s)(k:∀i,R i->AW P y Q (S i)):AW P (.seq x y) Q s:=by
 refine AW.seq (h.mono ?_);intro e s' hs;cases e with
 | normal=>obtain ⟨i,h1,h2⟩:=hs;exact AW.ghost h2 (k i h1)
 | _=>exact hs
end

theorem D5 {c:List AV}(h:Au c=true):∀x∈[c],Au x=true:=by
 intro x hx;simp only [Ep] at hx;subst hx;exact h
theorem kZ {α:Type}{f:α->List AV}{l:List α}(h:∀a,Au (f a)=true):∀x∈l.map f,Au x=true:=by
 intro x hx;obtain ⟨a,_,rfl⟩:=C9.1 hx;exact h a

def bW (G:List (Bool×Bool))(sl:List (Nat×AV)):List (Nat×AV)->Prop
 | []=>True
 | (t,x)::r=>tQ G (get sl t) x/\bW G sl r
theorem bW.all {G:List (Bool×Bool)}{sl:List (Nat×AV)}:∀{L:List (Nat×AV)},bW G sl L->∀p∈L,tQ G (get sl p.1) p.2
  | [],_,p,hp=>by cases hp
  | (t,x)::r,h,p,hp=>by
    rcases Cn.1 hp with rfl | hp
    . exact h.1
    exact bW.all h.2 p hp
end Go.Aw
namespace Go.Aw

def Wd:List (Int×AV)->Int->Option AV
 | [],_=>none
 | (k,x)::r,n=>if k=n then some x else Wd r n

section
variable {P:Program} {T:List (Nat×TD)} {d:Option Nat} {ty:TypeId} {pos:String} {aft:Array Edge} {gd:Option (Nat×Bool)} {ρ:Operand->AV} {K:List HO->Prop}

theorem Ov {t:TypeId}{x:TD}{k e:Nat}(h:TyOK P t x)(hk:x.kind = .map k e):P.underlying t=some (.map k e):=by
 obtain ⟨u,hu,_,hk'⟩:=h.desc;rw [hk] at hk';cases u <;> simp only [Pb] at hk' <;> first | exact hk'.elim | (obtain ⟨rfl,rfl⟩:=hk';exact hu)

theorem Yq {t:TypeId}{H:List HO}:L7 P ⟨d,.makeMap t none,ty,pos,aft,gd⟩ ρ H (fun x H'=>∃b,x = .val (.map (some b))/\H' = .mapo b []::H):=by
 intro g w a next Q hr hH hn
 unfold Oper.wp;simp only [execOp,Instr.makeMap,Option.map_none,Sem.run_bind,Sem.run_pure,run_newObj,Result.andThen_ok];have hx:=Ext.alloc g w (.map #[] 0) (some 0);refine hn (g.put w.heap.size (some 0)) _ _ _ _ ⟨w.heap.size,rfl,rfl⟩ (.val _) ((hH.alloc _ (some 0)).cons ⟨Gh.Aaw _ _ _,#[],0,Ce w _,rfl,by simp,by simp⟩ ?_) hx;intro b hb x hx' hb';simp only [HO.blk,Option.some.injEq] at hb;have:=(HO.ok_lt (hH.ok x hx') hb').1;omega

theorem Rv {k:IntKind}{n:Int}:∀(l:List MapEntry) (es:List (Int×AV)) (i:Nat),l.length=es.length->(∀(j:Nat) m x,es[j]? = some (m,x)->(l.getD j default).key = .int .i64 m)->Wd es n=none->
    Instr.findNow (.int k) (.int .i64 n) l i=some none
  | [],_,_,_,_,_=>rfl
  | e::l,[],_,h,_,_=>by simp at h
  | e::l,(m,x)::es,i,h,hk,hg=>by
    have h1:e.key = .int .i64 m:=by simpa using hk 0 m x rfl
    simp only [Wd] at hg;by_cases hm:m=n
    . simp [hm] at hg
    . rw [if_neg hm] at hg
      have:(n==m)=false:=by simp;exact fun e=>hm e.symm
      unfold Instr.findNow;simp only [h1,Instr.sameNow,if_true,this];exact Rv l es (i+1) (by simpa using h) (fun j m x hj=>by simpa using hk (j+1) m x hj) hg

theorem Xn {k:IntKind}{n:Int}{x:AV}{g:Gh}{w:World}:∀(l:List MapEntry) (es:List (Int×AV)) (i:Nat),l.length=es.length->(∀(j:Nat) m x,es[j]? = some (m,x)->(l.getD j default).key = .int .i64 m)->(∀(j:Nat) m x,es[j]? = some (m,x)->Rep g w (l.getD j default).val x)->Wd es n=some x->
    ∃i' v,Instr.findNow (.int k) (.int .i64 n) l i=some (some (i',v))/\Rep g w v x
  | [],[],_,_,_,_,hg=>by simp [Wd] at hg
  | [],_::_,_,h,_,_,_=>by simp at h
  | e::l,[],_,h,_,_,_=>by simp at h
  | e::l,(m,y)::es,i,h,hk,hv,hg=>by
    have h1:e.key = .int .i64 m:=by simpa using hk 0 m y rfl
    have h2:Rep g w e.val y:=by simpa using hv 0 m y rfl
    simp only [Wd] at hg;by_cases hm:m=n
    . subst hm
      simp only [if_true,Option.some.injEq] at hg;subst hg;refine ⟨i,e.val,?_,h2⟩;unfold Instr.findNow;simp [h1,Instr.sameNow]
    . rw [if_neg hm] at hg
      have:(n==m)=false:=by simp;exact fun e=>hm e.symm
      unfold Instr.findNow;simp only [h1,Instr.sameNow,if_true,this];exact Xn l es (i+1) (by simpa using h) (fun j m x hj=>by simpa using hk (j+1) m x hj) (fun j m x hj=>by simpa using hv (j+1) m x hj) hg

theorem Rq {n:Nat}{kt:TypeId}{k:IntKind}(h:P.underlying kt=some (.int k)){b:Bool}{j:IntKind}{m:Int}(w:World):(Instr.checkKey b (n+1) kt (.int j m)).run P w = .ok () w:=by
 unfold Instr.checkKey;rw [Sem.run_bind,A8 h];rfl

theorem Eb {t:TypeId}{m k v:Operand}{kt et b i:Nat}{td tk:TD}{kk:IntKind}{n:Int}{es:List (Int×AV)}{x:AV}{H H2:List HO}(hT:H6 P T)(ht:Bl T t=some td)(hk:td.kind = .map kt et)(htk:Bl T kt=some tk)(hkk:tk.kind = .int kk)
  (hm:ρ m = .val (.map (some b))) (hkey:ρ k = .int .i64 n) (hv:ρ v=x) (hH:H[i]? = some (.mapo b es)) (hnew:Wd es n=none) (hH2:H.set i (.mapo b (es ++ [(n,x)]))=H2) :
  L7 P ⟨d,.insert t m k v,ty,pos,aft,gd⟩ ρ H (fun y H'=>y = .junk/\H'=H2):=by
 subst hH2;intro g w a next Q hr hHK hn
 have h1:=(hm▸hr m (by simp [Op.operands]):Rep g w _ _).inv_val;have h2:=(hkey▸hr k (by simp [Op.operands]):Rep g w _ _).inv_int;have h3:Rep g w (a.eval v) x:=hv▸hr v (by simp [Op.operands]);obtain ⟨hg,ms,clock,hheap,hl,hks,hvs⟩:=hHK.ok _ (Aj hH);have hb:b<w.heap.size:=(Array.getElem?_eq_some_iff.1 hheap).1;have hu:=Ov (hT t td ht) hk;have huk:=Kz (hT kt tk htk) hkk;have hl':ms.toList.length=es.length:=by simpa using hl
 have hfind:=Rv (k:=kk) (n:=n) ms.toList es 0 hl' (fun j m x hj=>by simpa using hks j m x hj) hnew;have hget:(getObj b).run P w = .ok (.map ms clock) w:=by simp [getObj,Sem.run,hheap]
 have hset:∀o:Obj,(setObj b o).run P w = .ok () { w with heap:=w.heap.setIfInBounds b o }:=fun o=>by simp [setObj,Sem.run,hheap]
 have hrun:(Instr.mapUpdate t (a.eval m) (a.eval k) (a.eval v)).run P w = .ok () { w with heap:=w.heap.setIfInBounds b (.map (ms.push { key:=.int .i64 n,val:=a.eval v,born:=clock }) (clock+1)) }:=by
  unfold Instr.mapUpdate;rw [Sem.run_bind,A8 hu];simp only [Result.andThen_ok,h1,Sem.run_bind,hget,h2,Rq (n:=9999) huk]
  have hfk:(Instr.findKey kt (.int .i64 n) ms.toList).run P w = .ok none w:=by
   unfold Instr.findKey;rw [Sem.run_bind,A8 huk];simp only [Result.andThen_ok,hfind,Sem.run_pure]
  simp only [hfk,Result.andThen_ok,hset]
 unfold Oper.wp;simp only [execOp,Sem.run_bind,hrun,Result.andThen_ok,Sem.run_pure]
 have hnew':({ w with heap:=w.heap.setIfInBounds b (.map (ms.push { key:=.int .i64 n,val:=a.eval v,born:=clock }) (clock+1)) }:World).heap[b]? = some (.map (ms.push { key:=.int .i64 n,val:=a.eval v,born:=clock }) (clock+1)):=by
  simp [hb]
 have hoth:∀c,c≠b->({ w with heap:=w.heap.setIfInBounds b (.map (ms.push { key:=.int .i64 n,val:=a.eval v,born:=clock }) (clock+1)) }:World).heap[c]? = w.heap[c]? :=fun c hc=>by
  simp [Array.getElem?_setIfInBounds_ne (Ne.symm hc)]
 have hx:Ext g w g { w with heap:=w.heap.setIfInBounds b (.map (ms.push { key:=.int .i64 n,val:=a.eval v,born:=clock }) (clock+1)) }:=by
  refine ⟨rfl,rfl,rfl,by simp,fun c hc hgc=>⟨hgc,hoth c fun e=>by rw [e,hg] at hgc;cases hgc⟩,fun c m' hc hgc=>⟨fun m'' hm''=>by rw [hgc] at hm'';cases hm'';exact Bc _,fun o ho=>?_⟩⟩;have hne:c≠b:=fun e=>by rw [e,hg] at hgc;cases hgc;omega
  unfold World.cell?;rw [hoth c hne]
 refine hn g _ undef .junk _ ⟨rfl,rfl⟩ (.junk _) (hHK.set hx hH (fun c hc=>.inl hc) ⟨hg,_,_,hnew',by simp [hl],?_,?_⟩ (fun c hc hne _=>⟨rfl,hoth c fun e=>hne (by rw [e];rfl)⟩)) hx
 .
  intro j m' y hj;rw [List.getElem?_append] at hj;split at hj
  .
   rename_i hlt;have:=hks j m' y hj;have hlt':j<ms.size:=by omega
   simpa [Ct,Array.getElem?_push,show j≠ms.size by omega] using this
  rename_i hlt
  have:j-es.length=0:=by
   rcases Nat.eq_zero_or_pos (j-es.length) with h | h
   . exact h
   rw [List.getElem?_eq_none (by simp;omega)] at hj;cases hj
  rw [this] at hj;simp at hj;have hj':j=ms.size:=by omega
  subst hj';simp [Ct,hj.1]
 intro j m' y hj;rw [List.getElem?_append] at hj;split at hj
 .
  rename_i hlt;have:=(hvs j m' y hj).mono hx;have hlt':j<ms.size:=by omega
  simpa [Ct,Array.getElem?_push,show j≠ms.size by omega] using this
 rename_i hlt
 have:j-es.length=0:=by
  rcases Nat.eq_zero_or_pos (j-es.length) with h | h
  . exact h
  rw [List.getElem?_eq_none (by simp;omega)] at hj;cases hj
 rw [this] at hj;simp at hj;have hj':j=ms.size:=by omega
 subst hj';simp only [Ct,Array.getElem?_push,if_true,Option.getD_some];rw [<-hj.2];exact h3.mono hx
theorem GS.freezeMap {sl:List (Nat×AV)}{H:List HO}{n t b:Nat}{es:List (Int×AV)}(k:Nat)(h:get sl t = .val (.map (some b)))(hk:H[k]? = some (.mapo b es)):GS ⟨sl,H,n⟩ ⟨(t,.mapv es)::sl,H.eraseIdx k,n⟩:=fun g a w hG=>by
 obtain ⟨hg,ms,clock,h1,h2,h3,h4⟩:=hG.heap.ok _ (Aj hk)
 have hx:Ext g w (g.put b none) w:=by
  refine ⟨rfl,rfl,rfl,Bc _,fun c hc hgc=>⟨?_,rfl⟩,fun c m hc hgc=>⟨fun m' hm=>?_,fun _ _=>rfl⟩⟩
  .
   by_cases e:c=b
   . subst e;exact Gh.Aaw _ _ _
   rw [Gh.Aa0 _ _ e];exact hgc
  by_cases e:c=b
  . subst e;rw [Gh.Aaw] at hm;cases hm
  rw [Gh.Aa0 _ _ e,hgc] at hm;cases hm;exact Bc _
 refine ⟨g.put b none,⟨hG.size,hG.defers,fun i=>?_,?_⟩,hx⟩
 .
  show Rep _ w _ (get ((t,.mapv es)::sl) i);rw [E3];by_cases e:t=i
  .
   subst e;simp only [if_true];have h5:a.tmps.getD t undef = .map (some b):=(h▸hG.sl t:Rep g w _ _).inv_val;rw [h5];exact .mapv b ms clock es (Gh.Aaw _ _ _) (Array.getElem?_eq_some_iff.1 h1).1 h1 h2 h3 (fun i k x hi=>(h4 i k x hi).mono hx)
  simp only [e,if_false];exact (hG.sl i).mono hx
 have hsub:(H.eraseIdx k).Sublist H:=Z8 ..;refine ⟨(hG.heap.sub hsub).nodup,fun o ho=>?_,hG.heap.glob.mono hx⟩;obtain ⟨j,hj⟩:=List.getElem?_of_mem ho;rw [List.getElem?_eraseIdx] at hj
 obtain ⟨j',hjk,hj'⟩:∃j',j'≠k/\H[j']? = some o:=by
  split at hj
  . exact ⟨j,by omega,hj⟩
  exact ⟨j+1,by omega,hj⟩
 have hok:=hG.heap.ok o (Aj hj');refine HO.ok_of_same hx hok fun c hc=>⟨Gh.Aa0 _ _ fun e=>hjk (hG.heap.nodup_blk hj' hk (e▸hc) rfl),rfl⟩
theorem Xf {t:TypeId}{m k:Operand}{kt et:Nat}{td tk:TD}{kk:IntKind}{n:Int}{es:List (Int×AV)}{x:AV}(hT:H6 P T)(ht:Bl T t=some td)(hk:td.kind = .map kt et)(htk:Bl T kt=some tk)(hkk:tk.kind = .int kk)
    (hm:ρ m = .mapv es) (hkey:ρ k = .int .i64 n) (hx:Wd es n=some x):Db P ⟨d,.lookup t m k false,ty,pos,aft,gd⟩ ρ K x:=
  .of_run fun g w a hr=>by
    have h1:=(hm▸hr m (by simp [Op.operands]):Rep g w _ _);have h2:=(hkey▸hr k (by simp [Op.operands]):Rep g w _ _).inv_int;have hu:=Ov (hT t td ht) hk;have huk:=Kz (hT kt tk htk) hkk;generalize he:a.eval m=vm at h1;cases h1 with
    | mapv b ms clock _ hg hb hheap hl hks hvs=>
      obtain ⟨i',v,hf,hrep⟩:=Xn (k:=kk) (n:=n) (x:=x) (g:=g) (w:=w) ms.toList es 0 (by simpa using hl) (fun j m x hj=>by simpa using hks j m x hj) (fun j m x hj=>by simpa using hvs j m x hj) hx;refine ⟨v,?_,hrep⟩;have hget:(getObj b).run P w = .ok (.map ms clock) w:=by simp [getObj,Sem.run,hheap]
      have hfk:(Instr.findKey kt (.int .i64 n) ms.toList).run P w = .ok (some (i',v)) w:=by
        unfold Instr.findKey;rw [Sem.run_bind,A8 huk];simp only [Result.andThen_ok,hf,Sem.run_pure]
      simp only [execOp,Instr.lookup,Sem.run_bind,A8 hu,Result.andThen_ok,he,hget,Sem.run_pure,h2,Rq (n:=9999) huk,hfk,Al,if_false]

end
end Go.Aw
namespace Go.Aw
section
variable {P:Program} {T:List (Nat×TD)} {ρ:Operand->AV} {K:List HO->Prop} {d:Option Nat} {ty:TypeId} {pos:String} {aft:Array Edge} {gd:Option (Nat×Bool)}

theorem On {x i:Operand}{t e len:Nat}{td te:TD}{k:IntKind}{n:Int}{cs:List AV}{c:AV}(hT:H6 P T)(h:ρ x = .agg cs)(hi:ρ i = .int k n)(ht:Bl T t=some td)(hk:td.kind = .array len e)
  (hte:Bl T e=some te) (hz:te.size=1) (ha:te.agg=false) (h0:0<=n) (hl:n<len) (hc:cs[n.toNat]? = some c):Db P ⟨d,.index t x i,ty,pos,aft,gd⟩ ρ K c:=
 .of_run fun g w a hr=>by
  obtain ⟨vs,h1,h2⟩:=(h▸hr x (by simp [Op.operands]):Rep g w _ _).inv_agg;have h4:=(hi▸hr i (by simp [Op.operands]):Rep g w _ _).inv_int;have hu:=Nc (hT t td ht) hk;have hlt:n.toNat<vs.size:=by rw [h2.1];exact (List.getElem?_eq_some_iff.1 hc).1
  refine ⟨vs.getD n.toNat undef,?_,h2.2 _ _ hc⟩;simp only [execOp,h1,h4,Instr.index,asIntOf,Sem.run_bind,Sem.run_pure,Result.andThen_ok,A8 hu];simp [h0,hl,F0 (hT e te hte),hz,part,Ni (hT e te hte),ha,hlt]

def cF (z:Nat):Nat->Nat->List (Nat×Nat×Bool×Nat)
 | _,0=>[]
 | k,n+1=>(k*z,z,true,0)::cF z (k+1) n

theorem gK (z:Nat):∀(n k i:Nat) (off zz:Nat) (nm:Bool) (ft:Nat),(cF z k n)[i]? = some (off,zz,nm,ft)->off=(k+i)*z/\zz=z
  | 0,_,i,_,_,_,_,h=>by simp [cF] at h
  | n+1,k,0,off,zz,nm,ft,h=>by simp [cF] at h;exact ⟨h.1.symm,h.2.1.symm⟩
  | n+1,k,i+1,off,zz,nm,ft,h=>by
    simp only [cF,List.getElem?_cons_succ] at h;obtain ⟨h1,h2⟩:=gK z n (k+1) i off zz nm ft h;exact ⟨by rw [h1];congr 1;omega,h2⟩

theorem bX {t e len:Nat}{td te:TD}{parts:Array (Nat×Operand)}{l:List AV}(hT:H6 P T)(ht:Bl T t=some td)(hk:td.kind = .array len e)(hte:Bl T e=some te)
    (h:aH (cF te.size 0 len) td.zero (Pf ρ parts.toList)=some l):Db P ⟨d,.build t parts,ty,pos,aft,gd⟩ ρ K (.agg l):=
  .of_run fun g w a hr=>by
    have hu:=Nc (hT t td ht) hk;obtain ⟨it,hit,_,_,z,hz,hzs,hzr⟩:=(hT t td ht).info
    obtain ⟨cells',h1,h2⟩:=bO (g:=g) (w:=w) (fs:=cF te.size 0 len) (place:=fun i=>some (i*te.size,te.size)) (fun i off zz nm ft hf=>by
        obtain ⟨h1,h2⟩:=gK _ _ _ _ _ _ _ _ hf;subst h2;subst h1;simp) (parts.toList.map fun p=>(p.1,a.eval p.2)) (Pf ρ parts.toList) z.cells td.zero l (by simp [Ls]) (fun k p q hp hq=>by
        rw [Ls,List.getElem?_map] at hq;rw [List.getElem?_map] at hp;cases hk':parts.toList[k]? with
        | none=>simp [hk'] at hp
        | some r=>
          simp only [hk',Hv,Option.some.injEq] at hp hq;subst hp;subst hq;exact ⟨rfl,hr r.2 (by simp only [Op.operands,List.mem_toArray,C9];exact ⟨r,Aj hk',rfl⟩)⟩) (hzr g w) h
    refine ⟨.agg cells',?_,.agg _ _ h2.1 h2.2⟩
    have hb:P.built t (parts.map fun (i,x)=>(i,a.eval x)).toList=some cells':=by
      obtain ⟨ie,hie,hse,_⟩:=(hT e te hte).info;unfold Program.built;simp only [hit,hu,hz,hie,hse];simpa using h1
    simp only [execOp,Sem.run_bind,run_build w t _ _ hb,Result.andThen_ok,Sem.run_pure]

theorem GS.cell {sl:List (Nat×AV)}{H H2:List HO}{n b TT:Nat}{cs cs':List AV}(k o:Nat){c c':AV}(hk:H[k]? = some (.box b TT cs))(hc:cs[o]? = some c)(hcs:cs.set o c'=cs')(hH2:H.set k (.box b TT cs')=H2)
  (hw:∀g w v,Rep g w v c->Rep g w v c'):GS ⟨sl,H,n⟩ ⟨sl,H2,n⟩:=fun g a w hG=>by
 subst hcs;subst hH2;refine ⟨g,⟨hG.size,hG.defers,hG.sl,?_⟩,Ext.refl g w⟩;refine hG.heap.set (Ext.refl g w) hk (fun b h=>.inl h) ?_ (fun _ _ _ _=>⟨rfl,rfl⟩);obtain ⟨h1,vs,h2,h3,h4⟩:=hG.heap.ok _ (Aj hk);refine ⟨h1,vs,h2,by simpa using h3,fun i x hi=>?_⟩;rw [List.getElem?_set] at hi;split at hi
 .
  rename_i e;subst e;split at hi
  . cases hi;exact hw g w _ (h4 _ _ hc)
  cases hi
 exact h4 i x hi
theorem D1 {v:Value}{z:Nat}{es:List (List AV)}:∀g w u,Rep g w u (.row v z es)->Rep g w u (.sl z es):=fun _ _ _ h=>h.inv_row.2
theorem GS.cellRow {sl:List (Nat×AV)}{H H2:List HO}{n b TT:Nat}{cs cs':List AV}(k o E z:Nat)(hk:H[k]? = some (.box b TT cs))(hc:cs[o]? = some (.val (.slice none 0 0)))
  (hcs:cs.set o (.row (.slice none 0 0) z [])=cs') (hH2:H.set k (.box b TT cs')=H2):GS ⟨sl,H,n⟩ ⟨sl,.row (.slice none 0 0) 0 E z::H2,n⟩:=fun g a w hG=>by
 have h1:GS ⟨sl,H,n⟩ ⟨sl,H2,n⟩:=GS.cell k o hk hc hcs hH2 (fun g w u h=>by rw [h.inv_val];exact .row _ _ _ (.sl0 _ _ _ (A7 _)));obtain ⟨g',hG',hx⟩:=h1 g a w hG;exact ⟨g',⟨hG'.size,hG'.defers,hG'.sl,hG'.heap.cons (.inl ⟨rfl,rfl⟩) (fun b hb=>by cases hb)⟩,hx⟩

theorem AW.sllen {c:Code}{Q:Exit->St->Prop}{s:St}{z:Nat}{es:List (List AV)}(t:Nat)(h:get s.sl t = .sl z es)(k:es.length<=maxLen->AW P c Q s):AW P c Q s:=by
 intro Q' g a w hG hQ;obtain ⟨_,n,cap,_,h1,h2,h3,_⟩:=(h▸hG.sl t:Rep g w _ _).inv_sl;exact k (by omega) Q' g a w hG hQ
theorem Db.mem {o:Oper}{x:AV}{ho:HO}{KK:List HO->Prop}(h:∀k:Nat,Db P o ρ (fun H=>H[k]? = some ho) x)(hK:∀H,KK H->ho∈H):Db P o ρ KK x:=by
 intro g w a H next Q hr hH hk hn
 obtain ⟨k,hk⟩:=List.getElem?_of_mem (hK H hk);exact h k g w a H next Q hr hH hk hn

end
end Go.Aw
namespace Go.Aw

def g0:Gh:=fun _=>none

section
variable {H:Type} {enc:TypeId×Value->H} {P:Program} {w:World} {sp:Nat->Bool} {hd:Bool} {B:DataW H->Nat} {BA:List (DataW H)->Nat}

theorem repL_one {g:Gh}{w:World}{v:Value}{x:AV}(h:Rep g w v x):Di g w [v].toArray [x]:=by
 refine ⟨rfl,fun i y hi=>?_⟩
 match i,hi with
 | 0,hi=>simp at hi;subst hi;exact h
 | n+1,hi=>simp at hi

end


theorem Ext.below {w w':World}{g':Gh}(h:Ext g0 w g' w'):RowKit.Below w.heap.size w w':=
 ⟨h.os,h.tape,h.output,h.size,fun k hk=>(h.full k hk rfl).2⟩

section
open Go.ChangeShapes
set_option maxHeartbeats 1000000
variable {H:Type} {enc:TypeId×Value->H} {P:Program}

theorem Vo (hl:laidOutB P=true){W W':World}{sp':Nat->Bool}:∀{ts:List TypeId} {vs:List Value} {ds:List (DataW H)} {ps:List MemPlace},(ts.all fun t=>P.readableRec t&&decide (t<P.types.size))=true->
    DataW.TrodAll enc P W 0 (fun _=>true) true ts vs ds ps->(∀p∈ps,W.sameAt W' p)->(∀p∈ps,sp' p.block=true)->DataW.TrodAll enc P W' 0 sp' true ts vs ds ps
  | [],vs,ds,ps,_,h,_,_=>by
    obtain ⟨rfl,rfl,rfl⟩:=trodAll_nil h;exact trodAll_mk0
  | t::ts,vs,ds,ps,ht,h,hs,hsp=>by
    obtain ⟨v,vs1,d,ds1,a,b,rfl,rfl,rfl,h1,h2⟩:=trodAll_cons h;simp only [Lz,Cy,Ea] at ht
    exact trodAll_cons_mk (WideElems.Trod_stays hl ht.1.1 ht.1.2 h1 (fun p hp=>hs p (List.mem_append_left _ hp)) (fun p hp=>hsp p (List.mem_append_left _ hp)))
      (Vo hl ht.2 h2 (fun p hp=>hs p (Z9 _ hp)) (fun p hp=>hsp p (Z9 _ hp)))

theorem gC {f:Func}{s:ChangeSpec}{apart fresh handsOn again:Bool}{W W':World}{args:Array Value}{v:Value}{ds gs:List (DataW H)}{before:List MemPlace}
  (hl:laidOutB P=true) (ht:(f.params.toList.all fun t=>P.readableRec t&&decide (t<P.types.size))=true) (hv:s.vars = [])
  (hW:DataW.Whole enc P f.params.toList s.vars apart W args.toList ds gs before)
  (hres:∀(b:Nat) (sp:Nat->Bool) (hd:Bool),DataW.TrodAll enc P W' b sp hd f.resultTypes.toList (v.resultList f.resultTypes.size) (s.fn H (ds++gs)).results [])
  (hargs:(s.fn H (ds++gs)).args=ds) (hvars:(s.fn H (ds++gs)).vars = []) (hb:RowKit.Below W.heap.size W W')
  (hok:∀(j:Nat) (t:TypeId) (r:Value),f.resultTypes[j]? = some t->(v.resultList f.resultTypes.size)[j]? = some r->Value.okWide P W' .any 0 t r) :
  s.post enc P f apart fresh handsOn again W args v W':=by
 have hlt:=hW.lt;have hW':=hW;obtain ⟨p,q,hA,hV,rfl,hz,hn⟩:=hW;rw [hv] at hV;obtain ⟨rfl,rfl⟩:=trodVars_none hV
 have hA':∀sp':Nat->Bool,(∀x∈p,sp' x.block=true)->DataW.TrodAll enc P W' 0 sp' true f.params.toList args.toList ds p:=fun sp' hsp=>
  Vo hl ht hA (fun x hx=>hb.same (hlt x (by simpa using hx))) hsp
 refine ⟨ds,[],p ++ [],[],p,[],hW',hres _ _ _,by rw [hargs];exact hA' _ fun x hx=>by simpa using hlt x (by simpa using hx),by rw [hv,hvars];rfl,hb.frame _,fun _=>?_⟩;refine ⟨hok,_,[],([]++p) ++ [],⟨[]++p,[],trodAll_append (hA' _ fun _ _=>rfl) (hres _ _ _),by rw [hv];rfl,rfl,?_,?_⟩,?_⟩
 .
  intro b off hp;rw [hb.frozen (hlt _ (by simpa using hp))];exact hz b off (by simpa using hp)
 .
  intro ha;simpa using hn ha
 intro x hx _;simpa using hx
end
end Go.Aw
namespace Go.Aw
section
variable {H:Type} {enc:TypeId×Value->H} {P:Program} {w:World} {sp:Nat->Bool} {hd:Bool} {B:DataW H->Nat} {BA:List (DataW H)->Nat}

end
end Go.Aw
namespace Go.Aw
open Go.ChangeShapes Go.WideShapes Go.RowKit
section
variable {H:Type} {enc:TypeId×Value->H} {P:Program}

theorem nN {f:FuncId}{fn:Func}{s:ChangeSpec}{apart fresh handsOn again:Bool}{W:World}{args:Array Value}{ds gs:List (DataW H)}{before:List MemPlace}{tb:TypeId}{avs:List AV}
  (hl:laidOutB P=true) (ht:(fn.params.toList.all fun t=>P.readableRec t&&decide (t<P.types.size))=true) (hv:s.vars = []) (hr:fn.resultTypes = #[tb]) (htb:P.underlying tb=some .bool)
  (hcell:P.cellsOf tb=1) (hW:DataW.Whole enc P fn.params.toList s.vars apart W args.toList ds gs before) (hs:s.fn H (ds++gs) = { results:=[.lit (.bool true)],args:=ds })
  (ha:Di g0 W args avs) (hgl:GlobOK g0 W) (hp:Ap P f avs (.bool true)):Calls P f args W fun e W'=>∃v,e = .returned v/\s.post enc P fn apart fresh handsOn again W args v W':=by
 refine (hp [] g0 W args (HOK.nil hgl) ha).mono ?_;rintro e W' ⟨v,g',r,H',rfl,h1,_,h2,rfl,_⟩;have hb:=h1.inv_bool;subst hb;refine ⟨_,rfl,gC hl ht hv hW ?_ (by rw [hs]) (by rw [hs]) h2.below ?_⟩
 .
  intro b sp hd;rw [hs,hr];exact trodAll_cons_mk (shut_bool htb _) trodAll_mk0
 exact ok_one hr rfl (okWide_bool_mk htb _)
theorem yJ {g:Gh}{w:World}{v:Value}{x:AV}{vs:List Value}{l:List AV}(h:Rep g w v x)(hs:Di g w vs.toArray l):Di g w (v::vs).toArray (x::l):=by
 have:=(repL_one h).append hs;simpa using this
theorem repL_nil {g:Gh}{w:World}:Di g w ([]:List Value).toArray []:=⟨rfl,by simp⟩
end
end Go.Aw
namespace Go.Aw
section
variable {P:Program} {W:World} {r:Reach} {b:Nat} {t:TypeId} {v:Value}
end
end Go.Aw
namespace Go.Aw

theorem Lf {l:List AV}(hl:0<l.length):∀(n k:Nat) (x:AV),(List.replicate n l).flatten[k]? = some x->l[k % l.length]? = some x
  | 0,k,x,h=>by simp at h
  | n+1,k,x,h=>by
    rw [aA,Bd,List.getElem?_append] at h;split at h
    . rename_i hk;rw [Nat.mod_eq_of_lt hk];exact h
    . rename_i hk
      have:=Lf hl n (k-l.length) x h
      rwa [Nat.mod_eq_sub_mod (by omega)]

section
variable {P:Program} {T:List (Nat×TD)} {ρ:Operand->AV} {ty:TypeId} {pos:String} {aft:Array Edge} {gd:Option (Nat×Bool)} {d:Option Nat}

theorem aD {t e z n:Nat}{x y:Operand}{kl kc:IntKind}{td te:TD}{H:List HO}(hT:H6 P T)(ht:Bl T t=some td)(hk:td.kind = .slice e)(hte:Bl T e=some te)(hz:te.size=z)(hpos:Nat.blt 0 z=true)
  (hx:ρ x = .int kl n) (hy:ρ y = .int kc n) (hb:te.bytes*n<=281474976710656) (hm:n<=maxLen) :
  L7 P ⟨d,.makeSlice t x y,ty,pos,aft,gd⟩ ρ H (fun r H'=>∃b,r = .val (.slice (some ⟨b,0,none⟩) n n)/\H' = .box b e (List.replicate n te.zero).flatten::H):=by
 intro g w a next Q hr hH hn
 have h1:=(hx▸hr x (by simp [Op.operands]):Rep g w _ _).inv_int;have h2:=(hy▸hr y (by simp [Op.operands]):Rep g w _ _).inv_int;have hu:=Ee (hT t td ht) hk;have hp:0<z:=by simpa using hpos
 obtain ⟨it,hit,his,hib,zv,hzv,hzs,hzr⟩:=(hT e te hte).info
 have h63:(n:Int)<=9223372036854775807:=by
  have h8:maxLen<=9223372036854775807:=by decide
  omega
 have hb':(it.bytes:Int)*(n:Int)<=281474976710656:=by
  have h9:((te.bytes*n:Nat):Int)<=281474976710656:=by omega
  rw [Int.natCast_mul] at h9;rw [hib];exact h9
 have hrun:=run_make (P:=P) w t e it zv hu hit hzv kl kc n n (by omega) (Fr _) hb' h63;simp only [Sq] at hrun;unfold Oper.wp;simp only [execOp,h1,h2,Sem.run_bind,hrun,Result.andThen_ok,Sem.run_pure];have hxx:=Ext.alloc g w (.cells (madeCells zv.cells (n*it.size)) e) (some 0);refine hn (g.put w.heap.size (some 0)) _ _ _ _ ⟨w.heap.size,rfl,rfl⟩ (.val _) ((hH.alloc _ (some 0)).cons ⟨Gh.Aaw _ _ _,_,Ce w _,?_⟩ ?_) hxx
 .
  have hzl:te.zero.length=z:=by rw [<-hz,<-hzs];exact ((hzr g w).1).symm
  refine ⟨?_,fun i x hi=>?_⟩
  . rw [size_madeCells,Ds (z:=z) (by intro e he;rw [List.eq_of_mem_replicate he];exact hzl),L2,his,hz]
  have h3:=Lf (by omega) n i x hi
  have hlt:i<n*z:=by
   have:=(List.getElem?_eq_some_iff.1 hi).1
   rwa [Ds (z:=z) (by intro e he;rw [List.eq_of_mem_replicate he];exact hzl),L2] at this
  have h4:=(hzr (g.put w.heap.size (some 0)) (w.alloc (.cells (madeCells zv.cells (n*it.size)) e))).2 _ x h3;have hcs:zv.cells.size=z:=by rw [<-hz,<-hzs]
  have hm2:i % z<zv.cells.size:=by rw [hcs];exact Nat.mod_lt _ hp
  have e1:(madeCells zv.cells (n*it.size)).getD i undef=zv.cells.getD (i % te.zero.length) undef:=by
   have hs:it.size=z:=by rw [his,hz]
   rw [hzl];simp only [madeCells,hs,Ct];simp [hlt,hcs,hm2,Nat.mod_lt _ hp]
  rw [e1];exact h4
 intro b hb x hx' hb';simp only [HO.blk,Option.some.injEq] at hb;have:=(HO.ok_lt (hH.ok x hx') hb').1;omega
theorem bZ {s t:TypeId}{x:Operand}{k k':IntKind}{n m:Int}{ts td:TD}(hT:H6 P T)(hs:Bl T s=some ts)(hsk:ts.kind = .int k')(ht:Bl T t=some td)(hk:td.kind = .int k){k2:IntKind}(hx:ρ x = .int k2 n)(hm:k.wrap n=m){K:List HO->Prop} :
  Db P ⟨d,.convert s t x,ty,pos,aft,gd⟩ ρ K (.int k m):=
 .of_run fun g w a hr=>by
  have h1:=(hx▸hr x (by simp [Op.operands]):Rep g w _ _).inv_int;have hu:=Kz (hT s ts hs) hsk;have hv:=Kz (hT t td ht) hk;refine ⟨.int k m,?_,.int _ _⟩;subst hm;simp only [execOp,h1,convert,A8 hu,A8 hv,Sem.run_bind,Result.andThen_ok,Conv.intToInt,Sem.run_pure]

theorem GS.freezeSl {sl:List (Nat×AV)}{H:List HO}{n t b m c z TT:Nat}{cs:List AV}{es:List (List AV)}{x y:AV}(k:Nat)(h:get sl t=x)(hk:H[k]? = some (.box b TT cs))(hf:es.flatten=cs)(hm:m=es.length)(hc:m<=c)(hcm:c<=maxLen)
  (hz:∀e∈es,e.length=z) (hw:∀g w u,Rep g w (.slice (some ⟨b,0,none⟩) m c) (.sl z es)->Rep g w u x->Rep g w u y):GS ⟨sl,H,n⟩ ⟨(t,y)::sl,H.eraseIdx k,n⟩:=fun g a w hG=>by
 obtain ⟨hg,vs,h1,h2⟩:=hG.heap.ok _ (Aj hk)
 have hx:Ext g w (g.put b none) w:=by
  refine ⟨rfl,rfl,rfl,Bc _,fun c hc hgc=>⟨?_,rfl⟩,fun c m hc hgc=>⟨fun m' hm=>?_,fun _ _=>rfl⟩⟩
  .
   by_cases e:c=b
   . subst e;exact Gh.Aaw _ _ _
   rw [Gh.Aa0 _ _ e];exact hgc
  by_cases e:c=b
  . subst e;rw [Gh.Aaw] at hm;cases hm
  rw [Gh.Aa0 _ _ e,hgc] at hm;cases hm;exact Bc _
 refine ⟨g.put b none,⟨hG.size,hG.defers,fun i=>?_,?_⟩,hx⟩
 .
  show Rep _ w _ (get ((t,y)::sl) i);rw [E3];by_cases e:t=i
  .
   subst e;simp only [if_true];refine hw _ w _ ?_ ((h▸hG.sl t:Rep g w _ _).mono hx);refine .sl b 0 m c z es hm hc hcm hz (fun i j=>vs.getD (i*z+j) undef) (fun i e hi j y hj=>⟨by unfold D4;rw [Gh.Aaw];trivial,?_⟩) (fun i e hi j y hj=>?_)
   .
    have h3:=Hg hz hi hj;rw [hf] at h3;have hlt:i*z+j<vs.size:=by rw [h2.1];exact (List.getElem?_eq_some_iff.1 h3).1
    rw [Do,Bj h1];simp [hlt]
   have h3:=Hg hz hi hj;rw [hf] at h3;exact (h2.2 _ _ h3).mono hx
  simp only [e,if_false];exact (hG.sl i).mono hx
 have hsub:(H.eraseIdx k).Sublist H:=Z8 ..;refine ⟨(hG.heap.sub hsub).nodup,fun o ho=>?_,hG.heap.glob.mono hx⟩;obtain ⟨j,hj⟩:=List.getElem?_of_mem ho;rw [List.getElem?_eraseIdx] at hj
 obtain ⟨j',hjk,hj'⟩:∃j',j'≠k/\H[j']? = some o:=by
  split at hj
  . exact ⟨j,by omega,hj⟩
  exact ⟨j+1,by omega,hj⟩
 have hok:=hG.heap.ok o (Aj hj');refine HO.ok_of_same hx hok fun c hc=>⟨Gh.Aa0 _ _ fun e=>hjk (hG.heap.nodup_blk hj' hk (e▸hc) rfl),rfl⟩
theorem wB {b m c z:Nat}{es:List (List AV)}:∀g w u,Rep g w (.slice (some ⟨b,0,none⟩) m c) (.sl z es)->Rep g w u (.val (.slice (some ⟨b,0,none⟩) m c))->Rep g w u (.sl z es):=fun _ _ _ h h'=>by rw [h'.inv_val];exact h
end
end Go.Aw
namespace Go.Aw
theorem GS.cells {sl:List (Nat×AV)}{H:List HO}{n b TT:Nat}{cs cs':List AV}(k:Nat)(hk:H[k]? = some (.box b TT cs))(h:cs=cs'):GS ⟨sl,H,n⟩ ⟨sl,H.set k (.box b TT cs'),n⟩:=by
 subst h
 have:H.set k (.box b TT cs)=H:=by
  apply Uc
  intro i;rw [List.getElem?_set];split
  . rename_i e;subst e;rw [hk];split <;> simp_all
  rfl
 rw [this];exact GS.refl _
end Go.Aw
namespace Go.Aw

def Lu:List (List UInt8×AV)->List UInt8->Option AV
 | [],_=>none
 | (k,x)::r,n=>if k=n then some x else Lu r n

theorem baEq (a b:List UInt8):((⟨a.toArray⟩:ByteArray)==⟨b.toArray⟩)=(a==b):=by
 show (a.toArray==b.toArray)=_;simp

def aW (P:Program)(t:TypeId):Bool:=
 match P.info? t with
 | some i=>match i.zero with | some (.agg _)=>false | some _=>true | none=>false
 | none=>false

section
variable {P:Program} {T:List (Nat×TD)} {d:Option Nat} {ty:TypeId} {pos:String} {aft:Array Edge} {gd:Option (Nat×Bool)} {ρ:Operand->AV}

theorem Hl {t:TypeId}{H:List HO}:L7 P ⟨d,.makeMap t none,ty,pos,aft,gd⟩ ρ H (fun x H'=>∃b,x = .val (.map (some b))/\H' = .smap b []::H):=by
 intro g w a next Q hr hH hn
 unfold Oper.wp;simp only [execOp,Instr.makeMap,Option.map_none,Sem.run_bind,Sem.run_pure,run_newObj,Result.andThen_ok];have hx:=Ext.alloc g w (.map #[] 0) (some 0);refine hn (g.put w.heap.size (some 0)) _ _ _ _ ⟨w.heap.size,rfl,rfl⟩ (.val _) ((hH.alloc _ (some 0)).cons ⟨Gh.Aaw _ _ _,#[],0,Ce w _,rfl,by simp,by simp⟩ ?_) hx;intro b hb x hx' hb';simp only [HO.blk,Option.some.injEq] at hb;have:=(HO.ok_lt (hH.ok x hx') hb').1;omega

theorem Sl {n:List UInt8}:∀(l:List MapEntry) (es:List (List UInt8×AV)) (i:Nat),l.length=es.length->(∀(j:Nat) m x,es[j]? = some (m,x)->(l.getD j default).key = .string ⟨m.toArray⟩)->Lu es n=none->
    Instr.findNow .string (.string ⟨n.toArray⟩) l i=some none
  | [],_,_,_,_,_=>rfl
  | e::l,[],_,h,_,_=>by simp at h
  | e::l,(m,x)::es,i,h,hk,hg=>by
    have h1:e.key = .string ⟨m.toArray⟩:=by simpa using hk 0 m x rfl
    simp only [Lu] at hg;by_cases hm:m=n
    . simp [hm] at hg
    . rw [if_neg hm] at hg
      have:((⟨n.toArray⟩:ByteArray)==⟨m.toArray⟩)=false:=by rw [baEq];simp;exact fun e=>hm e.symm
      unfold Instr.findNow;simp only [h1,Instr.sameNow,this];exact Sl l es (i+1) (by simpa using h) (fun j m x hj=>by simpa using hk (j+1) m x hj) hg

theorem Wo {n:List UInt8}{x:AV}{g:Gh}{w:World}:∀(l:List MapEntry) (es:List (List UInt8×AV)) (i:Nat),l.length=es.length->(∀(j:Nat) m x,es[j]? = some (m,x)->(l.getD j default).key = .string ⟨m.toArray⟩)->(∀(j:Nat) m x,es[j]? = some (m,x)->Rep g w (l.getD j default).val x)->Lu es n=some x->
    ∃i' v,Instr.findNow .string (.string ⟨n.toArray⟩) l i=some (some (i',v))/\Rep g w v x
  | [],[],_,_,_,_,hg=>by simp [Lu] at hg
  | [],_::_,_,h,_,_,_=>by simp at h
  | e::l,[],_,h,_,_,_=>by simp at h
  | e::l,(m,y)::es,i,h,hk,hv,hg=>by
    have h1:e.key = .string ⟨m.toArray⟩:=by simpa using hk 0 m y rfl
    have h2:Rep g w e.val y:=by simpa using hv 0 m y rfl
    simp only [Lu] at hg;by_cases hm:m=n
    . subst hm
      simp only [if_true,Option.some.injEq] at hg;subst hg;refine ⟨i,e.val,?_,h2⟩;unfold Instr.findNow;simp [h1,Instr.sameNow,baEq]
    . rw [if_neg hm] at hg
      have:((⟨n.toArray⟩:ByteArray)==⟨m.toArray⟩)=false:=by rw [baEq];simp;exact fun e=>hm e.symm
      unfold Instr.findNow;simp only [h1,Instr.sameNow,this];exact Wo l es (i+1) (by simpa using h) (fun j m x hj=>by simpa using hk (j+1) m x hj) (fun j m x hj=>by simpa using hv (j+1) m x hj) hg

theorem Ku {n:Nat}{kt:TypeId}(h:P.underlying kt=some .string){b:Bool}{s:ByteArray}(w:World):(Instr.checkKey b (n+1) kt (.string s)).run P w = .ok () w:=by
 unfold Instr.checkKey;rw [Sem.run_bind,A8 h];rfl

theorem aE {t:TypeId}{m k v:Operand}{kt et b i:Nat}{td tk:TD}{n:List UInt8}{es:List (List UInt8×AV)}{x:AV}{H H2:List HO}(hT:H6 P T)(ht:Bl T t=some td)(hk:td.kind = .map kt et)(htk:Bl T kt=some tk)(hkk:tk.kind = .str)
  (hm:ρ m = .val (.map (some b))) (hkey:ρ k = .str n) (hv:ρ v=x) (hH:H[i]? = some (.smap b es)) (hnew:Lu es n=none) (hH2:H.set i (.smap b (es ++ [(n,x)]))=H2) :
  L7 P ⟨d,.mapUpdate t m k v,ty,pos,aft,gd⟩ ρ H (fun y H'=>y = .junk/\H'=H2):=by
 subst hH2;intro g w a next Q hr hHK hn
 have h1:=(hm▸hr m (by simp [Op.operands]):Rep g w _ _).inv_val;have h2:=(hkey▸hr k (by simp [Op.operands]):Rep g w _ _).inv_str.1;have h3:Rep g w (a.eval v) x:=hv▸hr v (by simp [Op.operands]);obtain ⟨hg,ms,clock,hheap,hl,hks,hvs⟩:=hHK.ok _ (Aj hH);have hb:b<w.heap.size:=(Array.getElem?_eq_some_iff.1 hheap).1;have hu:=Ov (hT t td ht) hk;have huk:=L9 (hT kt tk htk) hkk;have hl':ms.toList.length=es.length:=by simpa using hl
 have hfind:=Sl (n:=n) ms.toList es 0 hl' (fun j m x hj=>by simpa using hks j m x hj) hnew;have hget:(getObj b).run P w = .ok (.map ms clock) w:=by simp [getObj,Sem.run,hheap]
 have hset:∀o:Obj,(setObj b o).run P w = .ok () { w with heap:=w.heap.setIfInBounds b o }:=fun o=>by simp [setObj,Sem.run,hheap]
 have hrun:(Instr.mapUpdate t (a.eval m) (a.eval k) (a.eval v)).run P w = .ok () { w with heap:=w.heap.setIfInBounds b (.map (ms.push { key:=.string ⟨n.toArray⟩,val:=a.eval v,born:=clock }) (clock+1)) }:=by
  unfold Instr.mapUpdate;rw [Sem.run_bind,A8 hu];simp only [Result.andThen_ok,h1,Sem.run_bind,hget,h2,Ku (n:=9999) huk]
  have hfk:(Instr.findKey kt (.string ⟨n.toArray⟩) ms.toList).run P w = .ok none w:=by
   unfold Instr.findKey;rw [Sem.run_bind,A8 huk];simp only [Result.andThen_ok,hfind,Sem.run_pure]
  simp only [hfk,Result.andThen_ok,hset]
 unfold Oper.wp;simp only [execOp,Sem.run_bind,hrun,Result.andThen_ok,Sem.run_pure]
 have hnew':({ w with heap:=w.heap.setIfInBounds b (.map (ms.push { key:=.string ⟨n.toArray⟩,val:=a.eval v,born:=clock }) (clock+1)) }:World).heap[b]? = some (.map (ms.push { key:=.string ⟨n.toArray⟩,val:=a.eval v,born:=clock }) (clock+1)):=by
  simp [hb]
 have hoth:∀c,c≠b->({ w with heap:=w.heap.setIfInBounds b (.map (ms.push { key:=.string ⟨n.toArray⟩,val:=a.eval v,born:=clock }) (clock+1)) }:World).heap[c]? = w.heap[c]? :=fun c hc=>by
  simp [Array.getElem?_setIfInBounds_ne (Ne.symm hc)]
 have hx:Ext g w g { w with heap:=w.heap.setIfInBounds b (.map (ms.push { key:=.string ⟨n.toArray⟩,val:=a.eval v,born:=clock }) (clock+1)) }:=by
  refine ⟨rfl,rfl,rfl,by simp,fun c hc hgc=>⟨hgc,hoth c fun e=>by rw [e,hg] at hgc;cases hgc⟩,fun c m' hc hgc=>⟨fun m'' hm''=>by rw [hgc] at hm'';cases hm'';exact Bc _,fun o ho=>?_⟩⟩;have hne:c≠b:=fun e=>by rw [e,hg] at hgc;cases hgc;omega
  unfold World.cell?;rw [hoth c hne]
 refine hn g _ undef .junk _ ⟨rfl,rfl⟩ (.junk _) (hHK.set hx hH (fun c hc=>.inl hc) ⟨hg,_,_,hnew',by simp [hl],?_,?_⟩ (fun c hc hne _=>⟨rfl,hoth c fun e=>hne (by rw [e];rfl)⟩)) hx
 .
  intro j m' y hj;rw [List.getElem?_append] at hj;split at hj
  .
   rename_i hlt;have:=hks j m' y hj;have hlt':j<ms.size:=by omega
   simpa [Ct,Array.getElem?_push,show j≠ms.size by omega] using this
  rename_i hlt
  have:j-es.length=0:=by
   rcases Nat.eq_zero_or_pos (j-es.length) with h | h
   . exact h
   rw [List.getElem?_eq_none (by simp;omega)] at hj;cases hj
  rw [this] at hj;simp at hj;have hj':j=ms.size:=by omega
  subst hj';simp [Ct,hj.1]
 intro j m' y hj;rw [List.getElem?_append] at hj;split at hj
 .
  rename_i hlt;have:=(hvs j m' y hj).mono hx;have hlt':j<ms.size:=by omega
  simpa [Ct,Array.getElem?_push,show j≠ms.size by omega] using this
 rename_i hlt
 have:j-es.length=0:=by
  rcases Nat.eq_zero_or_pos (j-es.length) with h | h
  . exact h
  rw [List.getElem?_eq_none (by simp;omega)] at hj;cases hj
 rw [this] at hj;simp at hj;have hj':j=ms.size:=by omega
 subst hj';simp only [Ct,Array.getElem?_push,if_true,Option.getD_some];rw [<-hj.2];exact h3.mono hx
theorem P_slook {t:TypeId}{m k:Operand}{kt et b i:Nat}{td tk te:TD}{n:List UInt8}{es:List (List UInt8×AV)}{x:AV}(hT:H6 P T)(ht:Bl T t=some td)(hk:td.kind = .map kt et)(htk:Bl T kt=some tk)(hkk:tk.kind = .str)
    (hte:Bl T et=some te) (hzs:aW P et=true) (hm:ρ m = .val (.map (some b))) (hkey:ρ k = .str n) (hx:match Lu es n with | some y=>y=x | none=>te.zero = [x]) :
    Db P ⟨d,.lookup t m k false,ty,pos,aft,gd⟩ ρ (fun H=>H[i]? = some (.smap b es)) x:=by
  intro g w a H next Q hr hHK hH hn
  have h1:=(hm▸hr m (by simp [Op.operands]):Rep g w _ _).inv_val;have h2:=(hkey▸hr k (by simp [Op.operands]):Rep g w _ _).inv_str.1;obtain ⟨hg,ms,clock,hheap,hl,hks,hvs⟩:=hHK.ok _ (Aj hH);have hu:=Ov (hT t td ht) hk;have huk:=L9 (hT kt tk htk) hkk;have hget:(getObj b).run P w = .ok (.map ms clock) w:=by simp [getObj,Sem.run,hheap]
  unfold Oper.wp;cases hs:Lu es n with
  | some y=>
    rw [hs] at hx;simp only at hx;subst hx;obtain ⟨i',v,hf,hrep⟩:=Wo (n:=n) (x:=y) (g:=g) (w:=w) ms.toList es 0 (by simpa using hl) (fun j m x hj=>by simpa using hks j m x hj) (fun j m x hj=>by simpa using hvs j m x hj) hs
    have hfk:(Instr.findKey kt (.string ⟨n.toArray⟩) ms.toList).run P w = .ok (some (i',v)) w:=by
      unfold Instr.findKey;rw [Sem.run_bind,A8 huk];simp only [Result.andThen_ok,hf,Sem.run_pure]
    simp only [execOp,Instr.lookup,Sem.run_bind,A8 hu,Result.andThen_ok,h1,hget,Sem.run_pure,h2,Ku (n:=9999) huk,hfk,Al,if_false];exact hn g w v hrep hHK (Ext.refl g w)
  | none=>
    rw [hs] at hx;simp only at hx;have hf:=Sl (n:=n) ms.toList es 0 (by simpa using hl) (fun j m x hj=>by simpa using hks j m x hj) hs
    have hfk:(Instr.findKey kt (.string ⟨n.toArray⟩) ms.toList).run P w = .ok none w:=by
      unfold Instr.findKey;rw [Sem.run_bind,A8 huk];simp only [Result.andThen_ok,hf,Sem.run_pure]
    obtain ⟨z,hz1,hz2,hz3⟩:=qC (hT et te hte) w;simp only [execOp,Instr.lookup,Sem.run_bind,A8 hu,Result.andThen_ok,h1,hget,Sem.run_pure,h2,Ku (n:=9999) huk,hfk,hz1,Al,if_false];refine hn g w z ?_ hHK (Ext.refl g w);have hz4:=hz3 g w;rw [hx] at hz4
    have hna:∀vs,z≠.agg vs:=by
      rintro vs rfl;obtain ⟨it,hit,_,_,zv,hzv,_⟩:=(hT et te hte).info;have hzz:(zeroValue et).run P w = .ok zv w:=by simp [zeroValue,Qj hit,hzv]
      rw [hzz] at hz1;cases hz1
      simp [aW,hit,hzv] at hzs
    have hcell:z.cells = #[z]:=by cases z <;> first | rfl | exact absurd rfl (hna _)
    rw [hcell] at hz4;exact hz4.2 0 x rfl

def Tb (ks:List (List UInt8)):List (List UInt8×AV):=ks.map fun k=>(k,.bool true)
theorem pN (ks:List (List UInt8))(n:List UInt8):Lu (Tb ks) n=if ks.contains n then some (.bool true) else none:=by
  induction ks with
  | nil=>rfl
  | cons k r ih=>
    show (if k=n then some (AV.bool true) else Lu (Tb r) n)=_;rw [ih,List.contains_cons];by_cases h:k=n
    . subst h;simp
    . have:(n==k)=false:=by rw [Fs];exact fun e=>h e.symm
      rw [if_neg h,this,Ke]
theorem set_look (ks:List (List UInt8))(n:List UInt8){te:TD}(h:te.zero = [.bool false]):match Lu (Tb ks) n with | some y=>y = .bool (ks.contains n) | none=>te.zero = [.bool (ks.contains n)]:=by
 rw [pN];by_cases hc:ks.contains n=true
 . rw [if_pos hc,hc]
 rw [if_neg hc,h];simp only [Oe.mpr hc]
theorem set_new {ks:List (List UInt8)}{n:List UInt8}(h:ks.contains n=false):Lu (Tb ks) n=none:=by rw [pN,if_neg (by simp only [h];decide)]
theorem set_add (ks:List (List UInt8))(n:List UInt8):Tb ks ++ [(n,.bool true)]=Tb (ks ++ [n]):=by simp [Tb]
theorem Nn {t:TypeId}{m k v:Operand}{kt et b i:Nat}{td tk:TD}{n:List UInt8}{ks:List (List UInt8)}{H H2:List HO}(hT:H6 P T)(ht:Bl T t=some td)(hk:td.kind = .map kt et)(htk:Bl T kt=some tk)(hkk:tk.kind = .str)
  (hm:ρ m = .val (.map (some b))) (hkey:ρ k = .str n) (hv:ρ v = .bool true) (hH:H[i]? = some (.smap b (Tb ks))) (hnew:ks.contains n=false) (hH2:H.set i (.smap b (Tb (ks ++ [n])))=H2) :
  L7 P ⟨d,.mapUpdate t m k v,ty,pos,aft,gd⟩ ρ H (fun y H'=>y = .junk/\H'=H2):=
 aE hT ht hk htk hkk hm hkey hv hH (set_new hnew) (by rw [set_add];exact hH2)
theorem Ll {t:TypeId}{m k:Operand}{kt et b i:Nat}{td tk te:TD}{n:List UInt8}{ks:List (List UInt8)}(hT:H6 P T)(ht:Bl T t=some td)(hk:td.kind = .map kt et)(htk:Bl T kt=some tk)(hkk:tk.kind = .str)
  (hte:Bl T et=some te) (hzs:aW P et=true) (hm:ρ m = .val (.map (some b))) (hkey:ρ k = .str n) (hz:te.zero = [.bool false]) :
  Db P ⟨d,.lookup t m k false,ty,pos,aft,gd⟩ ρ (fun H=>H[i]? = some (.smap b (Tb ks))) (.bool (ks.contains n)):=
 P_slook hT ht hk htk hkk hte hzs hm hkey (set_look ks n hz)

variable {K:List HO->Prop}
theorem Hy {t:TypeId}{l0:List AV}{td:TD}{gs:List (Nat×Nat×Bool×Nat)}{parts:Array (Nat×Operand)}{l:List AV}(hT:H6 P T)(ht:Bl T t=some td)(hk:td.kind = .struct gs)
    (hz0:zOK P t l0=true) (h:aH gs l0 (Pf ρ parts.toList)=some l):Db P ⟨d,.build t parts,ty,pos,aft,gd⟩ ρ K (.agg l):=
  .of_run fun g w a hr=>by
    obtain ⟨fs,hu,hm,_,_,hall⟩:=Ob (hT t td ht) hk;obtain ⟨it,hit,_,_,z,hz,hzs,hzr⟩:=(hT t td ht).info
    have hzr0:∀g w,Di g w z.cells l0:=fun g w=>by
      unfold zOK at hz0;simp only [hit,hz] at hz0;obtain ⟨k1,k2⟩:=bU hz0 g w;exact ⟨by simpa using k1,fun i x hi=>by simpa using k2 i x hi⟩
    have hmm:∀(l:List Field),(l.all fun f=>(P.info? f.type).isSome)=true->l.mapM (fun f=>(P.info? f.type).map fun i=>(f.offset,i.size))=some (l.map fun f=>(f.offset,P.cellsOf f.type)):=by
      intro l
      induction l with
      | nil=>intro _;rfl
      | cons f r ih=>
        intro hl;simp only [Lz,Cy] at hl;obtain ⟨i,hi⟩:=Ud.1 hl.1;simp [List.mapM_cons,hi,ih hl.2,Program.cellsOf]
    obtain ⟨cells',h1,h2⟩:=bO (g:=g) (w:=w) (fs:=gs) (place:=((fs.toList.map fun f=>(f.offset,P.cellsOf f.type)).toArray[·]?)) (fun i off zz nm ft hf=>by
        obtain ⟨fd,k1,k2,k3,_⟩:=Y2 hm hf;have:fs.toList[i]? = some fd:=by simpa using k1
        simp [this,k2,k3]) (parts.toList.map fun p=>(p.1,a.eval p.2)) (Pf ρ parts.toList) z.cells l0 l (by simp [Ls]) (fun k p q hp hq=>by
        rw [Ls,List.getElem?_map] at hq;rw [List.getElem?_map] at hp;cases hk':parts.toList[k]? with
        | none=>simp [hk'] at hp
        | some r=>
          simp only [hk',Hv,Option.some.injEq] at hp hq;subst hp;subst hq;exact ⟨rfl,hr r.2 (by simp only [Op.operands,List.mem_toArray,C9];exact ⟨r,Aj hk',rfl⟩)⟩) (hzr0 g w) h
    refine ⟨.agg cells',?_,.agg _ _ h2.1 h2.2⟩
    have hb:P.built t (parts.map fun (i,x)=>(i,a.eval x)).toList=some cells':=by
      unfold Program.built;simp only [hit,hu,hz,hmm fs.toList hall];simpa using h1
    simp only [execOp,Sem.run_bind,run_build w t _ _ hb,Result.andThen_ok,Sem.run_pure]

end
end Go.Aw
namespace Go.Aw

abbrev Dd (s:List UInt8):List (List AV):=s.map fun c=>[AV.int .u8 (c.toNat:Int)]

section
variable {P:Program} {T:List (Nat×TD)} {d:Option Nat} {ty:TypeId} {pos:String} {aft:Array Edge} {gd:Option (Nat×Bool)} {ρ:Operand->AV} {K:List HO->Prop}

theorem Wm {g:Gh}{w:World}{s:List UInt8}(h:s.length<=maxLen):Rep g w (.string ⟨s.toArray⟩) (.str s):=.str _ _ (by simp) h

theorem Vp {t u e:TypeId}{x:Operand}{s:List UInt8}{tt tu te:TD}(hT:H6 P T)(ht:Bl T t=some tt)(htk:tt.kind = .str)(hu:Bl T u=some tu)(huk:tu.kind = .slice e)(he:Bl T e=some te)(hek:te.kind = .int .u8)
    (hx:ρ x = .str s):Db P ⟨d,.convert t u x,ty,pos,aft,gd⟩ ρ K (.sl 1 (Dd s)):=by
  intro g w a H next Q hr hH _ hn
  obtain ⟨h1,hm⟩:=(hx▸hr x (by simp [Op.operands]):Rep g w _ _).inv_str;have hrun:=run_bytes_of_string (P:=P) w t u e ⟨s.toArray⟩ (L9 (hT t tt ht) htk) (Ee (hT u tu hu) huk) (Kz (hT e te he) hek);have hsz:(⟨s.toArray⟩:ByteArray).size=s.length:=by simp [ByteArray.size]
  rw [hsz] at hrun;unfold Oper.wp;simp only [execOp,h1,Sem.run_bind,hrun,Result.andThen_ok,Sem.run_pure]
  have hxx:Ext g w (g.put w.heap.size none) (w.drew.alloc (.cells (bytesRow ⟨s.toArray⟩ (grownCap w s.length 0 e)) e ((bytesRow ⟨s.toArray⟩ (grownCap w s.length 0 e)).size,(bytesRow ⟨s.toArray⟩ (grownCap w s.length 0 e)).size+1))):=
    (Ext.drew g w).trans (Ext.alloc g w.drew _ none)
  refine hn (g.put w.heap.size none) _ _ ?_ (hH.drew.alloc _ none) hxx;by_cases hs:s = []
  . subst hs;exact .sl0 _ _ _ (grownCap_le_maxLen w 0 0 e (by decide))
  . refine .sl w.heap.size 0 s.length _ 1 (Dd s) (by simp) (grownCap_ge w _ 0 e) (grownCap_le_maxLen w _ 0 e hm) (by intro e he;simp [Dd] at he;obtain ⟨c,_,rfl⟩:=he;rfl)
      (fun i _=>.int .u8 ((s.getD i 0).toNat:Int)) (fun i e hi j x hj=>?_) (fun i e hi j x hj=>?_)
    . have hlt:i<s.length:=by have:=(List.getElem?_eq_some_iff.1 hi).1;simpa using this
      have hj0:j=0:=by
        simp only [Dd,List.getElem?_map] at hi;cases hc:s[i]? with
        | none=>simp [hc] at hi
        | some c=>simp [hc] at hi;subst hi;have:=(List.getElem?_eq_some_iff.1 hj).1;simp at this;omega
      subst hj0;refine ⟨by unfold D4;rw [Gh.Aaw];trivial,?_⟩;rw [Bj (b:=w.heap.size) (Ce w.drew _)];have hl1:i<s.toArray.size:=by simpa using hlt
      simp [bytesRow,Array.getElem?_append,hlt]
    . simp only [Dd,List.getElem?_map] at hi
      cases hc:s[i]? with
      | none=>simp [hc] at hi
      | some c=>
        simp only [hc,Hv,Option.some.injEq] at hi;subst hi;have hj0:j=0:=by have:=(List.getElem?_eq_some_iff.1 hj).1;simp at this;omega
        subst hj0;simp only [List.getElem?_cons_zero,Option.some.injEq] at hj;subst hj;have:s.getD i 0=c:=by simp [E6,hc]
        rw [this];exact .int _ _

theorem zY {s:List UInt8}{u:Value}{es:List (List AV)}(h:es=Dd s):∀g w v,Rep g w v (.row u 1 es)->Rep g w v (.sl 1 (Dd s)):=fun _ _ _ r=>h▸r.inv_row.2
theorem pK (s:List UInt8):∀x∈Dd s,Au x=true:=by
 intro x hx;simp only [Dd,C9] at hx;obtain ⟨c,_,rfl⟩:=hx;rfl
theorem O4 (a b:List UInt8):Dd (a++b)=Dd a++Dd b:=E5
theorem O5 (a:List UInt8):(Dd a).length=a.length:=By ..

theorem bY {t u e:TypeId}{x:Operand}{y:AV}{s:List UInt8}{tt tu te:TD}(hT:H6 P T)(ht:Bl T t=some tt)(htk:tt.kind = .slice e)(hu:Bl T u=some tu)(huk:tu.kind = .str)(he:Bl T e=some te)(hek:te.kind = .int .u8)
    (hx:ρ x=y) (hm:s.length<=maxLen) (hy:∀g w v,Rep g w v y->Rep g w v (.sl 1 (Dd s))):Db P ⟨d,.convert t u x,ty,pos,aft,gd⟩ ρ K (.str s):=
  .of_run fun g w a hr=>by
    obtain ⟨a0,n,cap,h1,h2,_,_,h5⟩:=(hy g w _ (hx▸hr x (by simp [Op.operands]):Rep g w _ _)).inv_sl;have h2':n=s.length:=by simpa using h2
    subst h2';have hs:=Ee (hT t tt ht) htk;have hd:=L9 (hT u tu hu) huk;have hb:=Kz (hT e te he) hek;refine ⟨.string ⟨s.toArray⟩,?_,Wm hm⟩;simp only [execOp,h1];rcases h5 with h5 | ⟨b,o,rfl,_,f,hcs,hf⟩
    . have hs0:s = []:=by simpa using h5
      subst hs0;cases a0 with
      | none=>
        rw [Sem.run_bind,run_convert_bytes_string w t u e none _ cap hs hb hd];simp [Conv.bytesToString];rfl
      | some a1=>
        have:=run_convert_bytes_back (P:=P) w t u e a1 cap [] hs hb hd (fun j hj=>by simp at hj);rw [Sem.run_bind];simp only [Bi] at this ⊢;rw [this];rfl
    . have:=run_convert_bytes_back (P:=P) w t u e ⟨b,o,none⟩ cap s hs hb hd (fun j hj=>by
        have hj':(Dd s)[j]? = some [AV.int .u8 (s[j].toNat:Int)]:=by simp [Dd,List.getElem?_eq_getElem hj]
        have h6:=(hcs j _ hj' 0 _ rfl).2;have h7:=(hf j _ hj' 0 _ rfl).inv_int;rw [Fb,<-h7,<-h6];simp)
      rw [Sem.run_bind,this];rfl

theorem Oo {t:TypeId}{td:TD}{gl:Nat}{l:List AV}(hT:H6 P T)(hg:∃c,(gl,c)∈globals/\∀cs,c cs->cs=l)(ht:Bl T t=some td)(ha:td.agg=true)(hl:Nat.beq l.length td.size=true)
  (hρ:ρ (.global gl) = .val (.pointer (some ⟨gl,0,none⟩))):Db P ⟨d,.load t (.global gl),ty,pos,aft,gd⟩ ρ K (.agg l):=by
 intro g w a H next Q hr hH _ hn
 obtain ⟨c,hc,hcl⟩:=hg;obtain ⟨cs,h1,h2⟩:=hH.glob.vars _ hc;obtain rfl:=hcl cs h1;obtain ⟨b,o,he,fv,h3,h4⟩:=h2.inv_ptr;simp only [Value.pointer.injEq,Option.some.injEq,Addr.mk.injEq,and_true] at he;obtain ⟨rfl,rfl⟩:=he;have he:=(hρ▸hr (.global gl) (by simp [Op.operands]):Rep g w _ _).inv_val;have hs:=D6 hl;have hrun:=Ou (hT t td ht) ha (w:=w) (b:=gl) (o:=0) fv (fun j hj=>(h3 j _ (List.getElem?_eq_getElem (by omega))).2);unfold Oper.wp;simp only [execOp,he,Instr.loadAt,Instr.sureAddr,Sem.run_bind,Sem.run_pure,Result.andThen_ok,hrun];have hrep:=Sj (g:=g) (w:=w) (n:=td.size) (f:=fv) (l:=cs) hs h4;exact hn g w _ (.agg _ _ hrep.1 hrep.2) hH (Ext.refl g w)

end

theorem Ext.of_below {g:Gh}{w w':World}(h:RowKit.Below w.heap.size w w'):Ext g w g w':=
 ⟨h.os,h.tape,h.output,h.size,fun b hb hg=>⟨hg,h.block b hb⟩,fun b n hb hg=>⟨fun m hm=>(by rw [hg] at hm;cases hm;exact Bc _),fun o _=>by unfold World.cell?;simp only [h.block b hb]⟩⟩

theorem Ap.of_calls {P:Program}{f:FuncId}{args:List AV}{r:AV}
  (h:∀g w vs,GlobOK g w->Di g w vs args->∃v,(∀g' w',Ext g w g' w'->Rep g' w' v r)/\Calls P f vs w (fun e w'=>e = .returned v/\RowKit.Below w.heap.size w w')):Ap P f args r:=by
 intro H g w vs hH ha;obtain ⟨v,hv,hc⟩:=h g w vs hH.glob ha;refine hc.mono ?_;rintro e w' ⟨rfl,hb⟩;have hx:=Ext.of_below (g:=g) hb;exact ⟨v,g,r,H,rfl,hv g w' hx,hH.of_same hx fun o ho b hb'=>⟨rfl,hb.block b (HO.ok_lt (hH.ok o ho) hb').1⟩,hx,rfl,rfl⟩

theorem Ap.of_same {P:Program}{f:FuncId}{args:List AV}{r:AV}
  (h:∀g w vs,GlobOK g w->Di g w vs args->∃v,(∀g' w',Rep g' w' v r)/\Calls P f vs w (fun e w'=>e = .returned v/\w'=w)):Ap P f args r:=
 .of_calls fun g w vs hg ha=>by
  obtain ⟨v,hv,hc⟩:=h g w vs hg ha;exact ⟨v,fun g' w' _=>hv g' w',hc.mono (by rintro e w' ⟨rfl,rfl⟩;exact ⟨rfl,RowKit.Below.refl _ _⟩)⟩

theorem Di.inv1 {g:Gh}{w:World}{vs:Array Value}{x:AV}(h:Di g w vs [x]):∃v,vs = #[v]/\Rep g w v x:=by
 obtain ⟨h1,h2⟩:=h;refine ⟨vs.getD 0 undef,?_,h2 0 x rfl⟩
 apply Array.ext
 . simpa using h1
 intro i hi hi';have:i=0:=by simp at h1;omega
 subst this;simp [hi]
theorem Di.inv2 {g:Gh}{w:World}{vs:Array Value}{x y:AV}(h:Di g w vs [x,y]):∃u v,vs = #[u,v]/\Rep g w u x/\Rep g w v y:=by
 obtain ⟨h1,h2⟩:=h;refine ⟨vs.getD 0 undef,vs.getD 1 undef,?_,h2 0 x rfl,h2 1 y rfl⟩;have hs:vs.size=2:=by simpa using h1
 apply Array.ext
 . simpa using hs
 intro i hi hi';have:i=0\/i=1:=by omega
 rcases this with rfl | rfl <;> simp [hi,hs]
theorem GlobOK.int {g:Gh}{w:World}(h:GlobOK g w){gl:Nat}{k:IntKind}(hg:(gl,fun cs=>∃m,cs = [AV.int k m])∈globals):∃m,w.cell? ⟨gl,0,none⟩=some (.int k m):=by
 obtain ⟨cs,⟨m,rfl⟩,h2⟩:=h.vars _ hg;obtain ⟨b,o,he,fv,h3,h4⟩:=h2.inv_ptr;simp only [Value.pointer.injEq,Option.some.injEq,Addr.mk.injEq,and_true] at he;obtain ⟨rfl,rfl⟩:=he;have e:=(h4 0 _ rfl).inv_int;exact ⟨m,by rw [<-e];exact (h3 0 _ rfl).2⟩
end Go.Aw
namespace Go.Aw

section
variable {P:Program} {T:List (Nat×TD)} {d:Option Nat} {ty:TypeId} {pos:String} {aft:Array Edge} {gd:Option (Nat×Bool)} {ρ:Operand->AV} {K:List HO->Prop}

theorem Ae {x:Operand}{a0:Addr}(h:ρ x = .val (.pointer (some a0))):Db P ⟨d,.nilCheck x,ty,pos,aft,gd⟩ ρ K (.val (.pointer (some a0))):=
 .of_run fun g w a hr=>by
  have h1:=(h▸hr x (by simp [Op.operands]):Rep g w _ _).inv_val;exact ⟨_,by simp [execOp,h1],.val _⟩

theorem HOK.perm {g:Gh}{w:World}{H K:List HO}(h:H.Perm K)(hH:HOK g w H):HOK g w K:=
 ⟨(h.filterMap _).nodup_iff.1 hH.nodup,fun o ho=>hH.ok o (h.mem_iff.2 ho),hH.glob⟩

theorem Bt.perm {f:FuncId}{args:List AV}{H K:List HO}{Q:AV->List HO->Prop}(h:H.Perm K)(hc:Bt P f K args Q):Bt P f H args Q:=
 fun g w vs hH hr=>hc g w vs (hH.perm h) hr

theorem Bt.post {f:FuncId}{args:List AV}{H:List HO}{Q Q':AV->List HO->Prop}(hc:Bt P f H args Q)(h:∀r K,Q r K->∃K',K.Perm K'/\Q' r K'):Bt P f H args Q':=
 fun g w vs hH hr=>(hc g w vs hH hr).mono fun e w' ⟨v,g',r,H',h1,h2,h3,h4,h5⟩=>
  let ⟨K',k1,k2⟩:=h r H' h5
  ⟨v,g',r,K',h1,h2,h3.perm k1,h4,k2⟩

def Bf (P:Program)(f:FuncId)(b:Nat)(TT:TypeId)(cs cs':List AV)(args:List AV)(r:AV):Prop:=
 ∀R,Bt P f (.box b TT cs::R) args fun r' H'=>r'=r/\H' = .box b TT cs'::R

theorem Jc:∀{H:List HO} {k:Nat} {o:HO},H[k]? = some o->H.Perm (o::H.eraseIdx k)
  | [],k,o,h=>by simp at h
  | x::H,0,o,h=>by
    simp only [List.getElem?_cons_zero,Option.some.injEq] at h;subst h;exact .refl _
  | x::H,k+1,o,h=>by
    have ih:=Jc (H:=H) (k:=k) (o:=o) (by simpa using h);exact (ih.cons x).trans (List.Perm.swap ..)
theorem Aak {H:List HO}{k:Nat}{o o':HO}(hk:H[k]? = some o):(o'::H.eraseIdx k).Perm (H.set k o'):=by
 obtain ⟨h,_⟩:=List.getElem?_eq_some_iff.1 hk;have h2:(H.set k o')[k]? = some o':=by rw [List.getElem?_set_self h]
 have:=(Jc h2).symm
 rwa [List.eraseIdx_set_eq] at this

theorem Bf.at {f:FuncId}{b:Nat}{TT:TypeId}{cs cs' args:List AV}{r:AV}(h:Bf P f b TT cs cs' args r){H H2:List HO}{k:Nat}(hk:H[k]? = some (.box b TT cs))(hK:H.set k (.box b TT cs')=H2) :
  Bt P f H args fun r' H'=>r'=r/\H'=H2:=
 ((h (H.eraseIdx k)).perm (Jc hk)).post fun r' K ⟨h1,h2⟩=>⟨H2,by subst h2;rw [<-hK];exact Aak hk,h1,rfl⟩

theorem Bf.read {f:FuncId}{b:Nat}{TT:TypeId}{cs args:List AV}{r:AV}(h:Bf P f b TT cs cs args r){H:List HO}{k:Nat}(hk:H[k]? = some (.box b TT cs)) :
  Bt P f H args fun r' H'=>r'=r/\H'=H:=
 h.at hk (by obtain ⟨hl,e⟩:=List.getElem?_eq_some_iff.1 hk;rw [<-e,List.set_getElem_self])

theorem Cj {f:FuncId}{args:Array Operand}{ats:Array TypeId}{l:List AV}{r:AV}{k b:Nat}{TT:TypeId}{cs:List AV}(hf:Tn P f=true)(hcal:ρ (.func f) = .fn (.func f) [] [])(ha:args.toList.map ρ=l)
  (hc:Bf P f b TT cs cs l r):Db P ⟨d,.call ⟨.value (.func f),args,ats⟩,ty,pos,aft,gd⟩ ρ (fun H=>H[k]? = some (.box b TT cs)) r:=by
 intro g w a H next Q hr hH hk hn
 refine L6 hf hcal ha (hc.read hk) g w a next Q hr hH fun g' w' v x H' ⟨hx,hH'⟩ k1 k2 k3=>?_
 subst hx;subst hH';exact hn g' w' v k1 k2 k3

theorem AOL.gk {ops:Array Oper}{KK:St->Prop}{s:St}{o:Oper}{r:List Oper}{y:AV}{C:List HO->Prop}(G:List (Bool×Bool))(L:List (Nat×AV))(hw:F2 ops o s.sl=some G)
  (hL:∀p∈L,tQ G (get s.sl p.1) p.2) (h:Mn G->Db P o (El (L++s.sl)) C y) (hC:C s.H) (hd:Mx o.dst s.n=true) (k:AOL P ops KK r ⟨D9 o.dst (.opt G y) s.sl,s.H,s.n⟩):AOL P ops KK (o::r) s:=
 AOL.ps (.opt G y L hw hL h rfl) hC hd k

theorem Aab {g:Gh}{w:World}{a:Act}{s:St}(hG:Gm g s a w){G:List (Bool×Bool)}(hg:Mn G){L:List (Nat×AV)}(hL:∀p∈L,tQ G (get s.sl p.1) p.2)(y:Operand):Rep g w (a.eval y) (El (L++s.sl) y):=by
  cases y with
  | tmp t=>
    show Rep g w _ (get (L++s.sl) t);rcases R0 L s.sl t with ⟨x,hx,e⟩ | e
    . rw [e];exact hL (t,x) hx g w _ hg (hG.sl t)
    rw [e];exact hG.sl t
  | const v=>exact Fv g w v
  | global n=>exact .val _
  | func f=>exact .fn _ _ _ _ _ rfl (by simp) rfl (by simp)

theorem AOL.ge {ops:Array Oper}{KK:St->Prop}{s:St}{o:Oper}{r:List Oper}{x:AV}{H2:List HO}(G:List (Bool×Bool))(L:List (Nat×AV))(hw:F2 ops o s.sl=some G)
  (hL:∀p∈L,tQ G (get s.sl p.1) p.2) (h:Mn G->L7 P o (El (L++s.sl)) s.H fun x' H'=>x'=x/\H'=H2) (hn:¬Mn G->s.H=H2) (hd:Mx o.dst s.n=true)
  (k:AOL P ops KK r ⟨D9 o.dst (.opt G x) s.sl,H2,s.n⟩):AOL P ops KK (o::r) s:=by
 refine ⟨fun Q g a w hG hQ=>?_⟩;obtain ⟨h1,h2⟩:=Oz (ops:=ops) (o:=o) (sl:=s.sl) hw (g:=g) (w:=w) (a:=a) (fun d _=>hG.sl d);unfold zW;by_cases hg:Mn G
 .
  rw [if_pos (h1 hg)];refine h hg g w a _ _ (fun y _=>Aab hG hg hL y) hG.heap fun g' w' v x' H' ⟨e1,e2⟩ hv hH hx=>?_
  subst e1;subst e2;exact k.run Q g' _ w' (hG.put hx hd (.opt _ _ _ (fun _=>hv) (fun h=>absurd hg h)) hH) fun g'' s'' a'' w'' q1 q2 q3=>hQ g'' s'' a'' w'' q1 (hx.trans q2) q3
 rw [if_neg (by rw [h2 hg];decide)];have hH:HOK g w H2:=by have:=hG.heap;rwa [hn hg] at this
 exact k.run Q g _ w (hG.put (Ext.refl g w) hd (.opt _ _ _ (fun h=>absurd h hg) (fun _=>rfl)) hH) hQ
theorem GS.Aay {sl:List (Nat×AV)}{H H2:List HO}{n b TT:Nat}{cs cs':List AV}(k:Nat)(hk:H[k]? = some (.box b TT cs))(h:cs=cs')(hH2:H.set k (.box b TT cs')=H2):GS ⟨sl,H,n⟩ ⟨sl,H2,n⟩:=by
 subst hH2;exact GS.cells k hk h

theorem Us {z:Nat}:∀(es:List (List AV)),(∀e∈es,e.length=z)->∀i e,es[i]? = some e->∀j x,e[j]? = some x->es.flatten[i*z+j]? = some x
  | [],_,i,e,h,_,_,_=>by simp at h
  | a::r,hz,0,e,h,j,x,hj=>by
    simp only [List.getElem?_cons_zero,Option.some.injEq] at h;subst h;have hlt:j<a.length:=(List.getElem?_eq_some_iff.1 hj).1;rw [Bd,Nat.zero_mul,Do,List.getElem?_append_left hlt];exact hj
  | a::r,hz,i+1,e,h,j,x,hj=>by
    have ha:a.length=z:=hz a (I7 ..);have ih:=Us r (fun e he=>hz e (Ha _ he)) i e (by simpa using h) j x hj;rw [Bd,List.getElem?_append_right (by rw [ha,Nat.succ_mul];omega),ha];have:(i+1)*z+j-z=i*z+j:=by rw [Nat.succ_mul];omega
    rw [this];exact ih

theorem Rl {t e n z:Nat}{td te:TD}{gl:Nat}{es:List (List AV)}(hT:H6 P T)(hg:∃c,(gl,c)∈globals/\∀cs,c cs->cs=es.flatten)(ht:Bl T t=some td)(hk:td.kind = .array n e)(hte:Bl T e=some te)(hz:te.size=z)
  (hl:Nat.beq es.length n=true) (hm:Nat.ble n maxLen=true) (hzs:es.all (fun e=>Nat.beq e.length z)=true) (h0:Nat.beq n 0=false) (hρ:ρ (.global gl) = .val (.pointer (some ⟨gl,0,none⟩))):Db P ⟨d,.slice t (.global gl) none none none,ty,pos,aft,gd⟩ ρ K (.sl z es):=by
 intro g w a H next Q hr hH _ hn
 obtain ⟨c,hc,hcl⟩:=hg;obtain ⟨cs,h1,h2⟩:=hH.glob.vars _ hc;obtain rfl:=hcl cs h1;obtain ⟨b,o,he,fv,h3,h4⟩:=h2.inv_ptr;simp only [Value.pointer.injEq,Option.some.injEq,Addr.mk.injEq,and_true] at he;obtain ⟨rfl,rfl⟩:=he;have he:=(hρ▸hr (.global gl) (by simp [Op.operands]):Rep g w _ _).inv_val;have hu:=Nc (hT t td ht) hk;have hsz:=F0 (hT e te hte) w;have hn0:n≠0:=by rintro rfl;exact absurd h0 (by decide)
 have hln:=D6 hl;have hz':∀e∈es,e.length=z:=fun e he=>D6 (Ht.1 hzs e he)
 unfold Oper.wp
 have hrun:(execOp a.eval ⟨d,.slice t (.global gl) none none none,ty,pos,aft,gd⟩).run P w = .ok (.value (.slice (some ⟨gl,0,none⟩) n n)) w:=by
  have e0:((n:Nat)=0)=False:=by simp [hn0]
  simp only [execOp,he,Instr.sliceAt,Sem.run_bind,A8 hu,Result.andThen_ok,Instr.sureAddr,Sem.run_pure,Instr.sliceBounds,Option.map_none,hsz,hn0,if_false,Nat.sub_zero,Nat.zero_mul,Fb,Nat.add_zero,e0]
 rw [hrun];refine hn g w _ (.sl gl 0 n n z es hln.symm (Bc _) (B9 hm) hz' (fun i j=>fv (i*z+j)) ?_ ?_) hH (Ext.refl g w)
 .
  intro i e hi j x hj;have:=h3 _ x (Us es hz' i e hi j x hj);simpa [Do] using this
 intro i e hi j x hj;exact h4 _ x (Us es hz' i e hi j x hj)
end
end Go.Aw
namespace Go.Aw

section
variable {P:Program} {T:List (Nat×TD)} {d:Option Nat} {ty:TypeId} {pos:String} {aft:Array Edge} {gd:Option (Nat×Bool)} {ρ:Operand->AV} {K:List HO->Prop}

theorem Uh {x y:Operand}{t e k z:Nat}{td te:TD}{v:Value}{es es2:List (List AV)}{H:List HO}(hT:H6 P T)(hx:ρ x = .row v z es)(hy:ρ y = .sl z es2)(ht:Bl T t=some td)(hk:td.kind = .slice e)
    (hte:Bl T e=some te) (hz:te.size=z) (hp:Nat.blt 0 z=true) (hH:H[k]? = some (.row v es.length e z)) (hs2:∀c∈es2,Au c=true) (hone:es2.length=1) (hs1:∀c∈es,Au c=true) (hb:(es.length+es2.length)*te.bytes<=140737488355328) (hm:es.length+es2.length<=maxLen) :
    L7 P ⟨d,.call ⟨.builtin .append,#[x,y],#[t,t]⟩,ty,pos,aft,gd⟩ ρ H (fun r H'=>∃b c,r = .val (.slice (some ⟨b,0,none⟩) (es.length+1) c)/\H'=H.set k (.app b (es.length+1) c es e z)):=by
  intro g w a next Q hr hHK hn
  have hpos:0<z:=by simpa using hp
  obtain ⟨e1,r1⟩:=(hx▸hr x (by simp [Op.operands,Call.operands]):Rep g w _ _).inv_row;have r2:=(hy▸hr y (by simp [Op.operands,Call.operands]):Rep g w _ _);have hu:=Ee (hT t td ht) hk;obtain ⟨it,hit,his,hib,zv,hzv,hzs,_⟩:=(hT e te hte).info;have hok:=hHK.ok _ (Aj hH);obtain ⟨a2,m,c2,h21,h22,h23,h24,_⟩:=r2.inv_sl;rw [e1] at r1;have hlen:(es++es2).length=es.length+m:=by simp [h22]
  have hkl:k<H.length:=(List.getElem?_eq_some_iff.1 hH).1
  -- the end: what is shown of the run
  have fin:∀b c g' w',(Builtin.append_ #[t,t] ty #[a.eval x,a.eval y]).run P w = .ok (.slice (some ⟨b,0,none⟩) (es.length+1) c) w'->HOK g' w' (H.set k (.app b (es.length+1) c es e z))->Ext g w g' w'->Oper.wp P ⟨d,.call ⟨.builtin .append,#[x,y],#[t,t]⟩,ty,pos,aft,gd⟩ a w next Q:=by
    intro b c g' w' hrun hok' hext;unfold Oper.wp
    rw [Fu (v:=.slice (some ⟨b,0,none⟩) (es.length+1) c) (w':=w') (by
      have:(#[x,y]:Array Operand).map a.eval = #[a.eval x,a.eval y]:=by simp
      rw [this];simp only [builtin,Sem.run_bind,hrun,Result.andThen_ok,Sem.run_pure])]
    exact hn g' w' _ _ _ ⟨b,c,rfl,rfl⟩ (.val _) hok' hext
  have hm1:m=1:=h22.trans hone;by_cases h2:es2 = []
  . subst h2;cases hone
  . rw [h21] at r2
    obtain ⟨_,hz2,b2,o2,hb2,news,n1,n2,n3,n4⟩:=Mb r2 hpos hs2 h2;subst hb2;have hm0:0<m:=by rw [h22];exact List.length_pos_iff.2 h2
    have hnews:∀j u,news[j]? = some u->w.cell? ((⟨b2,o2,none⟩:Addr).add j)=some u:=fun j u hj=>by rw [Fb];exact (n4 j u hj).2
    have hsz:it.size=z:=by rw [his,hz]
    have hnl:news.length=m*it.size:=by rw [n1,hsz]
    have hmax:maxLen=9223372036854775807:=rfl;rcases hok with ⟨rfl,h0⟩ | ⟨b,cap,cur,rfl,hg,hcur,hcsz,hcap,hcmax⟩
    . -- nothing yet
      have hes:es = []:=by simpa using h0
      subst hes;simp only [Du,Bi,Do] at hb hm fin hlen ⊢;have hbb:m*it.bytes<=281474976710656:=by rw [hib,h22];omega
      have hrun:=run_append_nil (P:=P) w t ty e it zv hu hit hzv ⟨b2,o2,none⟩ m c2 news hnl hnews hm0 (by omega) hbb;have hext:Ext g w (g.put w.heap.size (some (([]:List (List AV)).length*z))) (w.drew.alloc (.cells (news.toArray++Builtin.zeroCells zv.cells (grownCap w m 0 e-m)) e)):=(Ext.drew g w).trans (Ext.alloc g w.drew _ _);have hcapm:m<=grownCap w m 0 e:=grownCap_ge w m 0 e;have hcapM:=grownCap_le_maxLen w m 0 e (by omega);refine fin w.heap.size (grownCap w m 0 e) (g.put w.heap.size (some (([]:List (List AV)).length*z))) _ (by rw [e1,h21];rw [hm1] at hrun ⊢;exact hrun) ?_ hext;refine hHK.set hext hH (fun b hb=>?_) ⟨Gh.Aaw _ _ _,_,Ce w.drew _,?_,A7 _,by omega,hcapM,.sl0 _ _ _ hcapM⟩ (fun c hc _ _=>?_)
      . simp only [HO.blk,Option.some.injEq] at hb;exact .inr (by omega)
      . simp only [L3,I8,n1,size_zeroCells,hzs,hz,Nat.sub_mul]
        have:=Hw z hcapm;omega
      exact ⟨Gh.Aa0 _ _ (by omega),Gf w.drew _ hc⟩
    . obtain ⟨hz1,rl1,hle⟩:=U1 r1 rfl hpos hs1 hcur
      have hzall:∀c∈es++es2,c.length=z:=fun c hc=>by
        rcases Gd.1 hc with h | h
        . exact hz1 c h
        exact hz2 c h
      by_cases hroom:es.length+m<=cap
      . have hfit:es.length*it.size+news.length<=cur.size:=by
          rw [hsz,n1,hcsz,<-Ij];exact Hw z hroom
        have hrun:=run_append_room (P:=P) w t ty e it hu hit b es.length cap cur hcur ⟨b2,o2,none⟩ m c2 news hnl hnews n3 hroom hfit;rw [hsz] at hrun hfit;have hnew:=setRow_heap w b cur (cur.toList.take (es.length*z)++news++cur.toList.drop (es.length*z+news.length)).toArray e (0,0) hcur
        have hext:Ext g w (g.put b (some (es.length*z))) (w.setRow b (cur.toList.take (es.length*z)++news++cur.toList.drop (es.length*z+news.length)).toArray):=by
          refine Ext.setRowTail hg (Bc _) hcur fun o ho=>?_
          have:o<(cur.toList.take (es.length*z)).length:=by simp;omega
          simp only [List.getElem?_toArray,Dy];rw [List.getElem?_append_left this,List.getElem?_take,if_pos ho];simp
        refine fin b cap (g.put b (some (es.length*z))) _ (by rw [e1,h21];rw [hm1] at hrun ⊢;exact hrun) ?_ hext;refine hHK.set hext hH (fun b' hb'=>.inl hb') ⟨Gh.Aaw _ _ _,_,hnew,?_,Nat.le_succ _,by omega,hcmax,r1.mono hext⟩ (fun c hc hne _=>?_)
        . simp only [I8,Ao,Df,C4,W0];omega
        . have hcb:c≠b:=fun h=>hne (by rw [h];rfl)
          exact ⟨Gh.Aa0 _ _ hcb,setRow_other w b c _ hcb⟩
      . have hg':cap<es.length+m:=by omega
        have hfit:Builtin.nextslicecap (es.length+m) cap*it.bytes<=281474976710656:=growslice_fits hg' (by rw [hib,h22];exact hb);have hol:(cur.toList.take (es.length*z)).length=es.length*it.size:=by simp [hsz];omega
        have holds:∀j u,(cur.toList.take (es.length*z))[j]? = some u->w.cell? ((⟨b,0,none⟩:Addr).add j)=some u:=fun j u hj=>by
          rw [Fb,Do,Bj hcur];rw [List.getElem?_take] at hj;split at hj
          . simpa using hj
          cases hj
        have hrun:=run_append_grow (P:=P) w t ty e it zv hu hit hzv ⟨b,0,none⟩ es.length cap (cur.toList.take (es.length*z)) hol holds ⟨b2,o2,none⟩ m c2 news hnl hnews hg' (by omega) hfit;have hext:Ext g w (g.put w.heap.size (some (es.length*z))) (w.drew.alloc (.cells ((cur.toList.take (es.length*z)).toArray++news.toArray++Builtin.zeroCells zv.cells (grownCap w (es.length+m) cap e-(es.length+m))) e)):=(Ext.drew g w).trans (Ext.alloc g w.drew _ _);have hcapm:=grownCap_ge w (es.length+m) cap e;have hcapM:=grownCap_le_maxLen w (es.length+m) cap e (by omega);refine fin w.heap.size (grownCap w (es.length+m) cap e) (g.put w.heap.size (some (es.length*z))) _ (by rw [e1,h21];rw [hm1] at hrun ⊢;exact hrun) ?_ hext;refine hHK.set hext hH (fun b' hb'=>?_) ⟨Gh.Aaw _ _ _,_,Ce w.drew _,?_,Nat.le_succ _,by omega,hcapM,?_⟩ (fun c hc _ _=>?_)
        . simp only [HO.blk,Option.some.injEq] at hb';exact .inr (by omega)
        . simp only [L3,I8,n1,size_zeroCells,hzs,hz,Nat.sub_mul,hol,hsz]
          have:=Hw z hcapm;rw [Ij] at this;rw [Ij];omega
        . refine Dv rfl (by omega) hcapM hz1 (rl1.mono hext) (fun k hk=>?_) (fun k u hk=>?_)
          . unfold D4;rw [Gh.Aaw];show 0+k<_;omega
          . rw [Do,Bj (b:=w.heap.size) (Ce w.drew _)]
            have hlt:=(Array.getElem?_eq_some_iff.1 hk).1;rw [Array.append_assoc,Array.getElem?_append_left hlt];exact hk
        exact ⟨Gh.Aa0 _ _ (by omega),Gf w.drew _ hc⟩
theorem It {t:TypeId}{b o m cap z:Nat}{td:TD}{x y:Operand}{k:Nat}{E:TypeId}{es:List (List AV)}{v:AV}{H:List HO}(hT:H6 P T)(h:ρ x = .val (.pointer (some ⟨b,o,none⟩)))(hv:ρ y=v)(ht:Bl T t=some td)
    (hk:H[k]? = some (.app b m cap es E z)) (ho:o=es.length*z) (hm:es.length<m) (hs:Au (Cl v)=true) (hl:Nat.beq (Cl v).length td.size=true) (hz:Nat.beq td.size z=true) {H2:List HO} (hH2:H.set k (.app b m cap (es ++ [Cl v]) E z)=H2) :
    L7 P ⟨d,.store t x y,ty,pos,aft,gd⟩ ρ H (fun z H'=>z = .junk/\H'=H2):=by
  subst hH2;subst ho;intro g w a next Q hr hH hn
  have h1:=(h▸hr x (by simp [Op.operands]):Rep g w _ _).inv_val;have h2:=hv▸hr y (by simp [Op.operands]);obtain ⟨h3,h4⟩:=Nk h2 hs;obtain ⟨hg,cur,hcur,hcsz,hle,hmc,hcm,hrep⟩:=hH.ok _ (Aj hk);have hl':=D6 hl;have hz':=D6 hz
  have hroom:es.length*z+z<=cap*z:=by
    have:(es.length+1)*z<=cap*z:=Hw z (by omega)
    rwa [Nat.succ_mul] at this
  have hrun:=X6 (hT t td ht) (w:=w) (b:=b) (o:=es.length*z) (v:=a.eval y) (cur:=cur) (TT:=E) (by rw [h3.1,hl']) hcur (by rw [hcsz,hz'];exact hroom) h4;unfold Oper.wp;simp only [execOp,h1,Instr.storeAt,Instr.sureAddr,Sem.run_bind,Sem.run_pure,Result.andThen_ok,hrun];have hcl:(a.eval y).cells.size=z:=by rw [h3.1,hl',hz']
  have hcll:(a.eval y).cells.toList.length=z:=by simpa using hcl
  have hx:Ext g w (g.put b (some ((es ++ [Cl v]).length*z))) (w.setRow b (cur.toList.take (es.length*z)++(a.eval y).cells.toList++cur.toList.drop (es.length*z+(a.eval y).cells.toList.length)).toArray):=by
    refine Ext.setRowTail hg (Hw z (by simp)) hcur fun o ho=>?_
    have:o<(cur.toList.take (es.length*z)).length:=by simp;omega
    simp only [List.getElem?_toArray,Dy];rw [List.getElem?_append_left this,List.getElem?_take,if_pos ho];simp
  have hnew:=setRow_heap w b cur (cur.toList.take (es.length*z)++(a.eval y).cells.toList++cur.toList.drop (es.length*z+(a.eval y).cells.toList.length)).toArray E (0,0) hcur;refine hn _ _ undef .junk _ ⟨rfl,rfl⟩ (.junk _) (hH.set hx hk (fun b' hb'=>.inl hb') ⟨Gh.Aaw _ _ _,_,hnew,?_,by simp;omega,hmc,hcm,?_⟩ ?_) hx
  . simp only [I8,Ao,Df,C4,W0,hcll];omega
  . -- the elements
    by_cases hz0:z=0
    . subst hz0
      have hzz:∀e∈es ++ [Cl v],e.length=0:=by
        intro e he;rcases Gd.1 he with he | he
        . obtain ⟨i,hi⟩:=List.getElem?_of_mem he
          rcases hrep.inv_sl with ⟨_,_,_,_,_,_,_,h0⟩
          rcases h0 with h0 | ⟨_,_,_,h0,_⟩
          . rw [h0] at he;cases he
          exact h0 e he
        simp only [Ep] at he;subst he;rw [hl',hz']
      exact .sl b 0 _ cap 0 _ rfl (by simp;omega) hcm hzz (fun _ _=>undef) (fun i e hi j x hj=>by
        have:=hzz e (Aj hi);have:=(List.getElem?_eq_some_iff.1 hj).1;omega) (fun i e hi j x hj=>by
        have:=hzz e (Aj hi);have:=(List.getElem?_eq_some_iff.1 hj).1;omega)
    . have hpos:0<z:=Nat.pos_of_ne_zero hz0
      obtain ⟨a',n',cap',q1,q2,q3,q4,q5⟩:=Sx hrep hpos;cases q1
      have hzes:∀e∈es,e.length=z:=by
        rcases q5 with q5 | ⟨_,_,_,hz,_⟩
        . intro e he;rw [q5] at he;cases he
        exact hz
      have rl1:Di g w (cur.toList.take (es.length*z)).toArray es.flatten:=by
        rcases q5 with q5 | ⟨b',o',e',hz,vs,k1,k2,k3⟩
        . rw [q5];exact ⟨by simp,by simp⟩
        . cases e'
          have key:∀k,k<es.length*z->cur[k]? = vs[k]? :=fun k hk=>by
            have h1:=List.getElem?_eq_getElem (l:=vs) (i:=k) (by rw [k1];exact hk);have:=(k3 k _ h1).2;rw [Do,Bj hcur] at this;rw [this,h1]
          have e1:cur.toList.take (es.length*z)=vs:=by
            apply Uc
            intro k;rw [List.getElem?_take];split
            . rename_i hk;rw [<-key k hk];simp
            rename_i hk;rw [List.getElem?_eq_none (by rw [k1];omega)]
          rw [e1];exact k2
      have hall:∀e∈es ++ [Cl v],e.length=z:=fun e he=>by
        rcases Gd.1 he with he | he
        . exact hzes e he
        simp only [Ep] at he;subst he;rw [hl',hz']
      have hrl:Di g w ((cur.toList.take (es.length*z)).toArray++(a.eval y).cells) (es ++ [Cl v]).flatten:=by
        rw [aB,List.flatten_singleton];exact rl1.append h3
      refine Dv rfl (by simp;omega) hcm hall (hrl.mono hx) (fun k hk=>?_) (fun k u hk=>?_)
      . unfold D4;rw [Gh.Aaw];show 0+k<_;omega
      . rw [Do,Bj hnew]
        have hlt:=(Array.getElem?_eq_some_iff.1 hk).1
        have e3:(cur.toList.take (es.length*z)++(a.eval y).cells.toList++cur.toList.drop (es.length*z+(a.eval y).cells.toList.length)).toArray=((cur.toList.take (es.length*z)).toArray++(a.eval y).cells)++(cur.toList.drop (es.length*z+(a.eval y).cells.toList.length)).toArray:=by
          apply Pp.1;simp
        rw [e3,Array.getElem?_append_left hlt];exact hk
  . intro c _ hne _
    have hcb:c≠b:=fun e=>hne (by rw [e];rfl)
    exact ⟨Gh.Aa0 _ _ hcb,setRow_other w b c _ hcb⟩
end

theorem GS.appCell {sl:List (Nat×AV)}{H H2:List HO}{n b m cap z b2 TT:Nat}{E:TypeId}{es:List (List AV)}{cs cs':List AV}(ka kb o:Nat)(hka:H[ka]? = some (.app b m cap es E z))(hm:m=es.length)
  (hkb:H[kb]? = some (.box b2 TT cs)) (hc:cs[o]? = some (.val (.slice (some ⟨b,0,none⟩) m cap))) (hcs:cs.set o (.row (.slice (some ⟨b,0,none⟩) m cap) z es)=cs')
  (hH2:(H.set ka (.row (.slice (some ⟨b,0,none⟩) m cap) es.length E z)).set kb (.box b2 TT cs')=H2):GS ⟨sl,H,n⟩ ⟨sl,H2,n⟩:=by
 subst hH2;have hne:ka≠kb:=fun e=>by rw [e,hkb] at hka;cases hka
 intro g a w hG;obtain ⟨hg,cur,h1,h2,h3,h4,h5,h6⟩:=hG.heap.ok _ (Aj hka);obtain ⟨k1,vs,k2,k3⟩:=hG.heap.ok _ (Aj hkb);subst hm
 have hH1:HOK g w (H.set ka (.row (.slice (some ⟨b,0,none⟩) es.length cap) es.length E z)):=
  hG.heap.set (Ext.refl g w) hka (fun b' hb'=>.inl hb') (.inr ⟨b,cap,cur,rfl,hg,h1,h2,h4,h5⟩) (fun c _ _ _=>⟨rfl,rfl⟩)
 have hkb':(H.set ka (.row (.slice (some ⟨b,0,none⟩) es.length cap) es.length E z))[kb]? = some (.box b2 TT cs):=by rw [List.getElem?_set_ne hne];exact hkb
 have hH2:HOK g w ((H.set ka (.row (.slice (some ⟨b,0,none⟩) es.length cap) es.length E z)).set kb (.box b2 TT cs')):=by
  refine hH1.set (Ext.refl g w) hkb' (fun b' hb'=>.inl hb') ⟨k1,vs,k2,?_⟩ (fun c _ _ _=>⟨rfl,rfl⟩);subst hcs;refine ⟨by rw [Sr];exact k3.1,fun i x hi=>?_⟩;rw [List.getElem?_set] at hi;split at hi
  .
   rename_i hio;subst hio;split at hi
   .
    cases hi
    have:=(k3.2 o _ hc).inv_val;rw [this];exact .row _ _ _ h6
   cases hi
  exact k3.2 i x hi
 exact ⟨g,⟨hG.size,hG.defers,hG.sl,hH2⟩,Ext.refl g w⟩


theorem Bt.front1 {P:Program}{f:FuncId}{args:List AV}{H R:List HO}{Q:AV->List HO->Prop}{o:HO}(k:Nat)(hk:H[k]? = some o)(hR:H.eraseIdx k=R)(h:Bt P f (o::R) args Q):Bt P f H args Q:=
 h.perm (hR▸Jc hk)
theorem Bt.front2 {P:Program}{f:FuncId}{args:List AV}{H R:List HO}{Q:AV->List HO->Prop}{o1 o2:HO}(k2 j:Nat)(hk2:H[k2]? = some o2)(hk1:(H.eraseIdx k2)[j]? = some o1)(hR:(H.eraseIdx k2).eraseIdx j=R)(h:Bt P f (o1::o2::R) args Q):Bt P f H args Q:=
 h.perm ((Jc hk2).trans ((((Jc hk1).trans (by rw [hR])).cons o2).trans (List.Perm.swap ..)))
theorem Bt.mono' {P:Program}{f:FuncId}{args:List AV}{H:List HO}{Q Q':AV->List HO->Prop}(h:Bt P f H args Q)(hq:∀r K,Q r K->Q' r K):Bt P f H args Q':=
 h.post fun r K hk=>⟨K,.refl _,hq r K hk⟩

section
variable {P:Program} {T:List (Nat×TD)} {d:Option Nat} {ty:TypeId} {pos:String} {aft:Array Edge} {gd:Option (Nat×Bool)} {ρ:Operand->AV} {K:List HO->Prop}
theorem jE {x i:Operand}{t e len:Nat}{td te:TD}{k:IntKind}{n:Int}{cs l:List AV}(hT:H6 P T)(h:ρ x = .agg cs)(hi:ρ i = .int k n)(ht:Bl T t=some td)(hk:td.kind = .array len e)
  (hte:Bl T e=some te) (ha:te.agg=true) (h0:0<=n) (hl:n<len) (hm:n.toNat*te.size+te.size<=cs.length) (hc:(cs.drop (n.toNat*te.size)).take te.size=l):Db P ⟨d,.index t x i,ty,pos,aft,gd⟩ ρ K (.agg l):=
 .of_run fun g w a hr=>by
  obtain ⟨vs,h1,h2⟩:=(h▸hr x (by simp [Op.operands]):Rep g w _ _).inv_agg;have h4:=(hi▸hr i (by simp [Op.operands]):Rep g w _ _).inv_int;have hu:=Nc (hT t td ht) hk;have hvs:vs.size=cs.length:=h2.1;refine ⟨.agg (vs.extract (n.toNat*te.size) (n.toNat*te.size+te.size)),?_,.agg _ _ ?_ ?_⟩
  .
   simp only [execOp,h1,h4,Instr.index,asIntOf,Sem.run_bind,Sem.run_pure,Result.andThen_ok,A8 hu];simp [h0,hl,F0 (hT e te hte),part,Ni (hT e te hte),ha]
  . rw [Array.size_extract,<-hc,Df,C4];omega
  intro j y hj;rw [<-hc,List.getElem?_take,List.getElem?_drop] at hj;split at hj
  .
   rename_i hjl;have:=h2.2 _ _ hj;rw [Ct] at this ⊢
   rwa [Array.getElem?_extract,if_pos (by omega)]
  cases hj
end
end Go.Aw
namespace Go.Aw

section
variable {P:Program} {T:List (Nat×TD)} {d:Option Nat} {ty:TypeId} {pos:String} {aft:Array Edge} {gd:Option (Nat×Bool)} {ρ:Operand->AV} {K:List HO->Prop}


theorem cR {n:Nat}{t e:TypeId}(hu:P.underlying t=some (.pointer e))(p:Option Addr)(w:World):(Op.equalIn (n+1) t (.pointer p) (.pointer none)).run P w = .ok p.isNone w:=by
 unfold Op.equalIn;rw [Sem.run_bind,A8 hu];cases p <;> rfl

theorem cA {x:Operand}{t yt e:Nat}{p:Option Addr}{r:Bool}(hu:P.underlying t=some (.pointer e))(hx:ρ x = .val (.pointer p))(hr':p.isNone=r) :
  Db P ⟨d,.binOp .eql t x (.const (.pointer none)) yt,ty,pos,aft,gd⟩ ρ K (.bool r):=
 .of_run fun g w a hr=>by
  have h1:=(hx▸hr x (by simp [Op.operands]):Rep g w _ _).inv_val;subst hr';refine ⟨.bool p.isNone,?_,.bool _⟩;have e2:a.eval (.const (.pointer none)) = .pointer none:=rfl;simp only [execOp,h1,e2];rw [Sem.run_bind,Sem.run_bind,Ix rfl];have:=cR (n:=9999) hu p w;simp only [Result.andThen_ok,binOp,Op.equal,Op.maxDepth,Sem.run_bind,this,Sem.run_pure]

theorem cS {n:Nat}{t e:TypeId}{z:Nat}(hu:P.underlying t=some (.pointer e))(hz:P.cellsOf e=z)(h0:0<z)(b o:Nat)(w:World):(Op.equalIn (n+1) t (.pointer (some ⟨b,o,none⟩)) (.pointer (some ⟨b,o,none⟩))).run P w = .ok true w:=by
 unfold Op.equalIn;have h1:=aJ hz h0 w;rw [Sem.run_bind,A8 hu];simp [h1,sameAddr]

theorem zT {x y:Operand}{t yt e z:Nat}{b o:Nat}(hu:P.underlying t=some (.pointer e))(hz:P.cellsOf e=z)(h0:Nat.blt 0 z=true)(hx:ρ x = .val (.pointer (some ⟨b,o,none⟩)))(hy:ρ y = .val (.pointer (some ⟨b,o,none⟩))) :
  Db P ⟨d,.binOp .neq t x y yt,ty,pos,aft,gd⟩ ρ K (.bool false):=
 .of_run fun g w a hr=>by
  have h1:=(hx▸hr x (by simp [Op.operands]):Rep g w _ _).inv_val;have h2:=(hy▸hr y (by simp [Op.operands]):Rep g w _ _).inv_val;refine ⟨.bool false,?_,.bool _⟩;simp only [execOp,h1,h2];rw [Sem.run_bind,Sem.run_bind,Ix rfl];have:=cS (n:=9999) hu hz (by simpa using h0) b o w;simp only [Result.andThen_ok,binOp,Op.equal,Op.maxDepth,Sem.run_bind,this,Sem.run_pure];rfl

theorem qL {x:Operand}{s t' e k b o TT:Nat}{j:TypeInfo}{cs:List AV}(hs:P.underlying s=some (.pointer e))(hd:P.underlying t'=some .unsafePointer)(hj:P.info? e=some j)(hj0:Nat.beq j.size 0=false)
  (hx:ρ x = .val (.pointer (some ⟨b,o,none⟩))) (ho:Nat.blt o cs.length=true) :
  Db P ⟨d,.convert s t' x,ty,pos,aft,gd⟩ ρ (fun H=>H[k]? = some (.box b TT cs)) (.val (.pointer (some ⟨b,o,none⟩))):=by
 intro g w a H next Q hr hH hK hn
 have h1:=(hx▸hr x (by simp [Op.operands]):Rep g w _ _).inv_val;obtain ⟨_,vs,h2,h3,_⟩:=hH.ok _ (Aj hK);have hsh:w.shape? b=some (TT,vs.size):=by simp [World.shape?,h2]
 have hlt:o<vs.size:=by rw [h3];simpa using ho
 have h0:j.size≠0:=by rintro h;rw [h] at hj0;cases hj0
 unfold Oper.wp
 have hrun:(execOp a.eval ⟨d,.convert s t' x,ty,pos,aft,gd⟩).run P w = .ok (.value (.pointer (some ⟨b,o,none⟩))) w:=by
  simp only [execOp,h1,Sem.run_bind,Lib.run_to_unsafe w ⟨b,o,none⟩ hs hd hj h0 hsh hlt,Result.andThen_ok,Sem.run_pure]
 rw [hrun];exact hn g w _ (.val _) hH (Ext.refl g w)

theorem jD {x:Operand}{s t' e k b o TT n:Nat}{j:TypeInfo}{cs:List AV}(hs:P.underlying s=some .unsafePointer)(hd:P.underlying t'=some (.pointer e))(hj:P.info? e=some j)(hn':cs.length=n)
  (hl:liesAt P P.depth TT (n / P.cellsOf TT) o e 1=true) (hx:ρ x = .val (.pointer (some ⟨b,o,none⟩))) :
  Db P ⟨d,.convert s t' x,ty,pos,aft,gd⟩ ρ (fun H=>H[k]? = some (.box b TT cs)) (.val (.pointer (some ⟨b,o,none⟩))):=by
 intro g w a H next Q hr hH hK hn
 have h1:=(hx▸hr x (by simp [Op.operands]):Rep g w _ _).inv_val;obtain ⟨_,vs,h2,h3,_⟩:=hH.ok _ (Aj hK);have hsh:w.shape? b=some (TT,n):=by simp [World.shape?,h2];rw [h3];exact hn'
 unfold Oper.wp
 have hrun:(execOp a.eval ⟨d,.convert s t' x,ty,pos,aft,gd⟩).run P w = .ok (.value (.pointer (some ⟨b,o,none⟩))) w:=by
  simp only [execOp,h1,Sem.run_bind,Lib.run_from_unsafe w ⟨b,o,none⟩ hs hd hj hsh hl,Result.andThen_ok,Sem.run_pure]
 rw [hrun];exact hn g w _ (.val _) hH (Ext.refl g w)

theorem qJ {f : FuncId} {fn : Func} {x : Operand} {ats : Array TypeId} {v : Value} (hf : P.funcs[f]? = some fn) (hname : (fn.name == "runtime.NumGoroutine") = false)
  (hb:fn.body.isNone=true) (hn':Extern.findNext fn=none) (he:Extern.find fn=some Extern.AbiNoEscape.same) (hx:ρ x = .val v) :
  Db P ⟨d,.call ⟨.value (.func f),#[x],ats⟩,ty,pos,aft,gd⟩ ρ K (.val v):=
 .of_run fun g w a hr=>by
  have h1:=(hx▸hr x (by simp [Op.operands,Call.operands]):Rep g w _ _).inv_val;refine ⟨v,?_,.val _⟩;have e1:a.eval (.func f) = .func (.func f) #[] #[]:=rfl;have e2:(#[x]:Array Operand).map a.eval = #[v]:=by simp [h1]
  have e3:=run_callFunc_extern hf hname hb hn' he #[v] w;rw [Lib.run_noEscape] at e3;simp only [execOp,resolve,e1,e2,Deferred.ofValue,Sem.run_bind,Sem.run_pure,Result.andThen_ok,invoke];have e4:(#[]:Array Value) ++ #[v] ++ #[] = #[v]:=by simp
  rw [e4,e3];rfl


def Fw (s:List UInt8):List (List AV):=s.map fun b=>[.int .u8 (b.toNat:Int)]
theorem M1 (s:List UInt8):(Fw s).length=s.length:=By ..
theorem byc_app (s t:List UInt8):Fw (s++t)=Fw s++Fw t:=E5 ..
theorem Aan (s:List UInt8):∀c∈Fw s,Au c=true:=kZ fun _=>rfl
theorem uF (s:List UInt8):∀e∈Fw s,e.length=1:=fun e he=>by obtain ⟨b,_,rfl⟩:=C9.1 he;rfl
theorem pU (s:List UInt8):Lib.strCells ⟨s.toArray⟩=s.map fun b=>Value.int .u8 (b.toNat:Int):=by
 simp [Lib.strCells]
theorem uG (g:Gh)(w:World)(s:List UInt8):Di g w (Lib.strCells ⟨s.toArray⟩).toArray (Fw s).flatten:=by
  have hf:(Fw s).flatten=s.map fun b=>AV.int .u8 (b.toNat:Int):=by
    induction s with
    | nil=>rfl
    | cons a r ih=>show [AV.int .u8 (a.toNat:Int)]++(Fw r).flatten=_;rw [ih];rfl
  rw [pU,hf];refine ⟨by simp,fun i x hi=>?_⟩;rw [List.getElem?_map] at hi;cases h:s[i]? with
  | none=>rw [h] at hi;cases hi
  | some b=>
    rw [h] at hi;simp only [Hv,Option.some.injEq] at hi;subst hi;rw [Ct,List.getElem?_toArray,List.getElem?_map,h];exact .int _ _

theorem lT {x y:Operand}{t u e k:Nat}{td te:TD}{v:Value}{es:List (List AV)}{s:List UInt8}{H:List HO}(hT:H6 P T)(hx:ρ x = .row v 1 es)(hy:ρ y = .str s)(ht:Bl T t=some td)(hk:td.kind = .slice e)
  (hu':P.underlying u=some .string) (hte:Bl T e=some te) (hz:te.size=1) (hby:te.bytes=1) (hH:H[k]? = some (.row v es.length e 1)) (hs1:∀c∈es,Au c=true) (hb:es.length+s.length<=140737488355328) :
  L7 P ⟨d,.call ⟨.builtin .append,#[x,y],#[t,u]⟩,ty,pos,aft,gd⟩ ρ H (fun r H'=>∃v',r = .row v' 1 (es++Fw s)/\H'=H.set k (.row v' (es++Fw s).length e 1)):=by
 intro g w a next Q hr hHK hn
 obtain ⟨e1,r1⟩:=(hx▸hr x (by simp [Op.operands,Call.operands]):Rep g w _ _).inv_row;have r2:=(hy▸hr y (by simp [Op.operands,Call.operands]):Rep g w _ _).inv_str.1;have hu:=Ee (hT t td ht) hk;obtain ⟨it,hit,his,hib,zv,hzv,hzs,_⟩:=(hT e te hte).info;have hok:=hHK.ok _ (Aj hH);rw [e1] at r1;have hlen:(es++Fw s).length=es.length+s.length:=by simp [M1]
 have hkl:k<H.length:=(List.getElem?_eq_some_iff.1 hH).1;have hss:(⟨s.toArray⟩:ByteArray).size=s.length:=by simp [ByteArray.size]
 have hmax:maxLen=9223372036854775807:=rfl;have hnl:(Lib.strCells ⟨s.toArray⟩).length=s.length:=by rw [Lib.strCells_length,hss]
 have fin:∀v' g' w',(Builtin.append_ #[t,u] ty #[a.eval x,a.eval y]).run P w = .ok v' w'->Rep g' w' v' (.sl 1 (es++Fw s))->HOK g' w' (H.set k (.row v' (es++Fw s).length e 1))->Ext g w g' w'->Oper.wp P ⟨d,.call ⟨.builtin .append,#[x,y],#[t,u]⟩,ty,pos,aft,gd⟩ a w next Q:=by
  intro v' g' w' hrun hrep hok' hext;unfold Oper.wp
  rw [Fu (v:=v') (w':=w') (by
   have:(#[x,y]:Array Operand).map a.eval = #[a.eval x,a.eval y]:=by simp
   rw [this];simp only [builtin,Sem.run_bind,hrun,Result.andThen_ok,Sem.run_pure])]
  exact hn g' w' v' _ _ ⟨v',rfl,rfl⟩ (.row _ _ _ hrep) hok' hext
 by_cases h2:s = []
 .
  subst h2
  have hset:H.set k (.row v (es++Fw []).length e 1)=H:=by
   apply Uc
   intro j;rw [List.getElem?_set];split
   . rename_i hj;subst hj;first | (rw [if_pos hkl,show es++Fw []=es from A3 es];exact hH.symm) | (rw [show es++Fw []=es from A3 es];exact hH.symm)
   rfl
  refine fin v g w ?_ (by rw [show es++Fw []=es from A3 es];exact e1▸r1) (by rw [hset];exact hHK) (Ext.refl g w);rw [e1,r2];have hf:(Builtin.firstCells 1 0 (.string ⟨#[]⟩)).run P w = .ok #[] w:=Lib.run_firstCells_string (P:=P) w 1 ⟨#[]⟩;have h00:(⟨#[]⟩:ByteArray).size=0:=rfl;rcases hok with ⟨rfl,h0⟩ | ⟨b,cap,cur,rfl,hg,hcur,hcsz,hcap,hcmax⟩
  . simp [Builtin.append_,run_underlying hu,run_underlying hu',sizeOf,typeInfo,hit,his,hz,Builtin.lenOf,h00,hf]
  simp [Builtin.append_,run_underlying hu,run_underlying hu',sizeOf,typeInfo,hit,his,hz,Builtin.lenOf,h00,hf,hcap,storeCells]
 have hm0:0<s.length:=List.length_pos_iff.2 h2;have hz2:∀c∈Fw s,c.length=1:=uF s;have hsz:it.size=1:=by rw [his,hz]
 have hbb:it.bytes=1:=by rw [hib,hby]
 have hzc:zv.cells.size=1:=hzs.trans hz;rcases hok with ⟨rfl,h0⟩ | ⟨b,cap,cur,rfl,hg,hcur,hcsz,hcap,hcmax⟩
 .
  have hes:es = []:=by simpa using h0
  subst hes;simp only [Du,Bi,Do,M1] at hb fin hlen ⊢;have hrun:=run_append_nil_string (P:=P) w t u ty e it zv hu hu' hit hzv ⟨s.toArray⟩ (by rw [hss];exact hm0) (by rw [hss];omega) (by rw [hss,hbb];omega)
  have e5:((⟨s.toArray⟩:ByteArray).data.map fun b=>Value.int .u8 b.toNat)=(Lib.strCells ⟨s.toArray⟩).toArray:=by
   apply Array.ext';simp [Lib.strCells]
  rw [e5,hss] at hrun;have hext:Ext g w (g.put w.heap.size (some (s.length*1))) (w.drew.alloc (.cells ((Lib.strCells ⟨s.toArray⟩).toArray++Builtin.zeroCells zv.cells (grownCap w s.length 0 e-s.length)) e)):=(Ext.drew g w).trans (Ext.alloc g w.drew _ _);have hcapm:=grownCap_ge w s.length 0 e;have hcapM:=grownCap_le_maxLen w s.length 0 e (by omega);refine fin _ (g.put w.heap.size (some (s.length*1))) _ (by rw [e1,r2];exact hrun) ?_ ?_ hext
  .
   refine Dv (M1 s).symm hcapm hcapM hz2 ((uG g w s).mono hext) (fun k hk=>?_) (fun k u hk=>?_)
   . unfold D4;rw [Gh.Aaw];show 0+k<_;omega
   rw [Do,Bj (b:=w.heap.size) (Ce w.drew _)];have hlt:=(Array.getElem?_eq_some_iff.1 hk).1;rw [Array.getElem?_append_left hlt];exact hk
  refine hHK.set hext hH (fun b hb=>?_) (.inr ⟨w.heap.size,grownCap w s.length 0 e,_,rfl,by rw [Gh.Aaw],Ce w.drew _,?_,hcapm,hcapM⟩) (fun c hc _ _=>?_)
  . simp only [HO.blk,Option.some.injEq] at hb;exact .inr (by omega)
  . simp only [L3,I8,hnl,size_zeroCells,hzc];omega
  exact ⟨Gh.Aa0 _ _ (by omega),Gf w.drew _ hc⟩
 obtain ⟨hz1,rl1,hle⟩:=U1 r1 rfl (Nat.zero_lt_one) hs1 hcur
 have hzall:∀c∈es++Fw s,c.length=1:=fun c hc=>by
  rcases Gd.1 hc with h | h
  . exact hz1 c h
  exact hz2 c h
 have hrl:Di g w ((cur.toList.take (es.length*1)).toArray++(Lib.strCells ⟨s.toArray⟩).toArray) (es++Fw s).flatten:=by
  rw [aB];exact rl1.append (uG g w s)
 by_cases hroom:es.length+s.length<=cap
 .
  have hrun:=Lib.run_append_room_string (P:=P) w t u ty e it hu hu' hit hsz b es.length cap cur hcur ⟨s.toArray⟩ (by rw [hss];exact hroom) (by rw [hss];omega);rw [hss] at hrun;have hnew:=setRow_heap w b cur (cur.toList.take es.length++Lib.strCells ⟨s.toArray⟩++cur.toList.drop (es.length+s.length)).toArray e (0,0) hcur
  have hext:Ext g w (g.put b (some ((es.length+s.length)*1))) (w.setRow b (cur.toList.take es.length++Lib.strCells ⟨s.toArray⟩++cur.toList.drop (es.length+s.length)).toArray):=by
   refine Ext.setRowTail hg (Hw 1 (by omega)) hcur fun o ho=>?_
   have:o<(cur.toList.take es.length).length:=by simp;omega
   simp only [List.getElem?_toArray,Dy];rw [List.getElem?_append_left this,List.getElem?_take,if_pos (by omega)];simp
  refine fin _ (g.put b (some ((es.length+s.length)*1))) _ (by rw [e1,r2];exact hrun) ?_ ?_ hext
  .
   refine Dv hlen.symm (by omega) hcmax hzall (hrl.mono hext) (fun k hk=>?_) (fun k u hk=>?_)
   . unfold D4;rw [Gh.Aaw];show 0+k<_;omega
   rw [Do,Bj hnew];have hlt:=(Array.getElem?_eq_some_iff.1 hk).1
   have e3:(cur.toList.take es.length++Lib.strCells ⟨s.toArray⟩++cur.toList.drop (es.length+s.length)).toArray=((cur.toList.take (es.length*1)).toArray++(Lib.strCells ⟨s.toArray⟩).toArray)++(cur.toList.drop (es.length+s.length)).toArray:=by
    apply Pp.1;simp
   rw [e3,Array.getElem?_append_left hlt];exact hk
  refine hHK.set hext hH (fun b' hb'=>.inl hb') (.inr ⟨b,cap,_,by rw [hlen],by rw [Gh.Aaw,hlen],hnew,?_,by rw [hlen];exact hroom,hcmax⟩) (fun c hc hne _=>?_)
  . simp only [I8,Ao,Df,C4,W0,hnl];omega
  have hcb:c≠b:=fun h=>hne (by rw [h];rfl)
  exact ⟨Gh.Aa0 _ _ hcb,setRow_other w b c _ hcb⟩
 have hg':cap<es.length+s.length:=by omega
 have hfit:Builtin.nextslicecap (es.length+s.length) cap*it.bytes<=281474976710656:=growslice_fits hg' (by rw [hbb];omega);have hol:(cur.toList.take (es.length*1)).length=es.length*it.size:=by simp [hsz];omega
 have holds:∀j u,(cur.toList.take (es.length*1))[j]? = some u->w.cell? ((⟨b,0,none⟩:Addr).add j)=some u:=fun j u hj=>by
  rw [Fb,Do,Bj hcur];rw [List.getElem?_take] at hj;split at hj
  . simpa using hj
  cases hj
 have hrun:=Lib.run_append_grow_string (P:=P) w t u ty e it zv hu hu' hit hzv ⟨b,0,none⟩ es.length cap (cur.toList.take (es.length*1)) hol holds ⟨s.toArray⟩ (by rw [hss];exact hg') (by rw [hss];omega) (by rw [hss];exact hfit);rw [hss] at hrun;have hext:Ext g w (g.put w.heap.size (some ((es.length+s.length)*1))) (w.drew.alloc (.cells ((cur.toList.take (es.length*1)).toArray++(Lib.strCells ⟨s.toArray⟩).toArray++Builtin.zeroCells zv.cells (grownCap w (es.length+s.length) cap e-(es.length+s.length))) e)):=(Ext.drew g w).trans (Ext.alloc g w.drew _ _);have hcapm:=grownCap_ge w (es.length+s.length) cap e;have hcapM:=grownCap_le_maxLen w (es.length+s.length) cap e (by omega);refine fin _ (g.put w.heap.size (some ((es.length+s.length)*1))) _ (by rw [e1,r2];exact hrun) ?_ ?_ hext
 .
  refine Dv hlen.symm hcapm hcapM hzall (hrl.mono hext) (fun k hk=>?_) (fun k u hk=>?_)
  . unfold D4;rw [Gh.Aaw];show 0+k<_;omega
  rw [Do,Bj (b:=w.heap.size) (Ce w.drew _)];have hlt:=(Array.getElem?_eq_some_iff.1 hk).1;rw [Array.getElem?_append_left hlt];exact hk
 refine hHK.set hext hH (fun b' hb'=>?_) (.inr ⟨w.heap.size,grownCap w (es.length+s.length) cap e,_,by rw [hlen],by rw [Gh.Aaw,hlen],Ce w.drew _,?_,by rw [hlen];exact hcapm,hcapM⟩) (fun c hc _ _=>?_)
 . simp only [HO.blk,Option.some.injEq] at hb';exact .inr (by omega)
 . simp only [L3,I8,hnl,size_zeroCells,hzc,hol,hsz];omega
 exact ⟨Gh.Aa0 _ _ (by omega),Gf w.drew _ hc⟩
theorem Rz (w:World)(b n k:Nat)(h:k≠b):(w.freeze ⟨b,0,none⟩ n).heap[k]? = w.heap[k]? :=by
 unfold World.freeze;split
 . rfl
 simp only [Array.getElem?_modify];rw [if_neg (Ne.symm h)]
theorem mZ (w:World)(b n:Nat):(w.freeze ⟨b,0,none⟩ n).heap.size=w.heap.size:=by
 unfold World.freeze;split
 . rfl
 simp
theorem mY (w:World)(b n o:Nat):(w.freeze ⟨b,0,none⟩ n).cell? ⟨b,o,none⟩=w.cell? ⟨b,o,none⟩:=by
 unfold World.freeze;split
 . rfl
 unfold World.cell?;simp only [Array.getElem?_modify,if_true];cases h:w.heap[b]? with
 | none=>rfl
 | some ob=>cases ob <;> rfl
theorem Ext.freeze {g:Gh}{w:World}{b m:Nat}(n:Nat)(hb:g b=some m):Ext g w g (w.freeze ⟨b,0,none⟩ n):=by
 refine ⟨?_,?_,?_,Nat.le_of_eq (mZ w b n).symm,fun c hc hg=>⟨hg,?_⟩,fun c k hc hg=>⟨fun k' hk=>by rw [hg] at hk;cases hk;exact Bc _,fun o ho=>?_⟩⟩
 . unfold World.freeze;split <;> rfl
 . unfold World.freeze;split <;> rfl
 . unfold World.freeze;split <;> rfl
 . exact Rz w b n c fun e=>by rw [e,hb] at hg;cases hg
 by_cases e:c=b
 . subst e;exact mY w c n o
 unfold World.cell?;rw [Rz w b n c e]
theorem lV {x:Operand}{t e z:Nat}{v:Value}{es:List (List AV)}{H:List HO}{k:Nat}{E:TypeId}(hp:P.underlying ty=some (.pointer e))(hx:ρ x = .row v z es)(hH:H[k]? = some (.row v es.length E z)) :
  L7 P ⟨d,.call ⟨.builtin .unsafeSliceData,#[x],#[t]⟩,ty,pos,aft,gd⟩ ρ H (fun r H'=>∃q,(∀a n c,v = .slice (some a) n c->es≠[]->q=some a)/\r = .val (.pointer q)/\H'=H):=by
 intro g w a next Q hr hHK hn
 have e1:=(hx▸hr x (by simp [Op.operands,Call.operands]):Rep g w _ _).inv_row.1;have hok:=hHK.ok _ (Aj hH)
 have fin:∀q w',(Builtin.unsafeSliceData_ #[t] ty #[a.eval x]).run P w = .ok (.pointer q) w'->(∀a n c,v = .slice (some a) n c->es≠[]->q=some a)->(w'=w\/∃o,w'=w.alloc o)->Oper.wp P ⟨d,.call ⟨.builtin .unsafeSliceData,#[x],#[t]⟩,ty,pos,aft,gd⟩ a w next Q:=by
  intro q w' hrun hq hw;unfold Oper.wp
  rw [Fu (v:=.pointer q) (w':=w') (by
   have:(#[x]:Array Operand).map a.eval = #[a.eval x]:=by simp
   rw [this];simp only [builtin,Sem.run_bind,hrun,Result.andThen_ok,Sem.run_pure])]
  rcases hw with rfl | ⟨o,rfl⟩
  . exact hn g w' _ _ H ⟨q,hq,rfl,rfl⟩ (.val _) hHK (Ext.refl g w')
  exact hn (g.put w.heap.size (some 0)) _ _ _ H ⟨q,hq,rfl,rfl⟩ (.val _) (hHK.alloc o (some 0)) (Ext.alloc g w o (some 0))
 rw [e1] at fin;rcases hok with ⟨rfl,h0⟩ | ⟨b,cap,cur,rfl,hg,hcur,hcsz,hcap,hcmax⟩
 . exact fin none w rfl (fun a n c h=>by cases h) (.inl rfl)
 by_cases hc:cap=0
 .
  subst hc;have hsh:w.shape? b=some (E,cur.size):=by simp [World.shape?,hcur]
  exact fin _ _ (Lib.run_unsafeSliceData_zero w _ _ e hp ⟨b,0,none⟩ _ _ hsh) (fun a n c h hne=>by
   have:es.length=0:=by omega
   exact absurd (List.eq_nil_of_length_eq_zero this) hne) (.inr ⟨_,rfl⟩)
 exact fin _ w (Lib.run_unsafeSliceData_row w _ _ _ _ _ hc) (fun a n c h _=>by cases h;rfl) (.inl rfl)
theorem bV {x y:Operand}{t u e:Nat}{v:Value}{s:List UInt8}{q:Option Addr}{H:List HO}{k kb b o TT:Nat}{E:TypeId}{cs:List AV}(hp:P.underlying t=some (.pointer e))(hc1:P.cellsOf E=1)
  (hx:ρ x = .val (.pointer q)) (hy:ρ y = .int .i64 (s.length:Int)) (hq:∀a n c,v = .slice (some a) n c->Fw s≠[]->q=some a) (hH:H[k]? = some (.row v (Fw s).length E 1)) (hB:H[kb]? = some (.box b TT cs)) (hc:cs[o]? = some (.row v 1 (Fw s))) (hpe:E=e) :
  L7 P ⟨d,.call ⟨.builtin .unsafeString,#[x,y],#[t,u]⟩,ty,pos,aft,gd⟩ ρ H (fun r H'=>r = .str s/\H'=H.set k (.row (.slice none 0 0) 0 E 1)):=by
 intro g w a next Q hr hHK hn
 subst hpe;have e1:=(hx▸hr x (by simp [Op.operands,Call.operands]):Rep g w _ _).inv_val;have e2:=(hy▸hr y (by simp [Op.operands,Call.operands]):Rep g w _ _).inv_int;have hok:=hHK.ok _ (Aj hH);obtain ⟨_,vs,hb2,hb3⟩:=hHK.ok _ (Aj hB);obtain ⟨e3,r3⟩:=(hb3.2 o _ hc).inv_row;rw [e3] at r3;have hmax:maxLen=9223372036854775807:=rfl
 have fin:∀w',(Builtin.unsafeString_ #[t,u] ty #[a.eval x,a.eval y]).run P w = .ok (.string ⟨s.toArray⟩) w'->s.length<=maxLen->Ext g w g w'->(∀c,c<w.heap.size->(HO.row v (Fw s).length E 1).blk≠some c->w'.heap[c]? = w.heap[c]?)->Oper.wp P ⟨d,.call ⟨.builtin .unsafeString,#[x,y],#[t,u]⟩,ty,pos,aft,gd⟩ a w next Q:=by
  intro w' hrun hm hext hs;unfold Oper.wp
  rw [Fu (v:=.string ⟨s.toArray⟩) (w':=w') (by
   have:(#[x,y]:Array Operand).map a.eval = #[a.eval x,a.eval y]:=by simp
   rw [this];simp only [builtin,Sem.run_bind,hrun,Result.andThen_ok,Sem.run_pure])]
  exact hn g w' _ _ _ ⟨rfl,rfl⟩ (.str _ _ rfl hm) (hHK.set hext hH (fun b hb=>by cases hb) (.inl ⟨rfl,rfl⟩) (fun c hc hne _=>⟨rfl,hs c hc hne⟩)) hext
 by_cases h2:s = []
 .
  subst h2;exact fin w (by rw [e1,e2];exact Lib.run_unsafeString_none w _ _ _ q) (A7 _) (Ext.refl g w) (fun _ _ _=>rfl)
 have hne:Fw s≠[]:=fun h=>h2 (by cases s with | nil=>rfl | cons a r=>cases h)
 have hpos:0<s.length:=List.length_pos_iff.2 h2;rcases hok with ⟨rfl,h0⟩ | ⟨b',cap,cur,rfl,hg,hcur,hcsz,hcap,hcmax⟩
 . rw [M1] at h0;omega
 obtain rfl:=hq _ _ _ rfl hne;rw [M1] at hcap;obtain ⟨_,rl,_⟩:=U1 r3 rfl (Nat.zero_lt_one) (Aan s) hcur;have hsh:w.shape? b'=some (E,cur.size):=by simp [World.shape?,hcur]
 have hcell:∀j x,s[j]? = some x->w.cell? ((⟨b',0,none⟩:Addr).add j)=some (.int .u8 x.toNat):=fun j x hj=>by
  have hf:=Us (Fw s) (uF s) j [.int .u8 (x.toNat:Int)] (by unfold Fw;rw [List.getElem?_map,hj];rfl) 0 _ rfl;have hr4:=(rl.2 _ _ hf).inv_int;have hjl:j<s.length:=(List.getElem?_eq_some_iff.1 hj).1;rw [Fb,Do,Bj hcur];rw [Ct,List.getElem?_toArray,List.getElem?_take,if_pos (by rw [M1];omega)] at hr4;have hcl:j<cur.size:=by omega
  simp only [Nat.mul_one,Nat.add_zero] at hr4;rw [Array.getElem?_eq_getElem hcl];rw [<-hr4];simp [hcl]
 have hrun:=Lib.run_unsafeString_row w t u ty E hp hc1 b' cur.size hsh s h2 (by omega) (by omega) hcell;refine fin _ (by rw [e1,e2];exact hrun) (by omega) (Ext.freeze _ hg) (fun c hc hne=>Rz w b' _ c fun e=>hne (by rw [e];rfl))
end
end Go.Aw
