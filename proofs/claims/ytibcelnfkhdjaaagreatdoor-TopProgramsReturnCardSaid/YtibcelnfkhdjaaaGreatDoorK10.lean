/-
  Several texts in one: Am, R35w, R36w, R37w, R38w, R39w, R40w, R62, Qa, Q3, Q4. No condition.
-/
import Derived.Test.YtibcelnfkhdjaaaGreatDoorK03
import Derived.Maps.RangeRun
import Derived.Test.YtibcelnfkhdjaaaGreatDoorK02
import Derived.Test.YtibcelnfkhdjaaaGreatDoorK09
import Derived.KernelRfl
import Derived.Test.YtibcelnfkhdjaaaGreatDoorK08
import Derived.Test.YtibcelnfkhdjaaaGreatDoorK07
import Derived.Test.YtibcelnfkhdjaaaGreatDoorK06
set_option linter.unusedVariables false
set_option linter.unusedSimpArgs false
set_option maxHeartbeats 12800000
set_option maxRecDepth 100000
namespace Go.Aw
open Go
def bL:Nat->List (Int×Int)->List MapEntry
 | _,[]=>[]
 | i,p::r=>⟨.int .i64 p.1,.int .i64 p.2,i⟩::bL (i+1) r
def aJ (es:List (Int×Int)):Obj:=.map (bL 0 es).toArray es.length
def imA (es:List (Int×Int)):List (Int×AV):=es.map fun p=>(p.1,.int .i64 p.2)
theorem sZ:∀(es:List (Int×Int)) (i:Nat),(bL i es).length=es.length
 | [],_=>rfl
 | p::r,i=>by rw [bL,A8,A8,sZ r]
theorem jC:∀(es:List (Int×Int)) (i k:Nat),(bL i es)[k]? = (es[k]?).map fun p=>⟨.int .i64 p.1,.int .i64 p.2,i+k⟩
  | [],_,k=>by rw [bL];simp
  | p::r,i,0=>by rw [bL];simp
  | p::r,i,k+1=>by
    rw [bL,List.getElem?_cons_succ,List.getElem?_cons_succ,jC r (i+1) k];rw [show i+1+k=i+(k+1) by omega]
theorem wS:∀(es:List (Int×Int)) (i:Nat) (p:Int×Int),bL i (es ++ [p])=bL i es ++ [⟨.int .i64 p.1,.int .i64 p.2,i+es.length⟩]
  | [],i,p=>rfl
  | q::r,i,p=>by
    rw [Cp,bL,bL,wS r (i+1) p,Cp,A8];rw [show i+1+r.length=i+(r.length+1) by omega]
theorem imE_mem {es:List (Int×Int)}{e:MapEntry}(h:e∈bL 0 es):∃p,es[e.born]? = some p/\e.key = .int .i64 p.1/\e.val = .int .i64 p.2:=by
 obtain ⟨k,hk⟩:=Fh.1 h;rw [jC] at hk;obtain ⟨p,hp,rfl⟩:=Sn.1 hk;exact ⟨p,by simpa using hp,rfl,rfl⟩
theorem imE_at {es:List (Int×Int)}{k:Nat}{p:Int×Int}(h:es[k]? = some p):(⟨.int .i64 p.1,.int .i64 p.2,k⟩:MapEntry)∈bL 0 es:=by
 refine Ak (i:=k) ?_;rw [jC,h];simp
theorem imE_born (es:List (Int×Int))(i:Nat):(bL i es).map (·.born)=List.range' i es.length:=by
 induction es generalizing i with
 | nil=>rfl
 | cons p r ih=>rw [bL,Ao,ih,A8,List.range'_succ]
theorem imE_nodup (es:List (Int×Int)):((bL 0 es).map (·.born)).Nodup:=by rw [imE_born];exact List.nodup_range'
theorem imA_get (es:List (Int×Int))(k:Nat):(imA es)[k]? = (es[k]?).map fun p=>(p.1,AV.int .i64 p.2):=List.getElem?_map ..
theorem sY {es:List (Int×Int)}{j:Nat}{m:Int}{x:AV}(h:(imA es)[j]? = some (m,x)):((bL 0 es).getD j default).key = .int .i64 m/\∃v,x = .int .i64 v/\((bL 0 es).getD j default).val = .int .i64 v:=by
 rw [imA_get] at h;obtain ⟨p,hp,he⟩:=Sn.1 h;cases he
 have:=jC es 0 j;rw [hp] at this;rw [Dm,this];exact ⟨rfl,_,rfl,rfl⟩
def Z1:List (Int×Int)->Int->Option Int
 | [],_=>none
 | p::r,n=>if p.1=n then some p.2 else Z1 r n
theorem tC:∀(es:List (Int×Int)) (n:Int),aO (imA es) n=(Z1 es n).map (AV.int .i64)
  | [],n=>rfl
  | p::r,n=>by
    show (if p.1=n then some (AV.int .i64 p.2) else aO (imA r) n)=_;rw [Z1,tC r n];split <;> rfl
theorem lN:∀{es:List (Int×Int)} {n:Int},(∀p∈es,p.1≠n)->Z1 es n=none
 | [],n,_=>rfl
 | p::r,n,h=>by rw [Z1,if_neg (h p (by simp))];exact lN fun q hq=>h q (by simp [hq])
theorem qD:∀{es:List (Int×Int)} {n v:Int},(es.map (·.1)).Nodup->(n,v)∈es->Z1 es n=some v
  | [],n,v,_,h=>by cases h
  | p::r,n,v,hn,h=>by
    rw [Ao,Mb] at hn;rw [Z1];rcases Cu.1 h with rfl | h
    . rw [if_pos rfl]
    . rw [if_neg fun e=>hn.1 (Cd.2 ⟨(n,v),h,e.symm⟩)]
      exact qD hn.2 h
section
variable {P:Program} {T:List (Nat×TD)} {d:Option Nat} {ty:TypeId} {pos:String} {aft:Array Edge} {gd:Option (Nat×Bool)} {ρ:Operand->AV}
theorem fP {g:Gh}{w:World}{b:Nat}{o:Obj}(o':Obj)(hg:g b=some 0)(hh:w.heap[b]? = some o) :
  ({ w with heap:=w.heap.setIfInBounds b o' }:World).heap[b]? = some o'/\(∀c,c≠b->({ w with heap:=w.heap.setIfInBounds b o' }:World).heap[c]? = w.heap[c]?)/\Ext g w g { w with heap:=w.heap.setIfInBounds b o' }:=by
 have hb:b<w.heap.size:=(Array.getElem?_eq_some_iff.1 hh).1
 have hoth:∀c,c≠b->({ w with heap:=w.heap.setIfInBounds b o' }:World).heap[c]? = w.heap[c]? :=fun c hc=>by
  simp [Array.getElem?_setIfInBounds_ne (Ne.symm hc)]
 refine ⟨by simp [hb],hoth,rfl,rfl,rfl,by simp,fun c hc hgc=>⟨hgc,hoth c fun e=>by rw [e,hg] at hgc;cases hgc⟩,fun c m' hc hgc=>⟨fun m'' hm''=>by rw [hgc] at hm'';cases hm'';exact Be _,fun o ho=>?_⟩⟩;have hne:c≠b:=fun e=>by rw [e,hg] at hgc;cases hgc;omega
 unfold World.cell?;rw [hoth c hne]
theorem uU {t:TypeId}{H:List HO}:Od P ⟨d,.makeMap t none,ty,pos,aft,gd⟩ ρ H (fun x H'=>∃b,x = .val (.map (some b))/\H' = .obj b (aJ [])::H):=by
 intro g w a next Q hr hH hn
 unfold Oper.wp;simp only [execOp,Instr.makeMap,Option.map_none,Sem.run_bind,Sem.run_pure,run_newObj,Result.andThen_ok];have hx:=Ext.alloc g w (.map #[] 0) (some 0);refine hn (g.put w.heap.size (some 0)) _ _ _ _ ⟨w.heap.size,rfl,rfl⟩ (.val _) ((hH.alloc _ (some 0)).cons ⟨Gh.Aao _ _ _,Db w _⟩ ?_) hx;intro b hb x hx' hb';simp only [HO.blk,Option.some.injEq] at hb;have:=(HO.ok_lt (hH.ok x hx') hb').1;omega
theorem qE {t kt et b:Nat}{td tk:TD}{kk:IntKind}{n v:Int}{es:List (Int×Int)}{w:World}(hT:Kh P T)(ht:Bt T t=some td)(hk:td.kind = .map kt et)(htk:Bt T kt=some tk)(hkk:tk.kind = .int kk)
  (hheap:w.heap[b]? = some (aJ es)) (hnew:Z1 es n=none) :
  (Instr.mapUpdate t (.map (some b)) (.int .i64 n) (.int .i64 v)).run P w = .ok () { w with heap:=w.heap.setIfInBounds b (aJ (es ++ [(n,v)])) }:=by
 have hu:=Ta (hT t td ht) hk;have huk:=M2 (hT kt tk htk) hkk;have hfind:=Vd (k:=kk) (n:=n) (bL 0 es) (imA es) 0 (by rw [sZ,imA,Bg]) (fun j m x hj=>(sY hj).1) (by rw [tC,hnew];rfl);have hget:(getObj b).run P w = .ok (aJ es) w:=by simp [getObj,Sem.run,hheap];rfl
 have hset:∀o:Obj,(setObj b o).run P w = .ok () { w with heap:=w.heap.setIfInBounds b o }:=fun o=>by simp [setObj,Sem.run,hheap];rfl
 unfold Instr.mapUpdate;rw [Sem.run_bind,Bh hu];simp only [Result.andThen_ok,Sem.run_bind,hget];unfold aJ;simp only [U7 (n:=9999) huk,Result.andThen_ok,Sem.run_bind]
 have hfk:(Instr.findKey kt (.int .i64 n) (bL 0 es).toArray.toList).run P w = .ok none w:=by
  unfold Instr.findKey;rw [Sem.run_bind,Bh huk];simp only [Result.andThen_ok,hfind,Sem.run_pure]
 simp only [hfk,Result.andThen_ok,hset]
 have e:(bL 0 es).toArray.push ⟨.int .i64 n,.int .i64 v,es.length⟩=(bL 0 (es ++ [(n,v)])).toArray:=by
  rw [wS,Eb];simp
 rw [e,show (es ++ [(n,v)]).length=es.length+1 by simp]
theorem E_imAdd {t:TypeId}{m k v:Operand}{kt et b i:Nat}{td tk:TD}{kk:IntKind}{n x:Int}{es:List (Int×Int)}{H H2:List HO}(hT:Kh P T)(ht:Bt T t=some td)(hk:td.kind = .map kt et)(htk:Bt T kt=some tk)(hkk:tk.kind = .int kk)
  (hm:ρ m = .val (.map (some b))) (hkey:ρ k = .int .i64 n) (hv:ρ v = .int .i64 x) (hH:H[i]? = some (.obj b (aJ es))) (hnew:Z1 es n=none) (hH2:H.set i (.obj b (aJ (es ++ [(n,x)])))=H2) :
  Od P ⟨d,.mapUpdate t m k v,ty,pos,aft,gd⟩ ρ H (fun y H'=>y = .junk/\H'=H2):=by
 subst hH2;intro g w a next Q hr hHK hn
 have h1:=(hm▸hr m (by simp [Op.operands]):Rep g w _ _).inv_val;have h2:=(hkey▸hr k (by simp [Op.operands]):Rep g w _ _).inv_int;have h3:=(hv▸hr v (by simp [Op.operands]):Rep g w _ _).inv_int;obtain ⟨hg,hheap⟩:(HO.obj b (aJ es)).ok g w:=hHK.ok _ (Ak hH);have hrun:=qE (v:=x) hT ht hk htk hkk hheap hnew;unfold Oper.wp;simp only [execOp,Sem.run_bind,h1,h2,h3,hrun,Result.andThen_ok,Sem.run_pure];obtain ⟨hnew',hoth,hx⟩:=fP (aJ (es ++ [(n,x)])) hg hheap;exact hn g _ undef .junk _ ⟨rfl,rfl⟩ (.junk _) (hHK.set hx hH (fun c hc=>.inl hc) ⟨hg,hnew'⟩ (fun c hc hne _=>⟨rfl,hoth c fun e=>hne (by rw [e];rfl)⟩)) hx
theorem Sy {t:TypeId}{m k v:Operand}{kt et b i:Nat}{td tk:TD}{kk:IntKind}{n x:Int}{es:List (Int×Int)}{H H2:List HO}(hT:Kh P T)(ht:Bt T t=some td)(hk:td.kind = .map kt et)(htk:Bt T kt=some tk)(hkk:tk.kind = .int kk)
  (hm:ρ m = .val (.map (some b))) (hkey:ρ k = .int .i64 n) (hv:ρ v = .int .i64 x) (hH:H[i]? = some (.obj b (aJ es))) (hnew:Z1 es n=none) (hH2:H.set i (.obj b (aJ (es ++ [(n,x)])))=H2) :
  Od P ⟨d,.insert t m k v,ty,pos,aft,gd⟩ ρ H (fun y H'=>y = .junk/\H'=H2):=by
 subst hH2;intro g w a next Q hr hHK hn
 have h1:=(hm▸hr m (by simp [Op.operands]):Rep g w _ _).inv_val;have h2:=(hkey▸hr k (by simp [Op.operands]):Rep g w _ _).inv_int;have h3:=(hv▸hr v (by simp [Op.operands]):Rep g w _ _).inv_int;obtain ⟨hg,hheap⟩:(HO.obj b (aJ es)).ok g w:=hHK.ok _ (Ak hH);have hrun:=qE (v:=x) hT ht hk htk hkk hheap hnew;unfold Oper.wp;simp only [execOp,Sem.run_bind,h1,h2,h3,hrun,Result.andThen_ok,Sem.run_pure];obtain ⟨hnew',hoth,hx⟩:=fP (aJ (es ++ [(n,x)])) hg hheap;exact hn g _ undef .junk _ ⟨rfl,rfl⟩ (.junk _) (hHK.set hx hH (fun c hc=>.inl hc) ⟨hg,hnew'⟩ (fun c hc hne _=>⟨rfl,hoth c fun e=>hne (by rw [e];rfl)⟩)) hx
@[reducible] def itO (b n : Nat) (seen : Array Nat) : Obj := .mapIter (some b) n seen n
theorem oK {t:TypeId}{x:Operand}{kt et b i:Nat}{td:TD}{es:List (Int×Int)}{H:List HO}(hT:Kh P T)(ht:Bt T t=some td)(hk:td.kind = .map kt et)(hx:ρ x = .val (.map (some b)))(hH:H[i]? = some (.obj b (aJ es))) :
  Od P ⟨d,.range t x,ty,pos,aft,gd⟩ ρ H (fun y H'=>∃it,y = .val (.pointer (some ⟨it,0,none⟩))/\H' = .obj it (itO b es.length #[])::H):=by
 intro g w a next Q hr hHK hn
 have h1:=(hx▸hr x (by simp [Op.operands]):Rep g w _ _).inv_val;obtain ⟨hg,hheap⟩:(HO.obj b (aJ es)).ok g w:=hHK.ok _ (Ak hH);have hrun:=run_range_map w t kt et b (bL 0 es).toArray es.length (Ta (hT t td ht) hk) hheap;unfold Oper.wp;simp only [execOp,h1,hrun,Sem.run_bind,Result.andThen_ok,Sem.run_pure];have hxx:=Ext.alloc g w (itO b es.length #[]) (some 0);refine hn (g.put w.heap.size (some 0)) _ _ _ _ ⟨w.heap.size,rfl,rfl⟩ (.val _) ((hHK.alloc _ (some 0)).cons ⟨Gh.Aao _ _ _,Db w _⟩ ?_) hxx;intro b hb x hx' hb';simp only [HO.blk,Option.some.injEq] at hb;have:=(HO.ok_lt (hHK.ok x hx') hb').1;omega
theorem rep_tup3 {g:Gh}{w:World}{b:Bool}{m n:Int}:Rep g w (.tuple #[.bool b,.int .i64 m,.int .i64 n]) (.tuple [.bool b,.int .i64 m,.int .i64 n]):=.tuple _ _ rfl fun j z hj=>by
 match j,hj with
 | 0,hj=>cases hj;exact .bool _
 | 1,hj=>cases hj;exact .int _ _
 | 2,hj=>cases hj;exact .int _ _
 | j+3,hj=>simp at hj
theorem rep_tup2 {g:Gh}{w:World}{m n:Int}:Rep g w (.tuple #[.int .i64 m,.int .i64 n]) (.tuple [.int .i64 m,.int .i64 n]):=.tuple _ _ rfl fun j z hj=>by
 match j,hj with
 | 0,hj=>cases hj;exact .int _ _
 | 1,hj=>cases hj;exact .int _ _
 | j+2,hj=>simp at hj
theorem rep_tup1 {g:Gh}{w:World}{b:Bool}:Rep g w (.tuple #[.bool b]) (.tuple [.bool b]):=.tuple _ _ rfl fun j z hj=>by
 match j,hj with
 | 0,hj=>cases hj;exact .bool _
 | j+1,hj=>simp at hj
theorem E_imNext {x:Operand}{b it i j n:Nat}{es:List (Int×Int)}{seen:Array Nat}{H:List HO}(hx:ρ x = .val (.pointer (some ⟨it,0,none⟩)))(hI:H[i]? = some (.obj it (itO b n seen)))(hH:H[j]? = some (.obj b (aJ es)))(hn:n=es.length) :
    Od P ⟨d,.next x false,ty,pos,aft,gd⟩ ρ H (fun y H'=>(y = .tuple [.bool false]/\H'=H/\∀k,k<es.length->seen.contains k=true)\/
      ∃k p,es[k]? = some p/\seen.contains k=false/\y = .tuple [.bool true,.int .i64 p.1,.int .i64 p.2]/\H'=H.set i (.obj it (itO b n (seen.push k)))):=by
  subst hn;intro g w a next Q hr hHK hn
  have h1:=(hx▸hr x (by simp [Op.operands]):Rep g w _ _).inv_val;obtain ⟨hg,hheap⟩:(HO.obj b (aJ es)).ok g w:=hHK.ok _ (Ak hH);obtain ⟨hgi,hit⟩:(HO.obj it (itO b es.length seen)).ok g w:=hHK.ok _ (Ak hI)
  have hold:∀x∈(bL 0 es).toArray.toList,x.born<es.length:=fun x hx=>by
    obtain ⟨p,hp,_⟩:=imE_mem (by simpa using hx);exact (List.getElem?_eq_some_iff.1 hp).1
  unfold Oper.wp;rcases run_next_at (P:=P) w ty it b es.length es.length seen (bL 0 es).toArray es.length hit hheap hold (Be _) with ⟨h0,hrun⟩ | ⟨e,he,w1,hal,hrun⟩
  . simp only [execOp,h1,hrun,Sem.run_bind,Result.andThen_ok,Sem.run_pure]
    refine hn g w _ _ H (.inl ⟨rfl,rfl,fun k hk=>?_⟩) rep_tup1 hHK (Ext.refl g w);cases hc:seen.contains k with
    | true=>rfl
    | false=>
      have hm:=imE_at (List.getElem?_eq_getElem hk)
      have:(⟨.int .i64 es[k].1,.int .i64 es[k].2,k⟩:MapEntry)∈leftOf (bL 0 es).toArray seen:=by
        unfold leftOf;rw [Array.mem_filter];exact ⟨by simpa using hm,by rw [hc];rfl⟩
      rw [Array.eq_empty_of_size_eq_zero h0] at this;simp at this
  . obtain ⟨h3,h4⟩:=mem_left he
    obtain ⟨p,hp,hk,hv⟩:=imE_mem (by simpa using h3);have hw1:w1.heap=w.heap:=by rcases hal with h | h <;> rw [h] <;> rfl
    have hx1:Ext g w g w1:=by
      rcases hal with h | h
      . rw [h];exact Ext.refl g w
      rw [h];exact Ext.drew g w
    have hH1:HOK g w1 H:=hHK.of_same hx1 fun o ho b hb=>⟨rfl,by rw [hw1]⟩
    simp only [execOp,h1,hrun,Sem.run_bind,Result.andThen_ok,Sem.run_pure,hk,hv];obtain ⟨hnew',hoth,hx2⟩:=fP (w:=w1) (itO b es.length (seen.push e.born)) hgi (by rw [hw1];exact hit);exact hn g _ _ _ _ (.inr ⟨e.born,p,hp,h4,rfl,rfl⟩) rep_tup3 (hH1.set hx2 hI (fun c hc=>.inl hc) ⟨hgi,hnew'⟩ (fun c hc hne _=>⟨rfl,hoth c fun e=>hne (by rw [e];rfl)⟩)) (hx1.trans hx2)
theorem oM {x:Operand}{b it i j n k:Nat}{es:List (Int×Int)}{seen:Array Nat}{p:Int×Int}(hx:ρ x = .val (.pointer (some ⟨it,0,none⟩)))(hn:n=es.length)(hp:es[k]? = some p) :
  D1 P ⟨d,.entry x,ty,pos,aft,gd⟩ ρ (fun H=>(H[i]?,H[j]?)=(some (.obj it (itO b n (seen.push k))),some (.obj b (aJ es)))) (.tuple [.int .i64 p.1,.int .i64 p.2]):=by
 subst hn;intro g w a H next Q hr hHK hH hn
 have hH:H[i]? = some (.obj it (itO b es.length (seen.push k)))/\H[j]? = some (.obj b (aJ es)):=Prod.mk.inj hH;have h1:=(hx▸hr x (by simp [Op.operands]):Rep g w _ _).inv_val;obtain ⟨hg,hheap⟩:(HO.obj b (aJ es)).ok g w:=hHK.ok _ (Ak hH.2);obtain ⟨hgi,hit⟩:(HO.obj it (itO b es.length (seen.push k))).ok g w:=hHK.ok _ (Ak hH.1);have hrun:=run_entry_at (P:=P) w it b es.length seen (bL 0 es).toArray es.length ⟨.int .i64 p.1,.int .i64 p.2,k⟩ hit hheap (by simpa using imE_at hp) (by simpa using imE_nodup es);unfold Oper.wp;simp only [execOp,h1,hrun,Sem.run_bind,Result.andThen_ok,Sem.run_pure];exact hn g w _ rep_tup2 hHK (Ext.refl g w)
end
theorem AW.mapNext {P:Program}{id:Nat}{Q:Exit->St->Prop}{s:St}{x:Operand}{d e it b n i j:Nat}{ty ty2:TypeId}{pos pos2:String}{a1 a2:Array Edge}{es:List (Int×Int)}{seen:Array Nat}
  (hx:Gi s.sl x = .val (.pointer (some ⟨it,0,none⟩))) (hI:s.H[i]? = some (.obj it (itO b n seen))) (hH:s.H[j]? = some (.obj b (aJ es))) (hn:n=es.length) (hd:O9 (some d) s.n=true) (he:O9 (some e) s.n=true)
  (h1:(∀k,k<es.length->seen.contains k=true)->Q .normal ⟨Fe (some e) (.bool false) (Fe (some d) (.tuple [.bool false]) s.sl),s.H,s.n⟩)
  (h2:∀k p,es[k]? = some p->seen.contains k=false->Q .normal ⟨Fe (some e) (.bool true) (Fe (some d) (.tuple [.bool true,.int .i64 p.1,.int .i64 p.2]) s.sl),s.H.set i (.obj it (itO b n (seen.push k))),s.n⟩) :
  AW P (.region id #[⟨some d,.next x false,ty,pos,a1,none⟩,⟨some e,.extract (.tmp d) 0,ty2,pos2,a2,none⟩] false) Q s:=by
 refine AW.region (AOL.e (E_imNext hx hI hH hn) hd fun y H' hy=>?_)
 have hg:∀y:AV,Gi (Fe (some d) y s.sl) (.tmp d)=y:=fun y=>by
  show get ((d,y)::s.sl) d=y;rw [Jc,if_pos rfl]
 rcases hy with ⟨e1,e2,h⟩ | ⟨k,p,hp,hk,e1,e2⟩
 .
  rw [e1,e2];exact AOL.p (Bm (hg _) rfl) he (AOL.nil (h1 h))
 rw [e1,e2];exact AOL.p (Bm (hg _) rfl) he (AOL.nil (h2 k p hp hk))
def xE (n:Nat)(seen:Array Nat):Nat:=((List.range n).filter fun i=>!seen.contains i).length
theorem lU {n k:Nat}{seen:Array Nat}(hk:k<n)(hs:seen.contains k=false):xE n (seen.push k)<xE n seen:=by
 unfold xE;refine filter_lt (fun i=>!seen.contains i) (fun i=>!(seen.push k).contains i) (fun x hx=>?_) k (by simp only [hs];rfl) (by rw [contains_push];simp) (List.range n) (by simpa using hk);rw [contains_push] at hx;cases hc:seen.contains x with
 | false=>rfl
 | true=>rw [hc] at hx;exact absurd hx (by simp)
theorem Us {seen:Array Nat}{k i:Nat}:(seen.push k).contains i=true↔seen.contains i=true\/i=k:=by rw [contains_push];simp
theorem HO.im_ok {g:Gh}{w:World}{b:Nat}{es:List (Int×Int)}(h:(HO.obj b (aJ es)).ok g w):(HO.mapo b (imA es)).ok g w:=by
 obtain ⟨hg,hh⟩:=h;refine ⟨hg,(bL 0 es).toArray,es.length,hh,by simp [sZ,imA],fun i k x hi=>?_,fun i k x hi=>?_⟩
 .
  have:=(sY hi).1;simpa [E7,Dm] using this
 obtain ⟨_,v,rfl,hv⟩:=sY hi;have:((bL 0 es).toArray.getD i default).val = .int .i64 v:=by simpa [E7,Dm] using hv
 rw [this];exact .int _ _
theorem GS.imAbs {sl:List (Nat×AV)}{H H2:List HO}{n b:Nat}{es:List (Int×Int)}(k:Nat)(hk:H[k]? = some (.obj b (aJ es)))(hH2:H.set k (.mapo b (imA es))=H2):GS ⟨sl,H,n⟩ ⟨sl,H2,n⟩:=fun g a w hG=>by
 subst hH2;refine ⟨g,⟨hG.size,hG.defers,hG.sl,?_⟩,Ext.refl g w⟩;exact hG.heap.set (Ext.refl g w) hk (fun c hc=>.inl hc) (HO.im_ok (hG.heap.ok _ (Ak hk))) fun c hc hne _=>⟨rfl,rfl⟩
end Go.Aw
namespace Go.Proofs.YtibcelnfkhdjaaaGreatDoor
open Go Go.Aw
def opsI:List (Int×Int):=[(5,0),(6,1),(7,2),(8,3),(9,4),(10,5),(11,6),(12,7)]
theorem rz_ops (H:List HO):Cc Tryz.prog 94 H [] (fun r H'=>∃b,r = .val (.map (some b))/\H' = .obj b (aJ opsI)::H):=by
 refine Jz 3 Tryz.func94 rfl ?_;refine Ab (Qp Tm (Cf (Qe (uU) ?_)));rintro _ _ ⟨b1,rfl,rfl⟩;refine Rt (Sy (i:=0) (H2:=_::_) tok rfl rfl rfl rfl rfl rfl rfl rfl (rfl) rfl) (Rt (Sy (i:=0) (H2:=_::_) tok rfl rfl rfl rfl rfl rfl rfl rfl (rfl) rfl) (Rt (Sy (i:=0) (H2:=_::_) tok rfl rfl rfl rfl rfl rfl rfl rfl (rfl) rfl) (Rt (Sy (i:=0) (H2:=_::_) tok rfl rfl rfl rfl rfl rfl rfl rfl (rfl) rfl) (Rt (Sy (i:=0) (H2:=_::_) tok rfl rfl rfl rfl rfl rfl rfl rfl (rfl) rfl) (Rt (Sy (i:=0) (H2:=_::_) tok rfl rfl rfl rfl rfl rfl rfl rfl (rfl) rfl) (Rt (Sy (i:=0) (H2:=_::_) tok rfl rfl rfl rfl rfl rfl rfl rfl (rfl) rfl) (Rt (Sy (i:=0) (H2:=_::_) tok rfl rfl rfl rfl rfl rfl rfl rfl (rfl) rfl) (Qp B3 (Qp Tm (Rb ?_))))))))));refine ⟨.inr rfl,[.val _],Ze,_,S0,?_⟩;exact ⟨b1,rfl,rfl⟩
def ShN (T:List e8Sc)(V:List Va)(x:Pt):Prop:=(0<=x.op/\x.op<8)/\(Sx x=true->(0<=x.type/\x.type<(T.length:Int))/\(0<=x.var/\x.var<(V.length:Int)))/\(Wl x=true->Ef x.cond<=1048576/\Ip x.cond=0/\Tt T V x.cond=true)
theorem nd_kid {p a x:Pt}(h:a∈p.args)(hx:x∈H1 a):x∈H1 p:=by rw [Ox];exact Gs _ (List.mem_flatMap.2 ⟨a,h,hx⟩)
theorem tO {k:Nat}{q:Int×Int}(h:opsI[k]? = some q):q.1=(k:Int)+5/\q.2=(k:Int)/\k<8:=by
 match k,h with
 | 0,h=>cases h;exact ⟨rfl,rfl,by decide⟩
 | 1,h=>cases h;exact ⟨rfl,rfl,by decide⟩
 | 2,h=>cases h;exact ⟨rfl,rfl,by decide⟩
 | 3,h=>cases h;exact ⟨rfl,rfl,by decide⟩
 | 4,h=>cases h;exact ⟨rfl,rfl,by decide⟩
 | 5,h=>cases h;exact ⟨rfl,rfl,by decide⟩
 | 6,h=>cases h;exact ⟨rfl,rfl,by decide⟩
 | 7,h=>cases h;exact ⟨rfl,rfl,by decide⟩
 | k+8,h=>cases h
def kdS (o:Int)(seen:Array Nat):Int:=if seen.contains o.toNat then o+5 else 0
theorem kd_0 (o:Int):(0:Int)=kdS o #[]:=by unfold kdS;rw [if_neg (by simp)]
theorem kd_T {o:Int}{seen:Array Nat}{k:Nat}{q:Int×Int}(h0:0<=o)(h:opsI[k]? = some q)(he:(q.2==o)=true):q.1=kdS o (seen.push k):=by
 obtain ⟨h1,h2,_⟩:=tO h;have h3:q.2=o:=by simpa using he
 unfold kdS;rw [if_pos (Us.2 (.inr (by omega)))];omega
theorem kd_F {o z:Int}{seen:Array Nat}{k:Nat}{q:Int×Int}(h0:0<=o)(h:opsI[k]? = some q)(he:(q.2==o)=false)(hz:z=kdS o seen):z=kdS o (seen.push k):=by
 obtain ⟨h1,h2,_⟩:=tO h;have h3:q.2≠o:=by simpa using he
 rw [hz];unfold kdS
 have:(seen.push k).contains o.toNat=seen.contains o.toNat:=by
  rw [Bool.eq_iff_iff,Us];exact ⟨fun h=>h.elim id fun h=>by omega,.inl⟩
 rw [this]
theorem kd_all {o z:Int}{seen:Array Nat}(h0:0<=o/\o<8)(h:∀k,k<opsI.length->seen.contains k=true)(hz:z=kdS o seen):z=o+5:=by
 rw [hz];unfold kdS;rw [if_pos (h _ (by show _<8;omega))]
theorem shP_0 {T:List e8Sc}{V:List Va}{p:Pt}(h:(p.op==0)=true):Oa T V p=Wm T V p:=by rw [Oz];exact if_pos h
theorem shP_n {T:List e8Sc}{V:List Va}{p:Pt}(h:(p.op==0)=false):Oa T V p=⟨p.op+5,[],[],if (p.op==6) then p.span else 0,p.args.map (Oa T V)++(if (p.op==5) then [Wm T V p] else if (p.op==7) then [Pa T V p.cond] else []),0⟩:=by rw [Oz];exact Bu h
section
variable {T:List e8Sc} {V:List Va} {p:Pt}
theorem sp_5 (h0:(p.op==0)=false)(h:(p.op==5)=true):Oa T V p=⟨p.op+5,[],[],0,p.args.map (Oa T V) ++ [Wm T V p],0⟩:=by
 have h6:(p.op==6)=false:=by simp at h ⊢;omega
 rw [shP_n h0,h6,h];rfl
theorem sp_6 (h0:(p.op==0)=false)(h5:(p.op==5)=false)(h:(p.op==6)=true):Oa T V p=⟨p.op+5,[],[],p.span,p.args.map (Oa T V) ++ [],0⟩:=by
 have h7:(p.op==7)=false:=by simp at h ⊢;omega
 rw [shP_n h0,h5,h,h7];rfl
theorem sp_7 (h0:(p.op==0)=false)(h5:(p.op==5)=false)(h6:(p.op==6)=false)(h:(p.op==7)=true):Oa T V p=⟨p.op+5,[],[],0,p.args.map (Oa T V) ++ [Pa T V p.cond],0⟩:=by
 rw [shP_n h0,h5,h6,h];rfl
theorem sp_x (h0:(p.op==0)=false)(h5:(p.op==5)=false)(h6:(p.op==6)=false)(h:(p.op==7)=false):Oa T V p=⟨p.op+5,[],[],0,p.args.map (Oa T V) ++ [],0⟩:=by
 rw [shP_n h0,h5,h6,h];rfl
theorem pt_enc (l:List Pt)(x:Syn):(l.map (Oa T V) ++ [x]).map Df=l.map (fun a=>cSyn (Oa T V a)) ++ [cSyn x]:=by
 rw [Di,Hd,X6,Bi];exact congrArg (· ++ _) (Kw fun a _=>Bi _)
theorem pt_enc0 (l:List Pt):(l.map (Oa T V) ++ []).map Df=l.map (fun a=>cSyn (Oa T V a)):=by
 rw [A1,Hd];exact Kw fun a _=>Bi _
end
theorem rz_pattern (T:List e8Sc)(V:List Va)(hrv:RvOK T V)(hsn:∀s∈T,fO s)(p:Pt)(hp:∀x∈H1 p,ShN T V x)(hpn:L2 p<=1048576):Au Tryz.prog 61 [.agg (cNm T V),.agg (cPt p)] (.agg (cSyn (Oa T V p))):=by
 induction p using Pt.ind
 rename_i p ih;have hal:=Vt p;have hme:=hp p (Vn p);have hop:=hme.1;refine G3 75 Tryz.func61 rfl fun H=>?_
 refine Ab (Qp (Ji [_,_]) (Qp (Ji Hp) ?_));refine E8 Kb fun b4=>?_
 refine A7 (Cj (Qp (Qf Hp) (Qp B7 (Qp Bv (Br (fun hc1=>?_) fun hc1=>B8 (Ab ?_))))))
 .
  have ho:p.op=0:=by simpa using hc1
  have htv:=hme.2.1 (by unfold Sx;rw [ho];rfl);have hcd:=hme.2.2 (by unfold Wl;rw [ho];rfl);refine Ab (Qp (C8 [_,_]) (Qp (C8 Hp) (Qp (Qc rfl (yU T V hrv hsn p hcd.1 hcd.2.1 hcd.2.2 htv.1 htv.2)) ?_)));refine B4 0 Aj (_::_) (Rc ?_);refine Yx [.agg Aj] (Zb 0) S1 ?_;exact Ye (fun q:Syn=>AV.agg (cSyn q)) (shP_0 hc1)
 refine Qp (Kj (l0:=[.int .i64 0,.str [],.str [],.int .i64 0,.val (.slice none 0 0),.int .i64 0]) (l:=Aj) tok rfl rfl (by kernel_rfl) rfl) ?_;refine E8 Kb fun b5=>?_
 refine B4 0 Aj (_::_::_) (A7 (Cj (Qe (D2 rfl (rz_ops _)) ?_)));rintro _ _ ⟨b17,rfl,rfl⟩;refine Qe (oK (i:=0) tok rfl rfl rfl rfl) ?_;rintro _ _ ⟨i18,rfl,rfl⟩;refine A7 (AW.block ?_);refine AW.Aan (fun (z:Int×Array Nat)=>(⟨[(2,.ptr (cNm T V)),(3,.ptr (cPt p)),(4,.val (.pointer (some ⟨b4,0,none⟩))),(5,.val (.pointer (some ⟨b5,0,none⟩))),(18,.val (.pointer (some ⟨i18,0,none⟩)))],.obj i18 (itO b17 8 z.2) :: .obj b17 (aJ opsI) :: .box b5 25 [.int .i64 z.1,.str [],.str [],.int .i64 0,.val (.slice none 0 0),.int .i64 0] :: .box b4 25 Kb::H,75⟩:St)) (fun z=>z.1=kdS p.op z.2) (fun z=>xE 8 z.2) ((0,#[])) ?_ Dp ?_
 . exact kd_0 _
 rintro z hR;refine AW.seq (AW.mapNext (i:=0) (j:=1) rfl rfl rfl rfl rfl rfl ?_ ?_)
 .
  intro hov5;obtain ⟨z1,z2⟩:=z;have hkd:z1=p.op+5:=kd_all hop hov5 hR;subst hkd;refine Ap (AW.seq (Hs (fun hc2=>?_) fun hc2=>AW.exit ?_))
  . exact absurd (hc2.symm.trans rfl) (by decide)
  refine B9 (Ri (AW.seq (AW.seq ?_)));refine AW.ghost (GS.cellRow 2 4 25 6 rfl rfl rfl rfl) ?_
  skip
  refine AW.region (Qp (Qf ggx) (Qp Eg ?_));refine Qp (G6 p.args.length rfl rfl (by simp)) ?_;refine Qp Ax (A7 (AW.block ?_));refine AW.Aan (fun (q:Nat×List (List AV)×Value)=>(⟨[(2,.ptr (cNm T V)),(3,.ptr (cPt p)),(4,.val (.pointer (some ⟨b4,0,none⟩))),(5,.val (.pointer (some ⟨b5,0,none⟩))),(31,.sl 14 (p.args.map Xa)),(32,.int .i64 p.args.length),(33,.int .i64 (q.1:Int))],.row q.2.2 q.2.1.length 25 6 :: .obj i18 (itO b17 8 z2) :: .obj b17 (aJ opsI) :: .box b5 25 [.int .i64 (p.op+5),.str [],.str [],.int .i64 0,.row q.2.2 6 q.2.1,.int .i64 0] :: .box b4 25 Kb::H,75⟩:St)) (fun q=>q.1<=p.args.length/\q.2.1=(p.args.take q.1).map (fun a=>cSyn (Oa T V a))/\q.2.1.length<=q.1) (fun q=>p.args.length-q.1) ((0,[],.slice none 0 0)) ?_ Dp ?_
  . exact ⟨Bk _,rfl,Be _⟩
  rintro q hR;refine Ab (Qp C5 (Re (Hs (fun hc3=>?_) fun hc3=>?_)))
  .
   obtain ⟨a,ha⟩:=De hc3;have hlt:=Ch ha;have hm:=Ak ha;have hsc:∀c∈q.2.1,Av c=true:=by rw [hR.2.1];exact fun c hc=>by obtain ⟨x,_,rfl⟩:=Cd.1 hc;rfl
   have hql:=hR.2.2;refine B8 (AW.seq (AW.block (Ab ?_)));refine Qp (F5 Hp rfl rfl (by omega) (gW ha)) ?_;refine Qp (C8 Hp) (E8 ggz fun b9=>?_);refine B4 0 Hp (_::_::_::_::_::_::_) ?_;refine Me 9 0 rfl ?_;refine A7 (T6 3 rfl (Qn 0 rfl Dg (Qn 1 rfl (Nc (.row _ _ _) rfl) (Qn 2 rfl (C8 [_,_]) (Qn 3 rfl (C8 Hp) ?_)))));refine Qn 4 rfl (Qc rfl (ih a hm (fun x hx=>hp x (nd_kid hm hx)) (by have:=Rw hm;omega))) ?_;refine Qn 5 rfl (Kf [Aj] rfl) ?_;refine aB 6 rfl (Zq 0 rfl (Ff rfl) (hsc) (by simp;omega) (by simp [maxLen];omega)) (by rintro _ _ ⟨v43,rfl,rfl⟩;simp) ?_;rintro _ _ ⟨v43,rfl,rfl⟩;refine Qn 7 rfl Dg ?_;refine iR 8 rfl (Mf 3 (.row _ _ _) Aj (_::_::_::_::_::_) rfl) ?_;rintro _ _ ⟨rfl,rfl⟩;refine Km (Ap (AW.region (Qp Ii (Qp Ax (A7 ?_)))));refine ⟨(q.1+1,q.2.1 ++ [cSyn (Oa T V a)],v43),?_,?_,Dp⟩
   . exact ⟨hlt,by simp only;rw [El ha,hR.2.1];simp,by simp;omega⟩
   simp only;omega
  have hte:=F1 hc3;have hall:=hR.2.1;rw [hte] at hall;have hsc:∀c∈q.2.1,Av c=true:=by rw [hR.2.1];exact fun c hc=>by obtain ⟨x,_,rfl⟩:=Cd.1 hc;rfl
  have hql:=hR.2.2;refine AW.exit ?_;refine B9 (Ri (Cj (Qp (Qf Hp) (Qp B7 (A7 (AW.block ?_))))));refine Ab (Qp Bv (Qp Bl (Br (fun hc4=>?_) fun hc4=>Ab (Qp Bv (Qp Bl (Br (fun hc5=>AW.region (Qp (Qf gkx) (Qp B7 (Qp Dg ?_)))) fun hc5=>Ab (Qp Bv (Qp Bl (Br (fun hc6=>?_) fun hc6=>Rf (Ab ?_))))))))))
  .
   have ho:p.op=5:=by simpa using hc4
   have htv:=hme.2.1 (by unfold Sx;rw [ho];rfl);have hcd:=hme.2.2 (by unfold Wl;rw [ho];rfl);refine T6 3 rfl (Qn 0 rfl Dg (Qn 1 rfl (Nc (.row _ _ _) rfl) (Qn 2 rfl (C8 [_,_]) (Qn 3 rfl (C8 Hp) (Qn 4 rfl (Qc rfl (yU T V hrv hsn p hcd.1 hcd.2.1 hcd.2.2 htv.1 htv.2)) (Qn 5 rfl (Kf [Aj] rfl) ?_))))));refine aB 6 rfl (Zq 0 rfl (Ff rfl) (hsc) (by simp;omega) (by simp [maxLen];omega)) (by rintro _ _ ⟨v56,rfl,rfl⟩;simp) ?_;rintro _ _ ⟨v56,rfl,rfl⟩;refine Qn 7 rfl Dg ?_;refine iR 8 rfl (Mf 3 (.row _ _ _) Aj (_::_::_::_::_::_) rfl) ?_;rintro _ _ ⟨rfl,rfl⟩;refine Km (Ap (Ab ?_));refine AOL.ghost (GS.cell (H2:=_::_::_::_::_::_) 3 4 rfl rfl rfl rfl Fg) ?_;refine Tn 3 Aj rfl ?_;refine B4 4 Aj (_::_::_::_::_::_) (Rb ?_);refine Yx [.agg Aj] (Zb 4) S5 ?_;exact Eq.trans (congrArg (fun l:List (List AV)=>AV.agg [.int .i64 (p.op+5),.str [],.str [],.int .i64 (0),.sl 6 l,.int .i64 0]) (Eq.trans (congrArg (· ++ [cSyn (Wm T V p)]) hall) (pt_enc p.args (Wm T V p)).symm)) (congrArg (fun q:Syn=>AV.agg (cSyn q)) (sp_5 hc1 hc4)).symm
  .
   refine B4 3 Aj (_::_::_::_::_::_) (Rk (Ab ?_));refine AOL.ghost (GS.cell (H2:=_::_::_::_::_::_) 3 4 rfl rfl rfl rfl Fg) ?_;refine Tn 3 Aj rfl ?_;refine B4 4 Aj (_::_::_::_::_::_) (Rb ?_);refine Yx [.agg Aj] (Zb 4) S5 ?_;exact Eq.trans (congrArg (fun l:List (List AV)=>AV.agg [.int .i64 (p.op+5),.str [],.str [],.int .i64 (p.span),.sl 6 l,.int .i64 0]) (Eq.trans hall (pt_enc0 p.args).symm)) (congrArg (fun q:Syn=>AV.agg (cSyn q)) (sp_6 hc1 hc4 hc5)).symm
  .
   have ho:p.op=7:=by simpa using hc6
   have hcd:=hme.2.2 (by unfold Wl;rw [ho];rfl);refine T6 3 rfl (Qn 0 rfl Dg (Qn 1 rfl (Nc (.row _ _ _) rfl) (Qn 2 rfl (C8 [_,_]) (Qn 3 rfl jY (Qn 4 rfl Ws (Qn 5 rfl (Qc rfl (rf_shE T V hrv hsn p.cond hcd.1 hcd.2.1 hcd.2.2)) (Qn 6 rfl (Kf [Aj] rfl) ?_)))))));refine aB 7 rfl (Zq 0 rfl (Ff rfl) (hsc) (by simp;omega) (by simp [maxLen];omega)) (by rintro _ _ ⟨v72,rfl,rfl⟩;simp) ?_;rintro _ _ ⟨v72,rfl,rfl⟩;refine Qn 8 rfl Dg ?_;refine iR 9 rfl (Mf 3 (.row _ _ _) Aj (_::_::_::_::_::_) rfl) ?_;rintro _ _ ⟨rfl,rfl⟩;refine Km (Ap (Ab ?_));refine AOL.ghost (GS.cell (H2:=_::_::_::_::_::_) 3 4 rfl rfl rfl rfl Fg) ?_;refine Tn 3 Aj rfl ?_;refine B4 4 Aj (_::_::_::_::_::_) (Rb ?_);refine Yx [.agg Aj] (Zb 4) S5 ?_;exact Eq.trans (congrArg (fun l:List (List AV)=>AV.agg [.int .i64 (p.op+5),.str [],.str [],.int .i64 (0),.sl 6 l,.int .i64 0]) (Eq.trans (congrArg (· ++ [cSyn (Pa T V p.cond)]) hall) (pt_enc p.args (Pa T V p.cond)).symm)) (congrArg (fun q:Syn=>AV.agg (cSyn q)) (sp_7 hc1 hc4 hc5 hc6)).symm
  refine AOL.ghost (GS.cell (H2:=_::_::_::_::_::_) 3 4 rfl rfl rfl rfl Fg) ?_;refine Tn 3 Aj rfl ?_;refine B4 4 Aj (_::_::_::_::_::_) (Rb ?_);refine Yx [.agg Aj] (Zb 4) S5 ?_;exact Eq.trans (congrArg (fun l:List (List AV)=>AV.agg [.int .i64 (p.op+5),.str [],.str [],.int .i64 (0),.sl 6 l,.int .i64 0]) (Eq.trans hall (pt_enc0 p.args).symm)) (congrArg (fun q:Syn=>AV.agg (cSyn q)) (sp_x hc1 hc4 hc5 hc6)).symm
 intro mk5 mp5 hmp5 hmk5;refine Ap (AW.seq (Hs (fun hc7=>B8 (AW.block (Ab (AOL.Aaq (oM (i:=0) (j:=1) rfl rfl hmp5) rfl rfl (Qp Wt (Qp Wt (Qp A3 (Qp A3 (Cf (Qp Ax (Qp (Qf Hp) (Qp B7 (Qp Bv (Br (fun hc8=>AW.region (Qp Ax (Qp Dg ?_))) fun hc8=>Rf ?_)))))))))))))) fun hc7=>?_))
 .
  refine B4 2 Aj (_::_::_::_::_) (Rk ?_);refine ⟨(mp5.1,z.2.push mk5),?_,?_,Dp⟩
  . exact kd_T hop.1 hmp5 hc8
  exact lU (tO hmp5).2.2 hmk5
 .
  refine ⟨(z.1,z.2.push mk5),?_,?_,Dp⟩
  . exact kd_F hop.1 hmp5 hc8 hR
  exact lU (tO hmp5).2.2 hmk5
 exact absurd (hc7.symm.trans rfl) (by decide)
def aQ (p:Pt):List (Int×Int):=if Sx p then [(p.var,p.type)] else []
theorem uH (p:Pt):L3 p=aQ p++p.args.flatMap L3:=tyP_eq p
def KN (L:List (Int×Int)):Prop:=(L.map (·.1)).Nodup
def TyM (L es:List (Int×Int)):Prop:=KN es/\∀x,x∈es↔x∈L
theorem xA {p a:Pt}{k:Nat}(ha:p.args[k]? = some a):L3 p=((aQ p++(p.args.take k).flatMap L3)++L3 a)++(p.args.drop (k+1)).flatMap L3:=by
 have e:p.args=p.args.take k++a::p.args.drop (k+1):=by rw [<-A4 ha,gH]
 rw [uH,C4,C4];exact congrArg (aQ p ++ ·) ((congrArg (fun l=>l.flatMap L3) e).trans (by rw [List.flatMap_append,J9]))
theorem kn_part {p a:Pt}{k:Nat}(h:KN (L3 p))(ha:p.args[k]? = some a):KN ((aQ p++(p.args.take k).flatMap L3)++L3 a):=by
 unfold KN at h ⊢;rw [xA ha,Di] at h;exact (Ih.1 h).1
theorem kn_arg {p a:Pt}(h:KN (L3 p))(hm:a∈p.args):KN (L3 a):=by
 obtain ⟨k,hk⟩:=Fh.1 hm;have h1:=kn_part h hk;unfold KN at h1 ⊢;rw [Di] at h1;exact (Ih.1 h1).2.1
def InM (L es2 es:List (Int×Int))(seen:Array Nat):Prop:=KN es/\∀y,y∈es↔y∈L\/∃j,es2[j]? = some y/\seen.contains j=true
theorem ty_ne {L A es2 es:List (Int×Int)}{seen:Array Nat}{k:Nat}{x:Int×Int}(hn:KN (L++A))(h2:TyM A es2)(hz:InM L es2 es seen)(hx:es2[k]? = some x)(hk:seen.contains k=false):∀q∈es,q.1≠x.1:=by
 intro q hq he;rcases (hz.2 q).1 hq with hL | ⟨j,hj,hs⟩
 .
  unfold KN at hn;rw [Di] at hn;exact (Ih.1 hn).2.2 _ (Cd.2 ⟨q,hL,rfl⟩) _ (Cd.2 ⟨x,(h2.2 x).1 (Ak hx),rfl⟩) he
 have h3:(es2.map (·.1))[j]? = (es2.map (·.1))[k]? :=by rw [List.getElem?_map,List.getElem?_map,hj,hx];exact congrArg some he
 have hlt:j<(es2.map (·.1)).length:=by rw [Bg];exact (List.getElem?_eq_some_iff.1 hj).1
 have:=(List.getElem?_inj hlt h2.1).1 h3;subst this;rw [hs] at hk;cases hk
theorem ty_push {L es2 es:List (Int×Int)}{seen:Array Nat}{k:Nat}{x:Int×Int}(hz:InM L es2 es seen)(hx:es2[k]? = some x)(hne:∀q∈es,q.1≠x.1):InM L es2 (es ++ [(x.1,x.2)]) (seen.push k):=by
 refine ⟨?_,fun y=>?_⟩
 .
  unfold KN;rw [Di];refine Ih.2 ⟨hz.1,by simp,fun a ha b hb=>?_⟩;obtain ⟨q,hq,rfl⟩:=Cd.1 ha;rw [X6,D5] at hb;subst hb;exact hne q hq
 rw [G2,D5,hz.2 y]
 constructor
 .
  rintro ((h | ⟨j,h1,h2⟩) | h)
  . exact .inl h
  . exact .inr ⟨j,h1,Us.2 (.inl h2)⟩
  exact .inr ⟨k,by rw [h];exact hx,Us.2 (.inr rfl)⟩
 rintro (h | ⟨j,h1,h2⟩)
 . exact .inl (.inl h)
 rcases Us.1 h2 with h3 | h3
 . exact .inl (.inr ⟨j,h1,h3⟩)
 subst h3;rw [hx] at h1;exact .inr (Option.some.inj h1).symm
theorem ty_done {L A es2 es:List (Int×Int)}{seen:Array Nat}(h2:TyM A es2)(hz:InM L es2 es seen)(hall:∀k,k<es2.length->seen.contains k=true):TyM (L++A) es:=by
 refine ⟨hz.1,fun x=>?_⟩;rw [hz.2 x,G2,<-h2.2 x]
 constructor
 .
  rintro (h | ⟨j,h1,_⟩)
  . exact .inl h
  exact .inr (Ak h1)
 rintro (h | h)
 . exact .inl h
 obtain ⟨j,hj⟩:=Fh.1 h;exact .inr ⟨j,hj,hall j (List.getElem?_eq_some_iff.1 hj).1⟩
theorem ty_init {L es es2:List (Int×Int)}(h:TyM L es):InM L es2 es #[]:=⟨h.1,fun y=>by
 rw [h.2 y];exact ⟨.inl,fun q=>q.elim id fun ⟨j,_,h3⟩=>by simp at h3⟩⟩
theorem ty_own (p:Pt):TyM (aQ p++(p.args.take 0).flatMap L3) (aQ p):=by
 rw [List.take_zero,List.flatMap_nil,A1];refine ⟨?_,fun x=>Iff.rfl⟩;unfold KN aQ;split
 . simp
 exact O4
theorem ty_next {p a:Pt}{k:Nat}{es:List (Int×Int)}(ha:p.args[k]? = some a)(h:TyM ((aQ p++(p.args.take k).flatMap L3)++L3 a) es):TyM (aQ p++(p.args.take (k+1)).flatMap L3) es:=by
 rw [El ha,List.flatMap_append,List.flatMap_singleton,<-C4];exact h
theorem ty_end {p:Pt}{es:List (Int×Int)}(h:TyM (aQ p++p.args.flatMap L3) es):TyM (L3 p) es:=by rw [uH];exact h
theorem rz_typed (p:Pt)(hnd:KN (L3 p))(hpn:L2 p<=1048576)(H:List HO):Cc Tryz.prog 164 H [.agg (cPt p)] (fun r H'=>∃b es,r = .val (.map (some b))/\H' = .obj b (aJ es)::H/\TyM (L3 p) es):=by
 induction p using Pt.ind generalizing H
 rename_i p ih;have hal:=Vt p;refine Jz 42 Tryz.func164 rfl ?_;refine Ab (Qp (Ji Hp) (Qp Tm (Cf (Qe (uU) ?_))));rintro _ _ ⟨b8,rfl,rfl⟩;refine Qp Tm (A7 ?_);refine AW.Aat (fun (z0:List (Int×Int))=>(⟨[(1,.ptr (cPt p)),(3,.val (.map (some b8)))],.obj b8 (aJ z0)::H,42⟩:St)) (fun z0=>z0=aQ p) ?_ ?_
 .
  refine Ab (Qp (Qf Hp) (Qp B7 (Qp Bv (Qp Cw (Qg [] Qw (Qf Hp) (Qg [(13,_)] Qw B7 (Qg [(14,_)] Qw Bv (Qp G4 (Br (fun hc1=>AW.region (Qp B3 (Qp (Qf gix) (Qp B7 (Qp (Qf giz) (Qp B7 (Rt (E_imAdd (i:=0) (H2:=_::_) tok rfl rfl rfl rfl rfl rfl rfl rfl (rfl) rfl) (A7 ?_)))))))) fun hc1=>B8 ?_)))))))))
  .
   refine ⟨[(p.var,p.type)],?_,Dp⟩;exact (if_pos hc1).symm
  refine ⟨[],?_,Dp⟩;exact (Bu hc1).symm
 rintro z0 hz0;subst hz0;refine Cj (Qp (Qf ggx) (Qp Eg ?_));refine Qp (G6 p.args.length rfl rfl (by simp)) ?_;refine Qp Ax (A7 (AW.block ?_));refine AW.Aan (fun (q:Nat×List (Int×Int))=>(⟨[(1,.ptr (cPt p)),(3,.val (.map (some b8))),(23,.sl 14 (p.args.map Xa)),(24,.int .i64 p.args.length),(25,.int .i64 (q.1:Int))],.obj b8 (aJ q.2)::H,42⟩:St)) (fun q=>q.1<=p.args.length/\TyM (aQ p++(p.args.take q.1).flatMap L3) q.2) (fun q=>p.args.length-q.1) ((0,aQ p)) ?_ Dp ?_
 . exact ⟨Bk _,ty_own p⟩
 rintro q hR;refine Ab (Qp C5 (Re (Hs (fun hc2=>?_) fun hc2=>?_)))
 .
  obtain ⟨a,ha⟩:=De hc2;have hlt:=Ch ha;have hm:=Ak ha;refine B8 (AW.seq (AW.block (Ab ?_)));refine Qp (F5 Hp rfl rfl (by omega) (gW ha)) ?_;refine Qp (C8 Hp) (E8 ggz fun b5=>?_);refine B4 0 Hp (_::_::_) ?_;refine Me 5 0 rfl ?_;refine Cf (Qp (C8 Hp) ?_);refine Qe (D2 rfl (ih a hm (kn_arg hnd hm) (by have:=Rw hm;omega) _)) ?_;rintro _ _ ⟨b30,es30,rfl,rfl,hty30⟩;refine Qe (oK (i:=0) tok rfl rfl rfl rfl) ?_;rintro _ _ ⟨i31,rfl,rfl⟩;refine A7 (AW.block ?_);refine AW.Aan (fun (z:List (Int×Int)×Array Nat)=>(⟨[(1,.ptr (cPt p)),(3,.val (.map (some b8))),(23,.sl 14 (p.args.map Xa)),(24,.int .i64 p.args.length),(25,.int .i64 (q.1:Int)),(31,.val (.pointer (some ⟨i31,0,none⟩)))],.obj i31 (itO b30 es30.length z.2) :: .obj b30 (aJ es30) :: .obj b8 (aJ z.1)::H,42⟩:St)) (fun z=>InM (aQ p++(p.args.take q.1).flatMap L3) es30 z.1 z.2) (fun z=>xE es30.length z.2) ((q.2,#[])) ?_ Dp ?_
  . exact ty_init hR.2
  rintro z hz;refine AW.seq (AW.mapNext (i:=0) (j:=1) rfl rfl rfl rfl rfl rfl ?_ ?_)
  .
   intro hov8;have htd:=ty_done hty30 hz hov8;refine Ap (AW.seq (Hs (fun hc3=>?_) fun hc3=>AW.exit ?_))
   . exact absurd (hc3.symm.trans rfl) (by decide)
   refine B9 (B9 (W0 (Km (Ap (AW.region (Qp Ii (Qp Ax (A7 ?_))))))));refine ⟨(q.1+1,z.1),?_,?_,GS.weaken ⟨rfl,rfl,rfl,rfl,rfl,trivial⟩ (.cons _ (.cons _ (.refl _)))⟩
   . exact ⟨hlt,ty_next ha htd⟩
   simp only;omega
  intro mk8 mp8 hmp8 hmk8;have hnw:=ty_ne (kn_part hnd ha) hty30 hz hmp8 hmk8;refine Ap (AW.seq (Hs (fun hc4=>B8 (AW.block (Ab (AOL.Aaq (oM (i:=0) (j:=1) rfl rfl hmp8) rfl rfl (Qp Wt (Qp Wt (Qp A3 (Qp A3 (A7 (AW.region (Qp B3 (Qp Ax (Qp Ax (Rt (E_imAdd (i:=2) (H2:=_::_::_::_) tok rfl rfl rfl rfl rfl rfl rfl rfl (lN hnw) rfl) (Rk ?_))))))))))))))) fun hc4=>?_))
  .
   refine ⟨(z.1 ++ [(mp8.1,mp8.2)],z.2.push mk8),?_,?_,Dp⟩
   . exact ty_push hz hmp8 hnw
   exact lU (List.getElem?_eq_some_iff.1 hmp8).1 hmk8
  exact absurd (hc4.symm.trans rfl) (by decide)
 have hte:=F1 hc2;have hall:=hR.2;rw [hte] at hall;refine AW.exit ?_;refine B9 (Ri (Ab (Qp B3 (Qp Tm (Rb ?_)))));refine ⟨.inr rfl,[.val _],Ze,_,S0,?_⟩;exact ⟨b8,q.2,rfl,rfl,ty_end hall⟩
section
variable {P:Program} {T:List (Nat×TD)} {ρ:Operand->AV} {K:List HO->Prop} {d:Option Nat} {ty:TypeId} {pos:String} {aft:Array Edge} {gd:Option (Nat×Bool)}
theorem P_len_mapv {x:Operand}{t kt et n:Nat}{td:TD}{es:List (Int×AV)}(hT:Kh P T)(h:ρ x = .mapv es)(ht:Bt T t=some td)(hk:td.kind = .map kt et)(hn:es.length=n) :
    D1 P ⟨d,.call ⟨.builtin .len,#[x],#[t]⟩,ty,pos,aft,gd⟩ ρ K (.int .i64 n):=
  .of_run fun g w a hr=>by
    have h1:=(h▸hr x (by simp [Op.operands,Call.operands]):Rep g w _ _);have hu:=Ta (hT t td ht) hk;generalize he:a.eval x=vm at h1;cases h1 with
    | mapv b ms clock _ hg hb hheap hl hks hvs=>
      refine ⟨.int .i64 n,Lc ?_,.int _ _⟩;have hget:(getObj b).run P w = .ok (.map ms clock) w:=by simp [getObj,Sem.run,hheap]
      simp only [builtin,Builtin.len_,List.map_toArray,Ao,A0,he,Sem.run_bind];simp [Bh hu,goInt,hget,hl,hn]
end
theorem zY {L es:List (Int×Int)}(hL:KN L)(h:TyM L es):es.length=L.length:=by
 have h1:es.Nodup:=(List.pairwise_map.1 h.1).imp fun hne he=>hne (by rw [he])
 have h2:L.Nodup:=(List.pairwise_map.1 hL).imp fun hne he=>hne (by rw [he])
 exact ((List.perm_ext_iff_of_nodup h1 h2).2 h.2).length_eq
theorem ty_look {L es:List (Int×Int)}{k:Nat}{x:Int×Int}(h:TyM L es)(hx:L[k]? = some x)(hk:x.1=(k:Int)):aO (imA es) (k:Int)=some (.int .i64 (((L.map (·.2))[k]?).getD 0)):=by
 rw [tC,<-hk];have:(x.1,x.2)∈es:=(h.2 x).2 (Ak hx);rw [qD h.1 this,List.getElem?_map,hx];rfl
section
variable {T:List e8Sc} {L:List Int} {ks:List Ac} {k:Nat} {a:Va} {V:List Va} {e:Int}
theorem vr_no (ha:V[k]? = some a)(h:vrE T L ks k a=e)(he:e≠0):uL T L ks k (V.drop k)=e:=by
 rw [A4 ha,uL,if_pos (by rw [h];simpa using he),h]
theorem vr_on (ha:V[k]? = some a)(h:vrE T L ks k a=0):uL T L ks k (V.drop k)=uL T L (ks ++ [a.name]) (k+1) (V.drop (k+1)):=by
 rw [A4 ha,uL,if_neg (by rw [h];decide)]
theorem cS {s:Ac}{b:Bool}(h:(Ib s != 0)=b):(!(Ru s))=b:=h
theorem ve8 (h:(Ib a.name != 0)=true):vrE T L ks k a=8:=if_pos (cS h)
theorem ve7 (h:(Ib a.name != 0)=false)(h1:ks.contains a.name=true):vrE T L ks k a=7:=(Bu (cS h)).trans (if_pos h1)
theorem ve6 (h:(Ib a.name != 0)=false)(h1:ks.contains a.name=false)(h2:(decide (a.type<0)||decide ((T.length:Int)<=a.type))=true):vrE T L ks k a=6:=(Bu (cS h)).trans ((Bu h1).trans (if_pos h2))
theorem ve9 (h:(Ib a.name != 0)=false)(h1:ks.contains a.name=false)(h2:(decide (a.type<0)||decide ((T.length:Int)<=a.type))=false)(h3:((L[k]?).getD 0 != a.type)=true):vrE T L ks k a=9:=(Bu (cS h)).trans ((Bu h1).trans ((Bu h2).trans (if_pos h3)))
theorem ve0 (h:(Ib a.name != 0)=false)(h1:ks.contains a.name=false)(h2:(decide (a.type<0)||decide ((T.length:Int)<=a.type))=false)(h3:((L[k]?).getD 0 != a.type)=false):vrE T L ks k a=0:=(Bu (cS h)).trans ((Bu h1).trans ((Bu h2).trans (Bu h3)))
end
theorem vE_15 {T:List e8Sc}{q:Qy}(h:(((L3 q.pattern).length:Int) != (q.vars.length:Int))=true):VrE T q=15:=if_pos h
theorem vE_n {T:List e8Sc}{q:Qy}(h:(((L3 q.pattern).length:Int) != (q.vars.length:Int))=false):VrE T q=uL T ((L3 q.pattern).map (·.2)) [] 0 q.vars:=Bu h
theorem rz_vars (T:List e8Sc)(htl:T.length<=1048576)(q:Qy)(hnd:KN (L3 q.pattern))(hnu:∀(i:Nat) (x:Int×Int),(L3 q.pattern)[i]? = some x->x.1=(i:Int))(hpn:L2 q.pattern<=1048576)(hv:q.vars.length<=1048576)(hvn:∀v∈q.vars,v.name.length<=1048576):Au Tryz.prog 106 [.sl 2 (T.map Oh),.agg (cQy q)] (.int .i64 (VrE T q)):=by
 refine G3 59 Tryz.func106 rfl fun H=>?_
 refine Ab (Qp (Ji O8) (Qp A3 (Cf (Qp (Qf gkz) (Qp (C8 Hp) (Qe (D2 rfl (rz_typed q.pattern hnd hpn _)) ?_))))));rintro _ _ ⟨b11,es,rfl,rfl,hes⟩;refine Qp Tm (A7 (Cj ?_));refine AOL.ghost (GS.imAbs 0 rfl rfl) ?_;refine AOL.ghost (GS.freezeMap (t:=5) 0 rfl rfl) ?_;refine Qp (Ai (v:=.mapv _) rfl) (Qp (P_len_mapv (n:=(L3 q.pattern).length) tok rfl rfl rfl ((Bg _).trans (zY hnd hes))) (Qp (Qf ggy) (Qp Eg ?_)));refine Qp (G6 q.vars.length rfl rfl (by simp)) ?_;refine Qp Cq (Br (fun hc1=>Ab (Qp A3 (Rc (Qr (Iq _) ?_)))) fun hc1=>?_)
 . exact Ye (AV.int .i64) (vE_15 hc1)
 have hlv:(L3 q.pattern).length=q.vars.length:=by have:=hc1;simp at this;omega
 refine B8 (Ab (Qe (Jm) ?_));rintro _ _ ⟨b18,rfl,rfl⟩;refine Qp Tm (A7 (Cj (Qp (Qf ggy) (Qp Eg ?_))));refine Qp (G6 q.vars.length rfl rfl (by simp)) ?_;refine Qp Ax (A7 (AW.block ?_));refine AW.Aan (fun (z:Nat×List Ac)=>(⟨[(0,.sl 2 (T.map Oh)),(3,.ptr (cQy q)),(5,.mapv (imA es)),(6,.val (.map (some b18))),(20,.sl 2 (q.vars.map U6)),(21,.int .i64 q.vars.length),(22,.int .i64 (z.1:Int))],.smap b18 (Wp z.2)::H,59⟩:St)) (fun z=>z.1<=q.vars.length/\uL T ((L3 q.pattern).map (·.2)) [] 0 q.vars=uL T ((L3 q.pattern).map (·.2)) z.2 z.1 (q.vars.drop z.1)) (fun z=>q.vars.length-z.1) ((0,[])) ?_ Dp ?_
 . exact ⟨Bk _,rfl⟩
 rintro z hR;refine Ab (Qp C5 (Re (Hs (fun hc2=>?_) fun hc2=>?_)))
 .
  obtain ⟨a,ha⟩:=De hc2;have hlt:=Ch ha;have hm:=Ak ha;have hlk:aO (imA es) ((z.1:Nat):Int)=some (.int .i64 ((((L3 q.pattern).map (·.2))[z.1]?).getD 0)):=ty_look hes (List.getElem?_eq_getElem (show z.1<(L3 q.pattern).length by omega)) (hnu _ _ (List.getElem?_eq_getElem _));refine B8 (AW.seq (AW.block (Ab (Qp Ax ?_))));refine Qp (F5 J6 rfl rfl (by omega) (C2 ha)) ?_;refine Qp (C8 J6) (E8 gjy fun b8=>Qp A3 ?_);refine B4 0 J6 (_::_::_) ?_;refine Me 8 0 rfl ?_;refine Re (AW.block (Ab (Qp (Qf J6) (Qp Hn (Qp (Qc rfl (c20 a.name (hvn a hm))) (Qp Cq (Qp Bl (Br (fun hc3=>Ab (Qp A3 (Ra (Rj (Bc ?_))))) fun hc3=>Ab (Qp B3 (Qp (Qf J6) (Qp Hn ?_)))))))))))
  .
   refine Yx [Iq _] Ze S1 ?_;exact Ye (AV.int .i64) ((vE_n hc1).trans (hR.2.trans (vr_no ha (ve8 hc3) (by decide))))
  refine AOL.Aaq (Nl (i:=0) (ks:=z.2) tok rfl rfl rfl rfl rfl (by kernel_rfl) rfl rfl rfl) rfl rfl ?_;refine Qp Bl (Br (fun hc4=>Ab (Qp A3 (Ra (Rj (Bc ?_))))) fun hc4=>Ab (Qp (Qf [Iq _]) (Qp B7 (Qp C5 (Qp Cw (Qg [] Qw (Qf [Iq _]) (Qg [(42,_)] Qw B7 (Qg [] Qw Ng ?_))))))))
  .
   refine Yx [Iq _] Ze S1 ?_;exact Ye (AV.int .i64) ((vE_n hc1).trans (hR.2.trans (vr_no ha (ve7 hc3 hc4) (by decide))))
  refine Yh [(44,_)] Qw (fun hG=>G6 T.length rfl rfl (by simp)) ?_;refine Qg [(43,_),(45,_)] Yw Lm (Qp G4 (Qp Bl (Br (fun hc5=>Ab (Qp A3 (Ra (Rj (Bc ?_))))) fun hc5=>?_)))
  .
   refine Yx [Iq _] Ze S1 ?_;exact Ye (AV.int .i64) ((vE_n hc1).trans (hR.2.trans (vr_no ha (ve6 hc3 hc4 hc5) (by decide))))
  refine Ab (Qp (Ai (v:=.mapv _) rfl) (Qp Ax (Qp (bO tok rfl rfl rfl rfl rfl rfl (hlk)) (Qp (Qf [Iq _]) (Qp B7 (Qp Cq (Qp Bl (Br (fun hc6=>Ab (Qp A3 (Ra (Rj (Bc ?_))))) fun hc6=>Rf (AW.region (Qp B3 (Qp (Qf J6) (Qp Hn (Rt (Qu (i:=0) (H2:=_::_) tok rfl rfl rfl rfl rfl rfl rfl rfl (hc4) rfl) (Rk (AW.region (Qp Ii (Qp Ax (A7 ?_))))))))))))))))))
  .
   refine Yx [Iq _] Ze S1 ?_;exact Ye (AV.int .i64) ((vE_n hc1).trans (hR.2.trans (vr_no ha (ve9 hc3 hc4 hc5 hc6) (by decide))))
  refine ⟨(z.1+1,z.2 ++ [a.name]),?_,?_,Dp⟩
  . exact ⟨hlt,hR.2.trans (vr_on ha (ve0 hc3 hc4 hc5 hc6))⟩
  simp only;omega
 have hde:=Hk hc2;have hall:=hR.2;rw [hde,uL] at hall;refine AW.exit ?_;refine B9 (Ri (Ab (Qp A3 (Rb ?_))));refine Yx [Iq _] Ze S1 ?_;exact Ye (AV.int .i64) ((vE_n hc1).trans hall)
def cRvX (T:List e8Sc)(V:List Va)(m1 m2 n1 n2:AV):List AV:=[.sl 2 (T.map Oh),m1,.sl 2 (V.map U6),m2,n1,n2]
theorem eq_no {l m:List Int}(h:((l.length:Int) != (m.length:Int))=true):(l==m)=false:=by
 rw [Hz];rintro rfl;simp at h
theorem eq_ne {l m:List Int}{k:Nat}{a c:Int}(ha:l[k]? = some a)(hc:m[k]? = some c)(h:(a != c)=true):(l==m)=false:=by
 rw [Hz];rintro rfl;rw [ha] at hc;cases hc;simp at h
theorem eq_on {l m:List Int}{k:Nat}{a c:Int}(ha:l[k]? = some a)(hc:m[k]? = some c)(h:(a != c)=false)(hk:l.take k=m.take k):l.take (k+1)=m.take (k+1):=by
 rw [El ha,El hc,hk];have:a=c:=by simpa using h
 rw [this]
theorem eq_all {l m:List Int}(hl:l.length=m.length)(h:l.take l.length=m.take l.length):(l==m)=true:=by
 rw [Sm,hl,Sm] at h;rw [h];simp
abbrev oQ (q:List Int×Bool):AV:=AV.tuple [.sl 1 (q.1.map cI),.bool q.2]
abbrev Yi (q:Ac×Bool):AV:=AV.tuple [.str q.1,.bool q.2]
theorem rz_key (T:List e8Sc)(V:List Va)(s:Nx)(bp:Nat)(m1 m2 n1 n2:AV)(hrv:RvOK T V)(n:Ac)(hT:0<T.length):Bp Tryz.prog 48 bp 126 (cRvX T V m1 m2 n1 n2) (cRvX T V m1 m2 n1 n2) [.val (.pointer (some ⟨bp,0,none⟩)),.str n] (.tuple [.sl 1 ((Pf T V n).1.map cI),.bool (Pf T V n).2]):=by
 intro H;have htl:=hrv.tl;have hvl:=hrv.vl;refine Jz 47 Tryz.func48 rfl ?_;refine Ab (Qp (Ck (z:=1) rfl) (Qp Bl (Cf (Qp (Kf ([[Iq _]]) rfl) (Qp B3 (Qp (Aa rfl) (Qp Dg (Ua 0 (.sl _ _) rfl ?_))))))));refine Qp (G6 T.length rfl rfl (by simp)) ?_;refine Qe (D2 rfl (zF _ T.length hT hrv.tl)) ?_;rintro _ _ ⟨b15,rfl,rfl⟩;refine Qp Tm (A7 (Cj (Qp B3 (Qp (Aa rfl) (Qp Dg (Ua 1 (.sl _ _) rfl ?_))))));refine Qp (G6 V.length rfl rfl (by simp)) ?_;refine Qp Ax (A7 (AW.block ?_));refine AW.Aan (fun (q:Nat×List Int)=>(⟨[(0,.val (.pointer (some ⟨bp,0,none⟩))),(1,.str n),(6,.val (.slice (some ⟨b15,0,none⟩) T.length T.length)),(19,.sl 2 (V.map U6)),(20,.int .i64 V.length),(21,.int .i64 (q.1:Int))],.box b15 3 (bI q.2) :: .box bp 126 (cRvX T V m1 m2 n1 n2)::H,47⟩:St)) (fun q=>q.1<=V.length/\q.2.length=T.length/\Pf T V n=Tr T n (V.drop q.1) q.2) (fun q=>V.length-q.1) ((0,mD T.length)) ?_ Dp ?_
 . exact ⟨Bk _,by simp [mD],rfl⟩
 rintro q hR;refine Ab (Qp C5 (Re (Hs (fun hc1=>?_) fun hc1=>?_)))
 .
  obtain ⟨a,ha⟩:=De hc1;have hlt:=Ch ha;have hm:=Ak ha;have hvt:=hrv.ty a hm;refine (fX hrv hm).elim fun sc hsc=>?_
  have hfl:=hrv.fl sc (Ak hsc);have hb:a.type.toNat<q.2.length:=by have:=hR.2.1;omega
  refine B8 (AW.seq (AW.block (Ab ?_)));refine Qp (F5 J6 rfl rfl (by omega) (C2 ha)) ?_;refine Qp (C8 J6) (E8 gjy fun b8=>?_);refine B4 0 J6 (_::_::_::_) ?_;refine Me 8 0 rfl ?_;refine Re (T6 1 rfl (Qn 0 rfl B3 (Qn 1 rfl (Qf [Iq _]) (Qn 2 rfl B7 (Qn 3 rfl B3 (Qn 4 rfl (Aa rfl) (Qn 5 rfl Dg (Qn 6 rfl (Nc (.sl _ _) rfl) ?_))))))));refine Qn 7 rfl (Qf [Iq _]) (Qn 8 rfl B7 (Qn 9 rfl (F5 Pn rfl rfl (hvt.1) (C2 hsc)) (Qn 10 rfl (C8 Pn) (Qn 11 rfl Iw (Qn 12 rfl (Qc rfl (Oo sc hfl n)) (Qn 13 rfl (F7 (o':=a.type.toNat) tok rfl rfl rfl rfl rfl (hvt.1) (hvt.2) (off0 _)) ?_))))));refine iR 14 rfl (I0 (k:=0) (v:=Iq _) (cs':=bI (q.2.set a.type.toNat (Ei sc n))) (H2:=_::_::_) tok rfl rfl rfl rfl rfl rfl (bI_fits hb) (bI_set hb) rfl) ?_;rintro _ _ ⟨rfl,rfl⟩;refine Ap (Ab (Qp B3 (Qp (Qf [Iq _]) (Qp B7 (Qp (F7 (o':=a.type.toNat) tok rfl rfl rfl rfl rfl (hvt.1) (hvt.2) (off0 _)) (AOL.Aaq (Fb (k:=0) (c:=.int .i64 (Ei sc n)) tok rfl rfl rfl (oS hb)) rfl rfl (Qp C5 (Br (fun hc2=>Ab (Qp (Ck (z:=1) rfl) (Qp Bl (Ra (Bc (Ep (Bc ?_))))))) fun hc2=>Rf (AW.region (Qp Ii (Qp Ax (A7 ?_))))))))))))
  .
   refine ⟨.inr rfl,[.sl _ _,.bool _],Zf,_,S1,?_⟩;exact ⟨Ye oQ (hR.2.2.trans (key_hit ha hsc hc2)),rfl⟩
  refine ⟨(q.1+1,q.2.set a.type.toNat (Ei sc n)),?_,?_,Dp⟩
  . exact ⟨hlt,by simp only [Ya];exact hR.2.1,hR.2.2.trans (key_on ha hsc hc2)⟩
  simp only;omega
 have hde:=Hk hc1;have hall:=hR.2.2;rw [hde] at hall;refine AW.exit ?_;refine B9 (Ri (Ab ?_));refine AOL.ghost (GS.freezeSl (t:=6) (z:=1) (es:=q.2.map cI) 0 rfl rfl (bI_flat _) (by rw [Bg];exact hR.2.1.symm) (Be _) (by unfold maxLen;omega) (xW (fun _=>rfl) _) slot_is) ?_;refine Qp Ng (Qp rL (Qp Bl (Rb ?_)));refine ⟨.inr rfl,[.sl _ _,.bool _],Zf,_,S0,?_⟩;exact ⟨Ye oQ ((hall.trans (by rw [Tr]):Pf T V n=(q.2,true))),rfl⟩
theorem rz_eq (l m:List Int)(hl:l.length<=1048576)(hm:m.length<=1048576):Au Tryz.prog 165 [.sl 1 (l.map cI),.sl 1 (m.map cI)] (.bool (l==m)):=by
 refine G3 26 Tryz.func165 rfl fun H=>?_
 refine Ab (Qp Bl (A7 (Cj (Qp Ng ?_))));refine Qp (G6 l.length rfl rfl (by simp)) ?_;refine Qp Ng ?_;refine Qp (G6 m.length rfl rfl (by simp)) ?_;refine Qp Cq (Br (fun hc1=>Ab (Qp Bl (Rc (Qr (.bool _) ?_)))) fun hc1=>?_)
 . exact Ye AV.bool (eq_no hc1)
 have hlm:l.length=m.length:=by have:=hc1;simp at this;omega
 refine B8 (Cj (Qp Ng ?_));refine Qp (G6 l.length rfl rfl (by simp)) ?_;refine Qp Ax (A7 (AW.block ?_));refine AW.Aan (fun (k:Nat)=>(⟨[(0,.sl 1 (l.map cI)),(1,.sl 1 (m.map cI)),(12,.int .i64 l.length),(13,.int .i64 (k:Int))],H,26⟩:St)) (fun k=>k<=l.length/\l.take k=m.take k) (fun k=>l.length-k) (0) ?_ Dp ?_
 . exact ⟨Bk _,rfl⟩
 rintro k hR;refine Ab (Qp C5 (Re (Hs (fun hc2=>?_) fun hc2=>?_)))
 .
  obtain ⟨a,ha⟩:=De hc2;have hlt:=Ch ha;have hm:=Ak ha;obtain ⟨c,hc⟩:∃c,m[k]? = some c:=⟨_,List.getElem?_eq_getElem (show k<m.length by omega)⟩;refine B8 (AW.seq (AW.block (Ab (Qp Ax (Qp A3 (Re ?_))))));refine Oe ?_;refine Qn 0 rfl Ng (Qn 1 rfl Ax ?_);refine Qn 2 rfl (F5 [Iq _] rfl rfl (by omega) (C2 ha)) ?_;refine Qn 3 rfl B7 (Qn 4 rfl Ng (Qn 5 rfl Ax ?_));refine Qn 6 rfl (F5 [Iq _] rfl rfl (by omega) (C2 hc)) ?_;refine Qn 7 rfl B7 (Qn 8 rfl Cq ?_);refine Jr ?_;refine Ap (Hs (fun hc3=>Ab (Qp Bl (Ra (Bc (Ep (Bc (Qr (.bool _) ?_))))))) fun hc3=>Rf (AW.region (Qp Ii (Qp Ax (A7 ?_)))))
  . exact Ye AV.bool (eq_ne ha hc hc3)
  refine ⟨k+1,?_,?_,Dp⟩
  . exact ⟨hlt,eq_on ha hc hc3 hR.2⟩
  omega
 have hke:k=l.length:=by have:=He hc2;have:=hR.1;omega
 subst hke;refine AW.exit ?_;refine B9 (Ri (Ab (Qp Bl (Rb ?_))));refine Qr (.bool _) ?_;exact Ye AV.bool (eq_all hlm hR.2)
theorem rz_index (l:List Va)(hl:l.length<=1048576)(K:FuncId)(hK:Y0 Tryz.prog K=true)(cs:List AV)(p:Va->Bool)(hf:∀a∈l,Au Tryz.prog K (.agg (U6 a)::cs) (.bool (p a))):Au Tryz.prog 166 [.sl 2 (l.map U6),.fn (.func K) [] cs] (.int .i64 (aI p l)):=by
 refine G3 19 Tryz.func166 rfl fun H=>?_
 refine Ab (Qp A3 (A7 (Cj (Qp Ng ?_))));refine Qp (G6 l.length rfl rfl (by simp)) ?_;refine Qp Ax (A7 (AW.block ?_));refine AW.Aan (fun (k:Nat)=>(⟨[(0,.sl 2 (l.map U6)),(1,.fn (.func K) [] cs),(6,.sl 2 (l.map U6)),(7,.int .i64 l.length),(8,.int .i64 (k:Int))],H,19⟩:St)) (fun k=>k<=l.length/\(l.take k).any p=false) (fun k=>l.length-k) (0) ?_ Dp ?_
 . exact ⟨Bk _,by simp⟩
 rintro k hR;refine Ab (Qp C5 (Re (Hs (fun hc1=>?_) fun hc1=>?_)))
 .
  obtain ⟨a,ha⟩:=De hc1;have hlt:=Ch ha;have hm:=Ak ha;refine B8 (AW.seq (AW.block (Ab (Qp Ax (Qp A3 (Cf (Qp (Ai (v:=.fn _ _ _) rfl) (Qp Ng (Qp Ax ?_)))))))));refine Qp (F5 J6 rfl rfl (by omega) (C2 ha)) ?_;refine Qp (C8 J6) (Qp (Tl hK rfl rfl rfl (hf a (Ak ha))) (Br (fun hc2=>Ab (Qp Ax (Qp A3 (Ra (Bc (Ep (Bc (Qr (Iq _) ?_)))))))) fun hc2=>Rf (AW.region (Qp Ii (Qp Ax (A7 ?_))))))
  . exact Ye (AV.int .i64) (lL ha hR.2 hc2)
  refine ⟨k+1,?_,?_,Dp⟩
  . exact ⟨hlt,R0 hR.2 ha hc2⟩
  omega
 have hte:=F1 hc1;have hall:=hR.2;rw [hte] at hall;refine AW.exit ?_;refine B9 (Ri (Ab (Qp A3 (Rb ?_))));refine Qr (Iq _) ?_;exact Ye (AV.int .i64) (eZ hall)
theorem KeyR_len (T:List e8Sc)(V:List Va)(n:Ac):(Pf T V n).1.length<=T.length:=by
 have h:=lQ (T:=T) (n:=n) V (List.replicate T.length (-1));rw [Sp] at h;exact h
section
variable {T:List e8Sc} {q:Qy}
theorem ky_1 (h:((q.key.length:Int)==0)=true):gT T q=([],true):=if_pos h
theorem ky_2 (h:((q.key.length:Int)==0)=false)(h2:((q.key.length:Int) != (T.length:Int))=true):gT T q=([],false):=(Bu h).trans (if_pos h2)
theorem ky_3 (h:((q.key.length:Int)==0)=false)(h2:((q.key.length:Int) != (T.length:Int))=false)(h3:(decide (oH q<0)||decide (((kyF T q).length:Int)<=oH q))=true):gT T q=([],false):=(Bu h).trans ((Bu h2).trans (if_pos h3))
theorem ky_4 (h:((q.key.length:Int)==0)=false)(h2:((q.key.length:Int) != (T.length:Int))=false)(h3:(decide (oH q<0)||decide (((kyF T q).length:Int)<=oH q))=false):gT T q=(aL T q,kyO T q):=(Bu h).trans ((Bu h2).trans (Bu h3))
theorem kv0 (h:0<q.vars.length):q.vars[0]? = some ((q.vars[0]?).getD va0):=by rw [List.getElem?_eq_getElem h];rfl
theorem ks0 (h:0<=aK q/\aK q<(T.length:Int)):T[(aK q).toNat]? = some ((T[(aK q).toNat]?).getD Zt):=by rw [List.getElem?_eq_getElem (show (aK q).toNat<T.length by omega)];rfl
theorem kk0 (h:0<=aK q/\aK q<(T.length:Int))(h2:((q.key.length:Int) != (T.length:Int))=false):q.key[(aK q).toNat]? = some (oH q):=by
 have h3:q.key.length=T.length:=by simp at h2;omega
 unfold oH ixI;rw [List.getElem?_eq_getElem (show (aK q).toNat<q.key.length by omega)];rfl
theorem kf0 (h:(decide (oH q<0)||decide (((kyF T q).length:Int)<=oH q))=false):0<=oH q/\(kyF T q)[(oH q).toNat]? = some (((kyF T q)[(oH q).toNat]?).getD fi0):=by
 simp only [Ey,Jh] at h;refine ⟨by omega,?_⟩;rw [List.getElem?_eq_getElem (show (oH q).toNat<(kyF T q).length by omega)];rfl
end
theorem rz_keyed (T:List e8Sc)(hT:TsOK T)(hsn:∀s∈T,fO s)(q:Qy)(hrv:RvOK T q.vars)(hvp:0<q.vars.length)(hkl:q.key.length<=1048576):Au Tryz.prog 107 [.sl 2 (T.map Oh),.agg (cQy q)] (.tuple [.str (gT T q).1,.bool (gT T q).2]):=by
 have htl:=hT.tl;have hv0:=kv0 hvp;have hk0:0<=aK q/\aK q<(T.length:Int):=hrv.ty _ (Ak hv0);have hs0:=ks0 hk0;have hTp:0<T.length:=by omega
 refine G3 83 Tryz.func107 rfl fun H=>?_
 refine Ab (Qp (Ji O8) (Qp Nb (Qp Bl (A7 (Cj (Qp (Qf gjz) (Qp Eg ?_)))))));refine Qp (G6 q.key.length rfl rfl (by simp)) ?_;refine Qp Bv (Br (fun hc1=>?_) fun hc1=>?_)
 .
  refine Ab (Qp Nb (Qp Bl (Rc ?_)));refine Py (.str _) (.bool _) ?_;exact Ye Yi (ky_1 hc1)
 refine B8 (Cj (Qp (Qf gjz) (Qp Eg ?_)));refine Qp (G6 q.key.length rfl rfl (by simp)) ?_;refine Qp Ng ?_;refine Qp (G6 T.length rfl rfl (by simp)) ?_;refine Qp Cq (Br (fun hc2=>?_) fun hc2=>?_)
 .
  refine Ab (Qp Nb (Qp Bl (Rc ?_)));refine Py (.str _) (.bool _) ?_;exact Ye Yi (ky_2 hc1 hc2)
 have hky:=kk0 hk0 hc2;refine B8 (Ab (Qp Ng ?_));refine Qe (D2 rfl (Xv T hT.tl hT.nd _)) ?_;rintro _ _ ⟨b23,s23,rfl,rfl⟩;refine Qp Tm (Cf (Qp B3 (Qp (Qf ggy) (Qp Eg ?_))));refine Qp (Aa rfl) ?_;refine Qp Dg ?_;refine B4 0 [_,_,_,_,Iq _,Iq _] (_::_::_) ?_;refine Cf (Qp (Qf ggy) (Qp Eg ?_));refine Qp (F5 J6 rfl rfl (by decide) (C2 hv0)) ?_;refine Qp (Qf [Iq _]) (Qp B7 (Qp A3 (A7 (Cj (Qp (Qf gjz) (Qp Eg (Qp Ax ?_)))))));refine Qp (F5 [Iq _] rfl rfl (hk0.1) (C2 hky)) ?_;refine Qp B7 (Qp A3 (Cf (Qp Ax (Qp C5 (Qp Cw (Qg [] Qw Ax (Qg [] Qw Ng (Qg [] Qw Ax ?_))))))));refine Qg [(43,_),(44,_)] (Yv rfl Es Es) (F5 Pn rfl rfl (hk0.1) (C2 hs0)) ?_;refine Qg [(45,_)] Qw (Qf [_]) (Qg [(46,_)] Qw Eg ?_);refine Yh [(47,_)] Qw (fun hG=>G6 ((kyF T q).length) rfl rfl (by rw [Bg];rfl)) ?_;refine Qg [(42,_),(48,_)] Yw Lm ?_;refine Qp G4 (Br (fun hc3=>?_) fun hc3=>?_)
 .
  refine Ab (Qp Nb (Qp Bl (Rc ?_)));refine Yx [.str _,.bool _] Zf S2 ?_;exact Ye Yi (ky_3 hc1 hc2 hc3)
 have hfi:=kf0 hc3;have hnl:(aL T q).length<=1048576:=(hsn _ (Ak hs0)).2.2 _ (Ak hfi.2);refine B8 (AW.seq ?_);refine Oe ?_;refine Qn 0 rfl Ng (Qn 1 rfl Ax ?_);refine Qn 2 rfl (F5 Pn rfl rfl (hk0.1) (C2 hs0)) ?_;refine Qn 3 rfl (Qf [_]) (Qn 4 rfl Eg (Qn 5 rfl (Qf gjz) (Qn 6 rfl Eg (Qn 7 rfl Ax ?_))));refine Qn 8 rfl (F5 [Iq _] rfl rfl (hk0.1) (C2 hky)) ?_;refine Qn 9 rfl B7 ?_;refine Qn 10 rfl (F5 J6 rfl rfl (hfi.1) (C2 hfi.2)) ?_;refine Qn 11 rfl (Qf J6) (Qn 12 rfl Hn (Qn 13 rfl Nb ?_));refine Jr ?_;refine Ap (Ab (Qp B3 (Qp Iw ?_)));refine AOL.Aaq (C0 (k:=0) (by kernel_rfl) rfl rfl (rz_key T q.vars ⟨0,0⟩ b23 _ _ _ _ hrv (aL T q) hTp)) rfl rfl ?_;refine Qp Wz (Qp Qxs (Qp oB (Qp rL (Qp Bl (Cf (Qp Iw (Qp Cw (Qp Cw (Qg [] Qw Ng ?_)))))))));refine Qg [] Qw (Qf gjz) (Qg [(74,_)] Qw Eg ?_);refine Yh [(73,_),(75,_)] Yw (fun hG=>Qc rfl (rz_eq (Pf T q.vars (aL T q)).1 q.key (by have:=KeyR_len T q.vars (aL T q);omega) hkl)) ?_;refine Qp Mu (Qp Cw (Qg [] Qw Iw ?_));refine Qg [(79,_)] Qw (Qc rfl (c20 (aL T q) hnl)) ?_;refine Qg [(80,_)] Qw Bv (Qp Mu (Qp Nb (Qp Bl (Rb ?_))));refine Yx [.str _,.bool _] Zf S2 ?_;exact Ye Yi (ky_4 hc1 hc2 hc3)
theorem rz_conds (p:Pt)(hp:L2 p<=1048576)(H:List HO):Cc Tryz.prog 110 H [.agg (cPt p)] (fun r H'=>∃v,r = .row v 8 ((U0 p).map Ix)/\H' = .row v ((U0 p).map Ix).length 53 8::H):=by
 have hal:=Vt p;refine Jz 37 Tryz.func110 rfl ?_;refine Ab (Qp (Ji Hp) (Qp (Ck (z:=8) rfl) (Cf (Qp Tm ?_))));refine AOL.ghost (GS.row (t:=3) 53 8 rfl) ?_;refine A7 ?_;refine AW.Aat (fun (z:List (List AV)×Value)=>(⟨[(1,.ptr (cPt p)),(2,.sl 8 []),(3,.row z.2 8 z.1)],.row z.2 z.1.length 53 8::H,37⟩:St)) (fun z=>z.1=(coH p).map Ix) ?_ ?_
 .
  refine Ab (Qp (Qf Hp) (Qp B7 (Qp Bv (Qp Cw (Qg [] Qw (Qf Hp) (Qg [(10,_)] Qw B7 (Qg [(11,_)] Qw Bv (Qp G4 (Qp Cw ?_)))))))));refine Qg [] Qw (Qf Hp) (Qg [(15,_)] Qw B7 (Qg [(16,_)] Qw Bv (Qp G4 (Br (fun hc1=>AW.region (Qp (Ai (v:=.row _ _ _) rfl) (Qp jY (Qp Ws (Qp (Kf [Nd] rfl) ?_))))) fun hc1=>B8 ?_))))
  .
   refine Qe (Zq 0 rfl (Ff rfl) (by simp) (by simp) (by simp [maxLen])) ?_;rintro _ _ ⟨v23,rfl,rfl⟩;refine Qp (An (v:=.row _ _ _) rfl) (A7 ?_);refine ⟨([cE p.cond],v23),?_,Dp⟩;show [cE p.cond]=_;unfold coH;rw [show Wl p=true from hc1];exact congrArg (fun c=>[c]) (Pm _).symm
  refine ⟨([],.slice none 0 0),?_,Dp⟩;show []=_;unfold coH;rw [show Wl p=false from hc1];rfl
 rintro z hz;refine Cj (Qp (Qf ggx) (Qp Eg ?_));refine Qp (G6 p.args.length rfl rfl (by simp)) ?_;refine Qp Ax (A7 (AW.block ?_));refine AW.Aan (fun (q:Nat×List (List AV)×Value)=>(⟨[(1,.ptr (cPt p)),(2,.sl 8 []),(3,.row q.2.2 8 q.2.1),(25,.sl 14 (p.args.map Xa)),(26,.int .i64 p.args.length),(27,.int .i64 (q.1:Int))],.row q.2.2 q.2.1.length 53 8::H,37⟩:St)) (fun q=>q.1<=p.args.length/\q.2.1=(coH p++(p.args.take q.1).flatMap U0).map Ix) (fun q=>p.args.length-q.1) ((0,z.1,z.2)) ?_ Dp ?_
 . exact ⟨Bk _,by rw [hz];simp⟩
 rintro q hR;refine Ab (Qp C5 (Re (Hs (fun hc2=>?_) fun hc2=>?_)))
 .
  obtain ⟨a,ha⟩:=De hc2;have hlt:=Ch ha;have hm:=Ak ha;have hsc:∀c∈q.2.1,Av c=true:=by rw [hR.2];exact scEx _
  have hb1:q.2.1.length<=1048577:=by have h:=co_part (p:=p) q.1;have h2:=coH_len p;rw [hR.2,Bg,Al];omega
  have hb2:((U0 a).map Ix).length<=1048576:=by have:=rV a;have:=Rw hm;rw [Bg];omega
  refine B8 (AW.seq (AW.block (Ab ?_)));refine Qp (F5 Hp rfl rfl (by omega) (gW ha)) ?_;refine Qp (C8 Hp) (E8 ggz fun b5=>?_);refine B4 0 Hp (_::_::_) ?_;refine Me 5 0 rfl ?_;refine A7 (AW.region (Qp (Ai (v:=.row _ _ _) rfl) (Qp (C8 Hp) ?_)));refine Qp (Qc rfl (rf_conds a (by have:=Rw hm;omega))) ?_;refine Qe (Zq 0 rfl (scEx _) (hsc) (by simp at hb2 ⊢;omega) (by simp [maxLen] at hb2 ⊢;omega)) ?_;rintro _ _ ⟨v34,rfl,rfl⟩;refine Qp (An (v:=.row _ _ _) rfl) (Rk (AW.region (Qp Ii (Qp Ax (A7 ?_)))));refine ⟨(q.1+1,q.2.1++(U0 a).map Ix,v34),?_,?_,Dp⟩
  . exact ⟨hlt,by simp only;rw [El ha,hR.2];simp⟩
  simp only;omega
 have hte:=F1 hc2;have hall:=hR.2;rw [hte] at hall;refine AW.exit ?_;refine B9 (Ri (Ab ?_));refine Qp (Ai (v:=.row _ _ _) rfl) (Qp (An (v:=.row _ _ _) rfl) (Rb ?_));refine ⟨.inr rfl,[.row _ _ _],Ze,_,S0,?_⟩;have hq:q.2.1=(U0 p).map Ix:=hall.trans (congrArg (List.map Ix) (coP_H p)).symm;exact ⟨q.2.2,congrArg (fun l:List (List AV)=>AV.row q.2.2 8 l) hq,congrArg (fun l:List (List AV)=>(HO.row q.2.2 l.length 53 8::H:List HO)) hq⟩
theorem tnB_any (T:List e8Sc)(q:Qy):(!(q.vars.any fun v=>Ib ((T[v.type.toNat]?).getD Zt).name != 0))=tnB T q:=by
 unfold tnB;rw [List.not_any_eq_all_not]
 congr 1
 funext v
 unfold Ru;simp [bne]
theorem rz_sh1 (T:List e8Sc)(hsn:∀s∈T,fO s)(a:Va)(ht:0<=a.type/\a.type<(T.length:Int)):Au Tryz.prog 109 [.agg (U6 a),.ptr [.sl 2 (T.map Oh)]] (.bool (Ib ((T[a.type.toNat]?).getD Zt).name != 0)):=by
 refine G3 12 Tryz.func109 rfl fun H=>?_
 refine Ab (Qp (Ji J6) (Qp Bl (Cf (Qp Eg (Qp (Qf [Iq _]) (Qp B7 ?_))))));refine Qp (F5 Pn rfl rfl (ht.1) (C2 (ty_in ht))) (Qp (Qf Pn) (Qp Hn (Qp (Qc rfl (c20 ((T[a.type.toNat]?).getD Zt).name (hsn _ (Ak (ty_in ht))).1)) (Qp Cq (Qp Bl (Rb (Qr (.bool _) ?_)))))));rfl
theorem zE (l:List Va)(hl:l.length<=1048576)(K:FuncId)(hK:Y0 Tryz.prog K=true)(cs:List AV)(p:Va->Bool)(hf:∀a∈l,Au Tryz.prog K (.agg (U6 a)::cs) (.bool (p a))):Au Tryz.prog 108 [.sl 2 (l.map U6),.fn (.func K) [] cs] (.bool (l.any p)):=by
 refine G3 9 Tryz.func108 rfl fun H=>?_
 refine Ab (Qp Bl (Cf (Qp Ng (Qp (Ai (v:=.fn _ _ _) rfl) (Qp (Qc rfl (rz_index l hl K hK cs p hf)) (Qp Lm (Qp Bl (Rb (Qr (.bool _) ?_)))))))));exact Eq.trans rfl (congrArg (fun q:Bool=>AV.bool q) (lK p l).2)
theorem rv_of {T:List e8Sc}{q:Qy}(hT:TsOK T)(hc:(I6 q.pattern != 0)=false)(h:VrE T q=0):RvOK T q.vars/\(L3 q.pattern).length=q.vars.length:=by
 have hvl:(L3 q.pattern).length=q.vars.length/\uL T ((L3 q.pattern).map (·.2)) [] 0 q.vars=0:=by
  unfold VrE at h;split at h
  . cases h
  rename_i h1;exact ⟨by have h2:=h1;simp at h2;omega,h⟩
 have h1:=vrG_ok q.vars [] 0 hvl.2 O4;refine ⟨⟨hT.tl,hT.fl,by have:=ty_len hc;have:=hvl.1;omega,fun v hv=>?_⟩,hvl.1⟩;obtain ⟨k,hk⟩:=Fh.1 hv;obtain ⟨_,b,c,_⟩:=h1.2 k v hk;exact ⟨b,c⟩
theorem ty_pos:∀p:Pt,(∀x∈H1 p,NdOK x)->0<(L3 p).length:=by
  intro p
  induction p using Pt.ind with
  | h p ih=>
    intro hp;have hme:=hp p (Vn p);by_cases ho:p.op=0
    . rw [uH,Al]
      have:aQ p = [(p.var,p.type)]:=if_pos (by unfold Sx;rw [ho];rfl);rw [this];simp;omega
    . have hl:0<p.args.length:=by
        have h1:=hme.parts.1.1;rcases hme.cases with h | h | h | h | h | h | h | h <;> first | exact absurd h ho | (rw [h] at h1;simp [Ll,shpL] at h1;omega)
      obtain ⟨a,ha⟩:∃a,p.args[0]? = some a:=⟨_,List.getElem?_eq_getElem hl⟩;have hm:=Ak ha;have h2:=ih a hm fun x hx=>hp x (nd_kid hm hx)
      rw [xA ha,Al,Al];omega
section
variable {T:List e8Sc} {q:Qy}
theorem sn_1 (h:(Ib q.name != 0)=true):fQ T q=([],8):=if_pos (cS h)
theorem sn_2 (h:(Ib q.name != 0)=false)(h2:(I6 q.pattern != 0)=true):fQ T q=([],I6 q.pattern):=(Bu (cS h)).trans (if_pos h2)
theorem sn_3 (h:(Ib q.name != 0)=false)(h2:(I6 q.pattern != 0)=false)(h3:(VrE T q != 0)=true):fQ T q=([],VrE T q):=(Bu (cS h)).trans ((Bu h2).trans (if_pos h3))
theorem sn_b (h:(Ib q.name != 0)=false)(h2:(I6 q.pattern != 0)=false)(h3:(VrE T q != 0)=false):fQ T q=sh1 T q:=(Bu (cS h)).trans ((Bu h2).trans (Bu h3))
theorem sn_4 (h:(!(gT T q).2)=true):sh1 T q=([],16):=if_pos h
theorem sn_5 (h:(!(gT T q).2)=false)(h2:((q.returns.length:Int)==0)=true):sh1 T q=([],15):=(Bu h).trans (if_pos h2)
theorem sn_c (h:(!(gT T q).2)=false)(h2:((q.returns.length:Int)==0)=false):sh1 T q=sh2 T q:=(Bu h).trans (Bu h2)
theorem sn_6 {e:Int}(h:rtE q=e)(he:(e != 0)=true):sh2 T q=([],e):=by unfold sh2;rw [h,if_pos he]
theorem sn_d (h:rtE q=0):sh2 T q=sh3 T q:=by unfold sh2;rw [h];rfl
theorem sn_7 {u:Int×Bool}(h:usR T q=u)(hu:(u.1 != 0)=true):sh3 T q=([],u.1):=by unfold sh3;rw [h,if_pos hu]
theorem sn_8 {b:Bool}(h:usR T q=(0,b))(hb:(!b)=true):sh3 T q=([],8):=by unfold sh3;rw [h];exact (Bu (rfl:((0:Int) != 0)=false)).trans (if_pos hb)
theorem sn_9 {b:Bool}(h:usR T q=(0,b))(hb:(!b)=false):sh3 T q=((gT T q).1,0):=by unfold sh3;rw [h];exact (Bu (rfl:((0:Int) != 0)=false)).trans (Bu hb)
theorem ex_at2 {l m:List Ex}{k:Nat}{a:Ex}(h:(l++m)[k]? = some a):(l.map Ix++m.map Ix)[k]? = some (cE a):=by rw [<-Di];exact wE h
theorem co_size {p:Pt}(hp:medP p):∀e∈U0 p,Ef e<=1048576:=fun e he=>by
 obtain ⟨x,hx,rfl⟩:=Cd.1 he;exact hp.cond x (Kv.1 hx).1
end
abbrev K4 (q:Ac×Int):AV:=AV.tuple [.str q.1,.int .i64 q.2]
theorem rz_shown (T:List e8Sc)(hT:TsOK T)(hsn:∀s∈T,fO s)(q:Qy)(hq:medQ q)(hql:q.name.length<=1048576)(hvn:∀v∈q.vars,v.name.length<=1048576):Au Tryz.prog 60 [.sl 2 (T.map Oh),.agg (cQy q)] (.tuple [.str (fQ T q).1,.int .i64 (fQ T q).2]):=by
 have hll:(U0 q.pattern++q.returns).length=(U0 q.pattern).length+q.returns.length:=Al;have hcl:=rV q.pattern;have hpn:=hq.p.n;have hrl:=hq.r;refine G3 97 Tryz.func60 rfl fun H=>?_
 refine Ab (Qp (Zx (v:=.sl _ _) (cs:=[_]) rfl rfl rfl) (Qp (Ji O8) (Qp Nb (Qp A3 (A7 (Cj (Qp (Qf O8) (Qp Hn (Qp (Qc rfl (c20 q.name hql)) (Qp Cq (Br (fun hc1=>Ab (Qp Nb (Qp A3 (Rc (Py (.str _) (Iq _) ?_))))) fun hc1=>?_)))))))))))
 . exact Ye K4 (sn_1 hc1)
 refine B8 (Cj (Qp (Qf gkz) (Qp (C8 Hp) (Qp (Qc rfl (zC q.pattern hq.p)) (Qp A3 (Cf (Qp Ax (Qp Cq (Br (fun hc2=>Ab (Qp Ax (Qp Nb (Qp A3 (Rc (Py (.str _) (Iq _) ?_)))))) fun hc2=>B8 (Cj (Qp Eg (Qp (C8 O8) (Qp (Qc rfl (rz_vars T hT.tl q (ty_nodup hc2) (fun i x hx=>fY hc2 hx) hq.p.n hq.v hvn)) ?_)))))))))))))
 . exact Ye K4 (sn_2 hc1 hc2)
 refine Qp A3 (Cf (Qp Ax (Qp Cq (Br (fun hc3=>Ab (Qp Ax (Qp Nb (Qp A3 (Rc (Py (.str _) (Iq _) ?_)))))) fun hc3=>?_))))
 . exact Ye K4 (sn_3 hc1 hc2 hc3)
 have hrv:=rv_of hT hc2 (by simpa using hc3);have hvp:0<q.vars.length:=by have:=ty_pos q.pattern (P9 hc2);have:=hrv.2;omega
 refine B8 (Ab (Qp Eg (Qp (C8 O8) (Qp (Qc rfl (rz_keyed T hT hsn q hrv.1 hvp hq.k)) (Qp Wz (Qp Qxt (Qp oB (Qp Nb (Qp Bl (A7 (Cj (Qp Cw (Qp Ke (Br (fun hc4=>Ab (Qp Nb (Qp A3 (Rc (Py (.str _) (Iq _) ?_))))) fun hc4=>B8 (Cj (Qp (Qf [_]) (Qp Eg ?_)))))))))))))))))
 . exact Ye K4 ((sn_b hc1 hc2 hc3).trans (sn_4 hc4))
 refine Qp (G6 q.returns.length rfl rfl (by simp)) ?_;refine Qp Bv (Br (fun hc5=>Ab (Qp Nb (Qp A3 (Rc (Py (.str _) (Iq _) ?_))))) fun hc5=>B8 (Cj (Qp (Qf [_]) (Qp Eg ?_))))
 . exact Ye K4 ((sn_b hc1 hc2 hc3).trans (sn_5 hc4 hc5))
 refine Qp (G6 q.returns.length rfl rfl (by simp)) ?_;refine Qp Ax (A7 (AW.block ?_));refine AW.Aan (fun (k:Nat)=>(⟨[(2,.ptr [.sl 2 (T.map Oh)]),(3,.ptr (cQy q)),(8,.str (gT T q).1),(48,.sl 8 (q.returns.map Ix)),(49,.int .i64 q.returns.length),(50,.int .i64 (k:Int))],H,97⟩:St)) (fun k=>k<=q.returns.length/\(q.returns.take k).any (fun x=>Gn x != 0)=false) (fun k=>q.returns.length-k) (0) ?_ Dp ?_
 . exact ⟨Bk _,by simp⟩
 rintro k hR;refine Ab (Qp C5 (Re (Hs (fun hc6=>?_) fun hc6=>?_)))
 .
  obtain ⟨a,ha⟩:=De hc6;have hlt:=Ch ha;have hm:=Ak ha;refine B8 (AW.seq (AW.block (Ab ?_)));refine Qp (F5 Nd rfl rfl (by omega) (wE ha)) ?_;refine Qp Ws (E8 ghx fun b11=>?_);refine B4 0 Nd (_::_) ?_;refine Me 11 0 rfl ?_;refine Cf (Qp Ws (Qp (Qc rfl (e8c21 a (hq.e a hm))) (Qp A3 (Cf (Qp Ax (Qp Cq (Br (fun hc7=>Ab (Qp Ax (Qp Nb (Qp A3 (Ra (Bc (Ep (Bc (Py (.str _) (Iq _) ?_))))))))) fun hc7=>Rf (AW.region (Qp Ii (Qp Ax (A7 ?_)))))))))))
  . exact Ye K4 (((sn_b hc1 hc2 hc3).trans (sn_c hc4 hc5)).trans (sn_6 (pS ha hR.2 hc7) hc7))
  refine ⟨k+1,?_,?_,Dp⟩
  . exact ⟨hlt,R0 hR.2 ha hc7⟩
  omega
 have hte:=F1 hc6;have hrt:=hR.2;rw [hte] at hrt;refine AW.exit ?_;refine B9 (Ri (Ab (Qp Eg (Qp (Qf ggy) (Qp Eg (Qp (Gz [_,_]) ?_))))));refine E8 [.sl 2 [],.sl 2 []] fun b13=>?_
 refine B4 0 [_,_] (_::_) ?_;refine Me 13 0 rfl ?_;refine Cf (Qp (Qf ggy) (Qp Eg (Qp (Ca (l:=[]) (l':=[.ptr _]) rfl rfl) ?_)));refine Qp (Qc rfl (zE q.vars hq.v 109 (by kernel_rfl) [.ptr [.sl 2 (T.map Oh)]] (fun v=>Ib ((T[v.type.toNat]?).getD Zt).name != 0) (fun a ha=>rz_sh1 T hsn a (hrv.1.ty a ha)))) ?_;refine Qp Ke (Qp Bl (Re (AW.seq ?_)));refine Oe ?_;refine Qn 0 rfl (Qf gkz) (Qn 1 rfl (C8 Hp) (Qn 3 rfl (Qf [_]) (Qn 4 rfl Eg (Qn 7 rfl Ax ?_))));refine Sef 2 rfl (D2 rfl (rz_conds q.pattern hq.p.n _)) ?_;rintro _ _ ⟨v71,rfl,rfl⟩;refine Sef 5 rfl (Zq 0 rfl (scEx _) (scEx _) (by simp;omega) (by simp [maxLen];omega)) ?_;rintro _ _ ⟨v74,rfl,rfl⟩;refine Qn 6 rfl (Ho (n:=(U0 q.pattern++q.returns).length) tok rfl rfl rfl (by simp)) ?_;refine Jr ?_;refine Ap (AW.block ?_);refine AW.ghost (GS.unrow 74 rfl) ?_;refine AW.Aan (fun (z:Nat×Bool)=>(⟨[(8,.str (gT T q).1),(13,.ptr (cNm T q.vars)),(14,.bool z.2),(74,.sl 8 ((U0 q.pattern).map Ix++q.returns.map Ix)),(75,.int .i64 (U0 q.pattern++q.returns).length),(76,.int .i64 (z.1:Int))],H,97⟩:St)) (fun z=>z.1<=(U0 q.pattern++q.returns).length/\usR T q=Tz T q.vars ((U0 q.pattern++q.returns).drop z.1) z.2) (fun z=>(U0 q.pattern++q.returns).length-z.1) ((0,!(q.vars.any fun v=>Ib ((T[v.type.toNat]?).getD Zt).name != 0))) ?_ (GS.weaken ⟨rfl,rfl,rfl,rfl,rfl,rfl,trivial⟩ (.cons _ (.refl _))) ?_
 . exact ⟨Bk _,by simp only;rw [tnB_any];rfl⟩
 rintro z hz;refine Ab (Qp C5 (Re (Hs (fun hc8=>?_) fun hc8=>?_)))
 .
  obtain ⟨a,ha⟩:=De hc8;have hlt:=Ch ha;have hm:=Ak ha;have hsa:Ef a<=1048576:=(G2.1 hm).elim (co_size hq.p a) (hq.e a);refine B8 (AW.seq (AW.block (Ab ?_)));refine Qp (F5 Nd rfl rfl (by omega) (ex_at2 ha)) ?_;refine Qp Ws (E8 ghx fun b16=>?_);refine B4 0 Nd (_::_) ?_;refine Me 16 0 rfl ?_;refine Cf (Qp (C8 [_,_]) (Qp Ws (Qp (Qc rfl (rf_uses T q.vars hrv.1 hsn a hsa)) (Qp Wz (Qp Wt (Qp oB (Qp A3 (Qp Bl (A7 (Cj (Qp Ax (Qp Cq ?_))))))))))));refine Br (fun hc9=>Ab (Qp Ax (Qp Nb (Qp A3 (Rc (Rj (Bc (Py (.str _) (Iq _) ?_)))))))) fun hc9=>B8 (AW.region (Qp Cw (Qp Cw (Qg [] Qw Cw (Qp Mu (Qp Bl (Rk (AW.region (Qp Ii (Qp Ax (A7 ?_)))))))))))
  . exact Ye K4 ((((sn_b hc1 hc2 hc3).trans (sn_c hc4 hc5)).trans (sn_d (Rh hrt))).trans (sn_7 (hz.2.trans (useL_no ha hc9)) hc9))
  refine ⟨(z.1+1,z.2&&(Wq T q.vars a).2),?_,?_,Dp⟩
  . exact ⟨hlt,hz.2.trans (useL_on ha hc9)⟩
  simp only;omega
 have hde:=Hk hc8;have hall:=hz.2;rw [hde,Tz] at hall;refine AW.exit ?_;refine B9 (Ri (Cj (Qp Cw (Qp Ke (Br (fun hc10=>?_) fun hc10=>?_)))))
 .
  refine Ab (Qp Nb (Qp A3 (Rc (Py (.str _) (Iq _) ?_))));exact Ye K4 ((((sn_b hc1 hc2 hc3).trans (sn_c hc4 hc5)).trans (sn_d (Rh hrt))).trans (sn_8 hall hc10))
 refine B8 (Ab (Qp Iw (Qp Nb (Qp A3 (Rb (Py (.str _) (Iq _) ?_))))));exact Ye K4 ((((sn_b hc1 hc2 hc3).trans (sn_c hc4 hc5)).trans (sn_d (Rh hrt))).trans (sn_9 hall hc10))
theorem each_al {f:Syn->Fa}:∀{l:List Syn},(Ia f l).err=0->∀a∈l,(f a).err=0
  | [],_,a,h=>by cases h
  | x::r,h,a,ha=>by
    rw [Ia] at h;split at h
    . rename_i h1;rw [h] at h1;cases h1
    . rename_i h1
      rcases Cu.1 ha with rfl | ha
      . simpa using h1
      exact each_al h a ha
theorem dec_fwd {T:List e8Sc}:∀(l:List Syn) (V:List Va),((K8 T V l).2.err != 0)=false->(H5 V).Nodup->(H5 V++l.map (·.name)).Nodup/\∀e∈l,(H4 T).contains e.text=true
  | [],V,_,hn=>⟨by simpa using hn,fun e h=>by cases h⟩
  | t::r,V,h,hn=>by
    rw [J1] at h;split at h
    . rename_i h1
      have h2:(Lo T V t != 0)=false:=h;rw [h1] at h2;cases h2
    . rename_i h1
      have h0:Lo T V t=0:=by simpa using h1
      unfold Lo at h0;split at h0
      . cases h0
      split at h0
      . cases h0
      split at h0
      . cases h0
      rename_i g1 g2 g3;have c1:(H4 T).contains t.text=true:=by simpa using g2
      have c2:t.name∉H5 V:=by simpa using g3
      have e:H5 (V ++ [K9 T t])=H5 V ++ [t.name]:=by simp [K9]
      have ih:=dec_fwd r (V ++ [K9 T t]) h (by
        rw [e];exact Ih.2 ⟨hn,by simp,fun a ha b hb=>by rw [D5.1 hb];exact fun e=>c2 (e▸ha)⟩)
      rw [e] at ih;refine ⟨by simpa using ih.1,fun x hx=>?_⟩;rcases Cu.1 hx with rfl | hx
      . exact c1
      exact ih.2 x hx
theorem ev_chk:∀t:Syn,Ag t .pats=0->∀e∈Lb t,e.kind=5/\Ru e.text=true/\Ru e.name=true:=by
  intro t
  induction t using Syn.ind with
  | h t ih=>
    intro hc e he
    have own:∀{a:Syn} {pl:Pl},Ag a pl=0->a.kind=5->a.kind=5/\Ru a.text=true/\Ru a.name=true:=fun {a pl} h h5=>by
      obtain ⟨o1,o2,o3,o4⟩:=Bz (Bx h).1;exact ⟨h5,Gf o3 (by rw [h5];rfl) (by omega),Un o3 (by rw [h5];rfl) (by omega)⟩
    rw [kS] at he;rcases G2.1 he with he | he
    . unfold evO at he
      split at he
      . rename_i h5
        rw [D5.1 he];exact own hc (by simpa using h5)
      . split at he
        . rename_i h10
          obtain ⟨c1,c2,c3⟩:=kid_ev hc (by simpa using h10);rw [D5.1 he];exact own c1 c2
        cases he
    . obtain ⟨x,hx,he⟩:=List.mem_flatMap.1 he
      exact ih x (Kr hx) (M8 hc hx) e he
theorem vr_fwd {T:List e8Sc}{L:List Int}:∀(l:List Syn) (seen:List Ac) (i:Nat),(∀k e,l[k]? = some e->L[i+k]? = some (Js (H4 T) e.text))->(seen++l.map (·.name)).Nodup->(∀e∈l,Ru e.name=true/\(H4 T).contains e.text=true)->uL T L seen i (l.map (K9 T))=0
  | [],seen,i,_,_,_=>rfl
  | t::r,seen,i,h1,h2,h3=>by
    obtain ⟨n1,n2⟩:=h3 t (by simp)
    have hc:seen.contains t.name=false:=by
      cases hq:seen.contains t.name with
      | false=>rfl
      | true=>
        rw [Ih] at h2;exact absurd rfl (h2.2.2 t.name (by simpa using hq) t.name (by simp))
    have hx:=decV_ok n2;have hL:=h1 0 t rfl
    have h0:vrE T L seen i (K9 T t)=0:=by
      unfold vrE
      rw [show (K9 T t).name=t.name from rfl,n1,if_neg (by decide),hc,if_neg (by decide),if_neg (by simp;omega),if_neg (by
        rw [Nat.add_zero] at hL;rw [hL];simp [K9])]
    rw [Ao,uL,h0,if_neg (by decide)];refine vr_fwd r (seen ++ [t.name]) (i+1) (fun k e he=>?_) ?_ fun e he=>h3 e (by simp [he])
    . have:=h1 (k+1) e (by rw [List.getElem?_cons_succ];exact he)
      rw [show i+1+k=i+(k+1) by omega];exact this
    . rw [Ao] at h2
      simpa using h2
theorem cd_nodes' {p:Pt}(h:(I6 p != 0)=false):∀e∈U0 p,Ip e=0:=fun e he=>by
 obtain ⟨x,hx,rfl⟩:=Cd.1 he;have hx2:=Kv.1 hx;have hn:=P9 h x hx2.1;exact (S8 (hn.parts.2.2.1 (by rw [<-hn.flags.2];exact hx2.2))).2.2
theorem sh_is {T:List e8Sc}{q:Qy}(h:ShOK T q):fQ T q=((gT T q).1,0):=by
 unfold fQ;rw [h.n,if_neg (by decide),if_neg (by rw [h.p];decide),h.v,if_neg (by decide)];unfold sh1
 rw [h.k,if_neg (by decide),if_neg (by
  intro hc;exact h.r (bG (by simpa using hc)))]
 have hr:rtE q=0:=by
  unfold rtE;refine Rh ?_;rw [<-Bool.not_eq_true,List.any_eq_true];rintro ⟨x,hx,hne⟩;rw [h.e x hx] at hne;cases hne
 unfold sh2;rw [hr,if_neg (by decide)];unfold sh3;rw [show usR T q=(0,true) from h.u];rfl
theorem ret_chk {t x:Syn}(ht:QryOK t)(hx:x∈t.kids.drop 2):Ag x .exps=0/\x∈t.kids:=by
 obtain ⟨j,hj⟩:=Fh.1 hx;rw [List.getElem?_drop] at hj;have h1:=(Dl ht.c hj).1
 have e:Cr t (2+j) = .exps:=by
  unfold Cr;rw [ht.kind,if_neg (by decide),if_neg (by decide),if_pos (by rfl),if_neg (by simp;omega),if_neg (by simp;omega)]
 rw [e] at h1;exact ⟨h1,Ak hj⟩
theorem q_fwd {T:List e8Sc}{t:Syn}{q:Qy}(hT:(Fv T != 0)=false)(ht:QryOK t)(hg:QGood T t q):ShOK T q/\qT T q=Ft t:=by
 obtain ⟨t1,t2,t3,t4⟩:=Bz (Bx ht.c).1;have hrv:RvOK T (H8 T t):=dec_rv (all_ts hT) _;obtain ⟨d1,d2⟩:=dec_fwd (Lb (Aq t 1)) [] hg.v O4
 have hV:H8 T t=(Lb (Aq t 1)).map (K9 T):=by
  have:=vN (T:=T) (Lb (Aq t 1)) [] hg.v;show (K8 T [] (Lb (Aq t 1))).1=_;simpa using this
 have hec:=ev_chk _ ht.pat
 have hE:EvAt T (H8 T t) (Lb (Aq t 1)) 0:=fun i e he=>by
  refine ⟨?_,d2 e (Ak he)⟩;unfold gB;rw [Int.zero_add,Ma,hV,List.getElem?_map,he];rfl
 obtain ⟨hlk,hwk⟩:=Gr hg.w;have hlen:=ht.len;have m1:Aq t 1∈t.kids:=Ak (Hc (k:=1) (by omega));have hp:=pat_fwd _ ht.pat (hwk _ m1) ⟨0,0⟩ hE
 have hrt:∀x∈t.kids.drop 2,Gn (Dv T (H8 T t) x)=0:=fun x hx=>by
  have:=each_al hg.r x hx;unfold rtF at this;split at this
  .
   rename_i h1;have h2:Gn (Dv T (H8 T t) x)=0:=this;exact h2
  rename_i h1;simpa using h1
 have hnp:=P9 hg.p;have htl:((L3 (uR T t (H8 T t))).map (·.2))=(Lb (Aq t 1)).map fun e=>Js (H4 T) e.text:=ty_fwd _ ht.pat _
 have hpos:0<(Lb (Aq t 1)).length:=by
  have h1:=ty_pos _ hnp;have h2:=congrArg List.length htl;rw [Bg,Bg] at h2;omega
 have hky:(gT T q).1=(Aq t 0).text/\(gT T q).2=true:=by
  rw [hg.is];by_cases hx:(Aq t 0).text = []
  .
   have e:qG T t (H8 T t)=([],true):=ky_no (by rw [hx];rfl);unfold gT;rw [show (mY T t (H8 T t)).key = [] by unfold mY;rw [e],hx];exact ⟨rfl,rfl⟩
  have e:qG T t (H8 T t)=Pf T (H8 T t) (Aq t 0).text:=lT (by simpa using hx);have hk2:=hg.k;rw [e] at hk2;have hk3:(Pf T (H8 T t) (Aq t 0).text).2=true:=by simpa using hk2
  obtain ⟨l1,l2⟩:=key_ok hrv hk3
  obtain ⟨v,r,hvr⟩:∃v r,H8 T t=v::r:=by
   rw [hV]
   match hq:Lb (Aq t 1) with
   | []=>rw [hq] at hpos;exact absurd hpos (by decide)
   | e::r=>exact ⟨_,_,rfl⟩
  have hv0:v∈H8 T t:=by rw [hvr];simp
  have hty:=hrv.ty v hv0;obtain ⟨l3,l4⟩:=l2 v hv0;have e0:aK (mY T t (H8 T t))=v.type:=by unfold aK mY;simp only;rw [hvr];rfl
  have ek:(mY T t (H8 T t)).key=(Pf T (H8 T t) (Aq t 0).text).1:=by unfold mY;rw [e]
  have eI:oH (mY T t (H8 T t))=Ei ((T[v.type.toNat]?).getD Zt) (Aq t 0).text:=by
   unfold oH ixI;rw [e0,ek,l3];rfl
  have eF:kyF T (mY T t (H8 T t))=((T[v.type.toNat]?).getD Zt).fields:=by unfold kyF;rw [e0]
  have eN:aL T (mY T t (H8 T t))=(Aq t 0).text:=by
   unfold aL;rw [eF,eI];exact lD l4
  have hlt:Ei ((T[v.type.toNat]?).getD Zt) (Aq t 0).text<(((T[v.type.toNat]?).getD Zt).fields.length:Int):=by
   have:=(pl_le ((((T[v.type.toNat]?).getD Zt).fields).map (·.name)) (Aq t 0).text).2;rw [Bg] at this;exact this
  have hnm:Ru (Aq t 0).text=true:=by
   have hk4:=(Dl ht.c (Hc (k:=0) (by omega))).1;have eC:Cr t 0 = .only 4:=by unfold Cr;rw [ht.kind];rfl
   rw [eC] at hk4;obtain ⟨p1,p2,p3,p4⟩:=Bz (Bx hk4).1;have k4:(Aq t 0).kind=4:=Dz p1;unfold Li at p3;split at p3
   . cases p3
   rename_i h1;rw [k4,show ((Aq t 0).text == [])=false by simpa using hx] at h1;simpa [Ku] using h1
  have dA:(decide (oH (mY T t (H8 T t))<0)||decide (((kyF T (mY T t (H8 T t))).length:Int)<=oH (mY T t (H8 T t))))=false:=by
   rw [eI,eF,Gc (by omega),Gc (by omega)];rfl
  have dB:((((mY T t (H8 T t)).key.length:Int))==0)=false:=by
   rw [ek,l1,Hz];omega
  unfold gT;rw [if_neg (by rw [dB];decide),if_neg (by rw [ek,l1];simp),if_neg (by rw [dA];decide),eN];refine ⟨rfl,?_⟩;show kyO T (mY T t (H8 T t))=true;unfold kyO;rw [eN,show (mY T t (H8 T t)).vars=H8 T t from rfl,hk3,ek,hnm];simp
 have hret:q.returns=(t.kids.drop 2).map (Dv T (H8 T t)):=by rw [hg.is];rfl
 have hvars:q.vars=H8 T t:=by rw [hg.is];rfl
 have hpat:q.pattern=uR T t (H8 T t):=by rw [hg.is];rfl
 have hcon:∀e∈U0 q.pattern++q.returns,Ip e=0/\Tt T q.vars e=true/\aP T q.vars e=true:=fun e he=>by
  rw [hpat,hret,hvars] at *;rcases G2.1 he with he | he
  .
   refine ⟨cd_nodes' hg.p e he,?_⟩;rcases co_fwd _ ht.pat (hwk _ m1) ⟨0,0⟩ e he with h1 | ⟨x,c1,c2,c3⟩
   . rw [h1];exact ⟨rfl,rfl⟩
   rw [c3];exact kno_fwd x c1 c2
  obtain ⟨x,hx,rfl⟩:=Cd.1 he;obtain ⟨c1,c2⟩:=ret_chk ht hx;exact ⟨(S8 (hrt x hx)).2.2,kno_fwd x c1 (hwk x c2)⟩
 have hok:ShOK T q:=by
  refine ⟨hT,by rw [hpat];exact hg.p,?_,hky.2,?_,?_,?_,?_⟩
  .
   unfold VrE;rw [hpat,hvars,htl]
   have hl:(L3 (uR T t (H8 T t))).length=(H8 T t).length:=by
    have h2:=congrArg List.length htl;rw [Bg,Bg] at h2;rw [h2,hV,Bg]
   rw [hl,if_neg (by simp)];rw [show uL T _ [] 0 (H8 T t)=uL T ((Lb (Aq t 1)).map fun e=>Js (H4 T) e.text) [] 0 ((Lb (Aq t 1)).map (K9 T)) by rw [<-hV]];exact vr_fwd _ _ _ (fun k e he=>by rw [Eb,List.getElem?_map,he];rfl) (by simpa using d1) fun e he=>⟨(hec e he).2.2,d2 e he⟩
  .
   rw [hret];intro hn;have h1:=congrArg List.length hn;rw [Bg,Eh,Bn] at h1;omega
  .
   intro e he;rw [hret] at he;obtain ⟨x,hx,rfl⟩:=Cd.1 he;exact hrt x hx
  .
   rw [Aaa fun e he=>(hcon e he).1];rw [F3.2 fun e he=>(hcon e he).2.1,F3.2 fun e he=>(hcon e he).2.2,if_pos rfl]
   have htn:tnB T q=true:=by
    unfold tnB;rw [hvars,hV,List.all_map];refine F3.2 fun e he=>?_
    show Ru ((T[(Js (H4 T) e.text).toNat]?).getD Zt).name=true;rw [tn_fwd (d2 e he)];exact (hec e he).2.1
   rw [htn];rfl
  rw [hg.is];show Ru t.text=true;have h3:=ht.kind;exact Gf t3 (by rw [h3];rfl) (by omega)
 refine ⟨hok,?_⟩;have h3:=ht.kind;have hsh:(fQ T q).1=(Aq t 0).text:=by rw [sh_is hok];exact hky.1
 rw [Iu,X0 (by omega)];unfold qT;rw [hsh];refine bB h3.symm (by rw [hg.is];rfl) ((F2 t4 (by omega)).2 (by rw [h3];rfl)).symm (E5 t4 (by omega)).symm ?_ rfl
 obtain ⟨a,b,r,hq⟩:∃a b r,t.kids=a::b::r:=by
  match hq:t.kids with
  | []=>rw [hq] at hlen;exact absurd hlen (by decide)
  | [_]=>rw [hq] at hlen;exact absurd hlen (by simp)
  | a::b::r=>exact ⟨a,b,r,rfl⟩
 have ea:Aq t 0=a:=by unfold Aq;rw [hq];rfl
 have eb:Aq t 1=b:=by unfold Aq;rw [hq];rfl
 have hk4:=(Dl ht.c (j:=0) (a:=a) (by rw [hq];rfl)).1;have eC:Cr t 0 = .only 4:=by unfold Cr;rw [h3];rfl
 rw [eC] at hk4;obtain ⟨p1,p2,p3,p4⟩:=Bz (Bx hk4).1;have k4:a.kind=4:=Dz p1
 have e1:(⟨4,(Aq t 0).text,[],0,[],0⟩:Syn)=Ft a:=by
  rw [Iu,X0 (by omega),ea,Uk p2 (by simp [k4]),k4,(F2 p4 (by omega)).2 (by rw [k4];rfl),E5 p4 (by omega)];rfl
 have e2:Oa T q.vars q.pattern=Ft b:=by rw [hvars,hpat,<-eb];exact hp
 have e3:q.returns.map (Pa T q.vars)=r.map Ft:=by
  rw [hret,hvars,Hd];have er:t.kids.drop 2=r:=by rw [hq];rfl
  rw [er];refine Kw fun x hx=>?_
  obtain ⟨c1,c2⟩:=ret_chk ht (by rw [er];exact hx);exact ex_fwd x c1 (hwk x c2)
 show (⟨4,(Aq t 0).text,[],0,[],0⟩:Syn)::Oa T q.vars q.pattern::q.returns.map (Pa T q.vars)=t.kids.map Ft;rw [e1,e2,e3,hq];rfl
def wt (t:Tok):Nat:=70+5*t.text.length
def pot:List Tok->Nat->Nat
 | [],_=>0
 | _::_,0=>0
 | t::r,n+1=>wt t+pot r n
def pt (st:PS):Nat:=pot st.toks st.pos
variable {l:List Tok} {e d:Int} {a b st:PS} {w:Ac}
theorem wZ {t:Syn}:∀(l:List Syn) (i:Nat),(∀j a,l[j]? = some a->Ag a (Cr t (i+j))=0)->Mk t i l=0
  | [],i,_=>rfl
  | x::r,i,h=>by
    have h0:=h 0 x rfl;rw [Nat.add_zero] at h0;rw [Mk,h0,if_neg (by decide)]
    exact wZ r (i+1) fun j a ha=>by
      have:=h (j+1) a ha
      rwa [show i+(j+1)=i+1+j by omega] at this
theorem mk_check {t:Syn}{p:Pl}(ho:Vq p t=0)(hk:∀j a,t.kids[j]? = some a->Ag a (Cr t j)=0):Ag t p=0:=by
 rw [P6,ho,if_neg (by decide)];exact wZ t.kids 0 fun j a ha=>by rw [Eb];exact hk j a ha
theorem mk_own {t:Syn}{p:Pl}(h1:p.at t.kind=true)(h2:Ct t=true)(h3:Li t=true)(h4:C9 t=0):Vq p t=0:=by
 unfold Vq;rw [h1,h2,h3];exact h4
def Bq (post:List Tok):Prop:=∀c r,post=c::r->c=Kd\/c=O0\/c=tsm\/c=tw Dc
theorem Bq.rp (r:List Tok):Bq (Kd::r):=fun c q h=>.inl (List.cons.inj h).1.symm
theorem Bq.cm (r:List Tok):Bq (O0::r):=fun c q h=>.inr (.inl (List.cons.inj h).1.symm)
theorem Bq.sm (r:List Tok):Bq (tsm::r):=fun c q h=>.inr (.inr (.inl (List.cons.inj h).1.symm))
theorem Bq.ret (r:List Tok):Bq (tw Dc::r):=fun c q h=>.inr (.inr (.inr (List.cons.inj h).1.symm))
variable {pre post rest:List Tok} {d:Int} {t:Tok}
def Hq (t:Tok)(w:Ac):Bool:=(t.text==w)&&((t.kind==3)||((t.kind==0)&&Ro w))
theorem Ci {w:Ac}:Ea w (Cg pre (t::post) d)=Hq t w:=is_cur
theorem Bq.not (hb:Bq post){w:Ac}(h:Hq Kd w=false/\Hq O0 w=false/\Hq tsm w=false/\Hq (tw Dc) w=false):Ea w (Cg pre post d)=false:=by
  cases post with
  | nil=>exact is_nil
  | cons c r=>
    rw [Ci];rcases hb c r rfl with rfl | rfl | rfl | rfl
    . exact h.1
    . exact h.2.1
    . exact h.2.2.1
    exact h.2.2.2
theorem NoOp.q (hb:Bq post):NoOp (Cg pre post d):=
 ⟨⟨hb.not (by decide),hb.not (by decide),hb.not (by decide),hb.not (by decide)⟩,hb.not (by decide),hb.not (by decide),hb.not (by decide),hb.not (by decide),hb.not (by decide),hb.not (by decide)⟩
theorem A9 {t:Tok}{l:List Tok}(h:t.pos=0)(k:Gx l):Gx (t::l):=by
 unfold Gx at *;rw [Ao,k];cases t;simp only at h;subst h;rfl
theorem Xb:∀{l:List (List Tok)},(∀x∈l,Gx x)->Gx l.flatten
 | [],_=>rfl
 | x::r,h=>(h x (by simp)).app (Xb fun y hy=>h y (Gs _ hy))
theorem Ug:∀{l:List (List Tok)},(∀x∈l,Gx x)->Gx (Il l)
 | [],_=>rfl
 | [x],h=>h x (by simp)
 | x::y::r,h=>((h x (by simp)).app (show Gx [O0] from rfl)).app (Ug fun z hz=>h z (Gs _ hz))
theorem Xc {p k:Syn}{l:List Tok}(h:Gx l):Gx (Hb p k l):=by
 unfold Hb;split
 . exact ((show Gx [Kz] from rfl).app h).app (show Gx [Kd] from rfl)
 exact h
theorem era_num (n:Int):Gx (fI n):=by unfold fI;split <;> rfl
theorem era_lit (t:Syn):Gx (tG t):=by
 unfold tG;split
 . exact era_num _
 split
 . split <;> rfl
 rfl
theorem Yq {l:List (List Tok)}(h:∀x∈l,Gx x)(j:Nat):Gx (l.getD j []):=by
 rw [Dm];cases hj:l[j]? with
 | none=>rfl
 | some x=>exact h x (Ak hj)
theorem Et (t:Tok)(h:t.pos=0):Gx [t]:=A9 h rfl
theorem Rg {c:Prop}[Decidable c]{a b:List Tok}(ha:Gx a)(hb:Gx b):Gx (if c then a else b):=by
 split
 . exact ha
 exact hb
theorem era_node {t:Syn}{ws:List (List Tok)}(h:∀x∈ws,Gx x):Gx (E3 t ws):=by
 have h1:∀w,Gx [tw w]:=fun w=>rfl
 have h2:∀w,Gx [tg w]:=fun w=>rfl
 have h3:Gx (if (ws == [])=true then [] else [tw Lv]++ws.getD 0 []):=by split;exact rfl;exact (h1 _).app (Yq h 0)
 have h4:Gx (if (ws == [])=true then [] else [O0]++ws.getD 0 []):=by split;exact rfl;exact (show Gx [O0] from rfl).app (Yq h 0)
 have h5:Gx (if ((Aq t 0).text == [])=true then [] else [tw O2] ++ [tw (Aq t 0).text]):=by split;exact rfl;exact (h1 _).app (h1 _)
 have h6:Gx (if (t.kind==11)=true then [O0]++fI t.num else []):=by split;exact (show Gx [O0] from rfl).app (era_num _);exact rfl
 have h7:Gx [E9 t.num]:=Et _ (by unfold E9;split <;> rfl);have n0:Gx ([]:List Tok):=rfl
 exact Rg (Xb h) (Rg (((((h1 _).app n0).app (h1 _)).app (h2 _)).app (Ug h) |>.app (h2 _)) (Rg (((h1 _).app (h2 _)).app (h1 _))
  (Rg (((((((((((((h1 _).app n0).app (h1 _)).app h5).app n0).app (h1 _)).app n0).app (Yq h 1)).app n0).app (h1 _)).app n0).app (Ug fun x hx=>h x (Wd hx))).app (h2 _))
  (Rg ((((h1 _).app n0).app (h1 _)).app h3) (Rg (era_lit t) (Rg (((h1 _).app (h2 _)).app (h1 _)) (Rg ((((h1 _).app (h2 _)).app (h1 _)).app (h2 _))
  (Rg (((((((h1 _).app (h2 _)).app (h1 _)).app (h2 _)).app (h1 _)).app h4).app (h2 _)) (Rg (((((Xc (Yq h 0)).app n0).app h7).app n0).app (Xc (Yq h 1)))
  (Rg (((h1 _).app n0).app (Xc (Yq h 0))) (((((h1 _).app (h2 _)).app (Ug h)).app h6).app (h2 _))))))))))))
theorem Dq (t:Syn):Gx (Ae t):=by
 refine Syn.ind (P:=fun t=>Gx (Ae t)) (fun t ih=>?_) t;rw [C3];refine era_node fun x hx=>?_
 obtain ⟨a,ha,rfl⟩:=Cd.1 hx;exact ih a ha
theorem Xl {s:Ac}(h:Ro s=false)(w:Ac):Hq (tw s) w=false:=by
  show ((s==w)&&((0:Int)==3||((0:Int)==0&&Ro w)))=false;cases hq:(s==w) with
  | false=>rfl
  | true=>
    have:s=w:=by simpa using hq
    rw [<-this,h];rfl
theorem Rp {t:Tok}(h:t.kind=1\/t.kind=2)(w:Ac):Hq t w=false:=by
 unfold Hq;have e1:(t.kind==3)=false:=by rcases h with h | h <;> rw [h] <;> rfl
 have e2:(t.kind==0)=false:=by rcases h with h | h <;> rw [h] <;> rfl
 rw [e1,e2];simp
theorem hit_text {t:Tok}{w:Ac}(h:Hq t w=true):w=t.text:=by
 unfold Hq at h;rw [Ce] at h;have:=h.1;simp only [beq_iff_eq] at this;exact this.symm
theorem Si {E:PS->Syn×PS}(h1:Hq t Ds=false)(h2:t.text≠gE/\t.text≠gD/\t.text≠Ux/\t.text≠Zn/\t.text≠N5/\t.text≠Hj\/t.kind=2)
  (h3:((t.kind==0)&&(((0:Int) != 0) || !(Ro t.text)))=false):D0 E (Cg pre (t::post) d)=D9 (Cg pre (t::post) d):=by
 have k:∀w:Ac,(t.text≠w\/t.kind=2)->Ea w (Cg pre (t::post) d)=false:=fun w hw=>by
  rw [Ci];rcases hw with hw | hw
  .
   cases hq:Hq t w with
   | false=>rfl
   | true=>exact absurd (hit_text hq).symm hw
  exact Rp (.inr hw) w
 have a:(t.text≠gE\/t.kind=2)/\(t.text≠gD\/t.kind=2)/\(t.text≠Ux\/t.kind=2)/\(t.text≠Zn\/t.kind=2)/\(t.text≠N5\/t.kind=2)/\(t.text≠Hj\/t.kind=2):=by
  rcases h2 with ⟨a,b,c,d,e,f⟩ | h
  . exact ⟨.inl a,.inl b,.inl c,.inl d,.inl e,.inl f⟩
  exact ⟨.inr h,.inr h,.inr h,.inr h,.inr h,.inr h⟩
 unfold D0;rw [Ci (w:=Ds),h1]
 have ef:totL.find? (fun s=>Ea s.1 (Cg pre (t::post) d))=none:=by
  unfold totL;rw [List.find?_cons,List.find?_cons,List.find?_cons,List.find?_cons,List.find?_nil,k _ a.1,k _ a.2.1,k _ a.2.2.1,k _ a.2.2.2.1]
 rw [ef,k _ a.2.2.2.2.1,k _ a.2.2.2.2.2,show Nt 0 (Cg pre (t::post) d)=false by rw [Pq];exact h3];simp only [Ah,↓reduceIte]
theorem const_num {n:Nat}(hn:n<=1099511627776)(hp:Gx pre)(hq:Gx post):D9 (Cg pre (⟨1,Lib.decDigits n,0⟩::post) d)=(⟨13,[],Ig,(n:Int),[],0⟩,Cg (pre ++ [⟨1,Lib.decDigits n,0⟩]) post d):=by
 have eo:D4 (Cg pre (⟨1,Lib.decDigits n,0⟩::post) d)=0:=Ik hp (A9 rfl hq);have en:Nt 1 (Cg pre (⟨1,Lib.decDigits n,0⟩::post) d)=true:=by rw [Pq];rfl
 unfold D9;rw [Ci,Rp (.inl rfl),en,eo];simp only [Ah,↓reduceIte];have e1:Cm 1 (Cg pre (⟨1,Lib.decDigits n,0⟩::post) d)=Cg (pre ++ [⟨1,Lib.decDigits n,0⟩]) post d:=(dL (by rfl)).1;have e2:Up (Cg pre (⟨1,Lib.decDigits n,0⟩::post) d)=(n:Int):=by unfold Up;rw [en,dY];show (Tu (Lib.decDigits n)).1=_;rw [cW hn]
 rw [e1,e2]
theorem const_neg {n:Nat}(hn:n<=1099511627776)(hp:Gx pre)(hq:Gx post):D9 (Cg pre (tg Pc::⟨1,Lib.decDigits n,0⟩::post) d)=(⟨13,[],Ig,0-(n:Int),[],0⟩,Cg (pre ++ [tg Pc,⟨1,Lib.decDigits n,0⟩]) post d):=by
 have eo:D4 (Cg pre (tg Pc::⟨1,Lib.decDigits n,0⟩::post) d)=0:=Ik hp (A9 rfl (A9 rfl hq));unfold D9;rw [Ci,show Hq (tg Pc) Pc=true by decide,eo,Ij];simp only [↓reduceIte];have e1:Cm 1 (Cg (pre ++ [tg Pc]) (⟨1,Lib.decDigits n,0⟩::post) d)=Cg (pre ++ [tg Pc] ++ [⟨1,Lib.decDigits n,0⟩]) post d:=(dL (by rfl)).1;have e2:Up (Cg (pre ++ [tg Pc]) (⟨1,Lib.decDigits n,0⟩::post) d)=(n:Int):=by unfold Up;rw [Pq,dY];show (Tu (Lib.decDigits n)).1=_;rw [cW hn]
 rw [e1,e2,C4];rfl
theorem xJ {a:Syn}{p:Pl}(h:Ag a p=0)(hk:a.kind=13)(hp:Gx pre)(hq:Gx post):D9 (Cg pre (Ae a++post) d)=(Dy a,Cg (pre++Ae a) post d)/\∀E:PS->Syn×PS,D0 E (Cg pre (Ae a++post) d)=D9 (Cg pre (Ae a++post) d):=by
  obtain ⟨_,hs,_,hf⟩:=Bz (Bx h).1;have e2:Ae a=tG a:=by rw [C3];unfold E3;rw [hk];rfl
  unfold Ct at hs;rw [hk] at hs
  replace hs:((a.kids.length:Int)==0)=true:=hs
  have hkid:a.kids = []:=by
    cases hq:a.kids with
    | nil=>rfl
    | cons x r=>rw [hq] at hs;simp at hs;omega
  unfold C9 at hf;rw [hk] at hf
  replace hf:I8 a=0:=hf
  have er:Dy a=⟨13,a.text,a.name,a.num,[],0⟩:=by rw [Fc,hkid,hk];rfl
  rw [e2,er];unfold I8 at hf;unfold tG;split at hf
  . rename_i h1
    rw [if_pos h1];have hn:a.name=Ig:=by simpa using h1
    split at hf
    . cases hf
    . rename_i h2
      simp only [Hm,Cb,not_or] at h2;split at hf
      . cases hf
      . rename_i h3
        have ht:a.text = []:=by simpa using h3
        rw [hn,ht];unfold fI;by_cases hneg:a.num<0
        . rw [if_pos hneg]
          refine ⟨?_,fun E=>Si (by decide) (.inl (by decide)) (by decide)⟩;rw [Cp,Cp,Cv,const_neg (by omega) hp hq];have:0-((a.num.natAbs:Nat):Int)=a.num:=by omega
          rw [this]
        . rw [if_neg hneg]
          refine ⟨?_,fun E=>?_⟩
          . rw [Cp,Cv,const_num (by omega) hp hq]
            have:((a.num.toNat:Nat):Int)=a.num:=by omega
            rw [this]
          . have hd:=aD a.num.toNat
            have key:∀w:Ac,C6 (bt w 0)=true->Lib.decDigits a.num.toNat≠w:=fun w hw e=>by
              rw [e] at hd;cases w with
              | nil=>cases hd.2
              | cons c r=>
                have h4:=aE c;have h5:A5 c=true:=by have:=hd.1;rw [Kx,Ce] at this;exact this.1
                have h6:C6 c=true:=hw;rw [h5,h6] at h4;simp at h4
            exact Si (Rp (.inl rfl) _) (.inl ⟨key _ (by decide),key _ (by decide),key _ (by decide),key _ (by decide),key _ (by decide),key _ (by decide)⟩) (by rfl)
  . rename_i h1
    rw [if_neg h1];split at hf
    . rename_i h2
      have hn:a.name=Gg:=by simpa using h2
      rw [if_pos h2];split at hf
      . cases hf
      . rename_i h3
        simp only [Hm,Cb,not_or] at h3;split at hf
        . cases hf
        . rename_i h4
          have ht:a.text = []:=by simpa using h4
          rw [hn,ht];by_cases hb:a.num=1
          . rw [if_pos (by simpa using hb)]
            refine ⟨?_,fun E=>Si (by decide) (.inl (by decide)) (by decide)⟩;rw [Cp,Cv];unfold D9;rw [Ci,Ci,show Hq (tw L4) Pc=false by decide,show Hq (tw L4) L4=true by decide,Pq,Ik hp (A9 rfl hq),Ij,hb];rfl
          . rw [if_neg (by simpa using hb)]
            have h0:a.num=0:=by omega
            refine ⟨?_,fun E=>Si (by decide) (.inl (by decide)) (by decide)⟩;rw [Cp,Cv];unfold D9;rw [Ci,Ci,Ci,show Hq (tw Jx) Pc=false by decide,show Hq (tw Jx) L4=false by decide,show Hq (tw Jx) Jx=true by decide,Pq,Ik hp (A9 rfl hq),Ij,h0];rfl
    . rename_i h2
      rw [if_neg h2];split at hf
      . rename_i h3
        have hn:a.name=Ha:=by simpa using h3
        split at hf
        . cases hf
        . split at hf
          . cases hf
          . rename_i h4 h5
            have h0:a.num=0:=by simpa using h5
            rw [hn,h0];refine ⟨?_,fun E=>Si (Rp (.inr rfl) _) (.inr rfl) (by rfl)⟩;rw [Cp,Cv];have kh:=fun w=>Rp (t:=⟨2,a.text,0⟩) (.inr rfl) w
            unfold D9;rw [Ci,Ci,Ci,kh,kh,kh,show Nt 1 (Cg pre (⟨2,a.text,0⟩::post) d)=false by rw [Pq];rfl,Ik hp (A9 rfl hq)];simp only [Ah,↓reduceIte];have:=dL (pre:=pre) (post:=post) (d:=d) (t:=⟨2,a.text,0⟩) (k:=2) (by rfl);rw [this.1,this.2]
      cases hf
variable {pre post rest:List Tok} {d:Int} {t:Tok}
theorem nxt_name {s:Ac}(h:Ro s=false):Nt 0 (Cg pre (tw s::post) d)=true:=by
 rw [Pq];show ((0:Int)==0&&((0:Int) != 0 || !(Ro s)))=true;rw [h];rfl
theorem Dw {s:Ac}(h:Ro s=false):Cm 0 (Cg pre (tw s::post) d)=Cg (pre ++ [tw s]) post d/\Hw 0 (Cg pre (tw s::post) d)=s:=by
 refine dL ?_;show ((0:Int)==0&&((0:Int) != 0 || !(Ro s)))=true;rw [h];rfl
theorem Eu {w:Ac}(h:Hq t w=true):Bb w (Cg pre (t::post) d)=Cg (pre ++ [t]) post d:=Yr h
theorem Im {s:Ac}(h:Ru s=true):Ro s=false:=(cQ h).2.2.2.2
theorem Uf {a:Syn}(h:a.kids = []):Dy a=⟨a.kind,a.text,a.name,a.num,[],0⟩:=by rw [Fc,h];rfl
theorem cT {a:Syn}(h:(a.kids.length:Int)=0):a.kids = []:=by
 cases hq:a.kids with
 | nil=>rfl
 | cons x r=>rw [hq] at h;simp at h;omega
theorem app1 (a b:Tok):(pre ++ [a]) ++ [b]=pre ++ [a,b]:=by simp
theorem ref_read {a:Syn}{p:Pl}{E:PS->Syn×PS}(h:Ag a p=0)(hk:a.kind=14)(hp:Gx pre)(hq:Gx post):D0 E (Cg pre (Ae a++post) d)=(Dy a,Cg (pre++Ae a) post d):=by
 obtain ⟨_,hs,hn,hf⟩:=Bz (Bx h).1;have e2:Ae a = [tw a.text,tg Hx,tw a.name]:=by rw [C3];unfold E3;rw [hk];rfl
 unfold Ct at hs;rw [hk] at hs
 replace hs:((a.kids.length:Int)==0)=true:=hs
 have hkid:=cT (by simpa using hs);have hnum:=E5 hf ⟨by omega,by omega,by omega,by omega,by omega⟩;have er:Dy a=⟨14,a.text,a.name,0,[],0⟩:=by rw [Uf hkid,hk,hnum]
 have k1:=Im (Gf hn (by rw [hk];rfl) (by omega));have nh:=Xl k1;rw [e2,er];show D0 E (Cg pre (tw a.text::tg Hx::tw a.name::post) d)=_
 have e3:totL.find? (fun s=>Ea s.1 (Cg pre (tw a.text::tg Hx::tw a.name::post) d))=none:=by
  rw [List.find?_eq_none];intro x _;rw [Ci,nh];decide
 unfold D0;rw [Ci,nh,e3,Ci,nh,Ci,nh,nxt_name k1];simp only [Ah,↓reduceIte];rw [(Dw k1).1,(Dw k1).2,Eu (t:=tg Hx) (by decide),Ik hp (A9 rfl (A9 rfl (A9 rfl hq))),Ci,app1];have e5:(pre ++ [tw a.text,tg Hx]) ++ [tw a.name]=pre ++ [tw a.text,tg Hx,tw a.name]:=by simp
 rcases fF hn hk with h1 | h1
 .
  have k2:=Im h1;rw [Xl k2,(Dw k2).1,(Dw k2).2,e5];rfl
 rw [h1] at e5 ⊢;rw [show Hq (tw Ej) Ej=true by decide,if_pos rfl,Ij,e5]
theorem count_read {a:Syn}{p:Pl}{E:PS->Syn×PS}(h:Ag a p=0)(hk:a.kind=15)(hp:Gx pre)(hq:Gx post):D0 E (Cg pre (Ae a++post) d)=(Dy a,Cg (pre++Ae a) post d):=by
 obtain ⟨_,hs,hn,hf⟩:=Bz (Bx h).1;have e2:Ae a = [tw Hj,Kz,tw a.text,Kd]:=by rw [C3];unfold E3;rw [hk];rfl
 unfold Ct at hs;rw [hk] at hs
 replace hs:((a.kids.length:Int)==0)=true:=hs
 have hkid:=cT (by simpa using hs);have hnum:=E5 hf ⟨by omega,by omega,by omega,by omega,by omega⟩
 have hname:a.name = []:=by
  unfold C9 at hf;rw [hk] at hf
  replace hf:(if (Ns a != 0)=true then Ns a else if ((!true && !(a.text == []))||(!false && !(a.name == [])))=true then 3 else 0)=0:=hf
  split at hf
  . rename_i h1;rw [hf] at h1;cases h1
  split at hf
  . cases hf
  rename_i h2;simpa using h2
 have er:Dy a=⟨15,a.text,[],0,[],0⟩:=by rw [Uf hkid,hk,hnum,hname]
 have k1:=Im (Gf hn (by rw [hk];rfl) (by omega));rw [e2,er];show D0 E (Cg pre (tw Hj::Kz::tw a.text::Kd::post) d)=_
 have e3:totL.find? (fun s=>Ea s.1 (Cg pre (tw Hj::Kz::tw a.text::Kd::post) d))=none:=by
  rw [List.find?_eq_none];intro x hx;rw [Ci];revert x;decide
 unfold D0;rw [Ci,show Hq (tw Hj) Ds=false by decide,e3,Ci,show Hq (tw Hj) N5=false by decide,Ci,show Hq (tw Hj) Hj=true by decide];simp only [Ah,↓reduceIte];rw [Ij,Eu (t:=Kz) (by decide),(Dw k1).1,(Dw k1).2,Eu (t:=Kd) (by decide),Ik hp (A9 rfl (A9 rfl (A9 rfl (A9 rfl hq))))];simp
theorem rS:Hq O0 Cl=true:=by decide
theorem wT {x y:Ac}(h1:Ro x=false)(h2:Ro y=false):Rm (Cg pre (Kz::tw x::tg Hx::tw y::post) d)=((x,y),Cg (pre ++ [Kz,tw x,tg Hx,tw y]) post d):=by
 unfold Rm;simp only;rw [Eu (t:=Kz) (by decide),(Dw h1).1,(Dw h1).2,Eu (t:=tg Hx) (by decide),(Dw h2).1,(Dw h2).2];simp
theorem total_read {a:Syn}{p:Pl}{E:PS->Syn×PS}(h:Ag a p=0)(hk:a.kind=16)(hp:Gx pre)(hq:Gx post):D0 E (Cg pre (Ae a++post) d)=(Dy a,Cg (pre++Ae a) post d):=by
 obtain ⟨_,hs,hn,hf⟩:=Bz (Bx h).1;have hi:=Zm hf hk;have k1:=Im (Gf hn (by rw [hk];rfl) (by omega));have k2:=Im (Un hn (by rw [hk];rfl) (by omega));have e0:Ae a = [tw (Og a.num)] ++ [Kz] ++ [tw a.text] ++ [tg Hx] ++ [tw a.name]++(if (a.kids.map Ae == [])=true then [] else [O0]++(a.kids.map Ae).getD 0 []) ++ [Kd]:=by rw [C3];unfold E3;rw [hk];rfl
 unfold Ct at hs;rw [hk] at hs
 replace hs:(if (a.num==1)=true then ((a.kids.length:Int)==0) else ((a.kids.length:Int)==1))=true:=hs
 by_cases h1:a.num=1
 .
  rw [h1] at hs
  replace hs:((a.kids.length:Int)==0)=true:=hs
  have hkid:=cT (by simpa using hs);have e2:Ae a = [tw N5,Kz,tw a.text,tg Hx,tw a.name,Kd]:=by rw [e0,hkid,h1];rfl
  have er:Dy a=⟨16,a.text,a.name,1,[],0⟩:=by rw [Uf hkid,hk,h1]
  rw [e2,er];show D0 E (Cg pre (tw N5::Kz::tw a.text::tg Hx::tw a.name::Kd::post) d)=_
  have e3:totL.find? (fun s=>Ea s.1 (Cg pre (tw N5::Kz::tw a.text::tg Hx::tw a.name::Kd::post) d))=none:=by
   rw [List.find?_eq_none];intro x hx;rw [Ci];revert x;decide
  unfold D0;rw [Ci,show Hq (tw N5) Ds=false by decide,e3,Ci,show Hq (tw N5) N5=true by decide];simp only [Ah,↓reduceIte];rw [Ij,wT k1 k2,Eu (t:=Kd) (by decide),Ik hp (A9 rfl (A9 rfl (A9 rfl (A9 rfl (A9 rfl (A9 rfl hq))))))];simp
 rw [if_neg (by simpa using h1)] at hs;obtain ⟨x,hkid⟩:=Uj (t:=a) (by simpa using hs);have hx:=Dl h (j:=0) (a:=x) (by rw [hkid];rfl)
 have hx13:x.kind=13:=Dz (n:=13) (by
  have e:Cr a 0 = .only 13:=by unfold Cr;rw [hk];rfl
  rw [<-e];exact hx.2)
 have e2:Ae a=tw (Og a.num)::Kz::tw a.text::tg Hx::tw a.name::O0::(Ae x ++ [Kd]):=by rw [e0,hkid];simp
 have er:Dy a=⟨16,a.text,a.name,a.num,[Dy x],0⟩:=by rw [Fc,hk,hkid];rfl
 rw [e2,er];show D0 E (Cg pre (tw (Og a.num)::Kz::tw a.text::tg Hx::tw a.name::O0::((Ae x ++ [Kd])++post)) d)=_;have hn2:a.num=2\/a.num=3\/a.num=4\/a.num=5:=by omega
 have eL:Hq (tw (Og a.num)) Ds=false:=by rcases hn2 with h | h | h | h <;> rw [h] <;> decide
 have e3:∀R:List Tok,totL.find? (fun s=>Ea s.1 (Cg pre (tw (Og a.num)::R) d))=some (Og a.num,a.num):=fun R=>by
  unfold totL;rw [List.find?_cons,List.find?_cons,List.find?_cons,List.find?_cons,Ci,Ci,Ci,Ci];rcases hn2 with h | h | h | h <;> rw [h] <;> rfl
 unfold D0;rw [Ci,eL,e3];simp only [Ah,↓reduceIte];have eR:Gx ((Ae x ++ [Kd])++post):=((Dq x).app (show Gx [Kd] from rfl)).app hq;have hlit:=(xJ (d:=d) (pre:=pre ++ [tw (Og a.num)] ++ [Kz,tw a.text,tg Hx,tw a.name] ++ [O0]) (post:=Kd::post) hx.1 hx13 (((hp.app (Et _ rfl)).app (show Gx [Kz,tw a.text,tg Hx,tw a.name] from rfl)).app (Et _ rfl)) (A9 rfl hq)).1;rw [Ij,wT k1 k2,Eu rS,C4 (Ae x),show [Kd]++post=Kd::post from rfl,hlit,Eu (t:=Kd) (by decide),Ik hp (A9 rfl (A9 rfl (A9 rfl (A9 rfl (A9 rfl (A9 rfl ((Dq x).app (A9 rfl hq))))))))];simp
theorem rA {a:Syn}{p:Pl}(E:PS->Syn×PS)(h:Ag a p=0)(hk:13<=a.kind/\a.kind<=16)(hp:Gx pre)(hq:Gx post):D0 E (Cg pre (Ae a++post) d)=(Dy a,Cg (pre++Ae a) post d):=by
 by_cases h3:a.kind=13
 .
  have:=xJ (d:=d) h h3 hp hq;rw [this.2 E,this.1]
 by_cases h4:a.kind=14
 . exact ref_read h h4 hp hq
 by_cases h5:a.kind=15
 . exact count_read h h5 hp hq
 exact total_read h (by omega) hp hq
def iM:Nat->(PS->Syn×PS)×(PS->Syn×PS)
 | 0=>(G0,G0)
 | n+1=>L8 n
theorem neg_low:∀n,L8 n=(M5 (iM n).2 (iM n).1,orP (iM n).2 (iM n).1)
 | 0=>rfl
 | _+1=>rfl
def RE (a:Syn):Prop:=∀(n:Nat) (d:Int) (pre post:List Tok),0<=d->d+(C7 a:Int)<=64->64<=(n:Int)+d->Gx pre->Gx post->Bq post->
 (L8 n).2 (Cg pre (Ae a++post) d)=(Dy a,Cg (pre++Ae a) post d)/\(a.kind≠17->(L8 n).1 (Cg pre (Ae a++post) d)=(Dy a,Cg (pre++Ae a) post d))
theorem opnd {q a:Syn}(ha:Ag a .exps=0)(hr:RE a)(hc:Ed q.kind a.kind=false->a.kind<=16){n:Nat}(h0:0<=d)(hd:d+((C7 a+(if Ed q.kind a.kind then 1 else 0):Nat):Int)<=64)(hn:64<=(n:Int)+d)(hp:Gx pre)(hq:Gx post) :
    D0 (iM n).2 (Cg pre (Hb q a (Ae a)++post) d)=(Dy a,Cg (pre++Hb q a (Ae a)) post d):=by
  have hk:=L6 (Bz (Bx ha).1).1;unfold Hb;cases hcl:Ed q.kind a.kind with
  | false=>
    simp only [Ah,↓reduceIte];exact rA _ ha ⟨hk.1,hc hcl⟩ hp hq
  | true=>
    rw [hcl] at hd;simp only [↓reduceIte] at hd ⊢;obtain ⟨m,rfl⟩:∃m,n=m+1:=⟨n-1,by omega⟩;have h1:=(hr m (d+1) (pre ++ [Kz]) (Kd::post) (by omega) (by omega) (by omega) (hp.app (show Gx [Kz] from rfl)) (A9 rfl hq) (.rp _)).1;have h2:=iP (E:=(L8 m).2) (d:=d) (pre:=pre) (post:=post) h0 (by omega) h1;have e:([Kz]++Ae a ++ [Kd])++post=Kz::(Ae a++Kd::post):=by simp
    rw [e];show D0 (L8 m).2 _=_;rw [h2];simp
theorem Wc {q a:Syn}(ha:Ag a .exps=0)(hc:Ed q.kind a.kind=false->a.kind<=16):∃c r,Hb q a (Ae a)=c::r/\Hq c Gq=false:=by
  have hk:=L6 (Bz (Bx ha).1).1;obtain ⟨_,_,hn,hf⟩:=Bz (Bx ha).1;unfold Hb;cases hcl:Ed q.kind a.kind with
  | true=>exact ⟨Kz,_,rfl,by decide⟩
  | false=>
    have hk2:=hc hcl;simp only [Ah,↓reduceIte];by_cases h3:a.kind=13
    . have e2:Ae a=tG a:=by rw [C3];unfold E3;rw [h3];rfl
      rw [e2];unfold tG fI;split
      . split
        . exact ⟨_,_,rfl,by decide⟩
        exact ⟨_,_,rfl,Rp (.inl rfl) _⟩
      . split
        . split
          . exact ⟨_,_,rfl,by decide⟩
          exact ⟨_,_,rfl,by decide⟩
        exact ⟨_,_,rfl,Rp (.inr rfl) _⟩
    by_cases h4:a.kind=14
    . have e2:Ae a = [tw a.text,tg Hx,tw a.name]:=by rw [C3];unfold E3;rw [h4];rfl
      exact ⟨_,_,e2,Xl (Im (Gf hn (by rw [h4];rfl) (by omega))) _⟩
    by_cases h5:a.kind=15
    . have e2:Ae a = [tw Hj,Kz,tw a.text,Kd]:=by rw [C3];unfold E3;rw [h5];rfl
      exact ⟨_,_,e2,by decide⟩
    have h6:a.kind=16:=by omega
    have e2:Ae a = [tw (Og a.num)] ++ [Kz] ++ [tw a.text] ++ [tg Hx] ++ [tw a.name]++(if (a.kids.map Ae == [])=true then [] else [O0]++(a.kids.map Ae).getD 0 []) ++ [Kd]:=by rw [C3];unfold E3;rw [h6];rfl
    have hi:=Zm hf h6;refine ⟨tw (Og a.num),_,by rw [e2];simp only [C4];rfl,?_⟩;have:a.num=1\/a.num=2\/a.num=3\/a.num=4\/a.num=5:=by omega
    rcases this with h | h | h | h | h <;> rw [h] <;> decide
end Go.Proofs.YtibcelnfkhdjaaaGreatDoor
