/-
  The abstract layer: abstract values, what represents them, states, operations, code, calls. No condition.
-/
import Derived.Test.YtkdhionilabokaaGreatDoorAw
set_option linter.unusedVariables false
set_option linter.unusedSimpArgs false
namespace Go.Aw

section
variable {P:Program} {T:List (Nat×TD)} {d:Option Nat} {ty:TypeId} {pos:String} {aft:Array Edge} {gd:Option (Nat×Bool)} {ρ:Operand->AV} {K:List HO->Prop}

theorem B4 {x:Operand}{cs:List AV}(h:ρ x = .ptr cs):Dr P ⟨d,.nilCheck x,ty,pos,aft,gd⟩ ρ K (.ptr cs):=
 .of_run fun g w a hr=>by
  have h1:=(h▸hr x (by simp [Op.operands]):Rep g w _ _);obtain ⟨b,o,e,_⟩:=h1.inv_ptr;exact ⟨a.eval x,by simp [execOp,e],h1⟩

theorem Nq {x:Operand}{lo hi:Option Operand}{t e z b o n c:Nat}{td te:TD}{l h o':Nat}(hT:G9 P T)(hx:ρ x = .val (.slice (some ⟨b,o,none⟩) n c))(ht:Bp T t=some td)(hk:td.kind = .slice e)(hte:Bp T e=some te)(hz:te.size=z)
    (hlo:match lo with | none=>l=0 | some y=>∃k,ρ y = .int k (l:Int)) (hhi:match hi with | none=>h=n | some y=>∃k,ρ y = .int k (h:Int)) (h1:l<=h) (h2:h<=n) (h3:n<=c) (hlc:l<c) (ho:o+l*z=o') :
    Dr P ⟨d,.slice t x lo hi none,ty,pos,aft,gd⟩ ρ K (.val (.slice (some ⟨b,o',none⟩) (h-l) (c-l))):=
  .of_run fun g w a hr=>by
    have e1:=(hx▸hr x (by simp [Op.operands]):Rep g w _ _).inv_val;have hu:=Dc (hT t td ht) hk;have hsz:=Gc (hT e te hte) w;subst ho
    have e2:∀v,lo.map a.eval=some v->∃k,v = .int k (l:Int):=fun v hv=>by
      cases lo with
      | none=>cases hv
      | some y=>
        obtain ⟨k,hk⟩:=hlo;simp only [E4,Option.some.injEq] at hv;subst hv;exact ⟨k,(hk▸hr y (by simp [Op.operands]):Rep g w _ _).inv_int⟩
    have e3:∀v,hi.map a.eval=some v->∃k,v = .int k (h:Int):=fun v hv=>by
      cases hi with
      | none=>cases hv
      | some y=>
        obtain ⟨k,hk⟩:=hhi;simp only [E4,Option.some.injEq] at hv;subst hv;exact ⟨k,(hk▸hr y (by simp [Op.operands]):Rep g w _ _).inv_int⟩
    have key:(Instr.sliceBounds true n c (lo.map a.eval) (hi.map a.eval) none).run P w = .ok (l,h,c) w:=by
      unfold Instr.sliceBounds;simp only [Sem.run_bind,Sem.run_pure,Result.andThen_ok];cases hh:hi.map a.eval with
      | none=>
        have:h=n:=by cases hi with | none=>exact hhi | some y=>cases hh
        subst this;simp only [Sem.run_pure,Result.andThen_ok];cases hl:lo.map a.eval with
        | none=>
          have:l=0:=by cases lo with | none=>exact hlo | some y=>cases hl
          subst this;rfl
        | some v=>obtain ⟨k,rfl⟩:=e2 v hl;simp [D9 (P:=P) (k:=k) (n:=(l:Int)) (y:=h) (by omega) (by omega)]
      | some v=>
        obtain ⟨k,rfl⟩:=e3 v hh;simp only [D9 (P:=P) (k:=k) (n:=(h:Int)) (y:=c) (by omega) (by omega),Sem.run_bind,Result.andThen_ok,Jy];cases hl:lo.map a.eval with
        | none=>
          have:l=0:=by cases lo with | none=>exact hlo | some y=>cases hl
          subst this;rfl
        | some v=>obtain ⟨k,rfl⟩:=e2 v hl;simp [D9 (P:=P) (k:=k) (n:=(l:Int)) (y:=h) (by omega) (by omega)]
    refine ⟨_,?_,.val _⟩;have hne:¬c=l:=by omega
    simp only [execOp,e1,Instr.sliceAt,Sem.run_bind,Bg hu,Result.andThen_ok,Instr.slice,M8,key,hsz,hz,Sem.run_pure,if_neg hne,E4,E8]

theorem jE {x y:Operand}{t u e k b o o2 dn dc sn sc m TT:Nat}{td te:TD}{cs cs':List AV}{H H2:List HO}(hT:G9 P T)(hx:ρ x = .val (.slice (some ⟨b,o,none⟩) dn dc))(hy:ρ y = .val (.slice (some ⟨b,o2,none⟩) sn sc))(ht:Bp T t=some td)(hk:td.kind = .slice e)
  (hte:Bp T e=some te) (hz:te.size=1) (hH:H[k]? = some (.box b TT cs)) (hsc:Bm cs=true) (hm:Nat.min sn dn=m) (h1:o+m<=cs.length) (h2:o2+m<=cs.length) (hcs:E3 cs o ((cs.drop o2).take m)=cs') (hH2:H.set k (.box b TT cs')=H2) :
  Jj P ⟨d,.call ⟨.builtin .copy,#[x,y],#[t,u]⟩,ty,pos,aft,gd⟩ ρ H (fun r H'=>r = .int .i64 (m:Int)/\H'=H2):=by
 subst hH2;subst hcs;intro g w a next Q hr hHK hn
 have e1:=(hx▸hr x (by simp [Op.operands,Call.operands]):Rep g w _ _).inv_val;have e2:=(hy▸hr y (by simp [Op.operands,Call.operands]):Rep g w _ _).inv_val;have hu:=Dc (hT t td ht) hk;obtain ⟨it,hit,his,_⟩:=(hT e te hte).info;obtain ⟨hg,vs,h5,h6⟩:=hHK.ok _ (A0 hH)
 have hone:∀v∈vs.toList,v.oneCell'=true:=fun v hv=>by
  obtain ⟨i,hi⟩:=List.getElem?_of_mem hv;have hi':vs[i]? = some v:=by simpa using hi
  have hil:i<cs.length:=by rw [<-h6.1];exact (Array.getElem?_eq_some_iff.1 hi').1
  have hr7:=h6.2 i _ (List.getElem?_eq_getElem hil);have:vs.getD i undef=v:=by rw [Ce,hi'];rfl
  rw [this] at hr7;exact Mz hr7 (Kd hsc _ (List.getElem_mem hil))
 have hnl:((vs.toList.drop o2).take m).length=m:=by rw [Fr,Na,Qd,h6.1];omega
 have hrun:=run_copy_row (P:=P) w t u ty e b o dn dc ⟨b,o2,none⟩ sn sc vs TT ((vs.toList.drop o2).take m) hu (by rw [hit];simp [his,hz]) h5 (by rw [hnl];exact hm.symm) (fun j v hj=>by
   rw [E8,Bq h5];rw [List.getElem?_take] at hj;split at hj
   . rw [List.getElem?_drop] at hj;simpa using hj
   cases hj) (by rw [hnl,h6.1];exact h1) (fun v hv=>hone v (List.mem_of_mem_drop (List.mem_of_mem_take hv)))
 rw [hnl] at hrun;have hx:Ext g w g (w.setRow b (vs.toList.take o++(vs.toList.drop o2).take m++vs.toList.drop (o+m)).toArray):=Ext.setRow hg;unfold Oper.wp
 rw [E0 (v:=goInt m) (w':=w.setRow b (vs.toList.take o++(vs.toList.drop o2).take m++vs.toList.drop (o+m)).toArray) (by
  have:(#[x,y]:Array Operand).map a.eval = #[a.eval x,a.eval y]:=by simp
  rw [this,e1,e2];simp only [builtin,Sem.run_bind,hrun,Result.andThen_ok,Sem.run_pure])]
 refine hn g _ _ _ _ ⟨rfl,rfl⟩ (.int _ _) (hHK.set hx hH (fun b' hb'=>.inl hb') ⟨hg,_,setRow_heap w b vs _ TT (0,0) h5,?_⟩ ?_) hx
 .
  have hml:((cs.drop o2).take m).length=m:=by rw [Fr,Na];omega
  have r1:=((h6.take o).append ((h6.drop o2).take m)).append (h6.drop (o+((cs.drop o2).take m).length));rw [hml] at r1
  have e9:(vs.toList.take o++(vs.toList.drop o2).take m++vs.toList.drop (o+m)).toArray=(vs.toList.take o).toArray++(((vs.toList.drop o2).toArray).toList.take m).toArray++(vs.toList.drop (o+m)).toArray:=by
   apply Ly.1;simp
  unfold E3;rw [hml];have r3:=r1.mono hx;rw [<-e9] at r3;exact r3
 intro c _ hne _;exact ⟨rfl,setRow_other w b c _ (fun e=>hne (by rw [e];rfl))⟩
theorem lO {x y:Operand}{t u e k b o dn dc m TT:Nat}{td te:TD}{es:List (List AV)}{cs cs':List AV}{H H2:List HO}(hT:G9 P T)(hx:ρ x = .val (.slice (some ⟨b,o,none⟩) dn dc))(hy:ρ y = .sl 1 es)(ht:Bp T t=some td)(hk:td.kind = .slice e)
  (hte:Bp T e=some te) (hz:te.size=1) (hH:H[k]? = some (.box b TT cs)) (hne:es≠[]) (hs:∀c∈es,Bm c=true) (hm:Nat.min es.length dn=m) (h1:o+m<=cs.length) (hcs:E3 cs o (es.flatten.take m)=cs') (hH2:H.set k (.box b TT cs')=H2) :
  Jj P ⟨d,.call ⟨.builtin .copy,#[x,y],#[t,u]⟩,ty,pos,aft,gd⟩ ρ H (fun r H'=>r = .int .i64 (m:Int)/\H'=H2):=by
 subst hH2;subst hcs;intro g w a next Q hr hHK hn
 have e1:=(hx▸hr x (by simp [Op.operands,Call.operands]):Rep g w _ _).inv_val;have r2:=(hy▸hr y (by simp [Op.operands,Call.operands]):Rep g w _ _);obtain ⟨a2,sn,sc,e2,h22,_⟩:=r2.inv_sl;rw [e2] at r2;obtain ⟨_,hz2,b2,o2,hb2,news,n1,n2,n3,n4⟩:=G0 r2 (Nat.zero_lt_one) hs hne;subst hb2;have hu:=Dc (hT t td ht) hk;obtain ⟨it,hit,his,_⟩:=(hT e te hte).info;obtain ⟨hg,vs,h5,h6⟩:=hHK.ok _ (A0 hH)
 have hnl:(news.take m).length=m:=by
  have hle:m<=es.length:=hm▸Nat.min_le_left _ _;rw [Fr,n1];omega
 have hrun:=run_copy_row (P:=P) w t u ty e b o dn dc ⟨b2,o2,none⟩ sn sc vs TT (news.take m) hu (by rw [hit];simp [his,hz]) h5 (by rw [hnl,h22];exact hm.symm) (fun j v hj=>by
   rw [List.getElem?_take] at hj;split at hj
   . rw [E8];exact (n4 j v hj).2
   cases hj) (by rw [hnl,h6.1];exact h1) (fun v hv=>n3 v (List.mem_of_mem_take hv))
 rw [hnl] at hrun;have hx:Ext g w g (w.setRow b (vs.toList.take o++news.take m++vs.toList.drop (o+m)).toArray):=Ext.setRow hg;unfold Oper.wp
 rw [E0 (v:=goInt m) (w':=w.setRow b (vs.toList.take o++news.take m++vs.toList.drop (o+m)).toArray) (by
  have:(#[x,y]:Array Operand).map a.eval = #[a.eval x,a.eval y]:=by simp
  rw [this,e1,e2];simp only [builtin,Sem.run_bind,hrun,Result.andThen_ok,Sem.run_pure])]
 refine hn g _ _ _ _ ⟨rfl,rfl⟩ (.int _ _) (hHK.set hx hH (fun b' hb'=>.inl hb') ⟨hg,_,setRow_heap w b vs _ TT (0,0) h5,?_⟩ ?_) hx
 .
  have hfl:es.flatten.length=sn:=by rw [Cm hz2,h22,Nat.mul_one]
  have hle:m<=es.length:=hm▸Nat.min_le_left _ _;have hml:(es.flatten.take m).length=m:=by rw [Fr,hfl];omega
  have r1:=((h6.take o).append (n2.take m)).append (h6.drop (o+(es.flatten.take m).length));rw [hml] at r1
  have e9:(vs.toList.take o++news.take m++vs.toList.drop (o+m)).toArray=(vs.toList.take o).toArray++((news.toArray).toList.take m).toArray++(vs.toList.drop (o+m)).toArray:=by
   apply Ly.1;simp
  unfold E3;rw [hml];have r3:=r1.mono hx;rw [<-e9] at r3;exact r3
 intro c _ hne _;exact ⟨rfl,setRow_other w b c _ (fun e=>hne (by rw [e];rfl))⟩
end

theorem GS.perm {sl:List (Nat×AV)}{H H2:List HO}{n:Nat}(h:H.Perm H2):GS ⟨sl,H,n⟩ ⟨sl,H2,n⟩:=fun g _ w hG=>
 ⟨g,⟨hG.size,hG.defers,hG.sl,hG.heap.perm h⟩,Ext.refl g w⟩
end Go.Aw
namespace Go.Aw

def Tz (eq:List AV->Bool):List (List AV×AV)->Option Nat
 | []=>none
 | (k,_)::r=>if eq k then some 0 else (Tz eq r).map (· + 1)
def Ty (eq:List AV->Bool):List (List AV×AV)->Option AV
 | []=>none
 | (k,x)::r=>if eq k then some x else Ty eq r
theorem iF {eq:List AV->Bool}:∀{es:List (List AV×AV)} {j:Nat},Tz eq es=some j->∃k x,es[j]? = some (k,x)/\Ty eq es=some x
  | (k,x)::r,j,h=>by
    rw [Tz] at h;rw [Ty];split at h
    . rename_i h1
      cases h
      exact ⟨k,x,rfl,by rw [if_pos h1]⟩
    . rename_i h1
      cases hq:Tz eq r with
      | none=>rw [hq] at h;cases h
      | some i=>
        rw [hq] at h;cases h
        obtain ⟨k',x',h2,h3⟩:=iF hq;exact ⟨k',x',h2,by rw [if_neg h1];exact h3⟩
theorem Yr {eq:List AV->Bool}:∀{es:List (List AV×AV)},Tz eq es=none↔Ty eq es=none
  | []=>by simp [Tz,Ty]
  | (k,x)::r=>by
    rw [Tz,Ty];split
    . simp
    rw [Option.map_eq_none_iff];exact Yr
section
variable {P:Program} {T:List (Nat×TD)} {d:Option Nat} {ty:TypeId} {pos:String} {aft:Array Edge} {gd:Option (Nat×Bool)} {ρ:Operand->AV}

theorem Sn {kt:TypeId}{tk:TD}{gs:List (Nat×Nat×Bool×Nat)}(hT:G9 P T)(ht:Bp T kt=some tk)(hk:tk.kind = .struct gs){g:Gh}{w:World}{us:Array Value}{n:List AV}(hu:Cv g w us n){eq:List AV->Bool} :
    ∀(l:List MapEntry) (es:List (List AV×AV)) (i:Nat),l.length=es.length->(∀(j:Nat) k x,es[j]? = some (k,x)->∃vs,(l.getD j default).key = .agg vs/\Cv g w vs k)->(∀p∈es,Nk T gs n p.1=some (eq p.1))->
    (Instr.findAsking kt (.agg us) l i).run P w = .ok ((Tz eq es).map fun j=>(i+j,(l.getD j default).val)) w
  | [],[],i,_,_,_=>by simp [Instr.findAsking,Tz]
  | [],_::_,_,h,_,_=>by simp at h
  | _::_,[],_,h,_,_=>by simp at h
  | e::l,(k,x)::es,i,h,hks,he=>by
    obtain ⟨vs,h1,h2⟩:=hks 0 k x rfl;have h1:e.key = .agg vs:=by simpa using h1
    have h3:=(Si hT ht hk hu h2 (he (k,x) (Fs ..)) (x:=.const .nilIface) (y:=.const .nilIface) (op:=.eql)).2;unfold Instr.findAsking;simp only [Sem.run_bind,h1,h3,Result.andThen_ok];rw [Tz];cases hq:eq k with
    | true=>simp
    | false=>
      simp only [A2,if_false];rw [Sn hT ht hk hu l es (i+1) (by simpa using h) (fun j k x hj=>by simpa using hks (j+1) k x hj) (fun p hp=>he p (Ft _ hp))];cases Tz eq es with
      | none=>rfl
      | some j=>simp;omega

theorem Ht {kt:TypeId}{n:Nat}{em:Bool}{v:Value}{w:World}(h:(∃k,P.underlying kt=some (.int k))\/P.underlying kt=some .string\/P.underlying kt=some .bool):(Instr.checkKey em (n+1) kt v).run P w = .ok () w:=by
 unfold Instr.checkKey;rcases h with ⟨k,h⟩ | h | h <;> (rw [Sem.run_bind,Bg h];cases v <;> rfl)

theorem J3 (hT:G9 P T){g:Gh}{w:World}{us:Array Value}{xs:List AV}(hu:Cv g w us xs){em:Bool}{m:Nat}:∀(fs:List Field) (r:Bool),
    Nr T (fs.map (fun f => (f.offset, P.cellsOf f.type, f.name != "_", f.type))) xs xs = some r ->
    Sem.run P (forIn fs PUnit.unit fun f _=>
            if f.name ≠ "_" then do
              let a <-part f.type us f.offset
              Instr.checkKey em (m+1) f.type a
              pure (ForInStep.yield PUnit.unit)
            else pure (ForInStep.yield PUnit.unit)) w = .ok PUnit.unit w
  | [],r,h=>by simp
  | f::fs,r,h=>by
    simp only [Ba,Nr] at h;cases hn : (f.name != "_") with
    | false=>simp [hn] at h
    | true=>
      have hn' : f.name ≠ "_" := by simpa using hn
      simp only [hn,cond_true] at h;rw [List.forIn_cons];simp only [hn',ne_eq,not_false_eq_true,if_true];have hlu:∀{c},xs[f.offset]? = some c->f.offset<us.size:=fun hc=>by rw [hu.1];exact (List.getElem?_eq_some_iff.1 hc).1
      split at h
      . rename_i hty hx hy hrec
        simp only [Sem.run_bind,Df (hT _ _ hty) rfl (hlu hx),Result.andThen_ok,Ht (.inl ⟨_,Ja (hT _ _ hty) rfl⟩),Sem.run_pure];have ih:=J3 hT hu (em:=em) (m:=m) fs _ hrec;simpa using ih
      . rename_i hty hx hy hrec
        simp only [Sem.run_bind,Df (hT _ _ hty) rfl (hlu hx),Result.andThen_ok,Ht (.inr (.inl (J6 (hT _ _ hty) rfl))),Sem.run_pure];have ih:=J3 hT hu (em:=em) (m:=m) fs _ hrec;simpa using ih
      . rename_i hty hx hy hrec
        simp only [Sem.run_bind,Df (hT _ _ hty) rfl (hlu hx),Result.andThen_ok,Ht (.inr (.inr (Oz (hT _ _ hty) rfl))),Sem.run_pure];have ih:=J3 hT hu (em:=em) (m:=m) fs _ hrec;simpa using ih
      cases h
theorem Wi {kt:TypeId}{tk:TD}{gs:List (Nat×Nat×Bool×Nat)}(hT:G9 P T)(ht:Bp T kt=some tk)(hk:tk.kind = .struct gs){g:Gh}{w:World}{us:Array Value}{n:List AV}(hu:Cv g w us n){r:Bool}(h:Nr T gs n n=some r){em:Bool}{m:Nat} :
  (Instr.checkKey em (m+2) kt (.agg us)).run P w = .ok () w:=by
 obtain ⟨fs,hfu,hm,hs,hg,_⟩:=Is (hT kt tk ht) hk;have key:=J3 hT hu (em:=em) (m:=m) fs.toList r (by rw [hm];exact h);unfold Instr.checkKey;simp only [Sem.run_bind,Bg hfu,Result.andThen_ok];rw [<-Array.forIn_toList];simp at key ⊢;first | (rw [key];rfl) | (erw [key];rfl)
theorem I9 (hT:G9 P T){g:Gh}{w:World}{us:Array Value}{xs:List AV}(hu:Cv g w us xs){em:Bool}{m:Nat}:∀(fs:List Field) (r:Bool),
    Nk T (fs.map (fun f => (f.offset, P.cellsOf f.type, f.name != "_", f.type))) xs xs = some r ->
    Sem.run P (forIn fs PUnit.unit fun f _=>
            if f.name ≠ "_" then do
              let a <-part f.type us f.offset
              Instr.checkKey em (m+2) f.type a
              pure (ForInStep.yield PUnit.unit)
            else pure (ForInStep.yield PUnit.unit)) w = .ok PUnit.unit w
  | [],r,h=>by simp
  | f::fs,r,h=>by
    simp only [Ba,Nk] at h;cases hn : (f.name != "_") with
    | false=>simp [hn] at h
    | true=>
      have hn' : f.name ≠ "_" := by simpa using hn
      simp only [hn,cond_true] at h;rw [List.forIn_cons];simp only [hn',ne_eq,not_false_eq_true,if_true];have hlu:∀{c},xs[f.offset]? = some c->f.offset<us.size:=fun hc=>by rw [hu.1];exact (List.getElem?_eq_some_iff.1 hc).1
      split at h
      . rename_i hty hx hy hrec
        simp only [Sem.run_bind,Df (hT _ _ hty) rfl (hlu hx),Result.andThen_ok,Ht (.inl ⟨_,Ja (hT _ _ hty) rfl⟩),Sem.run_pure];have ih:=I9 hT hu (em:=em) (m:=m) fs _ hrec;simpa using ih
      . rename_i hty hx hy hrec
        simp only [Sem.run_bind,Df (hT _ _ hty) rfl (hlu hx),Result.andThen_ok,Ht (.inr (.inl (J6 (hT _ _ hty) rfl))),Sem.run_pure];have ih:=I9 hT hu (em:=em) (m:=m) fs _ hrec;simpa using ih
      . rename_i hty hx hy hrec
        simp only [Sem.run_bind,Df (hT _ _ hty) rfl (hlu hx),Result.andThen_ok,Ht (.inr (.inr (Oz (hT _ _ hty) rfl))),Sem.run_pure];have ih:=I9 hT hu (em:=em) (m:=m) fs _ hrec;simpa using ih
      . rename_i hty hrec
        rename_i z bb zz gs' r0;cases hq:Nr T gs' ((xs.drop f.offset).take z) ((xs.drop f.offset).take z) with
        | none=>simp [hq] at h
        | some q=>
          have h2:=Wi hT hty rfl (M2 hu f.offset z) hq (em:=em) (m:=m);simp only [Sem.run_bind,cB (hT _ _ hty) rfl,Result.andThen_ok,h2,Sem.run_pure];have ih:=I9 hT hu (em:=em) (m:=m) fs _ hrec;simpa using ih
      cases h
theorem Qy {kt:TypeId}{tk:TD}{gs:List (Nat×Nat×Bool×Nat)}(hT:G9 P T)(ht:Bp T kt=some tk)(hk:tk.kind = .struct gs){g:Gh}{w:World}{us:Array Value}{n:List AV}(hu:Cv g w us n){r:Bool}(h:Nk T gs n n=some r){em:Bool}{m:Nat} :
  (Instr.checkKey em (m+3) kt (.agg us)).run P w = .ok () w:=by
 obtain ⟨fs,hfu,hm,hs,hg,_⟩:=Is (hT kt tk ht) hk;have key:=I9 hT hu (em:=em) (m:=m) fs.toList r (by rw [hm];exact h);unfold Instr.checkKey;simp only [Sem.run_bind,Bg hfu,Result.andThen_ok];rw [<-Array.forIn_toList];simp at key ⊢;first | (rw [key];rfl) | (erw [key];rfl)
theorem Nv {kt:TypeId}{tk:TD}{gs:List (Nat×Nat×Bool×Nat)}(hT:G9 P T)(ht:Bp T kt=some tk)(hk:tk.kind = .struct gs){w:World}{us:Array Value}(l:List MapEntry):(Instr.findKey kt (.agg us) l).run P w=(Instr.findAsking kt (.agg us) l).run P w:=by
 obtain ⟨fs,hfu,hm,hs,hg,_⟩:=Is (hT kt tk ht) hk;unfold Instr.findKey;rw [Sem.run_bind,Bg hfu];cases l with
 | nil=>simp [Instr.findNow,Instr.findAsking]
 | cons e l=>simp [Instr.findNow,Instr.sameNow]

theorem dY {t:TypeId}{H:List HO}:Jj P ⟨d,.makeMap t none,ty,pos,aft,gd⟩ ρ H (fun x H'=>∃b,x = .val (.map (some b))/\H' = .kmap b []::H):=by
 intro g w a next Q hr hH hn
 unfold Oper.wp;simp only [execOp,Instr.makeMap,M8,Sem.run_bind,Sem.run_pure,run_newObj,Result.andThen_ok];have hx:=Ext.alloc g w (.map #[] 0) (some 0);refine hn (g.put w.heap.size (some 0)) _ _ _ _ ⟨w.heap.size,rfl,rfl⟩ (.val _) ((hH.alloc _ (some 0)).cons ⟨Gh.Aai _ _ _,#[],0,Ci w _,rfl,⟨rfl,by simp⟩,by simp,by simp⟩ ?_) hx;intro b hb x hx' hb';simp only [HO.blk,Option.some.injEq] at hb;have:=(HO.ok_lt (hH.ok x hx') hb').1;omega

theorem rZ {t:TypeId}{m k:Operand}{kt et b i:Nat}{td tk te:TD}{gs:List (Nat×Nat×Bool×Nat)}{n:List AV}{es:List (List AV×AV)}{eq:List AV->Bool}{r:Bool}{x:AV}(hT:G9 P T)(ht:Bp T t=some td)(hk:td.kind = .map kt et)(htk:Bp T kt=some tk)(hkk:tk.kind = .struct gs)
    (hte:Bp T et=some te) (hzs:dQ P et=true) (hm:ρ m = .val (.map (some b))) (hkey:ρ k = .agg n) (hnn:Nk T gs n n=some r) (heq:∀p∈es,Nk T gs n p.1=some (eq p.1)) (hx:match Ty eq es with | some y=>y=x | none=>te.zero = [x]) :
    Dr P ⟨d,.lookup t m k false,ty,pos,aft,gd⟩ ρ (fun H=>H[i]? = some (.kmap b es)) x:=by
  intro g w a H next Q hr hHK hH hn
  have h1:=(hm▸hr m (by simp [Op.operands]):Rep g w _ _).inv_val;obtain ⟨us,h2,hus⟩:=(hkey▸hr k (by simp [Op.operands]):Rep g w _ _).inv_agg;obtain ⟨hg,ms,clock,hheap,hl,⟨hclk,hbn⟩,hks,hvs⟩:=hHK.ok _ (A0 hH);have hu:=O0 (hT t td ht) hk;have hget:(getObj b).run P w = .ok (.map ms clock) w:=by simp [getObj,Sem.run,hheap]
  have hck:=Qy hT htk hkk hus hnn (em:=ms.isEmpty) (m:=9997);have hf:=Sn hT htk hkk hus (eq:=eq) ms.toList es 0 (by simpa using hl) (fun j k x hj=>by simpa using hks j k x hj) heq;rw [<-Nv hT htk hkk] at hf;unfold Oper.wp;cases hs:Tz eq es with
  | some j=>
    obtain ⟨k',y,hj,hg2⟩:=iF hs;rw [hg2] at hx;simp only at hx;subst hx;rw [hs] at hf;have hrep:Rep g w (ms.toList.getD j default).val y:=by simpa using hvs j k' y hj
    simp only [E4] at hf;simp only [execOp,Instr.lookup,Sem.run_bind,Bg hu,Result.andThen_ok,h1,hget,Sem.run_pure,h2,hck,hf,A2,if_false];exact hn g w _ hrep hHK (Ext.refl g w)
  | none=>
    rw [Yr.1 hs] at hx;simp only at hx;rw [hs] at hf;simp only [M8] at hf;obtain ⟨z,hz1,hz2,hz3⟩:=dP (hT et te hte) w;simp only [execOp,Instr.lookup,Sem.run_bind,Bg hu,Result.andThen_ok,h1,hget,Sem.run_pure,h2,hck,hf,hz1,A2,if_false];refine hn g w z ?_ hHK (Ext.refl g w);have hz4:=hz3 g w;rw [hx] at hz4
    have hna:∀vs,z≠.agg vs:=by
      rintro vs rfl;obtain ⟨it,hit,_,_,zv,hzv,_⟩:=(hT et te hte).info;have hzz:(zeroValue et).run P w = .ok zv w:=by simp [zeroValue,L9 hit,hzv]
      rw [hzz] at hz1;cases hz1
      simp [dQ,hit,hzv] at hzs
    have hcell:z.cells = #[z]:=by cases z <;> first | rfl | exact absurd rfl (hna _)
    rw [hcell] at hz4;exact hz4.2 0 x rfl

theorem cT {ms:Array MapEntry}{clock:Nat}{e:MapEntry}(h:∀i,i<ms.size->(ms.getD i default).born=i)(hc:clock=ms.size)(he:e.born=clock:=by rfl):∀i,i<(ms.push e).size->((ms.push e).getD i default).born=i:=by
 intro i hi;simp only [Array.size_push] at hi;by_cases h1:i=ms.size
 . subst h1;simp [Ce,he,hc]
 have:=h i (by omega);simpa [Ce,Array.getElem?_push,h1] using this
theorem jF {t:TypeId}{m k v:Operand}{kt et b i:Nat}{td tk:TD}{gs:List (Nat×Nat×Bool×Nat)}{n:List AV}{es:List (List AV×AV)}{eq:List AV->Bool}{r:Bool}{x:AV}{H H2:List HO}(hT:G9 P T)(ht:Bp T t=some td)(hk:td.kind = .map kt et)(htk:Bp T kt=some tk)(hkk:tk.kind = .struct gs)
  (hm:ρ m = .val (.map (some b))) (hkey:ρ k = .agg n) (hv:ρ v=x) (hnn:Nk T gs n n=some r) (heq:∀p∈es,Nk T gs n p.1=some (eq p.1)) (hH:H[i]? = some (.kmap b es)) (hnew:Ty eq es=none) (hH2:H.set i (.kmap b (es ++ [(n,x)]))=H2) :
  Jj P ⟨d,.mapUpdate t m k v,ty,pos,aft,gd⟩ ρ H (fun y H'=>y = .junk/\H'=H2):=by
 subst hH2;intro g w a next Q hr hHK hn
 have h1:=(hm▸hr m (by simp [Op.operands]):Rep g w _ _).inv_val;obtain ⟨us,h2,hus⟩:=(hkey▸hr k (by simp [Op.operands]):Rep g w _ _).inv_agg;have h3:Rep g w (a.eval v) x:=hv▸hr v (by simp [Op.operands]);obtain ⟨hg,ms,clock,hheap,hl,⟨hclk,hbn⟩,hks,hvs⟩:=hHK.ok _ (A0 hH);have hb:b<w.heap.size:=(Array.getElem?_eq_some_iff.1 hheap).1;have hu:=O0 (hT t td ht) hk;have hget:(getObj b).run P w = .ok (.map ms clock) w:=by simp [getObj,Sem.run,hheap]
 have hset:∀o:Obj,(setObj b o).run P w = .ok () { w with heap:=w.heap.setIfInBounds b o }:=fun o=>by simp [setObj,Sem.run,hheap]
 have hck:=Qy hT htk hkk hus hnn (em:=false) (m:=9997);have hf:=Sn hT htk hkk hus (eq:=eq) ms.toList es 0 (by simpa using hl) (fun j k x hj=>by simpa using hks j k x hj) heq;rw [<-Nv hT htk hkk,Yr.2 hnew] at hf;simp only [M8] at hf
 have hrun:(Instr.mapUpdate t (a.eval m) (a.eval k) (a.eval v)).run P w = .ok () { w with heap:=w.heap.setIfInBounds b (.map (ms.push { key:=.agg us,val:=a.eval v,born:=clock }) (clock+1)) }:=by
  unfold Instr.mapUpdate;rw [Sem.run_bind,Bg hu];simp only [Result.andThen_ok,h1,Sem.run_bind,hget,h2,hck,hf,hset]
 unfold Oper.wp;simp only [execOp,Sem.run_bind,hrun,Result.andThen_ok,Sem.run_pure]
 have hnew':({ w with heap:=w.heap.setIfInBounds b (.map (ms.push { key:=.agg us,val:=a.eval v,born:=clock }) (clock+1)) }:World).heap[b]? = some (.map (ms.push { key:=.agg us,val:=a.eval v,born:=clock }) (clock+1)):=by
  simp [hb]
 have hoth:∀c,c≠b->({ w with heap:=w.heap.setIfInBounds b (.map (ms.push { key:=.agg us,val:=a.eval v,born:=clock }) (clock+1)) }:World).heap[c]? = w.heap[c]? :=fun c hc=>by
  simp [Array.getElem?_setIfInBounds_ne (Ne.symm hc)]
 have hx:Ext g w g { w with heap:=w.heap.setIfInBounds b (.map (ms.push { key:=.agg us,val:=a.eval v,born:=clock }) (clock+1)) }:=by
  refine ⟨rfl,rfl,rfl,by simp,fun c hc hgc=>⟨hgc,hoth c fun e=>by rw [e,hg] at hgc;cases hgc⟩,fun c m' hc hgc=>⟨fun m'' hm''=>by rw [hgc] at hm'';cases hm'';exact Bi _,fun o ho=>?_⟩⟩;have hne:c≠b:=fun e=>by rw [e,hg] at hgc;cases hgc;omega
  unfold World.cell?;rw [hoth c hne]
 refine hn g _ undef .junk _ ⟨rfl,rfl⟩ (.junk _) (hHK.set hx hH (fun c hc=>.inl hc) ⟨hg,_,_,hnew',by simp [hl],⟨by simp [hclk],cT hbn hclk⟩,?_,?_⟩ (fun c hc hne _=>⟨rfl,hoth c fun e=>hne (by rw [e];rfl)⟩)) hx
 .
  intro j m' y hj;rw [List.getElem?_append] at hj;split at hj
  .
   rename_i hlt;obtain ⟨vs,k1,k2⟩:=hks j m' y hj;have hlt':j<ms.size:=by omega
   exact ⟨vs,by simpa [Ce,Array.getElem?_push,show j≠ms.size by omega] using k1,k2.mono hx⟩
  rename_i hlt
  have:j-es.length=0:=by
   rcases Te (j-es.length) with h | h
   . exact h
   rw [List.getElem?_eq_none (by simp;omega)] at hj;cases hj
  rw [this] at hj;simp at hj;have hj':j=ms.size:=by omega
  subst hj';exact ⟨us,by simp [Ce],by rw [<-hj.1];exact hus.mono hx⟩
 intro j m' y hj;rw [List.getElem?_append] at hj;split at hj
 .
  rename_i hlt;have:=(hvs j m' y hj).mono hx;have hlt':j<ms.size:=by omega
  simpa [Ce,Array.getElem?_push,show j≠ms.size by omega] using this
 rename_i hlt
 have:j-es.length=0:=by
  rcases Te (j-es.length) with h | h
  . exact h
  rw [List.getElem?_eq_none (by simp;omega)] at hj;cases hj
 rw [this] at hj;simp at hj;have hj':j=ms.size:=by omega
 subst hj';simp only [Ce,Array.getElem?_push,if_true,K7];rw [<-hj.2];exact h3.mono hx
end
end Go.Aw
namespace Go.Aw

section
variable {P:Program} {T:List (Nat×TD)} {d:Option Nat} {ty:TypeId} {pos:String} {aft:Array Edge} {gd:Option (Nat×Bool)} {ρ:Operand->AV}

theorem Tg {x y:Operand}{t e k z:Nat}{td te:TD}{v:Value}{es:List (List AV)}{c:List AV}{H:List HO}(hT:G9 P T)(hx:ρ x = .val v)(hy:ρ y = .sl z [c])(ht:Bp T t=some td)(hk:td.kind = .slice e)
  (hte:Bp T e=some te) (hz:te.size=z) (hp:Nat.blt 0 z=true) (hH:H[k]? = some (.buf v es e z)) (hs:Bm c=true) (hb:(es.length+1)*te.bytes<=140737488355328) (hm:es.length+1<=maxLen) :
  Jj P ⟨d,.call ⟨.builtin .append,#[x,y],#[t,t]⟩,ty,pos,aft,gd⟩ ρ H (fun r H'=>∃v',r = .val v'/\H'=H.set k (.buf v' (es ++ [c]) e z)):=by
 intro g w a next Q hr hHK hn
 have hpos:0<z:=by simpa using hp
 have e1:=(hx▸hr x (by simp [Op.operands,Call.operands]):Rep g w _ _).inv_val;have r2:=(hy▸hr y (by simp [Op.operands,Call.operands]):Rep g w _ _);have hu:=Dc (hT t td ht) hk;obtain ⟨it,hit,his,hib,zv,hzv,hzs,_⟩:=(hT e te hte).info;have hok:=hHK.ok _ (A0 hH);obtain ⟨a2,m,c2,h21,h22,h23,h24,_⟩:=r2.inv_sl;have hm1:m=1:=h22;subst hm1
 have fin:∀v' g' w',(Builtin.append_ #[t,t] ty #[a.eval x,a.eval y]).run P w = .ok v' w'->HOK g' w' (H.set k (.buf v' (es ++ [c]) e z))->Ext g w g' w'->Oper.wp P ⟨d,.call ⟨.builtin .append,#[x,y],#[t,t]⟩,ty,pos,aft,gd⟩ a w next Q:=by
  intro v' g' w' hrun hok' hext;unfold Oper.wp
  rw [E0 (v:=v') (w':=w') (by
   have:(#[x,y]:Array Operand).map a.eval = #[a.eval x,a.eval y]:=by simp
   rw [this];simp only [builtin,Sem.run_bind,hrun,Result.andThen_ok,Sem.run_pure])]
  exact hn g' w' v' _ _ ⟨v',rfl,rfl⟩ (.val _) hok' hext
 rw [h21] at r2;obtain ⟨_,hz2,b2,o2,hb2,news,n1,n2,n3,n4⟩:=G0 r2 hpos (by simpa using hs) (by simp);subst hb2;have hnews:∀j u,news[j]? = some u->w.cell? ((⟨b2,o2,none⟩:Addr).add j)=some u:=fun j u hj=>by rw [E8];exact (n4 j u hj).2
 have hsz:it.size=z:=by rw [his,hz]
 have hnl:news.length=1*it.size:=by rw [n1,hsz]
 have hnz:news.length=z:=by rw [n1,Iy]
 have hmax:maxLen=9223372036854775807:=rfl;have hcz:c.length=z:=hz2 c (by simp);have hlen:(es ++ [c]).length=es.length+1:=by simp
 rcases hok with ⟨rfl,h0⟩ | ⟨b,cap,cur,rfl,hg,hcur,hcsz,hcap,hcmax,hz1,hrep⟩
 .
  subst h0;simp only [H6,K9,Cg] at hb hm fin ⊢;have hbb:1*it.bytes<=281474976710656:=by rw [hib];omega
  have hrun:=run_append_nil (P:=P) w t ty e it zv hu hit hzv ⟨b2,o2,none⟩ 1 c2 news hnl hnews (by omega) (by omega) hbb;have hext:Ext g w (g.put w.heap.size (some 0)) (w.drew.alloc (.cells (news.toArray++Builtin.zeroCells zv.cells (grownCap w 1 0 e-1)) e)):=(Ext.drew g w).trans (Ext.alloc g w.drew _ _);have hcapm:1<=grownCap w 1 0 e:=grownCap_ge w 1 0 e;have hcapM:=grownCap_le_maxLen w 1 0 e (by omega);refine fin _ (g.put w.heap.size (some 0)) _ (by rw [e1,h21];exact hrun) ?_ hext;refine hHK.set hext hH (fun b hb=>?_) (.inr ⟨w.heap.size,grownCap w 1 0 e,_,rfl,Gh.Aai _ _ _,Ci w.drew _,?_,hcapm,hcapM,by simpa using hcz,fun i x hi=>?_⟩) (fun c hc _ _=>?_)
  . simp only [HO.blk,Option.some.injEq] at hb;exact .inr (by omega)
  .
   simp only [H7,Hd,n1,size_zeroCells,hzs,hz,Nat.sub_mul];have:=Fu z hcapm;omega
  .
   have h3:=(n2.mono hext).2 i x hi
   have hlt:i<news.length:=by
    have:=(List.getElem?_eq_some_iff.1 hi).1;simp only [Jz,List.flatten_nil,H1] at this;omega
   have e2:(news.toArray++Builtin.zeroCells zv.cells (grownCap w 1 0 e-1)).getD i undef=news.toArray.getD i undef:=by
    rw [Ce,Ce,Array.getElem?_append_left (by simpa using hlt)]
   rw [e2];exact h3
  exact ⟨Gh.Aal _ _ (by omega),F4 w.drew _ hc⟩
 have hfl:es.flatten.length=es.length*z:=by rw [Cm hz1]
 have hle:es.length*z<=cur.size:=by rw [hcsz];exact Fu z hcap
 have hzall:∀x∈es ++ [c],x.length=z:=fun x hx=>by
  rcases Da.1 hx with h | h
  . exact hz1 x h
  exact hz2 x h
 have rl1:Cv g w (cur.toList.take (es.length*z)).toArray es.flatten:=by
  refine ⟨by simp [hfl];omega,fun i x hi=>?_⟩;have hlt:=(List.getElem?_eq_some_iff.1 hi).1;have h3:=hrep i x hi
  have e2:(cur.toList.take (es.length*z)).toArray.getD i undef=cur.getD i undef:=by
   simp only [Ce,List.getElem?_toArray,List.getElem?_take,Array.getElem?_toList];rw [if_pos (by omega)]
  rw [e2];exact h3
 have hrl:Cv g w ((cur.toList.take (es.length*z)).toArray++news.toArray) (es ++ [c]).flatten:=by
  rw [Ol];exact rl1.append n2
 have htk:(cur.toList.take (es.length*z)).length=es.length*z:=by simp;omega
 have hfl2:(es ++ [c]).flatten.length=es.length*z+z:=by rw [Cm hzall,hlen,Fj,Iy]
 by_cases hroom:es.length+1<=cap
 .
  have hfit:es.length*it.size+news.length<=cur.size:=by
   rw [hsz,n1,hcsz,<-Fj];exact Fu z hroom
  have hrun:=run_append_room (P:=P) w t ty e it hu hit b es.length cap cur hcur ⟨b2,o2,none⟩ 1 c2 news hnl hnews n3 hroom hfit;rw [hsz] at hrun hfit;have hnew:=setRow_heap w b cur (cur.toList.take (es.length*z)++news++cur.toList.drop (es.length*z+news.length)).toArray e (0,0) hcur;have hext:Ext g w g (w.setRow b (cur.toList.take (es.length*z)++news++cur.toList.drop (es.length*z+news.length)).toArray):=Ext.setRow hg;refine fin _ g _ (by rw [e1,h21];exact hrun) ?_ hext;refine hHK.set hext hH (fun b' hb'=>.inl hb') (.inr ⟨b,cap,_,by rw [hlen],hg,hnew,?_,by rw [hlen];exact hroom,hcmax,hzall,fun i x hi=>?_⟩) (fun c hc hne _=>?_)
  . simp only [Hd,Do,Fr,Na,Qd];omega
  .
   have h3:=(hrl.mono hext).2 i x hi;have hlt:=(List.getElem?_eq_some_iff.1 hi).1
   have e2:(cur.toList.take (es.length*z)++news++cur.toList.drop (es.length*z+news.length)).toArray.getD i undef=((cur.toList.take (es.length*z)).toArray++news.toArray).getD i undef:=by
    have e3:(cur.toList.take (es.length*z)++news++cur.toList.drop (es.length*z+news.length)).toArray=((cur.toList.take (es.length*z)).toArray++news.toArray)++(cur.toList.drop (es.length*z+news.length)).toArray:=by
     apply Ly.1;simp
    rw [e3,Ce,Ce,Array.getElem?_append_left (by simp only [H7,Hd];omega)]
   rw [e2];exact h3
  exact ⟨rfl,setRow_other w b c _ (fun h=>hne (by rw [h];rfl))⟩
 have hg':cap<es.length+1:=by omega
 have hfit:Builtin.nextslicecap (es.length+1) cap*it.bytes<=281474976710656:=growslice_fits hg' (by rw [hib];exact hb);have hol:(cur.toList.take (es.length*z)).length=es.length*it.size:=by rw [htk,hsz]
 have holds:∀j u,(cur.toList.take (es.length*z))[j]? = some u->w.cell? ((⟨b,0,none⟩:Addr).add j)=some u:=fun j u hj=>by
  rw [E8,Cg,Bq hcur];rw [List.getElem?_take] at hj;split at hj
  . simpa using hj
  cases hj
 have hrun:=run_append_grow (P:=P) w t ty e it zv hu hit hzv ⟨b,0,none⟩ es.length cap (cur.toList.take (es.length*z)) hol holds ⟨b2,o2,none⟩ 1 c2 news hnl hnews hg' (by omega) hfit;have hext:Ext g w (g.put w.heap.size (some 0)) (w.drew.alloc (.cells ((cur.toList.take (es.length*z)).toArray++news.toArray++Builtin.zeroCells zv.cells (grownCap w (es.length+1) cap e-(es.length+1))) e)):=(Ext.drew g w).trans (Ext.alloc g w.drew _ _);have hcapm:=grownCap_ge w (es.length+1) cap e;have hcapM:=grownCap_le_maxLen w (es.length+1) cap e (by omega);refine fin _ (g.put w.heap.size (some 0)) _ (by rw [e1,h21];exact hrun) ?_ hext;refine hHK.set hext hH (fun b' hb'=>?_) (.inr ⟨w.heap.size,grownCap w (es.length+1) cap e,_,by rw [hlen],Gh.Aai _ _ _,Ci w.drew _,?_,by rw [hlen];exact hcapm,hcapM,hzall,fun i x hi=>?_⟩) (fun c hc _ _=>?_)
 . simp only [HO.blk,Option.some.injEq] at hb';exact .inr (by omega)
 .
  simp only [H7,Hd,n1,size_zeroCells,hzs,hz,Nat.sub_mul,hol,hsz];have:=Fu z hcapm;rw [Fj] at this;rw [Fj];omega
 .
  have h3:=(hrl.mono hext).2 i x hi;have hlt:=(List.getElem?_eq_some_iff.1 hi).1
  have e2:((cur.toList.take (es.length*z)).toArray++news.toArray++Builtin.zeroCells zv.cells (grownCap w (es.length+1) cap e-(es.length+1))).getD i undef=((cur.toList.take (es.length*z)).toArray++news.toArray).getD i undef:=by
   rw [Ce,Ce,Array.getElem?_append_left (by simp only [H7,Hd];omega)]
  rw [e2];exact h3
 exact ⟨Gh.Aal _ _ (by omega),F4 w.drew _ hc⟩
theorem GS.buf {sl:List (Nat×AV)}{H:List HO}{n:Nat}(E z:Nat):GS ⟨sl,H,n⟩ ⟨sl,.buf (.slice none 0 0) [] E z::H,n⟩:=fun g a w hG=>
 ⟨g,⟨hG.size,hG.defers,hG.sl,hG.heap.cons (.inl ⟨rfl,rfl⟩) (fun b hb=>by simp [HO.blk] at hb)⟩,Ext.refl g w⟩

theorem GS.freezeBuf {sl:List (Nat×AV)}{H:List HO}{n t:Nat}{v:Value}{es:List (List AV)}{E z:Nat}(k:Nat)(h:get sl t = .val v)(hk:H[k]? = some (.buf v es E z)):GS ⟨sl,H,n⟩ ⟨(t,.sl z es)::sl,H.eraseIdx k,n⟩:=fun g a w hG=>by
 have hok:=hG.heap.ok _ (A0 hk);have hv:=(h▸hG.sl t:Rep g w _ _).inv_val;rcases hok with ⟨rfl,rfl⟩ | ⟨b,cap,cur,rfl,hg,hcur,hcsz,hcap,hcmax,hz1,hrep⟩
 .
  refine ⟨g,⟨hG.size,hG.defers,fun i=>?_,hG.heap.sub (Qa ..)⟩,Ext.refl g w⟩;show Rep _ w _ (get ((t,AV.sl z [])::sl) i);rw [Fo];split
  . rename_i e;subst e;rw [hv];exact .sl0 _ _ _ (Bn _)
  exact hG.sl i
 have hx:Ext g w (g.put b none) w:=by
  refine ⟨rfl,rfl,rfl,⟨Bi _,Bi _⟩,fun c hc hgc=>⟨?_,rfl⟩,fun c m hc hgc=>⟨fun m' hm=>?_,fun _ _=>rfl⟩⟩
  .
   by_cases e:c=b
   . subst e;exact Gh.Aai _ _ _
   rw [Gh.Aal _ _ e];exact hgc
  by_cases e:c=b
  . subst e;rw [Gh.Aai] at hm;cases hm
  rw [Gh.Aal _ _ e,hgc] at hm;cases hm;exact Bi _
 refine ⟨g.put b none,⟨hG.size,hG.defers,fun i=>?_,?_⟩,hx⟩
 .
  show Rep _ w _ (get ((t,AV.sl z es)::sl) i);rw [Fo];by_cases e:t=i
  .
   subst e;simp only [if_true];rw [hv];refine .sl b 0 es.length cap z es rfl hcap hcmax hz1 (fun i j=>cur.getD (i*z+j) undef) (fun i e hi j y hj=>⟨by unfold Dz;rw [Gh.Aai];trivial,?_⟩) (fun i e hi j y hj=>?_)
   .
    have h3:=Fl hz1 hi hj
    have hlt:i*z+j<cur.size:=by
     have h4:=(List.getElem?_eq_some_iff.1 h3).1;rw [Cm hz1] at h4;have:=Fu z hcap;omega
    rw [Cg,Bq hcur];simp [hlt]
   exact (hrep _ _ (Fl hz1 hi hj)).mono hx
  simp only [e,if_false];exact (hG.sl i).mono hx
 have hsub:(H.eraseIdx k).Sublist H:=Qa ..;refine ⟨(hG.heap.sub hsub).nodup,fun o ho=>?_,hG.heap.glob.mono hx⟩;obtain ⟨j,hj⟩:=List.getElem?_of_mem ho;rw [List.getElem?_eraseIdx] at hj
 obtain ⟨j',hjk,hj'⟩:∃j',j'≠k/\H[j']? = some o:=by
  split at hj
  . exact ⟨j,by omega,hj⟩
  exact ⟨j+1,by omega,hj⟩
 have hok:=hG.heap.ok o (A0 hj');refine HO.ok_of_same hx hok fun c hc=>⟨Gh.Aal _ _ fun e=>hjk (hG.heap.nodup_blk hj' hk (e▸hc) rfl),rfl⟩
theorem Cb.buf {f:FuncId}{v:Value}{es:List (List AV)}{E z:Nat}{H:List HO}{args:List AV}{Q:AV->List HO->Prop}
  (h0:v = .slice none 0 0->es = []->Cb P f (.buf v es E z::H) args Q)
  (h1:∀b cap J,v = .slice (some ⟨b,0,none⟩) es.length cap->es.length<=cap->Cb P f (.box b E (es.flatten++J)::H) args (fun r H'=>∃es',H' = .box b E (es'.flatten++J)::H/\es'.length=es.length/\(∀e∈es',e.length=z)/\Q r (.buf v es' E z::H))) :
  Cb P f (.buf v es E z::H) args Q:=by
 intro g w vs hH hA;have hok:=hH.ok _ (Fs ..);rcases hok with ⟨e1,e2⟩ | ⟨b,cap,cur,e1,hg,hcur,hcsz,hcap,hcmax,hz1,hrep⟩
 . exact h0 e1 e2 g w vs hH hA
 have hfl:es.flatten.length=es.length*z:=Cm hz1;have hle:es.length*z<=cur.size:=by rw [hcsz];exact Fu z hcap
 have hbox:HOK g w (.box b E (es.flatten++List.replicate (cur.size-es.length*z) .junk)::H):=by
  have hb1:(HO.buf v es E z).blk=some b:=by rw [e1];rfl
  refine ⟨?_,fun o ho=>?_,hH.glob⟩
  .
   have:=hH.nodup;simp only [J1,hb1] at this;simpa [J1,HO.blk] using this
  rcases Cz.1 ho with rfl | ho
  .
   refine ⟨hg,cur,hcur,by simp [hfl];omega,fun i x hi=>?_⟩;rw [List.getElem?_append] at hi;split at hi
   . exact hrep i x hi
   have:=O7 (A0 hi);rw [this];exact .junk _
  exact hH.ok o (Ft _ ho)
 have h1':=h1 b cap (List.replicate (cur.size-es.length*z) .junk) e1 hcap g w vs hbox hA;refine h1'.mono ?_;rintro e w' ⟨r,g',x,H',rfl,k1,k2,k3,es',rfl,k5,k6,k7⟩;refine ⟨r,g',x,_,rfl,k1,?_,k3,k7⟩;obtain ⟨b1,vs',b2,b3⟩:=k2.ok _ (Fs ..);have hfl':es'.flatten.length=es.length*z:=by rw [Cm k6,k5]
 have hvs:vs'.size=cap*z:=by
  rw [b3.1,Do,Jg,hfl',hcsz];have:=Fu z hcap;omega
 refine ⟨?_,fun o ho=>?_,k2.glob⟩
 .
  have:=k2.nodup;rw [e1];simpa [J1,HO.blk] using this
 rcases Cz.1 ho with rfl | ho
 .
  refine .inr ⟨b,cap,vs',by rw [e1,k5],b1,b2,hvs,by rw [k5];exact hcap,hcmax,k6,fun i x hi=>?_⟩;refine b3.2 i x ?_;rw [List.getElem?_append_left (List.getElem?_eq_some_iff.1 hi).1];exact hi
 exact k2.ok o (Ft _ ho)
end
end Go.Aw
namespace Go.Aw

section
variable {P:Program} {T:List (Nat×TD)} {d:Option Nat} {ty:TypeId} {pos:String} {aft:Array Edge} {gd:Option (Nat×Bool)} {ρ:Operand->AV}

end
end Go.Aw
namespace Go.Aw

section
variable {P:Program} {T:List (Nat×TD)} {d:Option Nat} {ty:TypeId} {pos:String} {aft:Array Edge} {gd:Option (Nat×Bool)} {ρ:Operand->AV} {K:List HO->Prop}

end

end Go.Aw
