/-
  The abstract layer: abstract values, what represents them, states, operations, code, calls. No condition.
-/
import Derived.Test.YtjedflcpjlgokaaGreatDoorAw
set_option linter.unusedVariables false
set_option linter.unusedSimpArgs false
namespace Go.Aw

section
variable {P:Program} {T:List (Nat×TD)} {d:Option Nat} {ty:TypeId} {pos:String} {aft:Array Edge} {gd:Option (Nat×Bool)} {ρ:Operand→AV} {K:List HO→Prop}

theorem Gk {x:Operand}{cs:List AV}(h:ρ x = .ptr cs):Dn P ⟨d,.nilCheck x,ty,pos,aft,gd⟩ ρ K (.ptr cs):=
 .of_run fun g w a hr=>by
  have h1:=(h▸hr x (by simp [Op.operands]):Rep g w _ _)
  obtain ⟨b,o,e,_⟩:=h1.inv_ptr
  exact ⟨a.eval x,by simp [execOp,e],h1⟩

theorem Tr {x:Operand}{lo hi:Option Operand}{t e z b o n c:Nat}{td te:TD}{l h o':Nat}(hT:Hb P T)(hx:ρ x = .val (.slice (some ⟨b,o,none⟩) n c))(ht:Bv T t=some td)(hk:td.kind = .slice e)(hte:Bv T e=some te)(hz:te.size=z)
    (hlo:match lo with | none=>l=0 | some y=>∃k,ρ y = .int k (l:Int)) (hhi:match hi with | none=>h=n | some y=>∃k,ρ y = .int k (h:Int)) (h1:l≤h) (h2:h≤n) (h3:n≤c) (hlc:l<c) (ho:o+l*z=o') :
    Dn P ⟨d,.slice t x lo hi none,ty,pos,aft,gd⟩ ρ K (.val (.slice (some ⟨b,o',none⟩) (h-l) (c-l))):=
  .of_run fun g w a hr=>by
    have e1:=(hx▸hr x (by simp [Op.operands]):Rep g w _ _).inv_val
    have hu:=D3 (hT t td ht) hk
    have hsz:=Hq (hT e te hte) w
    subst ho
    have e2:∀v,lo.map a.eval=some v→∃k,v = .int k (l:Int):=fun v hv=>by
      cases lo with
      | none=>cases hv
      | some y=>
        obtain ⟨k,hk⟩:=hlo
        simp only [Option.map_some,Option.some.injEq] at hv;subst hv
        exact ⟨k,(hk▸hr y (by simp [Op.operands]):Rep g w _ _).inv_int⟩
    have e3:∀v,hi.map a.eval=some v→∃k,v = .int k (h:Int):=fun v hv=>by
      cases hi with
      | none=>cases hv
      | some y=>
        obtain ⟨k,hk⟩:=hhi
        simp only [Option.map_some,Option.some.injEq] at hv;subst hv
        exact ⟨k,(hk▸hr y (by simp [Op.operands]):Rep g w _ _).inv_int⟩
    have key:(Instr.sliceBounds true n c (lo.map a.eval) (hi.map a.eval) none).run P w = .ok (l,h,c) w:=by
      unfold Instr.sliceBounds
      simp only [Sem.run_bind,Sem.run_pure,Result.andThen_ok]
      cases hh:hi.map a.eval with
      | none=>
        have:h=n:=by cases hi with | none=>exact hhi | some y=>cases hh
        subst this
        simp only [Sem.run_pure,Result.andThen_ok]
        cases hl:lo.map a.eval with
        | none=>
          have:l=0:=by cases lo with | none=>exact hlo | some y=>cases hl
          subst this;rfl
        | some v=>obtain ⟨k,rfl⟩:=e2 v hl;simp [Ln (P:=P) (k:=k) (n:=(l:Int)) (y:=h) (by omega) (by omega)]
      | some v=>
        obtain ⟨k,rfl⟩:=e3 v hh
        simp only [Ln (P:=P) (k:=k) (n:=(h:Int)) (y:=c) (by omega) (by omega),Sem.run_bind,Result.andThen_ok,Int.toNat_natCast]
        cases hl:lo.map a.eval with
        | none=>
          have:l=0:=by cases lo with | none=>exact hlo | some y=>cases hl
          subst this;rfl
        | some v=>obtain ⟨k,rfl⟩:=e2 v hl;simp [Ln (P:=P) (k:=k) (n:=(l:Int)) (y:=h) (by omega) (by omega)]
    refine ⟨_,?_,.val _⟩
    have hne:¬c=l:=by omega
    simp only [execOp,e1,Instr.sliceAt,Sem.run_bind,Ba hu,Result.andThen_ok,Instr.slice,Option.map_none,key,hsz,hz,Sem.run_pure,if_neg hne,Option.map_some,Hh]

theorem nK {x y:Operand}{t u e k b o o2 dn dc sn sc m TT:Nat}{td te:TD}{cs cs':List AV}{H H2:List HO}(hT:Hb P T)(hx:ρ x = .val (.slice (some ⟨b,o,none⟩) dn dc))(hy:ρ y = .val (.slice (some ⟨b,o2,none⟩) sn sc))(ht:Bv T t=some td)(hk:td.kind = .slice e)
  (hte:Bv T e=some te) (hz:te.size=1) (hH:H[k]? = some (.box b TT cs)) (hsc:Be cs=true) (hm:Nat.min sn dn=m) (h1:o+m≤cs.length) (h2:o2+m≤cs.length) (hcs:D7 cs o ((cs.drop o2).take m)=cs') (hH2:H.set k (.box b TT cs')=H2) :
  Km P ⟨d,.call ⟨.builtin .copy,#[x,y],#[t,u]⟩,ty,pos,aft,gd⟩ ρ H (fun r H'=>r = .int .i64 (m:Int)∧H'=H2):=by
 subst hH2;subst hcs
 intro g w a next Q hr hHK hn
 have e1:=(hx▸hr x (by simp [Op.operands,Call.operands]):Rep g w _ _).inv_val
 have e2:=(hy▸hr y (by simp [Op.operands,Call.operands]):Rep g w _ _).inv_val
 have hu:=D3 (hT t td ht) hk
 obtain ⟨it,hit,his,_⟩:=(hT e te hte).info
 obtain ⟨hg,vs,h5,h6⟩:=hHK.ok _ (List.mem_of_getElem? hH)
 have hone:∀v∈vs.toList,v.oneCell'=true:=fun v hv=>by
  obtain ⟨i,hi⟩:=List.getElem?_of_mem hv
  have hi':vs[i]? = some v:=by simpa using hi
  have hil:i<cs.length:=by rw [←h6.1];exact (Array.getElem?_eq_some_iff.1 hi').1
  have hr7:=h6.2 i _ (List.getElem?_eq_getElem hil)
  have:vs.getD i undef=v:=by rw [Array.getD_eq_getD_getElem?,hi'];rfl
  rw [this] at hr7
  exact Np hr7 (J5 hsc _ (List.getElem_mem hil))
 have hnl:((vs.toList.drop o2).take m).length=m:=by rw [List.length_take,List.length_drop,Array.length_toList,h6.1];omega
 have hrun:=run_copy_row (P:=P) w t u ty e b o dn dc ⟨b,o2,none⟩ sn sc vs TT ((vs.toList.drop o2).take m) hu (by rw [hit];simp [his,hz]) h5 (by rw [hnl];exact hm.symm) (fun j v hj=>by
   rw [Hh,Cd h5]
   rw [List.getElem?_take] at hj
   split at hj
   · rw [List.getElem?_drop] at hj;simpa using hj
   · cases hj) (by rw [hnl,h6.1];exact h1) (fun v hv=>hone v (List.mem_of_mem_drop (List.mem_of_mem_take hv)))
 rw [hnl] at hrun
 have hx:Ext g w g (w.setRow b (vs.toList.take o++(vs.toList.drop o2).take m++vs.toList.drop (o+m)).toArray):=Ext.setRow hg
 unfold Oper.wp
 rw [Ih (v:=goInt m) (w':=w.setRow b (vs.toList.take o++(vs.toList.drop o2).take m++vs.toList.drop (o+m)).toArray) (by
  have:(#[x,y]:Array Operand).map a.eval = #[a.eval x,a.eval y]:=by simp
  rw [this,e1,e2]
  simp only [builtin,Sem.run_bind,hrun,Result.andThen_ok,Sem.run_pure])]
 refine hn g _ _ _ _ ⟨rfl,rfl⟩ (.int _ _) (hHK.set hx hH (fun b' hb'=>.inl hb') ⟨hg,_,setRow_heap w b vs _ TT (0,0) h5,?_⟩ ?_) hx
 ·
  have hml:((cs.drop o2).take m).length=m:=by rw [List.length_take,List.length_drop];omega
  have r1:=((h6.take o).append ((h6.drop o2).take m)).append (h6.drop (o+((cs.drop o2).take m).length))
  rw [hml] at r1
  have e9:(vs.toList.take o++(vs.toList.drop o2).take m++vs.toList.drop (o+m)).toArray=(vs.toList.take o).toArray++(((vs.toList.drop o2).toArray).toList.take m).toArray++(vs.toList.drop (o+m)).toArray:=by
   apply Array.toList_inj.1;simp
  unfold D7
  rw [hml]
  have r3:=r1.mono hx
  rw [←e9] at r3
  exact r3
 ·
  intro c _ hne _
  exact ⟨rfl,setRow_other w b c _ (fun e=>hne (by rw [e];rfl))⟩

theorem uU {x y:Operand}{t u e k b o dn dc m TT:Nat}{td te:TD}{es:List (List AV)}{cs cs':List AV}{H H2:List HO}(hT:Hb P T)(hx:ρ x = .val (.slice (some ⟨b,o,none⟩) dn dc))(hy:ρ y = .sl 1 es)(ht:Bv T t=some td)(hk:td.kind = .slice e)
  (hte:Bv T e=some te) (hz:te.size=1) (hH:H[k]? = some (.box b TT cs)) (hne:es≠[]) (hs:∀c∈es,Be c=true) (hm:Nat.min es.length dn=m) (h1:o+m≤cs.length) (hcs:D7 cs o (es.flatten.take m)=cs') (hH2:H.set k (.box b TT cs')=H2) :
  Km P ⟨d,.call ⟨.builtin .copy,#[x,y],#[t,u]⟩,ty,pos,aft,gd⟩ ρ H (fun r H'=>r = .int .i64 (m:Int)∧H'=H2):=by
 subst hH2;subst hcs
 intro g w a next Q hr hHK hn
 have e1:=(hx▸hr x (by simp [Op.operands,Call.operands]):Rep g w _ _).inv_val
 have r2:=(hy▸hr y (by simp [Op.operands,Call.operands]):Rep g w _ _)
 obtain ⟨a2,sn,sc,e2,h22,_⟩:=r2.inv_sl
 rw [e2] at r2
 obtain ⟨_,hz2,b2,o2,hb2,news,n1,n2,n3,n4⟩:=Kh r2 (Nat.zero_lt_one) hs hne
 subst hb2
 have hu:=D3 (hT t td ht) hk
 obtain ⟨it,hit,his,_⟩:=(hT e te hte).info
 obtain ⟨hg,vs,h5,h6⟩:=hHK.ok _ (List.mem_of_getElem? hH)
 have hnl:(news.take m).length=m:=by
  have hle:m≤es.length:=hm▸Nat.min_le_left _ _
  rw [List.length_take,n1];omega
 have hrun:=run_copy_row (P:=P) w t u ty e b o dn dc ⟨b2,o2,none⟩ sn sc vs TT (news.take m) hu (by rw [hit];simp [his,hz]) h5 (by rw [hnl,h22];exact hm.symm) (fun j v hj=>by
   rw [List.getElem?_take] at hj
   split at hj
   · rw [Hh];exact (n4 j v hj).2
   · cases hj) (by rw [hnl,h6.1];exact h1) (fun v hv=>n3 v (List.mem_of_mem_take hv))
 rw [hnl] at hrun
 have hx:Ext g w g (w.setRow b (vs.toList.take o++news.take m++vs.toList.drop (o+m)).toArray):=Ext.setRow hg
 unfold Oper.wp
 rw [Ih (v:=goInt m) (w':=w.setRow b (vs.toList.take o++news.take m++vs.toList.drop (o+m)).toArray) (by
  have:(#[x,y]:Array Operand).map a.eval = #[a.eval x,a.eval y]:=by simp
  rw [this,e1,e2]
  simp only [builtin,Sem.run_bind,hrun,Result.andThen_ok,Sem.run_pure])]
 refine hn g _ _ _ _ ⟨rfl,rfl⟩ (.int _ _) (hHK.set hx hH (fun b' hb'=>.inl hb') ⟨hg,_,setRow_heap w b vs _ TT (0,0) h5,?_⟩ ?_) hx
 ·
  have hfl:es.flatten.length=sn:=by rw [Cz hz2,h22,Nat.mul_one]
  have hle:m≤es.length:=hm▸Nat.min_le_left _ _
  have hml:(es.flatten.take m).length=m:=by rw [List.length_take,hfl];omega
  have r1:=((h6.take o).append (n2.take m)).append (h6.drop (o+(es.flatten.take m).length))
  rw [hml] at r1
  have e9:(vs.toList.take o++news.take m++vs.toList.drop (o+m)).toArray=(vs.toList.take o).toArray++((news.toArray).toList.take m).toArray++(vs.toList.drop (o+m)).toArray:=by
   apply Array.toList_inj.1;simp
  unfold D7
  rw [hml]
  have r3:=r1.mono hx
  rw [←e9] at r3
  exact r3
 ·
  intro c _ hne _
  exact ⟨rfl,setRow_other w b c _ (fun e=>hne (by rw [e];rfl))⟩
end

theorem GS.perm {sl:List (Nat×AV)}{H H2:List HO}{n:Nat}(h:H.Perm H2):GS ⟨sl,H,n⟩ ⟨sl,H2,n⟩:=fun g _ w hG=>
 ⟨g,⟨hG.size,hG.defers,hG.sl,hG.heap.perm h⟩,Ext.refl g w⟩
end Go.Aw
namespace Go.Aw

def Lm (eq:List AV→Bool):List (List AV×AV)→Option Nat
 | []=>none
 | (k,_)::r=>if eq k then some 0 else (Lm eq r).map (· + 1)
def G4 (eq:List AV→Bool):List (List AV×AV)→Option AV
 | []=>none
 | (k,x)::r=>if eq k then some x else G4 eq r
theorem Vb {eq:List AV→Bool}:∀{es:List (List AV×AV)} {j:Nat},Lm eq es=some j→∃k x,es[j]? = some (k,x)∧G4 eq es=some x
  | (k,x)::r,j,h=>by
    rw [Lm] at h
    rw [G4]
    split at h
    · rename_i h1
      cases h
      exact ⟨k,x,rfl,by rw [if_pos h1]⟩
    · rename_i h1
      cases hq:Lm eq r with
      | none=>rw [hq] at h;cases h
      | some i=>
        rw [hq] at h
        cases h
        obtain ⟨k',x',h2,h3⟩:=Vb hq
        exact ⟨k',x',h2,by rw [if_neg h1];exact h3⟩
theorem Pw {eq:List AV→Bool}:∀{es:List (List AV×AV)},Lm eq es=none↔G4 eq es=none
  | []=>by simp [Lm,G4]
  | (k,x)::r=>by
    rw [Lm,G4]
    split
    · simp
    · rw [Option.map_eq_none_iff];exact Pw

section
variable {P:Program} {T:List (Nat×TD)} {d:Option Nat} {ty:TypeId} {pos:String} {aft:Array Edge} {gd:Option (Nat×Bool)} {ρ:Operand→AV}

theorem Iw {kt:TypeId}{tk:TD}{gs:List (Nat×Nat×Bool×Nat)}(hT:Hb P T)(ht:Bv T kt=some tk)(hk:tk.kind = .struct gs){g:Gh}{w:World}{us:Array Value}{n:List AV}(hu:Cx g w us n){eq:List AV→Bool} :
    ∀(l:List MapEntry) (es:List (List AV×AV)) (i:Nat),l.length=es.length→(∀(j:Nat) k x,es[j]? = some (k,x)→∃vs,(l.getD j default).key = .agg vs∧Cx g w vs k)→(∀p∈es,G1 T gs n p.1=some (eq p.1))→
    (Instr.findAsking kt (.agg us) l i).run P w = .ok ((Lm eq es).map fun j=>(i+j,(l.getD j default).val)) w
  | [],[],i,_,_,_=>by simp [Instr.findAsking,Lm]
  | [],_::_,_,h,_,_=>by simp at h
  | _::_,[],_,h,_,_=>by simp at h
  | e::l,(k,x)::es,i,h,hks,he=>by
    obtain ⟨vs,h1,h2⟩:=hks 0 k x rfl
    have h1:e.key = .agg vs:=by simpa using h1
    have h3:=(Tk hT ht hk hu h2 (he (k,x) (List.mem_cons_self ..)) (x:=.const .nilIface) (y:=.const .nilIface) (op:=.eql)).2
    unfold Instr.findAsking
    simp only [Sem.run_bind,h1,h3,Result.andThen_ok]
    rw [Lm]
    cases hq:eq k with
    | true=>simp
    | false=>
      simp only [Bool.false_eq_true,if_false]
      rw [Iw hT ht hk hu l es (i+1) (by simpa using h) (fun j k x hj=>by simpa using hks (j+1) k x hj) (fun p hp=>he p (List.mem_cons_of_mem _ hp))]
      cases Lm eq es with
      | none=>rfl
      | some j=>simp;omega

theorem H9 {kt:TypeId}{n:Nat}{em:Bool}{v:Value}{w:World}(h:(∃k,P.underlying kt=some (.int k))∨P.underlying kt=some .string∨P.underlying kt=some .bool):(Instr.checkKey em (n+1) kt v).run P w = .ok () w:=by
 unfold Instr.checkKey
 rcases h with ⟨k,h⟩ | h | h <;> (rw [Sem.run_bind,Ba h];cases v <;> rfl)

theorem J3 (hT:Hb P T){g:Gh}{w:World}{us:Array Value}{xs:List AV}(hu:Cx g w us xs){em:Bool}{m:Nat}:∀(fs:List Field) (r:Bool),
    On T (fs.map (fun f => (f.offset, P.cellsOf f.type, f.name != "_", f.type))) xs xs = some r →
    Sem.run P (forIn fs PUnit.unit fun f _=>
            if f.name ≠ "_" then do
              let a ←part f.type us f.offset
              Instr.checkKey em (m+1) f.type a
              pure (ForInStep.yield PUnit.unit)
            else pure (ForInStep.yield PUnit.unit)) w = .ok PUnit.unit w
  | [],r,h=>by simp
  | f::fs,r,h=>by
    simp only [List.map_cons,On] at h
    cases hn : (f.name != "_") with
    | false=>simp [hn] at h
    | true=>
      have hn' : f.name ≠ "_" := by simpa using hn
      simp only [hn,cond_true] at h
      rw [List.forIn_cons]
      simp only [hn',ne_eq,not_false_eq_true,if_true]
      have hlu:∀{c},xs[f.offset]? = some c→f.offset<us.size:=fun hc=>by rw [hu.1];exact (List.getElem?_eq_some_iff.1 hc).1
      split at h
      · rename_i hty hx hy hrec
        simp only [Sem.run_bind,C0 (hT _ _ hty) rfl (hlu hx),Result.andThen_ok,H9 (.inl ⟨_,J9 (hT _ _ hty) rfl⟩),Sem.run_pure]
        have ih:=J3 hT hu (em:=em) (m:=m) fs _ hrec
        simpa using ih
      · rename_i hty hx hy hrec
        simp only [Sem.run_bind,C0 (hT _ _ hty) rfl (hlu hx),Result.andThen_ok,H9 (.inr (.inl (Kz (hT _ _ hty) rfl))),Sem.run_pure]
        have ih:=J3 hT hu (em:=em) (m:=m) fs _ hrec
        simpa using ih
      · rename_i hty hx hy hrec
        simp only [Sem.run_bind,C0 (hT _ _ hty) rfl (hlu hx),Result.andThen_ok,H9 (.inr (.inr (K7 (hT _ _ hty) rfl))),Sem.run_pure]
        have ih:=J3 hT hu (em:=em) (m:=m) fs _ hrec
        simpa using ih
      · cases h
theorem X2 {kt:TypeId}{tk:TD}{gs:List (Nat×Nat×Bool×Nat)}(hT:Hb P T)(ht:Bv T kt=some tk)(hk:tk.kind = .struct gs){g:Gh}{w:World}{us:Array Value}{n:List AV}(hu:Cx g w us n){r:Bool}(h:On T gs n n=some r){em:Bool}{m:Nat} :
  (Instr.checkKey em (m+2) kt (.agg us)).run P w = .ok () w:=by
 obtain ⟨fs,hfu,hm,hs,hg,_⟩:=Hv (hT kt tk ht) hk
 have key:=J3 hT hu (em:=em) (m:=m) fs.toList r (by rw [hm];exact h)
 unfold Instr.checkKey
 simp only [Sem.run_bind,Ba hfu,Result.andThen_ok]
 rw [←Array.forIn_toList]
 simp at key ⊢
 first | (rw [key];rfl) | (erw [key];rfl)
theorem Jh (hT:Hb P T){g:Gh}{w:World}{us:Array Value}{xs:List AV}(hu:Cx g w us xs){em:Bool}{m:Nat}:∀(fs:List Field) (r:Bool),
    G1 T (fs.map (fun f => (f.offset, P.cellsOf f.type, f.name != "_", f.type))) xs xs = some r →
    Sem.run P (forIn fs PUnit.unit fun f _=>
            if f.name ≠ "_" then do
              let a ←part f.type us f.offset
              Instr.checkKey em (m+2) f.type a
              pure (ForInStep.yield PUnit.unit)
            else pure (ForInStep.yield PUnit.unit)) w = .ok PUnit.unit w
  | [],r,h=>by simp
  | f::fs,r,h=>by
    simp only [List.map_cons,G1] at h
    cases hn : (f.name != "_") with
    | false=>simp [hn] at h
    | true=>
      have hn' : f.name ≠ "_" := by simpa using hn
      simp only [hn,cond_true] at h
      rw [List.forIn_cons]
      simp only [hn',ne_eq,not_false_eq_true,if_true]
      have hlu:∀{c},xs[f.offset]? = some c→f.offset<us.size:=fun hc=>by rw [hu.1];exact (List.getElem?_eq_some_iff.1 hc).1
      split at h
      · rename_i hty hx hy hrec
        simp only [Sem.run_bind,C0 (hT _ _ hty) rfl (hlu hx),Result.andThen_ok,H9 (.inl ⟨_,J9 (hT _ _ hty) rfl⟩),Sem.run_pure]
        have ih:=Jh hT hu (em:=em) (m:=m) fs _ hrec
        simpa using ih
      · rename_i hty hx hy hrec
        simp only [Sem.run_bind,C0 (hT _ _ hty) rfl (hlu hx),Result.andThen_ok,H9 (.inr (.inl (Kz (hT _ _ hty) rfl))),Sem.run_pure]
        have ih:=Jh hT hu (em:=em) (m:=m) fs _ hrec
        simpa using ih
      · rename_i hty hx hy hrec
        simp only [Sem.run_bind,C0 (hT _ _ hty) rfl (hlu hx),Result.andThen_ok,H9 (.inr (.inr (K7 (hT _ _ hty) rfl))),Sem.run_pure]
        have ih:=Jh hT hu (em:=em) (m:=m) fs _ hrec
        simpa using ih
      · rename_i hty hrec
        rename_i z bb zz gs' r0
        cases hq:On T gs' ((xs.drop f.offset).take z) ((xs.drop f.offset).take z) with
        | none=>simp [hq] at h
        | some q=>
          have h2:=X2 hT hty rfl (Nw hu f.offset z) hq (em:=em) (m:=m)
          simp only [Sem.run_bind,dJ (hT _ _ hty) rfl,Result.andThen_ok,h2,Sem.run_pure]
          have ih:=Jh hT hu (em:=em) (m:=m) fs _ hrec
          simpa using ih
      · cases h
theorem G0 {kt:TypeId}{tk:TD}{gs:List (Nat×Nat×Bool×Nat)}(hT:Hb P T)(ht:Bv T kt=some tk)(hk:tk.kind = .struct gs){g:Gh}{w:World}{us:Array Value}{n:List AV}(hu:Cx g w us n){r:Bool}(h:G1 T gs n n=some r){em:Bool}{m:Nat} :
  (Instr.checkKey em (m+3) kt (.agg us)).run P w = .ok () w:=by
 obtain ⟨fs,hfu,hm,hs,hg,_⟩:=Hv (hT kt tk ht) hk
 have key:=Jh hT hu (em:=em) (m:=m) fs.toList r (by rw [hm];exact h)
 unfold Instr.checkKey
 simp only [Sem.run_bind,Ba hfu,Result.andThen_ok]
 rw [←Array.forIn_toList]
 simp at key ⊢
 first | (rw [key];rfl) | (erw [key];rfl)
theorem Fc {kt:TypeId}{tk:TD}{gs:List (Nat×Nat×Bool×Nat)}(hT:Hb P T)(ht:Bv T kt=some tk)(hk:tk.kind = .struct gs){w:World}{us:Array Value}(l:List MapEntry):(Instr.findKey kt (.agg us) l).run P w=(Instr.findAsking kt (.agg us) l).run P w:=by
 obtain ⟨fs,hfu,hm,hs,hg,_⟩:=Hv (hT kt tk ht) hk
 unfold Instr.findKey
 rw [Sem.run_bind,Ba hfu]
 cases l with
 | nil=>simp [Instr.findNow,Instr.findAsking]
 | cons e l=>simp [Instr.findNow,Instr.sameNow]

theorem Ni {t:TypeId}{H:List HO}:Km P ⟨d,.makeMap t none,ty,pos,aft,gd⟩ ρ H (fun x H'=>∃b,x = .val (.map (some b))∧H' = .kmap b []::H):=by
 intro g w a next Q hr hH hn
 unfold Oper.wp
 simp only [execOp,Instr.makeMap,Option.map_none,Sem.run_bind,Sem.run_pure,run_newObj,Result.andThen_ok]
 have hx:=Ext.alloc g w (.map #[] 0) (some 0)
 refine hn (g.put w.heap.size (some 0)) _ _ _ _ ⟨w.heap.size,rfl,rfl⟩ (.val _) ((hH.alloc _ (some 0)).cons ⟨Gh.Aap _ _ _,#[],0,Da w _,rfl,⟨rfl,by simp⟩,by simp,by simp⟩ ?_) hx
 intro b hb x hx' hb'
 simp only [HO.blk,Option.some.injEq] at hb
 have:=(HO.ok_lt (hH.ok x hx') hb').1
 omega

theorem I7 {t:TypeId}{m k:Operand}{kt et b i:Nat}{td tk te:TD}{gs:List (Nat×Nat×Bool×Nat)}{n:List AV}{es:List (List AV×AV)}{eq:List AV→Bool}{r:Bool}{x:AV}(hT:Hb P T)(ht:Bv T t=some td)(hk:td.kind = .map kt et)(htk:Bv T kt=some tk)(hkk:tk.kind = .struct gs)
    (hte:Bv T et=some te) (hzs:P4 P et=true) (hm:ρ m = .val (.map (some b))) (hkey:ρ k = .agg n) (hnn:G1 T gs n n=some r) (heq:∀p∈es,G1 T gs n p.1=some (eq p.1)) (hx:match G4 eq es with | some y=>y=x | none=>te.zero = [x]) :
    Dn P ⟨d,.lookup t m k false,ty,pos,aft,gd⟩ ρ (fun H=>H[i]? = some (.kmap b es)) x:=by
  intro g w a H next Q hr hHK hH hn
  have h1:=(hm▸hr m (by simp [Op.operands]):Rep g w _ _).inv_val
  obtain ⟨us,h2,hus⟩:=(hkey▸hr k (by simp [Op.operands]):Rep g w _ _).inv_agg
  obtain ⟨hg,ms,clock,hheap,hl,⟨hclk,hbn⟩,hks,hvs⟩:=hHK.ok _ (List.mem_of_getElem? hH)
  have hu:=Il (hT t td ht) hk
  have hget:(getObj b).run P w = .ok (.map ms clock) w:=by simp [getObj,Sem.run,hheap]
  have hck:=G0 hT htk hkk hus hnn (em:=ms.isEmpty) (m:=9997)
  have hf:=Iw hT htk hkk hus (eq:=eq) ms.toList es 0 (by simpa using hl) (fun j k x hj=>by simpa using hks j k x hj) heq
  rw [←Fc hT htk hkk] at hf
  unfold Oper.wp
  cases hs:Lm eq es with
  | some j=>
    obtain ⟨k',y,hj,hg2⟩:=Vb hs
    rw [hg2] at hx
    simp only at hx;subst hx
    rw [hs] at hf
    have hrep:Rep g w (ms.toList.getD j default).val y:=by simpa using hvs j k' y hj
    simp only [Option.map_some] at hf
    simp only [execOp,Instr.lookup,Sem.run_bind,Ba hu,Result.andThen_ok,h1,hget,Sem.run_pure,h2,hck,hf,Bool.false_eq_true,if_false]
    exact hn g w _ hrep hHK (Ext.refl g w)
  | none=>
    rw [Pw.1 hs] at hx
    simp only at hx
    rw [hs] at hf
    simp only [Option.map_none] at hf
    obtain ⟨z,hz1,hz2,hz3⟩:=Mp (hT et te hte) w
    simp only [execOp,Instr.lookup,Sem.run_bind,Ba hu,Result.andThen_ok,h1,hget,Sem.run_pure,h2,hck,hf,hz1,Bool.false_eq_true,if_false]
    refine hn g w z ?_ hHK (Ext.refl g w)
    have hz4:=hz3 g w
    rw [hx] at hz4
    have hna:∀vs,z≠.agg vs:=by
      rintro vs rfl
      obtain ⟨it,hit,_,_,zv,hzv,_⟩:=(hT et te hte).info
      have hzz:(zeroValue et).run P w = .ok zv w:=by simp [zeroValue,G7 hit,hzv]
      rw [hzz] at hz1
      cases hz1
      simp [P4,hit,hzv] at hzs
    have hcell:z.cells = #[z]:=by cases z <;> first | rfl | exact absurd rfl (hna _)
    rw [hcell] at hz4
    exact hz4.2 0 x rfl

theorem T2 {ms:Array MapEntry}{clock:Nat}{e:MapEntry}(h:∀i,i<ms.size→(ms.getD i default).born=i)(hc:clock=ms.size)(he:e.born=clock:=by rfl):∀i,i<(ms.push e).size→((ms.push e).getD i default).born=i:=by
 intro i hi
 simp only [Array.size_push] at hi
 by_cases h1:i=ms.size
 · subst h1;simp [Array.getD_eq_getD_getElem?,he,hc]
 ·
  have:=h i (by omega)
  simpa [Array.getD_eq_getD_getElem?,Array.getElem?_push,h1] using this
theorem S8 {t:TypeId}{m k v:Operand}{kt et b i:Nat}{td tk:TD}{gs:List (Nat×Nat×Bool×Nat)}{n:List AV}{es:List (List AV×AV)}{eq:List AV→Bool}{r:Bool}{x:AV}{H H2:List HO}(hT:Hb P T)(ht:Bv T t=some td)(hk:td.kind = .map kt et)(htk:Bv T kt=some tk)(hkk:tk.kind = .struct gs)
  (hm:ρ m = .val (.map (some b))) (hkey:ρ k = .agg n) (hv:ρ v=x) (hnn:G1 T gs n n=some r) (heq:∀p∈es,G1 T gs n p.1=some (eq p.1)) (hH:H[i]? = some (.kmap b es)) (hnew:G4 eq es=none) (hH2:H.set i (.kmap b (es ++ [(n,x)]))=H2) :
  Km P ⟨d,.mapUpdate t m k v,ty,pos,aft,gd⟩ ρ H (fun y H'=>y = .junk∧H'=H2):=by
 subst hH2
 intro g w a next Q hr hHK hn
 have h1:=(hm▸hr m (by simp [Op.operands]):Rep g w _ _).inv_val
 obtain ⟨us,h2,hus⟩:=(hkey▸hr k (by simp [Op.operands]):Rep g w _ _).inv_agg
 have h3:Rep g w (a.eval v) x:=hv▸hr v (by simp [Op.operands])
 obtain ⟨hg,ms,clock,hheap,hl,⟨hclk,hbn⟩,hks,hvs⟩:=hHK.ok _ (List.mem_of_getElem? hH)
 have hb:b<w.heap.size:=(Array.getElem?_eq_some_iff.1 hheap).1
 have hu:=Il (hT t td ht) hk
 have hget:(getObj b).run P w = .ok (.map ms clock) w:=by simp [getObj,Sem.run,hheap]
 have hset:∀o:Obj,(setObj b o).run P w = .ok () { w with heap:=w.heap.setIfInBounds b o }:=fun o=>by simp [setObj,Sem.run,hheap]
 have hck:=G0 hT htk hkk hus hnn (em:=false) (m:=9997)
 have hf:=Iw hT htk hkk hus (eq:=eq) ms.toList es 0 (by simpa using hl) (fun j k x hj=>by simpa using hks j k x hj) heq
 rw [←Fc hT htk hkk,Pw.2 hnew] at hf
 simp only [Option.map_none] at hf
 have hrun:(Instr.mapUpdate t (a.eval m) (a.eval k) (a.eval v)).run P w = .ok () { w with heap:=w.heap.setIfInBounds b (.map (ms.push { key:=.agg us,val:=a.eval v,born:=clock }) (clock+1)) }:=by
  unfold Instr.mapUpdate
  rw [Sem.run_bind,Ba hu]
  simp only [Result.andThen_ok,h1,Sem.run_bind,hget,h2,hck,hf,hset]
 unfold Oper.wp
 simp only [execOp,Sem.run_bind,hrun,Result.andThen_ok,Sem.run_pure]
 have hnew':({ w with heap:=w.heap.setIfInBounds b (.map (ms.push { key:=.agg us,val:=a.eval v,born:=clock }) (clock+1)) }:World).heap[b]? = some (.map (ms.push { key:=.agg us,val:=a.eval v,born:=clock }) (clock+1)):=by
  simp [hb]
 have hoth:∀c,c≠b→({ w with heap:=w.heap.setIfInBounds b (.map (ms.push { key:=.agg us,val:=a.eval v,born:=clock }) (clock+1)) }:World).heap[c]? = w.heap[c]? :=fun c hc=>by
  simp [Array.getElem?_setIfInBounds_ne (Ne.symm hc)]
 have hx:Ext g w g { w with heap:=w.heap.setIfInBounds b (.map (ms.push { key:=.agg us,val:=a.eval v,born:=clock }) (clock+1)) }:=by
  refine ⟨rfl,rfl,rfl,by simp,fun c hc hgc=>⟨hgc,hoth c fun e=>by rw [e,hg] at hgc;cases hgc⟩,fun c m' hc hgc=>⟨fun m'' hm''=>by rw [hgc] at hm'';cases hm'';exact Nat.le_refl _,fun o ho=>?_⟩⟩
  have hne:c≠b:=fun e=>by rw [e,hg] at hgc;cases hgc;omega
  unfold World.cell?
  rw [hoth c hne]
 refine hn g _ undef .junk _ ⟨rfl,rfl⟩ (.junk _) (hHK.set hx hH (fun c hc=>.inl hc) ⟨hg,_,_,hnew',by simp [hl],⟨by simp [hclk],T2 hbn hclk⟩,?_,?_⟩ (fun c hc hne _=>⟨rfl,hoth c fun e=>hne (by rw [e];rfl)⟩)) hx
 ·
  intro j m' y hj
  rw [List.getElem?_append] at hj
  split at hj
  ·
   rename_i hlt
   obtain ⟨vs,k1,k2⟩:=hks j m' y hj
   have hlt':j<ms.size:=by omega
   exact ⟨vs,by simpa [Array.getD_eq_getD_getElem?,Array.getElem?_push,show j≠ms.size by omega] using k1,k2.mono hx⟩
  ·
   rename_i hlt
   have:j-es.length=0:=by
    rcases Nat.eq_zero_or_pos (j-es.length) with h | h
    · exact h
    · rw [List.getElem?_eq_none (by simp;omega)] at hj;cases hj
   rw [this] at hj;simp at hj
   have hj':j=ms.size:=by omega
   subst hj'
   exact ⟨us,by simp [Array.getD_eq_getD_getElem?],by rw [←hj.1];exact hus.mono hx⟩
 ·
  intro j m' y hj
  rw [List.getElem?_append] at hj
  split at hj
  ·
   rename_i hlt
   have:=(hvs j m' y hj).mono hx
   have hlt':j<ms.size:=by omega
   simpa [Array.getD_eq_getD_getElem?,Array.getElem?_push,show j≠ms.size by omega] using this
  ·
   rename_i hlt
   have:j-es.length=0:=by
    rcases Nat.eq_zero_or_pos (j-es.length) with h | h
    · exact h
    · rw [List.getElem?_eq_none (by simp;omega)] at hj;cases hj
   rw [this] at hj;simp at hj
   have hj':j=ms.size:=by omega
   subst hj'
   simp only [Array.getD_eq_getD_getElem?,Array.getElem?_push,if_true,Option.getD_some]
   rw [←hj.2];exact h3.mono hx

def zaggB (P:Program)(t:TypeId):Bool:=
 match P.info? t with
 | some i=>match i.zero with | some (.agg _)=>true | _=>false
 | none=>false
theorem tO {t:TypeId}{m k:Operand}{kt et b i:Nat}{td tk te:TD}{gs:List (Nat×Nat×Bool×Nat)}{n:List AV}{es:List (List AV×AV)}{eq:List AV→Bool}{r:Bool}{x:AV}{ok:Bool}(hT:Hb P T)(ht:Bv T t=some td)(hk:td.kind = .map kt et)(htk:Bv T kt=some tk)(hkk:tk.kind = .struct gs)
    (hte:Bv T et=some te) (hzs:zaggB P et=true) (hm:ρ m = .val (.map (some b))) (hkey:ρ k = .agg n) (hnn:G1 T gs n n=some r) (heq:∀p∈es,G1 T gs n p.1=some (eq p.1)) (hx:(G4 eq es).getD (.agg te.zero)=x) (hok:(G4 eq es).isSome=ok) :
    Dn P ⟨d,.lookup t m k true,ty,pos,aft,gd⟩ ρ (fun H=>H[i]? = some (.kmap b es)) (.tuple [x,.bool ok]):=by
  subst hx hok
  intro g w a H next Q hr hHK hH hn
  have h1:=(hm▸hr m (by simp [Op.operands]):Rep g w _ _).inv_val
  obtain ⟨us,h2,hus⟩:=(hkey▸hr k (by simp [Op.operands]):Rep g w _ _).inv_agg
  obtain ⟨hg,ms,clock,hheap,hl,⟨hclk,hbn⟩,hks,hvs⟩:=hHK.ok _ (List.mem_of_getElem? hH)
  have hu:=Il (hT t td ht) hk
  have hget:(getObj b).run P w = .ok (.map ms clock) w:=by simp [getObj,Sem.run,hheap]
  have hck:=G0 hT htk hkk hus hnn (em:=ms.isEmpty) (m:=9997)
  have hf:=Iw hT htk hkk hus (eq:=eq) ms.toList es 0 (by simpa using hl) (fun j k x hj=>by simpa using hks j k x hj) heq
  rw [←Fc hT htk hkk] at hf
  have tup:∀(v:Value) (y:AV) (o:Bool),Rep g w v y→Rep g w (.tuple #[v,.bool o]) (.tuple [y,.bool o]):=fun v y o hv=>.tuple _ _ rfl fun j z hj=>by
    match j,hj with
    | 0,hj=>cases hj;exact hv
    | 1,hj=>cases hj;exact .bool _
    | j+2,hj=>cases hj
  unfold Oper.wp
  cases hs:Lm eq es with
  | some j=>
    obtain ⟨k',y,hj,hg2⟩:=Vb hs
    rw [hs] at hf
    have hrep:Rep g w (ms.toList.getD j default).val y:=by simpa using hvs j k' y hj
    simp only [Option.map_some] at hf
    simp only [execOp,Instr.lookup,Sem.run_bind,Ba hu,Result.andThen_ok,h1,hget,Sem.run_pure,h2,hck,hf,if_true]
    refine hn g w _ ?_ hHK (Ext.refl g w)
    rw [hg2]
    exact tup _ _ _ hrep
  | none=>
    rw [hs] at hf
    simp only [Option.map_none] at hf
    obtain ⟨z,hz1,hz2,hz3⟩:=Mp (hT et te hte) w
    simp only [execOp,Instr.lookup,Sem.run_bind,Ba hu,Result.andThen_ok,h1,hget,Sem.run_pure,h2,hck,hf,hz1,if_true]
    refine hn g w _ ?_ hHK (Ext.refl g w)
    rw [Pw.1 hs]
    have hz4:=hz3 g w
    obtain ⟨it,hit,_,_,zv,hzv,_⟩:=(hT et te hte).info
    have hzz:(zeroValue et).run P w = .ok zv w:=by simp [zeroValue,G7 hit,hzv]
    rw [hzz] at hz1
    cases hz1
    unfold zaggB at hzs
    rw [hit] at hzs
    simp only [hzv] at hzs
    cases z with
    | agg vs=>exact tup _ _ _ (.agg _ _ hz4.1 hz4.2)
    | _=>cases hzs
end
end Go.Aw
namespace Go.Aw

section
variable {P:Program} {T:List (Nat×TD)} {d:Option Nat} {ty:TypeId} {pos:String} {aft:Array Edge} {gd:Option (Nat×Bool)} {ρ:Operand→AV}

theorem O5 {x y:Operand}{t e k z:Nat}{td te:TD}{v:Value}{es:List (List AV)}{c:List AV}{H:List HO}(hT:Hb P T)(hx:ρ x = .val v)(hy:ρ y = .sl z [c])(ht:Bv T t=some td)(hk:td.kind = .slice e)
  (hte:Bv T e=some te) (hz:te.size=z) (hp:Nat.blt 0 z=true) (hH:H[k]? = some (.buf v es e z)) (hs:Be c=true) (hb:(es.length+1)*te.bytes≤140737488355328) (hm:es.length+1≤maxLen) :
  Km P ⟨d,.call ⟨.builtin .append,#[x,y],#[t,t]⟩,ty,pos,aft,gd⟩ ρ H (fun r H'=>∃v',r = .val v'∧H'=H.set k (.buf v' (es ++ [c]) e z)):=by
 intro g w a next Q hr hHK hn
 have hpos:0<z:=by simpa using hp
 have e1:=(hx▸hr x (by simp [Op.operands,Call.operands]):Rep g w _ _).inv_val
 have r2:=(hy▸hr y (by simp [Op.operands,Call.operands]):Rep g w _ _)
 have hu:=D3 (hT t td ht) hk
 obtain ⟨it,hit,his,hib,zv,hzv,hzs,_⟩:=(hT e te hte).info
 have hok:=hHK.ok _ (List.mem_of_getElem? hH)
 obtain ⟨a2,m,c2,h21,h22,h23,h24,_⟩:=r2.inv_sl
 have hm1:m=1:=h22
 subst hm1
 have fin:∀v' g' w',(Builtin.append_ #[t,t] ty #[a.eval x,a.eval y]).run P w = .ok v' w'→HOK g' w' (H.set k (.buf v' (es ++ [c]) e z))→Ext g w g' w'→Oper.wp P ⟨d,.call ⟨.builtin .append,#[x,y],#[t,t]⟩,ty,pos,aft,gd⟩ a w next Q:=by
  intro v' g' w' hrun hok' hext
  unfold Oper.wp
  rw [Ih (v:=v') (w':=w') (by
   have:(#[x,y]:Array Operand).map a.eval = #[a.eval x,a.eval y]:=by simp
   rw [this]
   simp only [builtin,Sem.run_bind,hrun,Result.andThen_ok,Sem.run_pure])]
  exact hn g' w' v' _ _ ⟨v',rfl,rfl⟩ (.val _) hok' hext
 rw [h21] at r2
 obtain ⟨_,hz2,b2,o2,hb2,news,n1,n2,n3,n4⟩:=Kh r2 hpos (by simpa using hs) (by simp)
 subst hb2
 have hnews:∀j u,news[j]? = some u→w.cell? ((⟨b2,o2,none⟩:Addr).add j)=some u:=fun j u hj=>by rw [Hh];exact (n4 j u hj).2
 have hsz:it.size=z:=by rw [his,hz]
 have hnl:news.length=1*it.size:=by rw [n1,hsz]
 have hnz:news.length=z:=by rw [n1,Nat.one_mul]
 have hmax:maxLen=9223372036854775807:=rfl
 have hcz:c.length=z:=hz2 c (by simp)
 have hlen:(es ++ [c]).length=es.length+1:=by simp
 rcases hok with ⟨rfl,h0⟩ | ⟨b,cap,cur,rfl,hg,hcur,hcsz,hcap,hcmax,hz1,hrep⟩
 ·
  subst h0
  simp only [List.nil_append,List.length_nil,Nat.zero_add] at hb hm fin ⊢
  have hbb:1*it.bytes≤281474976710656:=by rw [hib];omega
  have hrun:=run_append_nil (P:=P) w t ty e it zv hu hit hzv ⟨b2,o2,none⟩ 1 c2 news hnl hnews (by omega) (by omega) hbb
  have hext:Ext g w (g.put w.heap.size (some 0)) (w.drew.alloc (.cells (news.toArray++Builtin.zeroCells zv.cells (grownCap w 1 0 e-1)) e)):=(Ext.drew g w).trans (Ext.alloc g w.drew _ _)
  have hcapm:1≤grownCap w 1 0 e:=grownCap_ge w 1 0 e
  have hcapM:=grownCap_le_maxLen w 1 0 e (by omega)
  refine fin _ (g.put w.heap.size (some 0)) _ (by rw [e1,h21];exact hrun) ?_ hext
  refine hHK.set hext hH (fun b hb=>?_) (.inr ⟨w.heap.size,grownCap w 1 0 e,_,rfl,Gh.Aap _ _ _,Da w.drew _,?_,hcapm,hcapM,by simpa using hcz,fun i x hi=>?_⟩) (fun c hc _ _=>?_)
  · simp only [HO.blk,Option.some.injEq] at hb;exact .inr (by omega)
  ·
   simp only [Array.size_append,List.size_toArray,n1,size_zeroCells,hzs,hz,Nat.sub_mul]
   have:=Nat.mul_le_mul_right z hcapm
   omega
  ·
   have h3:=(n2.mono hext).2 i x hi
   have hlt:i<news.length:=by
    have:=(List.getElem?_eq_some_iff.1 hi).1
    simp only [List.flatten_cons,List.flatten_nil,List.append_nil] at this
    omega
   have e2:(news.toArray++Builtin.zeroCells zv.cells (grownCap w 1 0 e-1)).getD i undef=news.toArray.getD i undef:=by
    rw [Array.getD_eq_getD_getElem?,Array.getD_eq_getD_getElem?,Array.getElem?_append_left (by simpa using hlt)]
   rw [e2];exact h3
  · exact ⟨Gh.Aau _ _ (by omega),Hy w.drew _ hc⟩
 ·
  have hfl:es.flatten.length=es.length*z:=by rw [Cz hz1]
  have hle:es.length*z≤cur.size:=by rw [hcsz];exact Nat.mul_le_mul_right z hcap
  have hzall:∀x∈es ++ [c],x.length=z:=fun x hx=>by
   rcases List.mem_append.1 hx with h | h
   · exact hz1 x h
   · exact hz2 x h
  have rl1:Cx g w (cur.toList.take (es.length*z)).toArray es.flatten:=by
   refine ⟨by simp [hfl];omega,fun i x hi=>?_⟩
   have hlt:=(List.getElem?_eq_some_iff.1 hi).1
   have h3:=hrep i x hi
   have e2:(cur.toList.take (es.length*z)).toArray.getD i undef=cur.getD i undef:=by
    simp only [Array.getD_eq_getD_getElem?,List.getElem?_toArray,List.getElem?_take,Array.getElem?_toList]
    rw [if_pos (by omega)]
   rw [e2];exact h3
  have hrl:Cx g w ((cur.toList.take (es.length*z)).toArray++news.toArray) (es ++ [c]).flatten:=by
   rw [List.flatten_append];exact rl1.append n2
  have htk:(cur.toList.take (es.length*z)).length=es.length*z:=by simp;omega
  have hfl2:(es ++ [c]).flatten.length=es.length*z+z:=by rw [Cz hzall,hlen,Nat.add_mul,Nat.one_mul]
  by_cases hroom:es.length+1≤cap
  ·
   have hfit:es.length*it.size+news.length≤cur.size:=by
    rw [hsz,n1,hcsz,←Nat.add_mul];exact Nat.mul_le_mul_right z hroom
   have hrun:=run_append_room (P:=P) w t ty e it hu hit b es.length cap cur hcur ⟨b2,o2,none⟩ 1 c2 news hnl hnews n3 hroom hfit
   rw [hsz] at hrun hfit
   have hnew:=setRow_heap w b cur (cur.toList.take (es.length*z)++news++cur.toList.drop (es.length*z+news.length)).toArray e (0,0) hcur
   have hext:Ext g w g (w.setRow b (cur.toList.take (es.length*z)++news++cur.toList.drop (es.length*z+news.length)).toArray):=Ext.setRow hg
   refine fin _ g _ (by rw [e1,h21];exact hrun) ?_ hext
   refine hHK.set hext hH (fun b' hb'=>.inl hb') (.inr ⟨b,cap,_,by rw [hlen],hg,hnew,?_,by rw [hlen];exact hroom,hcmax,hzall,fun i x hi=>?_⟩) (fun c hc hne _=>?_)
   · simp only [List.size_toArray,List.length_append,List.length_take,List.length_drop,Array.length_toList];omega
   ·
    have h3:=(hrl.mono hext).2 i x hi
    have hlt:=(List.getElem?_eq_some_iff.1 hi).1
    have e2:(cur.toList.take (es.length*z)++news++cur.toList.drop (es.length*z+news.length)).toArray.getD i undef=((cur.toList.take (es.length*z)).toArray++news.toArray).getD i undef:=by
     have e3:(cur.toList.take (es.length*z)++news++cur.toList.drop (es.length*z+news.length)).toArray=((cur.toList.take (es.length*z)).toArray++news.toArray)++(cur.toList.drop (es.length*z+news.length)).toArray:=by
      apply Array.toList_inj.1;simp
     rw [e3,Array.getD_eq_getD_getElem?,Array.getD_eq_getD_getElem?,Array.getElem?_append_left (by simp only [Array.size_append,List.size_toArray];omega)]
    rw [e2];exact h3
   · exact ⟨rfl,setRow_other w b c _ (fun h=>hne (by rw [h];rfl))⟩
  ·
   have hg':cap<es.length+1:=by omega
   have hfit:Builtin.nextslicecap (es.length+1) cap*it.bytes≤281474976710656:=growslice_fits hg' (by rw [hib];exact hb)
   have hol:(cur.toList.take (es.length*z)).length=es.length*it.size:=by rw [htk,hsz]
   have holds:∀j u,(cur.toList.take (es.length*z))[j]? = some u→w.cell? ((⟨b,0,none⟩:Addr).add j)=some u:=fun j u hj=>by
    rw [Hh,Nat.zero_add,Cd hcur]
    rw [List.getElem?_take] at hj
    split at hj
    · simpa using hj
    · cases hj
   have hrun:=run_append_grow (P:=P) w t ty e it zv hu hit hzv ⟨b,0,none⟩ es.length cap (cur.toList.take (es.length*z)) hol holds ⟨b2,o2,none⟩ 1 c2 news hnl hnews hg' (by omega) hfit
   have hext:Ext g w (g.put w.heap.size (some 0)) (w.drew.alloc (.cells ((cur.toList.take (es.length*z)).toArray++news.toArray++Builtin.zeroCells zv.cells (grownCap w (es.length+1) cap e-(es.length+1))) e)):=(Ext.drew g w).trans (Ext.alloc g w.drew _ _)
   have hcapm:=grownCap_ge w (es.length+1) cap e
   have hcapM:=grownCap_le_maxLen w (es.length+1) cap e (by omega)
   refine fin _ (g.put w.heap.size (some 0)) _ (by rw [e1,h21];exact hrun) ?_ hext
   refine hHK.set hext hH (fun b' hb'=>?_) (.inr ⟨w.heap.size,grownCap w (es.length+1) cap e,_,by rw [hlen],Gh.Aap _ _ _,Da w.drew _,?_,by rw [hlen];exact hcapm,hcapM,hzall,fun i x hi=>?_⟩) (fun c hc _ _=>?_)
   · simp only [HO.blk,Option.some.injEq] at hb';exact .inr (by omega)
   ·
    simp only [Array.size_append,List.size_toArray,n1,size_zeroCells,hzs,hz,Nat.sub_mul,hol,hsz]
    have:=Nat.mul_le_mul_right z hcapm
    rw [Nat.add_mul] at this
    rw [Nat.add_mul]
    omega
   ·
    have h3:=(hrl.mono hext).2 i x hi
    have hlt:=(List.getElem?_eq_some_iff.1 hi).1
    have e2:((cur.toList.take (es.length*z)).toArray++news.toArray++Builtin.zeroCells zv.cells (grownCap w (es.length+1) cap e-(es.length+1))).getD i undef=((cur.toList.take (es.length*z)).toArray++news.toArray).getD i undef:=by
     rw [Array.getD_eq_getD_getElem?,Array.getD_eq_getD_getElem?,Array.getElem?_append_left (by simp only [Array.size_append,List.size_toArray];omega)]
    rw [e2];exact h3
   · exact ⟨Gh.Aau _ _ (by omega),Hy w.drew _ hc⟩

theorem GS.buf {sl:List (Nat×AV)}{H:List HO}{n:Nat}(E z:Nat):GS ⟨sl,H,n⟩ ⟨sl,.buf (.slice none 0 0) [] E z::H,n⟩:=fun g a w hG=>
 ⟨g,⟨hG.size,hG.defers,hG.sl,hG.heap.cons (.inl ⟨rfl,rfl⟩) (fun b hb=>by simp [HO.blk] at hb)⟩,Ext.refl g w⟩

theorem GS.freezeBuf {sl:List (Nat×AV)}{H:List HO}{n t:Nat}{v:Value}{es:List (List AV)}{E z:Nat}(k:Nat)(h:get sl t = .val v)(hk:H[k]? = some (.buf v es E z)):GS ⟨sl,H,n⟩ ⟨(t,.sl z es)::sl,H.eraseIdx k,n⟩:=fun g a w hG=>by
 have hok:=hG.heap.ok _ (List.mem_of_getElem? hk)
 have hv:=(h▸hG.sl t:Rep g w _ _).inv_val
 rcases hok with ⟨rfl,rfl⟩ | ⟨b,cap,cur,rfl,hg,hcur,hcsz,hcap,hcmax,hz1,hrep⟩
 ·
  refine ⟨g,⟨hG.size,hG.defers,fun i=>?_,hG.heap.sub (List.eraseIdx_sublist ..)⟩,Ext.refl g w⟩
  show Rep _ w _ (get ((t,AV.sl z [])::sl) i)
  rw [Fg]
  split
  · rename_i e;subst e;rw [hv];exact .sl0 _ _ _ (Nat.zero_le _)
  · exact hG.sl i
 ·
  have hx:Ext g w (g.put b none) w:=by
   refine ⟨rfl,rfl,rfl,Nat.le_refl _,fun c hc hgc=>⟨?_,rfl⟩,fun c m hc hgc=>⟨fun m' hm=>?_,fun _ _=>rfl⟩⟩
   ·
    by_cases e:c=b
    · subst e;exact Gh.Aap _ _ _
    · rw [Gh.Aau _ _ e];exact hgc
   ·
    by_cases e:c=b
    · subst e;rw [Gh.Aap] at hm;cases hm
    · rw [Gh.Aau _ _ e,hgc] at hm;cases hm;exact Nat.le_refl _
  refine ⟨g.put b none,⟨hG.size,hG.defers,fun i=>?_,?_⟩,hx⟩
  ·
   show Rep _ w _ (get ((t,AV.sl z es)::sl) i)
   rw [Fg]
   by_cases e:t=i
   ·
    subst e
    simp only [if_true]
    rw [hv]
    refine .sl b 0 es.length cap z es rfl hcap hcmax hz1 (fun i j=>cur.getD (i*z+j) undef) (fun i e hi j y hj=>⟨by unfold Er;rw [Gh.Aap];trivial,?_⟩) (fun i e hi j y hj=>?_)
    ·
     have h3:=E6 hz1 hi hj
     have hlt:i*z+j<cur.size:=by
      have h4:=(List.getElem?_eq_some_iff.1 h3).1
      rw [Cz hz1] at h4
      have:=Nat.mul_le_mul_right z hcap
      omega
     rw [Nat.zero_add,Cd hcur];simp [hlt]
    · exact (hrep _ _ (E6 hz1 hi hj)).mono hx
   · simp only [e,if_false];exact (hG.sl i).mono hx
  ·
   have hsub:(H.eraseIdx k).Sublist H:=List.eraseIdx_sublist ..
   refine ⟨(hG.heap.sub hsub).nodup,fun o ho=>?_,hG.heap.glob.mono hx⟩
   obtain ⟨j,hj⟩:=List.getElem?_of_mem ho
   rw [List.getElem?_eraseIdx] at hj
   obtain ⟨j',hjk,hj'⟩:∃j',j'≠k∧H[j']? = some o:=by
    split at hj
    · exact ⟨j,by omega,hj⟩
    · exact ⟨j+1,by omega,hj⟩
   have hok:=hG.heap.ok o (List.mem_of_getElem? hj')
   refine HO.ok_of_same hx hok fun c hc=>⟨Gh.Aau _ _ fun e=>hjk (hG.heap.nodup_blk hj' hk (e▸hc) rfl),rfl⟩

end
end Go.Aw
namespace Go.Aw

def Md:List AV→Bool
 | []=>true
 | .bool _::r=>Md r
 | .int _ _::r=>Md r
 | .str _::r=>Md r
 | _::_=>false
theorem wK {g:Gh}{w:World}{u v:Value}{x:AV}(h:Md [x]=true)(hu:Rep g w u x)(hv:Rep g w v x):u=v∧∀n,Instr.sameBits n u u=true:=by
  cases x with
  | bool b=>rw [hu.inv_bool,hv.inv_bool];exact ⟨rfl,fun n=>by cases n <;> simp [Instr.sameBits]⟩
  | int k m=>rw [hu.inv_int,hv.inv_int];exact ⟨rfl,fun n=>by cases n <;> simp [Instr.sameBits]⟩
  | str s=>
    rw [hu.inv_str.1,hv.inv_str.1]
    have e:((⟨s.toArray⟩:ByteArray)==⟨s.toArray⟩)=true:=by first | exact beq_self_eq_true _ | (show (s.toArray==s.toArray)=true;simp) | decide
    exact ⟨rfl,fun n=>by cases n <;> exact e⟩
  | _=>simp [Md] at h
theorem eM:∀{l:List AV} {i:Nat} {x:AV},Md l=true→l[i]? = some x→Md [x]=true
  | [],_,_,_,h=>by simp at h
  | a::r,0,x,h,hx=>by
    simp only [List.getElem?_cons_zero,Option.some.injEq] at hx;subst hx
    cases a <;> simp_all [Md]
  | a::r,i+1,x,h,hx=>by
    have:Md r=true:=by cases a <;> simp_all [Md]
    exact eM this (by simpa using hx)
theorem gJ {g:Gh}{w:World}{us vs:Array Value}{n:List AV}(h:Md n=true)(hu:Cx g w us n)(hv:Cx g w vs n):us=vs∧Instr.sameBits 10000 (.agg us) (.agg us)=true:=by
 have key:∀i,i<us.size→us[i]? = vs[i]?∧∀m,Instr.sameBits m (us.getD i undef) (us.getD i undef)=true:=fun i hi=>by
  have hx:n[i]? = some n[i]! :=by
   rw [getElem!_pos n i (by rw [←hu.1];exact hi)];exact List.getElem?_eq_getElem _
  have h1:=wK (eM h hx) (hu.2 i _ hx) (hv.2 i _ hx)
  refine ⟨?_,h1.2⟩
  have h2:=h1.1
  have hi2:i<vs.size:=by rw [hv.1,←hu.1];exact hi
  simpa [Array.getD_eq_getD_getElem?,hi,hi2] using h2
 refine ⟨Array.ext_getElem? fun i=>?_,?_⟩
 ·
  by_cases hi:i<us.size
  · exact (key i hi).1
  ·
   have h2:us.size≤i:=by omega
   have h3:vs.size≤i:=by rw [hv.1,←hu.1];exact h2
   rw [Array.getElem?_eq_none h2,Array.getElem?_eq_none h3]
 ·
  simp only [Instr.sameBits,beq_self_eq_true,Bool.true_and,List.all_eq_true]
  intro p hp
  obtain ⟨i,hi⟩:=List.getElem?_of_mem hp
  rw [List.getElem?_zip_eq_some] at hi
  have h1:=hi.1
  have h2:=hi.2
  rw [h1] at h2
  have h3:p.1=p.2:=Option.some.inj h2
  have hlt:i<us.size:=by simpa using (List.getElem?_eq_some_iff.1 h1).1
  have h4:=(key i hlt).2 9999
  have h5:us.getD i undef=p.1:=by
   rw [Array.getD_eq_getD_getElem?,←Array.getElem?_toList,h1];rfl
  rw [h5] at h4
  obtain ⟨a,b⟩:=p
  simp only at h3 h4 ⊢
  rw [←h3];exact h4

def N9 (es:List (List AV×AV))(j:Nat)(x:AV):List (List AV×AV):=es.modify j fun p=>(p.1,x)
theorem gG (es:List (List AV×AV))(j:Nat)(x:AV):(N9 es j x).length=es.length:=by simp [N9]
theorem mO {eq:List AV→Bool}:∀{es:List (List AV×AV)} {j:Nat},Lm eq es=some j→∃k x,es[j]? = some (k,x)∧eq k=true
  | [],j,h=>by cases h
  | (k,x)::r,j,h=>by
    rw [Lm] at h
    split at h
    · rename_i h1;cases h;exact ⟨k,x,rfl,h1⟩
    · cases hq:Lm eq r with
      | none=>rw [hq] at h;cases h
      | some i=>
        rw [hq] at h;cases h
        obtain ⟨k',x',h2,h3⟩:=mO hq
        exact ⟨k',x',h2,h3⟩

section
variable {P:Program} {T:List (Nat×TD)} {d:Option Nat} {ty:TypeId} {pos:String} {aft:Array Edge} {gd:Option (Nat×Bool)} {ρ:Operand→AV}

theorem Ol {g g':Gh}{w w':World}{ms:Array MapEntry}{es:List (List AV×AV)}{j:Nat}{x:AV}{u:Value}{us:Array Value}{n:List AV}(hx:Ext g w g' w')(hl:ms.size=es.length)
  (hbn:∀i,i<ms.size→(ms.getD i default).born=i)
  (hks:∀i k x,es[i]? = some (k,x)→∃us,(ms.getD i default).key = .agg us∧Cx g w us k) (hvs:∀i k x,es[i]? = some (k,x)→Rep g w (ms.getD i default).val x) {k0:List AV} {y:AV} (hj:es[j]? = some (k0,y)) (hn:n=k0) (hu:Cx g w us n) (hv:Rep g' w' u x) :
  (ms.modify j fun e=>{ e with key:=.agg us,val:=u }).size=(N9 es j x).length∧(∀i,i<(ms.modify j fun e=>{ e with key:=.agg us,val:=u }).size→((ms.modify j fun e=>{ e with key:=.agg us,val:=u }).getD i default).born=i)∧
  (∀i k z,(N9 es j x)[i]? = some (k,z)→∃us',((ms.modify j fun e=>{ e with key:=.agg us,val:=u }).getD i default).key = .agg us'∧Cx g' w' us' k)∧
  (∀i k z,(N9 es j x)[i]? = some (k,z)→Rep g' w' ((ms.modify j fun e=>{ e with key:=.agg us,val:=u }).getD i default).val z):=by
 subst hn
 have hlt:j<ms.size:=by rw [hl];exact (List.getElem?_eq_some_iff.1 hj).1
 have hget:∀i,i<ms.size→(ms.modify j fun e=>{ e with key:=.agg us,val:=u }).getD i default=if j=i then { (ms.getD i default) with key:=.agg us,val:=u } else ms.getD i default:=fun i hi=>by
  simp only [Array.getD_eq_getD_getElem?,Array.getElem?_modify]
  by_cases h:j=i
  · subst h;simp [hi]
  · simp [h]
 have hkp:∀i k z,(N9 es j x)[i]? = some (k,z)→i<ms.size∧if j=i then k=n∧z=x else es[i]? = some (k,z):=fun i k z hi=>by
  have h1:=(List.getElem?_eq_some_iff.1 hi).1
  rw [gG,←hl] at h1
  refine ⟨h1,?_⟩
  simp only [N9,List.getElem?_modify] at hi
  by_cases h:j=i
  · subst h;rw [hj] at hi;simp at hi;simp [hi.1.symm,hi.2.symm]
  · simpa [h] using hi
 refine ⟨by simp [gG,hl],fun i hi=>?_,fun i k z hi=>?_,fun i k z hi=>?_⟩
 ·
  have hi':i<ms.size:=by simpa using hi
  rw [hget i hi']
  by_cases h:j=i
  · rw [if_pos h];exact hbn i hi'
  · rw [if_neg h];exact hbn i hi'
 ·
  obtain ⟨h1,h2⟩:=hkp i k z hi
  rw [hget i h1]
  by_cases h:j=i
  · rw [if_pos h];rw [if_pos h] at h2;exact ⟨us,rfl,by rw [h2.1];exact hu.mono hx⟩
  ·
   rw [if_neg h];rw [if_neg h] at h2
   obtain ⟨us',h3,h4⟩:=hks i k z h2
   exact ⟨us',h3,h4.mono hx⟩
 ·
  obtain ⟨h1,h2⟩:=hkp i k z hi
  rw [hget i h1]
  by_cases h:j=i
  · rw [if_pos h];rw [if_pos h] at h2;rw [h2.2];exact hv
  · rw [if_neg h];rw [if_neg h] at h2;exact (hvs i k z h2).mono hx

theorem Lb {g:Gh}{w:World}{b:Nat}{ms:Array MapEntry}{c:Nat}(o:Obj)(hg:g b=some 0)(hheap:w.heap[b]? = some (.map ms c)) :
  (setObj b o).run P w = .ok () { w with heap:=w.heap.setIfInBounds b o }∧Ext g w g { w with heap:=w.heap.setIfInBounds b o }∧({ w with heap:=w.heap.setIfInBounds b o }:World).heap[b]? = some o∧(∀c,c≠b→({ w with heap:=w.heap.setIfInBounds b o }:World).heap[c]? = w.heap[c]?):=by
 have hb:b<w.heap.size:=(Array.getElem?_eq_some_iff.1 hheap).1
 have hoth:∀c,c≠b→({ w with heap:=w.heap.setIfInBounds b o }:World).heap[c]? = w.heap[c]? :=fun c hc=>by
  simp [Array.getElem?_setIfInBounds_ne (Ne.symm hc)]
 refine ⟨by simp [setObj,Sem.run,hheap],⟨rfl,rfl,rfl,by simp,fun c hc hgc=>⟨hgc,hoth c fun e=>by rw [e,hg] at hgc;cases hgc⟩,fun c m' hc hgc=>⟨fun m'' hm''=>by rw [hgc] at hm'';cases hm'';exact Nat.le_refl _,fun o ho=>?_⟩⟩,by simp [hb],hoth⟩
 have hne:c≠b:=fun e=>by rw [e,hg] at hgc;cases hgc;omega
 unfold World.cell?
 rw [hoth c hne]

theorem qC {t:TypeId}{m k v:Operand}{kt et b i j:Nat}{td tk:TD}{gs:List (Nat×Nat×Bool×Nat)}{n:List AV}{es:List (List AV×AV)}{eq:List AV→Bool}{r:Bool}{x:AV}{H H2:List HO}(hT:Hb P T)(ht:Bv T t=some td)(hk:td.kind = .map kt et)(htk:Bv T kt=some tk)(hkk:tk.kind = .struct gs)
  (hm:ρ m = .val (.map (some b))) (hkey:ρ k = .agg n) (hv:ρ v=x) (hnn:G1 T gs n n=some r) (heq:∀p∈es,G1 T gs n p.1=some (eq p.1)) (hH:H[i]? = some (.kmap b es)) (hold:Lm eq es=some j) (hsc:Md n=true) (hse:∀p∈es,eq p.1=true→p.1=n)
  (hH2:H.set i (.kmap b (N9 es j x))=H2) :
  Km P ⟨d,.mapUpdate t m k v,ty,pos,aft,gd⟩ ρ H (fun y H'=>y = .junk∧H'=H2):=by
 subst hH2
 intro g w a next Q hr hHK hn
 have h1:=(hm▸hr m (by simp [Op.operands]):Rep g w _ _).inv_val
 obtain ⟨us,h2,hus⟩:=(hkey▸hr k (by simp [Op.operands]):Rep g w _ _).inv_agg
 have h3:Rep g w (a.eval v) x:=hv▸hr v (by simp [Op.operands])
 obtain ⟨hg,ms,clock,hheap,hl,⟨hclk,hbn⟩,hks,hvs⟩:=hHK.ok _ (List.mem_of_getElem? hH)
 have hu:=Il (hT t td ht) hk
 have hget:(getObj b).run P w = .ok (.map ms clock) w:=by simp [getObj,Sem.run,hheap]
 have hck:=G0 hT htk hkk hus hnn (em:=false) (m:=9997)
 have hf:=Iw hT htk hkk hus (eq:=eq) ms.toList es 0 (by simpa using hl) (fun j k x hj=>by simpa using hks j k x hj) heq
 rw [←Fc hT htk hkk,hold] at hf
 simp only [Option.map_some,Nat.zero_add] at hf
 obtain ⟨k0,y,hj,he⟩:=mO hold
 have hk0:=hse _ (List.mem_of_getElem? hj) he
 simp only at hk0
 obtain ⟨vs,hv1,hv2⟩:=hks j k0 y hj
 rw [hk0] at hv2
 obtain ⟨huv,hsb⟩:=gJ hsc hus hv2
 have hlt:j<ms.size:=by rw [hl];exact (List.getElem?_eq_some_iff.1 hj).1
 have hkj:(((ms[j]?).map (·.key)).getD (.agg us)) = .agg us:=by
  have e1:ms[j]? = some (ms.getD j default):=by simp [Array.getD_eq_getD_getElem?,hlt]
  rw [e1]
  simp only [Option.map_some,Option.getD_some,hv1,huv]
 have hkt:(Instr.keyThatStays (.agg us) (.agg us)).run P w = .ok (.agg us) w:=by
  unfold Instr.keyThatStays;rw [if_pos hsb];rfl
 obtain ⟨hset,hx,hnew,hoth⟩:=Lb (P:=P) (.map (ms.modify j fun e=>{ e with key:=.agg us,val:=a.eval v }) clock) hg hheap
 have hrun:(Instr.mapUpdate t (a.eval m) (a.eval k) (a.eval v)).run P w = .ok () { w with heap:=w.heap.setIfInBounds b (.map (ms.modify j fun e=>{ e with key:=.agg us,val:=a.eval v }) clock) }:=by
  unfold Instr.mapUpdate
  rw [Sem.run_bind,Ba hu]
  simp only [Result.andThen_ok,h1,Sem.run_bind,hget,h2,hck,hf,hkj,hkt,hset]
 unfold Oper.wp
 simp only [execOp,Sem.run_bind,hrun,Result.andThen_ok,Sem.run_pure]
 obtain ⟨m1,m2,m3,m4⟩:=Ol hx hl hbn hks hvs hj hk0.symm hus (h3.mono hx)
 exact hn g _ undef .junk _ ⟨rfl,rfl⟩ (.junk _) (hHK.set hx hH (fun c hc=>.inl hc) ⟨hg,_,_,hnew,m1,⟨by simp [hclk],m2⟩,m3,m4⟩ (fun c hc hne _=>⟨rfl,hoth c fun e=>hne (by rw [e];rfl)⟩)) hx

theorem Wp {t:TypeId}{m k:Operand}{kt et b i j:Nat}{td tk:TD}{gs:List (Nat×Nat×Bool×Nat)}{n:List AV}{es:List (List AV×AV)}{eq:List AV→Bool}{r:Bool}{y:AV}{H:List HO}(hT:Hb P T)(ht:Bv T t=some td)(hk:td.kind = .map kt et)(htk:Bv T kt=some tk)(hkk:tk.kind = .struct gs)
  (hm:ρ m = .val (.map (some b))) (hkey:ρ k = .agg n) (hnn:G1 T gs n n=some r) (heq:∀p∈es,G1 T gs n p.1=some (eq p.1)) (hH:H[i]? = some (.kmap b es)) (hold:Lm eq es=some j) (hy:es[j]? = some (n,y)) (hsc:Md n=true) :
  Km P ⟨d,.mapEntry t m k,ty,pos,aft,gd⟩ ρ H (fun z H'=>z = .tuple [y,.int .i64 (j:Int)]∧H'=H):=by
 intro g w a next Q hr hHK hn
 have h1:=(hm▸hr m (by simp [Op.operands]):Rep g w _ _).inv_val
 obtain ⟨us,h2,hus⟩:=(hkey▸hr k (by simp [Op.operands]):Rep g w _ _).inv_agg
 obtain ⟨hg,ms,clock,hheap,hl,⟨hclk,hbn⟩,hks,hvs⟩:=hHK.ok _ (List.mem_of_getElem? hH)
 have hu:=Il (hT t td ht) hk
 have hget:(getObj b).run P w = .ok (.map ms clock) w:=by simp [getObj,Sem.run,hheap]
 have hck:=G0 hT htk hkk hus hnn (em:=false) (m:=9997)
 have hf:=Iw hT htk hkk hus (eq:=eq) ms.toList es 0 (by simpa using hl) (fun j k x hj=>by simpa using hks j k x hj) heq
 rw [←Fc hT htk hkk,hold] at hf
 simp only [Option.map_some,Nat.zero_add] at hf
 obtain ⟨vs,hv1,hv2⟩:=hks j n y hy
 obtain ⟨huv,hsb⟩:=gJ hsc hus hv2
 have hlt:j<ms.size:=by rw [hl];exact (List.getElem?_eq_some_iff.1 hy).1
 have e1:ms[j]? = some (ms.getD j default):=by simp [Array.getD_eq_getD_getElem?,hlt]
 have hkj:(((ms[j]?).map (·.key)).getD (.agg us)) = .agg us:=by
  rw [e1]
  simp only [Option.map_some,Option.getD_some,hv1,huv]
 have hbj:(((ms[j]?).map fun x=>((x.born:Nat):Int)).getD 0)=(j:Int):=by
  rw [e1]
  simp only [Option.map_some,Option.getD_some]
  rw [hbn j hlt]
 have hkt:(Instr.keyThatStays (.agg us) (.agg us)).run P w = .ok (.agg us) w:=by
  unfold Instr.keyThatStays;rw [if_pos hsb];rfl
 have hval:(ms.toList.getD j default).val=(ms.getD j default).val:=by simp
 obtain ⟨hset,hx,hnew,hoth⟩:=Lb (P:=P) (.map (ms.modify j fun e=>{ e with key:=.agg us }) clock) hg hheap
 have hrun:(Instr.mapEntry t (a.eval m) (a.eval k)).run P w = .ok (.tuple #[(ms.getD j default).val,goInt j]) { w with heap:=w.heap.setIfInBounds b (.map (ms.modify j fun e=>{ e with key:=.agg us }) clock) }:=by
  unfold Instr.mapEntry
  rw [Sem.run_bind,Ba hu]
  simp only [Result.andThen_ok,h1,Sem.run_bind,hget,h2,hck,hf,hkj,hkt,hset,hbj,hval,Sem.run_pure]
 unfold Oper.wp
 simp only [execOp,Sem.run_bind,hrun,Result.andThen_ok,Sem.run_pure]
 have hmod:(ms.modify j fun e=>{ e with key:=.agg us })=ms.modify j fun e=>{ e with key:=.agg us,val:=(ms.getD j default).val }:=by
  apply Array.ext_getElem?
  intro i
  simp only [Array.getElem?_modify]
  by_cases h:j=i
  · subst h;rw [if_pos rfl,if_pos rfl,e1];rfl
  · rw [if_neg h,if_neg h]
 have hkp:N9 es j y=es:=by
  apply List.ext_getElem?
  intro i
  simp only [N9,List.getElem?_modify]
  by_cases h:j=i
  · subst h;simp only [if_true,hy];rfl
  · simp only [h,if_false];cases es[i]? <;> rfl
 have hyv:=hvs j n y hy
 obtain ⟨m1,m2,m3,m4⟩:=Ol hx hl hbn hks hvs hy rfl hus (hyv.mono hx)
 rw [←hmod,hkp] at m3 m4
 rw [←hmod] at m2
 rw [←hmod,hkp] at m1
 have hHs:H.set i (.kmap b es)=H:=by
  apply List.ext_getElem?
  intro i'
  rw [List.getElem?_set]
  split
  · rename_i e;subst e;rw [hH,if_pos (List.getElem?_eq_some_iff.1 hH).1]
  · rfl
 have hok:=hHK.set hx hH (o':=.kmap b es) (fun c hc=>.inl hc) ⟨hg,_,_,hnew,m1,⟨by simp [hclk],m2⟩,m3,m4⟩ (fun c hc hne _=>⟨rfl,hoth c fun e=>hne (by rw [e];rfl)⟩)
 rw [hHs] at hok
 exact hn g _ _ _ _ ⟨rfl,rfl⟩ (.tuple _ _ rfl fun j' z hj'=>by
  match j',hj' with
  | 0,hj'=>cases hj';exact hyv.mono hx
  | 1,hj'=>cases hj';exact .int _ _
  | j'+2,hj'=>cases hj') hok hx

theorem Qb {t:TypeId}{m k:Operand}{kt et b i:Nat}{td tk te:TD}{gs:List (Nat×Nat×Bool×Nat)}{n:List AV}{es:List (List AV×AV)}{eq:List AV→Bool}{r:Bool}{x y:AV}{H:List HO}(hT:Hb P T)(ht:Bv T t=some td)(hk:td.kind = .map kt et)(htk:Bv T kt=some tk)(hkk:tk.kind = .struct gs)
  (hte:Bv T et=some te) (hzs:P4 P et=true) (hz:te.zero = [x]) (hxy:∀g w u,Rep g w u x→Rep g w u y)
  (hm:ρ m = .val (.map (some b))) (hkey:ρ k = .agg n) (hnn:G1 T gs n n=some r) (heq:∀p∈es,G1 T gs n p.1=some (eq p.1)) (hH:H[i]? = some (.kmap b es)) (hnew:G4 eq es=none) :
  Km P ⟨d,.mapEntry t m k,ty,pos,aft,gd⟩ ρ H (fun z H'=>z = .tuple [y,.int .i64 ((es.length:Nat):Int)]∧H'=H.set i (.kmap b (es ++ [(n,y)]))):=by
 intro g w a next Q hr hHK hn
 have h1:=(hm▸hr m (by simp [Op.operands]):Rep g w _ _).inv_val
 obtain ⟨us,h2,hus⟩:=(hkey▸hr k (by simp [Op.operands]):Rep g w _ _).inv_agg
 obtain ⟨hg,ms,clock,hheap,hl,⟨hclk,hbn⟩,hks,hvs⟩:=hHK.ok _ (List.mem_of_getElem? hH)
 have hu:=Il (hT t td ht) hk
 have hget:(getObj b).run P w = .ok (.map ms clock) w:=by simp [getObj,Sem.run,hheap]
 have hck:=G0 hT htk hkk hus hnn (em:=false) (m:=9997)
 have hf:=Iw hT htk hkk hus (eq:=eq) ms.toList es 0 (by simpa using hl) (fun j k x hj=>by simpa using hks j k x hj) heq
 rw [←Fc hT htk hkk,Pw.2 hnew] at hf
 simp only [Option.map_none] at hf
 obtain ⟨z,hz1,hz2,hz3⟩:=Mp (hT et te hte) w
 have hzr:∀g w,Rep g w z x:=fun g w=>by
  have hz4:=hz3 g w
  rw [hz] at hz4
  have hna:∀vs,z≠.agg vs:=by
   rintro vs rfl
   obtain ⟨it,hit,_,_,zv,hzv,_⟩:=(hT et te hte).info
   have hzz:(zeroValue et).run P w = .ok zv w:=by simp [zeroValue,G7 hit,hzv]
   have hz1':=hz1
   obtain ⟨z',hz1'',_⟩:=Mp (hT et te hte) w
   have hzz:(zeroValue et).run P w = .ok zv w:=by simp [zeroValue,G7 hit,hzv]
   unfold P4 at hzs
   rw [hit] at hzs
   simp only [hzv] at hzs
   have e0:(zeroValue et).run P ‹World› = .ok zv ‹World› :=by simp [zeroValue,G7 hit,hzv]
   first
   | (rw [hzz] at hz1;cases hz1;simp at hzs)
   | (simp [zeroValue,G7 hit,hzv] at hz1;rw [hz1] at hzs;simp at hzs)
  have hcell:z.cells = #[z]:=by cases z <;> first | rfl | exact absurd rfl (hna _)
  rw [hcell] at hz4
  exact hz4.2 0 x rfl
 obtain ⟨hset,hx,hnewh,hoth⟩:=Lb (P:=P) (.map (ms.push { key:=.agg us,val:=z,born:=clock }) (clock+1)) hg hheap
 have hrun:(Instr.mapEntry t (a.eval m) (a.eval k)).run P w = .ok (.tuple #[z,goInt clock]) { w with heap:=w.heap.setIfInBounds b (.map (ms.push { key:=.agg us,val:=z,born:=clock }) (clock+1)) }:=by
  unfold Instr.mapEntry
  rw [Sem.run_bind,Ba hu]
  simp only [Result.andThen_ok,h1,Sem.run_bind,hget,h2,hck,hf,hz1,hset,Sem.run_pure]
 unfold Oper.wp
 simp only [execOp,Sem.run_bind,hrun,Result.andThen_ok,Sem.run_pure]
 refine hn g _ _ _ _ ⟨rfl,rfl⟩ (.tuple _ _ rfl fun j' q hj'=>?_) (hHK.set hx hH (fun c hc=>.inl hc) ⟨hg,_,_,hnewh,by simp [hl],⟨by simp [hclk],T2 hbn hclk⟩,?_,?_⟩ (fun c hc hne _=>⟨rfl,hoth c fun e=>hne (by rw [e];rfl)⟩)) hx
 ·
  match j',hj' with
  | 0,hj'=>cases hj';exact hxy _ _ _ (hzr _ _)
  | 1,hj'=>cases hj';rw [←hl,←hclk];exact .int _ _
  | j'+2,hj'=>cases hj'
 ·
  intro j m' y hj
  rw [List.getElem?_append] at hj
  split at hj
  ·
   rename_i hlt
   obtain ⟨vs,k1,k2⟩:=hks j m' y hj
   have hlt':j<ms.size:=by omega
   exact ⟨vs,by simpa [Array.getD_eq_getD_getElem?,Array.getElem?_push,show j≠ms.size by omega] using k1,k2.mono hx⟩
  ·
   rename_i hlt
   have:j-es.length=0:=by
    rcases Nat.eq_zero_or_pos (j-es.length) with h | h
    · exact h
    · rw [List.getElem?_eq_none (by simp;omega)] at hj;cases hj
   rw [this] at hj;simp at hj
   have hj':j=ms.size:=by omega
   subst hj'
   exact ⟨us,by simp [Array.getD_eq_getD_getElem?],by rw [←hj.1];exact hus.mono hx⟩
 ·
  intro j m' y hj
  rw [List.getElem?_append] at hj
  split at hj
  ·
   rename_i hlt
   have:=(hvs j m' y hj).mono hx
   have hlt':j<ms.size:=by omega
   simpa [Array.getD_eq_getD_getElem?,Array.getElem?_push,show j≠ms.size by omega] using this
  ·
   rename_i hlt
   have:j-es.length=0:=by
    rcases Nat.eq_zero_or_pos (j-es.length) with h | h
    · exact h
    · rw [List.getElem?_eq_none (by simp;omega)] at hj;cases hj
   rw [this] at hj;simp at hj
   have hj':j=ms.size:=by omega
   subst hj'
   simp only [Array.getD_eq_getD_getElem?,Array.getElem?_push,if_true,Option.getD_some]
   rw [←hj.2];exact hxy _ _ _ (hzr _ _)

theorem Kt {t:TypeId}{m s v:Operand}{b i j:Nat}{es:List (List AV×AV)}{n:List AV}{x y:AV}{H H2:List HO}
  (hm:ρ m = .val (.map (some b))) (hs:ρ s = .int .i64 (j:Int)) (hv:ρ v=x) (hH:H[i]? = some (.kmap b es)) (hy:es[j]? = some (n,y)) (hH2:H.set i (.kmap b (N9 es j x))=H2) :
  Km P ⟨d,.entryStore t m s v,ty,pos,aft,gd⟩ ρ H (fun z H'=>z = .junk∧H'=H2):=by
 subst hH2
 intro g w a next Q hr hHK hn
 have h1:=(hm▸hr m (by simp [Op.operands]):Rep g w _ _).inv_val
 have h2:=(hs▸hr s (by simp [Op.operands]):Rep g w _ _).inv_int
 have h3:Rep g w (a.eval v) x:=hv▸hr v (by simp [Op.operands])
 obtain ⟨hg,ms,clock,hheap,hl,⟨hclk,hbn⟩,hks,hvs⟩:=hHK.ok _ (List.mem_of_getElem? hH)
 have hget:(getObj b).run P w = .ok (.map ms clock) w:=by simp [getObj,Sem.run,hheap]
 have hlt:j<ms.size:=by rw [hl];exact (List.getElem?_eq_some_iff.1 hy).1
 have hfi:ms.findIdx? (fun e=>(e.born:Int)==(j:Int))=some j:=by
  rw [Array.findIdx?_eq_some_iff_getElem]
  have hb:∀i (hi:i<ms.size),(ms[i]).born=i:=fun i hi=>by
   have:=hbn i hi
   simpa [Array.getD_eq_getD_getElem?,hi] using this
  refine ⟨hlt,by simp [hb j hlt],fun i hij=>?_⟩
  have hi:i<ms.size:=by omega
  simp [hb i hi];omega
 obtain ⟨us,k1,k2⟩:=hks j n y hy
 have e1:ms[j]? = some (ms.getD j default):=by simp [Array.getD_eq_getD_getElem?,hlt]
 obtain ⟨hset,hx,hnew,hoth⟩:=Lb (P:=P) (.map (ms.modify j fun e=>{ e with val:=a.eval v }) clock) hg hheap
 have hrun:(Instr.entryStore t (a.eval m) (a.eval s) (a.eval v)).run P w = .ok () { w with heap:=w.heap.setIfInBounds b (.map (ms.modify j fun e=>{ e with val:=a.eval v }) clock) }:=by
  unfold Instr.entryStore
  simp only [h1,h2,Sem.run_bind,hget,Result.andThen_ok,asInt,asIntOf,Sem.run_pure,hfi,hset]
 have hmod:(ms.modify j fun e=>{ e with val:=a.eval v })=ms.modify j fun e=>{ e with key:=.agg us,val:=a.eval v }:=by
  apply Array.ext_getElem?
  intro i
  simp only [Array.getElem?_modify]
  by_cases h:j=i
  · subst h;rw [if_pos rfl,if_pos rfl,e1];simp only [Option.map_some,k1]
  · rw [if_neg h,if_neg h]
 unfold Oper.wp
 simp only [execOp,Sem.run_bind,hrun,Result.andThen_ok,Sem.run_pure]
 obtain ⟨m1,m2,m3,m4⟩:=Ol hx hl hbn hks hvs hy rfl k2 (h3.mono hx)
 rw [←hmod] at m1 m2 m3 m4
 exact hn g _ undef .junk _ ⟨rfl,rfl⟩ (.junk _) (hHK.set hx hH (fun c hc=>.inl hc) ⟨hg,_,_,hnew,m1,⟨by simp [hclk],m2⟩,m3,m4⟩ (fun c hc hne _=>⟨rfl,hoth c fun e=>hne (by rw [e];rfl)⟩)) hx
end
end Go.Aw
