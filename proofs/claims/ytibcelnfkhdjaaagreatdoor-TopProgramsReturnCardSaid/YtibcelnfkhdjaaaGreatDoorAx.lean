/-
  The abstract layer: abstract values, what represents them, states, operations, code, calls. No condition.
-/
import Derived.Test.YtibcelnfkhdjaaaGreatDoorAw
set_option linter.unusedVariables false
set_option linter.unusedSimpArgs false
namespace Go.Aw

section
variable {P:Program} {T:List (Nat×TD)} {d:Option Nat} {ty:TypeId} {pos:String} {aft:Array Edge} {gd:Option (Nat×Bool)} {ρ:Operand->AV} {K:List HO->Prop}

theorem vB {x:Operand}{s t' e k b o TT:Nat}{te:TD}{cs:List AV}(hT:Kh P T)(hs:P.underlying s=some (.pointer e))(hd:P.underlying t'=some .unsafePointer)(hte:Bt T e=some te)(hz:Nat.beq te.size 0=false)
  (hx:ρ x = .val (.pointer (some ⟨b,o,none⟩))) (ho:Nat.blt o cs.length=true) :
  D1 P ⟨d,.convert s t' x,ty,pos,aft,gd⟩ ρ (fun H=>H[k]? = some (.box b TT cs)) (.val (.pointer (some ⟨b,o,none⟩))):=by
 obtain ⟨it,hit,his,_⟩:=(hT e te hte).info;exact P_toUnsafe hs hd hit (by rw [his];exact hz) hx ho
theorem oD {x:Operand}{s t' e k b o TT n:Nat}{te:TD}{cs:List AV}(hT:Kh P T)(hs:P.underlying s=some .unsafePointer)(hd:P.underlying t'=some (.pointer e))(hte:Bt T e=some te)(hn':cs.length=n)
  (hl:liesAt P P.depth TT (n / P.cellsOf TT) o e 1=true) (hx:ρ x = .val (.pointer (some ⟨b,o,none⟩))) :
  D1 P ⟨d,.convert s t' x,ty,pos,aft,gd⟩ ρ (fun H=>H[k]? = some (.box b TT cs)) (.val (.pointer (some ⟨b,o,none⟩))):=by
 obtain ⟨it,hit,_⟩:=(hT e te hte).info;exact rH hs hd hit hn' hl hx

theorem gN {x:Operand}{lo hi:Option Operand}{t e z b o n c:Nat}{td te:TD}{l h o':Nat}(hT:Kh P T)(hx:ρ x = .val (.slice (some ⟨b,o,none⟩) n c))(ht:Bt T t=some td)(hk:td.kind = .slice e)(hte:Bt T e=some te)(hz:te.size=z)
    (hlo:match lo with | none=>l=0 | some y=>∃k,ρ y = .int k (l:Int)) (hhi:match hi with | none=>h=n | some y=>∃k,ρ y = .int k (h:Int)) (h1:l<=h) (h2:h<=n) (h3:n<=c) (hlc:l<c) (ho:o+l*z=o') :
    D1 P ⟨d,.slice t x lo hi none,ty,pos,aft,gd⟩ ρ K (.val (.slice (some ⟨b,o',none⟩) (h-l) (c-l))):=
  .of_run fun g w a hr=>by
    have e1:=(hx▸hr x (by simp [Op.operands]):Rep g w _ _).inv_val;have hu:=F6 (hT t td ht) hk;have hsz:=Hv (hT e te hte) w;subst ho
    have e2:∀v,lo.map a.eval=some v->∃k,v = .int k (l:Int):=fun v hv=>by
      cases lo with
      | none=>cases hv
      | some y=>
        obtain ⟨k,hk⟩:=hlo;simp only [Ka,Option.some.injEq] at hv;subst hv;exact ⟨k,(hk▸hr y (by simp [Op.operands]):Rep g w _ _).inv_int⟩
    have e3:∀v,hi.map a.eval=some v->∃k,v = .int k (h:Int):=fun v hv=>by
      cases hi with
      | none=>cases hv
      | some y=>
        obtain ⟨k,hk⟩:=hhi;simp only [Ka,Option.some.injEq] at hv;subst hv;exact ⟨k,(hk▸hr y (by simp [Op.operands]):Rep g w _ _).inv_int⟩
    have key:(Instr.sliceBounds true n c (lo.map a.eval) (hi.map a.eval) none).run P w = .ok (l,h,c) w:=by
      unfold Instr.sliceBounds;simp only [Sem.run_bind,Sem.run_pure,Result.andThen_ok];cases hh:hi.map a.eval with
      | none=>
        have:h=n:=by cases hi with | none=>exact hhi | some y=>cases hh
        subst this;simp only [Sem.run_pure,Result.andThen_ok];cases hl:lo.map a.eval with
        | none=>
          have:l=0:=by cases lo with | none=>exact hlo | some y=>cases hl
          subst this;rfl
        | some v=>obtain ⟨k,rfl⟩:=e2 v hl;simp [F0 (P:=P) (k:=k) (n:=(l:Int)) (y:=h) (by omega) (by omega)]
      | some v=>
        obtain ⟨k,rfl⟩:=e3 v hh;simp only [F0 (P:=P) (k:=k) (n:=(h:Int)) (y:=c) (by omega) (by omega),Sem.run_bind,Result.andThen_ok,Ma];cases hl:lo.map a.eval with
        | none=>
          have:l=0:=by cases lo with | none=>exact hlo | some y=>cases hl
          subst this;rfl
        | some v=>obtain ⟨k,rfl⟩:=e2 v hl;simp [F0 (P:=P) (k:=k) (n:=(l:Int)) (y:=h) (by omega) (by omega)]
    refine ⟨_,?_,.val _⟩;have hne:¬c=l:=by omega
    simp only [execOp,e1,Instr.sliceAt,Sem.run_bind,Bh hu,Result.andThen_ok,Instr.slice,Option.map_none,key,hsz,hz,Sem.run_pure,if_neg hne,Ka,H0]

theorem E_copyVal {x y:Operand}{t u e k b o o2 dn dc sn sc m TT:Nat}{td te:TD}{cs cs':List AV}{H H2:List HO}(hT:Kh P T)(hx:ρ x = .val (.slice (some ⟨b,o,none⟩) dn dc))(hy:ρ y = .val (.slice (some ⟨b,o2,none⟩) sn sc))(ht:Bt T t=some td)(hk:td.kind = .slice e)
  (hte:Bt T e=some te) (hz:te.size=1) (hH:H[k]? = some (.box b TT cs)) (hsc:Av cs=true) (hm:Nat.min sn dn=m) (h1:o+m<=cs.length) (h2:o2+m<=cs.length) (hcs:Kt cs o ((cs.drop o2).take m)=cs') (hH2:H.set k (.box b TT cs')=H2) :
  Od P ⟨d,.call ⟨.builtin .copy,#[x,y],#[t,u]⟩,ty,pos,aft,gd⟩ ρ H (fun r H'=>r = .int .i64 (m:Int)/\H'=H2):=by
 subst hH2;subst hcs;intro g w a next Q hr hHK hn
 have e1:=(hx▸hr x (by simp [Op.operands,Call.operands]):Rep g w _ _).inv_val;have e2:=(hy▸hr y (by simp [Op.operands,Call.operands]):Rep g w _ _).inv_val;have hu:=F6 (hT t td ht) hk;obtain ⟨it,hit,his,_⟩:=(hT e te hte).info;obtain ⟨hg,vs,h5,h6⟩:=hHK.ok _ (Ak hH)
 have hone:∀v∈vs.toList,v.oneCell'=true:=fun v hv=>by
  obtain ⟨i,hi⟩:=List.getElem?_of_mem hv;have hi':vs[i]? = some v:=by simpa using hi
  have hil:i<cs.length:=by rw [<-h6.1];exact (Array.getElem?_eq_some_iff.1 hi').1
  have hr7:=h6.2 i _ (List.getElem?_eq_getElem hil);have:vs.getD i undef=v:=by rw [E7,hi'];rfl
  rw [this] at hr7;exact Vp hr7 (Oq hsc _ (X7 hil))
 have hnl:((vs.toList.drop o2).take m).length=m:=by rw [Gv,Eh,gJ,h6.1];omega
 have hrun:=run_copy_row (P:=P) w t u ty e b o dn dc ⟨b,o2,none⟩ sn sc vs TT ((vs.toList.drop o2).take m) hu (by rw [hit];simp [his,hz]) h5 (by rw [hnl];exact hm.symm) (fun j v hj=>by
   rw [H0,B2 h5];rw [List.getElem?_take] at hj;split at hj
   . rw [List.getElem?_drop] at hj;simpa using hj
   cases hj) (by rw [hnl,h6.1];exact h1) (fun v hv=>hone v (Wd (List.mem_of_mem_take hv)))
 rw [hnl] at hrun;have hx:Ext g w g (w.setRow b (vs.toList.take o++(vs.toList.drop o2).take m++vs.toList.drop (o+m)).toArray):=Ext.setRow hg;unfold Oper.wp
 rw [Io (v:=goInt m) (w':=w.setRow b (vs.toList.take o++(vs.toList.drop o2).take m++vs.toList.drop (o+m)).toArray) (by
  have:(#[x,y]:Array Operand).map a.eval = #[a.eval x,a.eval y]:=by simp
  rw [this,e1,e2];simp only [builtin,Sem.run_bind,hrun,Result.andThen_ok,Sem.run_pure])]
 refine hn g _ _ _ _ ⟨rfl,rfl⟩ (.int _ _) (hHK.set hx hH (fun b' hb'=>.inl hb') ⟨hg,_,setRow_heap w b vs _ TT (0,0) h5,?_⟩ ?_) hx
 .
  have hml:((cs.drop o2).take m).length=m:=by rw [Gv,Eh];omega
  have r1:=((h6.take o).append ((h6.drop o2).take m)).append (h6.drop (o+((cs.drop o2).take m).length));rw [hml] at r1
  have e9:(vs.toList.take o++(vs.toList.drop o2).take m++vs.toList.drop (o+m)).toArray=(vs.toList.take o).toArray++(((vs.toList.drop o2).toArray).toList.take m).toArray++(vs.toList.drop (o+m)).toArray:=by
   apply Wf.1;simp
  unfold Kt;rw [hml];have r3:=r1.mono hx;rw [<-e9] at r3;exact r3
 intro c _ hne _;exact ⟨rfl,setRow_other w b c _ (fun e=>hne (by rw [e];rfl))⟩
theorem E_copySl {x y:Operand}{t u e k b o dn dc m TT:Nat}{td te:TD}{es:List (List AV)}{cs cs':List AV}{H H2:List HO}(hT:Kh P T)(hx:ρ x = .val (.slice (some ⟨b,o,none⟩) dn dc))(hy:ρ y = .sl 1 es)(ht:Bt T t=some td)(hk:td.kind = .slice e)
  (hte:Bt T e=some te) (hz:te.size=1) (hH:H[k]? = some (.box b TT cs)) (hne:es≠[]) (hs:∀c∈es,Av c=true) (hm:Nat.min es.length dn=m) (h1:o+m<=cs.length) (hcs:Kt cs o (es.flatten.take m)=cs') (hH2:H.set k (.box b TT cs')=H2) :
  Od P ⟨d,.call ⟨.builtin .copy,#[x,y],#[t,u]⟩,ty,pos,aft,gd⟩ ρ H (fun r H'=>r = .int .i64 (m:Int)/\H'=H2):=by
 subst hH2;subst hcs;intro g w a next Q hr hHK hn
 have e1:=(hx▸hr x (by simp [Op.operands,Call.operands]):Rep g w _ _).inv_val;have r2:=(hy▸hr y (by simp [Op.operands,Call.operands]):Rep g w _ _);obtain ⟨a2,sn,sc,e2,h22,_⟩:=r2.inv_sl;rw [e2] at r2;obtain ⟨_,hz2,b2,o2,hb2,news,n1,n2,n3,n4⟩:=Sz r2 (Nat.zero_lt_one) hs hne;subst hb2;have hu:=F6 (hT t td ht) hk;obtain ⟨it,hit,his,_⟩:=(hT e te hte).info;obtain ⟨hg,vs,h5,h6⟩:=hHK.ok _ (Ak hH)
 have hnl:(news.take m).length=m:=by
  have hle:m<=es.length:=hm▸Nat.min_le_left _ _;rw [Gv,n1];omega
 have hrun:=run_copy_row (P:=P) w t u ty e b o dn dc ⟨b2,o2,none⟩ sn sc vs TT (news.take m) hu (by rw [hit];simp [his,hz]) h5 (by rw [hnl,h22];exact hm.symm) (fun j v hj=>by
   rw [List.getElem?_take] at hj;split at hj
   . rw [H0];exact (n4 j v hj).2
   cases hj) (by rw [hnl,h6.1];exact h1) (fun v hv=>n3 v (List.mem_of_mem_take hv))
 rw [hnl] at hrun;have hx:Ext g w g (w.setRow b (vs.toList.take o++news.take m++vs.toList.drop (o+m)).toArray):=Ext.setRow hg;unfold Oper.wp
 rw [Io (v:=goInt m) (w':=w.setRow b (vs.toList.take o++news.take m++vs.toList.drop (o+m)).toArray) (by
  have:(#[x,y]:Array Operand).map a.eval = #[a.eval x,a.eval y]:=by simp
  rw [this,e1,e2];simp only [builtin,Sem.run_bind,hrun,Result.andThen_ok,Sem.run_pure])]
 refine hn g _ _ _ _ ⟨rfl,rfl⟩ (.int _ _) (hHK.set hx hH (fun b' hb'=>.inl hb') ⟨hg,_,setRow_heap w b vs _ TT (0,0) h5,?_⟩ ?_) hx
 .
  have hfl:es.flatten.length=sn:=by rw [Kn hz2,h22,Nat.mul_one]
  have hle:m<=es.length:=hm▸Nat.min_le_left _ _;have hml:(es.flatten.take m).length=m:=by rw [Gv,hfl];omega
  have r1:=((h6.take o).append (n2.take m)).append (h6.drop (o+(es.flatten.take m).length));rw [hml] at r1
  have e9:(vs.toList.take o++news.take m++vs.toList.drop (o+m)).toArray=(vs.toList.take o).toArray++((news.toArray).toList.take m).toArray++(vs.toList.drop (o+m)).toArray:=by
   apply Wf.1;simp
  unfold Kt;rw [hml];have r3:=r1.mono hx;rw [<-e9] at r3;exact r3
 intro c _ hne _;exact ⟨rfl,setRow_other w b c _ (fun e=>hne (by rw [e];rfl))⟩
end

theorem GS.perm {sl:List (Nat×AV)}{H H2:List HO}{n:Nat}(h:H.Perm H2):GS ⟨sl,H,n⟩ ⟨sl,H2,n⟩:=fun g _ w hG=>
 ⟨g,⟨hG.size,hG.defers,hG.sl,hG.heap.perm h⟩,Ext.refl g w⟩
end Go.Aw
namespace Go.Aw

section
variable {P:Program} {T:List (Nat×TD)} {d:Option Nat} {ty:TypeId} {pos:String} {aft:Array Edge} {gd:Option (Nat×Bool)} {ρ:Operand->AV}

end
end Go.Aw
namespace Go.Aw

section
variable {P:Program} {T:List (Nat×TD)} {d:Option Nat} {ty:TypeId} {pos:String} {aft:Array Edge} {gd:Option (Nat×Bool)} {ρ:Operand->AV}

end
end Go.Aw
namespace Go.Aw

section
variable {P:Program} {T:List (Nat×TD)} {d:Option Nat} {ty:TypeId} {pos:String} {aft:Array Edge} {gd:Option (Nat×Bool)} {ρ:Operand->AV}

end
end Go.Aw
namespace Go.Aw

theorem GS.freezeSMapCell {sl:List (Nat×AV)}{H H2:List HO}{n b bb TT:Nat}{es:List (List UInt8×AV)}{cs cs':List AV}(k j o:Nat)(hk:H[k]? = some (.smap b es))(hj:(H.eraseIdx k)[j]? = some (.box bb TT cs))(hc:cs[o]? = some (.val (.map (some b))))(hcs:cs.set o (.smapv es)=cs')
  (hH2:(H.eraseIdx k).set j (.box bb TT cs')=H2):GS ⟨sl,H,n⟩ ⟨sl,H2,n⟩:=fun g a w hG=>by
 subst hcs;subst hH2;obtain ⟨hg,ms,clock,h1,h2,h3,h4⟩:=hG.heap.ok _ (Ak hk)
 have hx:Ext g w (g.put b none) w:=by
  refine ⟨rfl,rfl,rfl,Be _,fun c hc hgc=>⟨?_,rfl⟩,fun c m hc hgc=>⟨fun m' hm=>?_,fun _ _=>rfl⟩⟩
  .
   by_cases e:c=b
   . subst e;exact Gh.Aao _ _ _
   rw [Gh.Aar _ _ e];exact hgc
  by_cases e:c=b
  . subst e;rw [Gh.Aao] at hm;cases hm
  rw [Gh.Aar _ _ e,hgc] at hm;cases hm;exact Be _
 have hv:Rep (g.put b none) w (.map (some b)) (.smapv es):=.smapv b ms clock es (Gh.Aao _ _ _) (Array.getElem?_eq_some_iff.1 h1).1 h1 h2 h3 (fun i k x hi=>(h4 i k x hi).mono hx)
 have hH:HOK (g.put b none) w (H.eraseIdx k):=by
  have hsub:(H.eraseIdx k).Sublist H:=List.eraseIdx_sublist ..;refine ⟨(hG.heap.sub hsub).nodup,fun o ho=>?_,hG.heap.glob.mono hx⟩;obtain ⟨i,hi⟩:=List.getElem?_of_mem ho;rw [List.getElem?_eraseIdx] at hi
  obtain ⟨j',hjk,hj'⟩:∃j',j'≠k/\H[j']? = some o:=by
   split at hi
   . exact ⟨i,by omega,hi⟩
   exact ⟨i+1,by omega,hi⟩
  have hok:=hG.heap.ok o (Ak hj');refine HO.ok_of_same hx hok fun c hc=>⟨Gh.Aar _ _ fun e=>hjk (hG.heap.nodup_blk hj' hk (e▸hc) rfl),rfl⟩
 refine ⟨g.put b none,⟨hG.size,hG.defers,fun i=>(hG.sl i).mono hx,?_⟩,hx⟩;refine hH.set (Ext.refl _ w) hj (fun b h=>.inl h) ?_ (fun _ _ _ _=>⟨rfl,rfl⟩);obtain ⟨hg2,vs,hvs,hr⟩:=hH.ok _ (Ak hj);refine ⟨hg2,vs,hvs,by rw [Ya];exact hr.1,fun i x hi=>?_⟩;rw [List.getElem?_set] at hi;by_cases e:o=i
 .
  subst e;have hlt:=(List.getElem?_eq_some_iff.1 hc).1;simp only [if_true,hlt,Option.some.injEq] at hi;subst hi;have h5:=(hr.2 o _ hc).inv_val;rw [h5];exact hv
 rw [if_neg e] at hi;exact hr.2 i x hi
section
variable {P:Program} {T:List (Nat×TD)} {d:Option Nat} {ty:TypeId} {pos:String} {aft:Array Edge} {gd:Option (Nat×Bool)} {ρ:Operand->AV} {K:List HO->Prop}

theorem fR {t:TypeId}{kt et b:Nat}{td tk te:TD}{n:List UInt8}{es:List (List UInt8×AV)}{x:AV}{g:Gh}{w:World}{ms:Array MapEntry}{clock:Nat}(hT:Kh P T)(ht:Bt T t=some td)(hk:td.kind = .map kt et)(htk:Bt T kt=some tk)(hkk:tk.kind = .str)
    (hte:Bt T et=some te) (hzs:iD P et=true) (hheap:w.heap[b]? = some (.map ms clock)) (hl:ms.size=es.length) (hks:∀i k x,es[i]? = some (k,x)->(ms.getD i default).key = .string ⟨k.toArray⟩) (hvs:∀i k x,es[i]? = some (k,x)->Rep g w (ms.getD i default).val x)
    (hx:match Ny es n with | some y=>y=x | none=>te.zero = [x]) :
    ∃v,Rep g w v x/\(Instr.lookup t (.map (some b)) (.string ⟨n.toArray⟩) false).run P w = .ok v w/\(Instr.lookup t (.map (some b)) (.string ⟨n.toArray⟩) true).run P w = .ok (.tuple #[v,.bool (Ny es n).isSome]) w:=by
  have hu:=Ta (hT t td ht) hk;have huk:=Ob (hT kt tk htk) hkk;have hget:(getObj b).run P w = .ok (.map ms clock) w:=by simp [getObj,Sem.run,hheap]
  cases hs:Ny es n with
  | some y=>
    rw [hs] at hx;simp only at hx;subst hx;obtain ⟨i',v,hf,hrep⟩:=aX (n:=n) (x:=y) (g:=g) (w:=w) ms.toList es 0 (by simpa using hl) (fun j m x hj=>by simpa using hks j m x hj) (fun j m x hj=>by simpa using hvs j m x hj) hs
    have hfk:(Instr.findKey kt (.string ⟨n.toArray⟩) ms.toList).run P w = .ok (some (i',v)) w:=by
      unfold Instr.findKey;rw [Sem.run_bind,Bh huk];simp only [Result.andThen_ok,hf,Sem.run_pure]
    refine ⟨v,hrep,?_,?_⟩ <;> simp [Instr.lookup,Sem.run_bind,Bh hu,Result.andThen_ok,hget,Sem.run_pure,Mx (n:=9999) huk,hfk]
  | none=>
    rw [hs] at hx;simp only at hx;have hf:=Vy (n:=n) ms.toList es 0 (by simpa using hl) (fun j m x hj=>by simpa using hks j m x hj) hs
    have hfk:(Instr.findKey kt (.string ⟨n.toArray⟩) ms.toList).run P w = .ok none w:=by
      unfold Instr.findKey;rw [Sem.run_bind,Bh huk];simp only [Result.andThen_ok,hf,Sem.run_pure]
    obtain ⟨z,hz1,hz2,hz3⟩:=Aak (hT et te hte) w;have hz4:=hz3 g w;rw [hx] at hz4
    have hna:∀vs,z≠.agg vs:=by
      rintro vs rfl;obtain ⟨it,hit,_,_,zv,hzv,_⟩:=(hT et te hte).info;have hzz:(zeroValue et).run P w = .ok zv w:=by simp [zeroValue,Ui hit,hzv]
      rw [hzz] at hz1;cases hz1
      simp [iD,hit,hzv] at hzs
    have hcell:z.cells = #[z]:=by cases z <;> first | rfl | exact absurd rfl (hna _)
    rw [hcell] at hz4;refine ⟨z,hz4.2 0 x rfl,?_,?_⟩ <;> simp [Instr.lookup,Sem.run_bind,Bh hu,Result.andThen_ok,hget,Sem.run_pure,Mx (n:=9999) huk,hfk,hz1]

theorem yR {g:Gh}{w:World}{v:Value}{y:AV}{o:Bool}(hv:Rep g w v y):Rep g w (.tuple #[v,.bool o]) (.tuple [y,.bool o]):=.tuple _ _ rfl fun j z hj=>by
 match j,hj with
 | 0,hj=>cases hj;exact hv
 | 1,hj=>cases hj;exact .bool _
 | j+2,hj=>cases hj

theorem vA {t:TypeId}{m k:Operand}{kt et:Nat}{td tk te:TD}{n:List UInt8}{es:List (List UInt8×AV)}{x:AV}(hT:Kh P T)(ht:Bt T t=some td)(hk:td.kind = .map kt et)(htk:Bt T kt=some tk)(hkk:tk.kind = .str)
    (hte:Bt T et=some te) (hzs:iD P et=true) (hm:ρ m = .smapv es) (hkey:ρ k = .str n) (hx:match Ny es n with | some y=>y=x | none=>te.zero = [x]):D1 P ⟨d,.lookup t m k false,ty,pos,aft,gd⟩ ρ K x:=
  .of_run fun g w a hr=>by
    have h1:=(hm▸hr m (by simp [Op.operands]):Rep g w _ _);have h2:=(hkey▸hr k (by simp [Op.operands]):Rep g w _ _).inv_str.1;generalize he:a.eval m=vm at h1;cases h1 with
    | smapv b ms clock _ hg hb hheap hl hks hvs=>
      obtain ⟨v,hv,h3,_⟩:=fR hT ht hk htk hkk hte hzs hheap hl hks hvs hx;exact ⟨v,by simp only [execOp,he,h2,h3,Sem.run_bind,Result.andThen_ok,Sem.run_pure],hv⟩

theorem jX {t:TypeId}{m k:Operand}{kt et:Nat}{td tk te:TD}{n:List UInt8}{es:List (List UInt8×AV)}{x:AV}{ok:Bool}(hT:Kh P T)(ht:Bt T t=some td)(hk:td.kind = .map kt et)(htk:Bt T kt=some tk)(hkk:tk.kind = .str)
    (hte:Bt T et=some te) (hzs:iD P et=true) (hm:ρ m = .smapv es) (hkey:ρ k = .str n) (hx:match Ny es n with | some y=>y=x | none=>te.zero = [x]) (hok:(Ny es n).isSome=ok):D1 P ⟨d,.lookup t m k true,ty,pos,aft,gd⟩ ρ K (.tuple [x,.bool ok]):=
  .of_run fun g w a hr=>by
    subst hok;have h1:=(hm▸hr m (by simp [Op.operands]):Rep g w _ _);have h2:=(hkey▸hr k (by simp [Op.operands]):Rep g w _ _).inv_str.1;generalize he:a.eval m=vm at h1;cases h1 with
    | smapv b ms clock _ hg hb hheap hl hks hvs=>
      obtain ⟨v,hv,_,h3⟩:=fR hT ht hk htk hkk hte hzs hheap hl hks hvs hx;exact ⟨_,by simp only [execOp,he,h2,h3,Sem.run_bind,Result.andThen_ok,Sem.run_pure],yR hv⟩

theorem P_slookOk {t:TypeId}{m k:Operand}{kt et b i:Nat}{td tk te:TD}{n:List UInt8}{es:List (List UInt8×AV)}{x:AV}{ok:Bool}(hT:Kh P T)(ht:Bt T t=some td)(hk:td.kind = .map kt et)(htk:Bt T kt=some tk)(hkk:tk.kind = .str)
  (hte:Bt T et=some te) (hzs:iD P et=true) (hm:ρ m = .val (.map (some b))) (hkey:ρ k = .str n) (hx:match Ny es n with | some y=>y=x | none=>te.zero = [x]) (hok:(Ny es n).isSome=ok) :
  D1 P ⟨d,.lookup t m k true,ty,pos,aft,gd⟩ ρ (fun H=>H[i]? = some (.smap b es)) (.tuple [x,.bool ok]):=by
 subst hok;intro g w a H next Q hr hHK hH hn
 have h1:=(hm▸hr m (by simp [Op.operands]):Rep g w _ _).inv_val;have h2:=(hkey▸hr k (by simp [Op.operands]):Rep g w _ _).inv_str.1;obtain ⟨hg,ms,clock,hheap,hl,hks,hvs⟩:=hHK.ok _ (Ak hH);obtain ⟨v,hv,_,h3⟩:=fR (g:=g) hT ht hk htk hkk hte hzs hheap hl hks hvs hx;unfold Oper.wp;simp only [execOp,h1,h2,h3,Sem.run_bind,Result.andThen_ok,Sem.run_pure];exact hn g w _ (yR hv) hHK (Ext.refl g w)
end

def Ty (ns:List (List UInt8)):List (List UInt8×AV):=ns.zipIdx.map fun p=>(p.1,.int .i64 (p.2:Int))
theorem smI_go (n:List UInt8):∀(ns:List (List UInt8)) (i:Nat),Ny ((ns.zipIdx i).map fun p=>(p.1,AV.int .i64 (p.2:Int))) n=if ns.contains n then some (.int .i64 ((i+ns.idxOf n:Nat):Int)) else none
  | [],i=>rfl
  | a::r,i=>by
    have ih:=smI_go n r (i+1);rw [List.zipIdx_cons,Ao,Ny,gI];by_cases h:a=n
    . subst h;simp
    . have hb:(n==a)=false:=by rw [Hz];exact fun e=>h e.symm
      have hb2:(a==n)=false:=by rw [Hz];exact h
      rw [if_neg h,ih,hb,Ky,List.idxOf_cons,hb2];cases hc:r.contains n with
      | false=>rfl
      | true=>simp only [if_true,cond_false];exact congrArg (fun k:Nat=>some (AV.int .i64 (k:Int))) (by omega)
theorem uD (ns:List (List UInt8))(n:List UInt8):Ny (Ty ns) n=if ns.contains n then some (.int .i64 (ns.idxOf n:Int)) else none:=by
 unfold Ty;rw [smI_go,Eb]
theorem Xz (ns:List (List UInt8))(n:List UInt8){te:TD}(h:te.zero = [.int .i64 0]):match Ny (Ty ns) n with | some y=>y = .int .i64 (if ns.contains n then (ns.idxOf n:Int) else 0) | none=>te.zero = [.int .i64 (if ns.contains n then (ns.idxOf n:Int) else 0)]:=by
 rw [uD];by_cases hc:ns.contains n=true
 . rw [if_pos hc,if_pos hc]
 rw [if_neg hc,if_neg hc];exact h
theorem smI_is (ns:List (List UInt8))(n:List UInt8):(Ny (Ty ns) n).isSome=ns.contains n:=by
 rw [uD];cases ns.contains n <;> rfl
theorem smI_add (ns:List (List UInt8))(n:List UInt8):Ty ns ++ [(n,.int .i64 (ns.length:Int))]=Ty (ns ++ [n]):=by
 unfold Ty;rw [List.zipIdx_append];simp
theorem smI_new {ns:List (List UInt8)}{n:List UInt8}(h:ns.contains n=false):Ny (Ty ns) n=none:=by rw [uD,h];rfl
end Go.Aw
