/-
  The abstract layer: abstract values, what represents them, states, operations, code, calls. No condition.
-/
import Derived.Test.YtibcelnfkhdjaaaGreatDoorAw
set_option linter.unusedVariables false
set_option linter.unusedSimpArgs false
namespace Go.Aw

section
variable {P:Program} {T:List (Nat×TD)} {d:Option Nat} {ty:TypeId} {pos:String} {aft:Array Edge} {gd:Option (Nat×Bool)} {ρ:Operand->AV} {K:List HO->Prop}

theorem lY {x:Operand}{s t' e k b o TT:Nat}{te:TD}{cs:List AV}(hT:H6 P T)(hs:P.underlying s=some (.pointer e))(hd:P.underlying t'=some .unsafePointer)(hte:Bl T e=some te)(hz:Nat.beq te.size 0=false)
  (hx:ρ x = .val (.pointer (some ⟨b,o,none⟩))) (ho:Nat.blt o cs.length=true) :
  Db P ⟨d,.convert s t' x,ty,pos,aft,gd⟩ ρ (fun H=>H[k]? = some (.box b TT cs)) (.val (.pointer (some ⟨b,o,none⟩))):=by
 obtain ⟨it,hit,his,_⟩:=(hT e te hte).info;exact qL hs hd hit (by rw [his];exact hz) hx ho
theorem fW {x:Operand}{s t' e k b o TT n:Nat}{te:TD}{cs:List AV}(hT:H6 P T)(hs:P.underlying s=some .unsafePointer)(hd:P.underlying t'=some (.pointer e))(hte:Bl T e=some te)(hn':cs.length=n)
  (hl:liesAt P P.depth TT (n / P.cellsOf TT) o e 1=true) (hx:ρ x = .val (.pointer (some ⟨b,o,none⟩))) :
  Db P ⟨d,.convert s t' x,ty,pos,aft,gd⟩ ρ (fun H=>H[k]? = some (.box b TT cs)) (.val (.pointer (some ⟨b,o,none⟩))):=by
 obtain ⟨it,hit,_⟩:=(hT e te hte).info;exact jD hs hd hit hn' hl hx

theorem aG {x:Operand}{lo hi:Option Operand}{t e z b o n c:Nat}{td te:TD}{l h o':Nat}(hT:H6 P T)(hx:ρ x = .val (.slice (some ⟨b,o,none⟩) n c))(ht:Bl T t=some td)(hk:td.kind = .slice e)(hte:Bl T e=some te)(hz:te.size=z)
    (hlo:match lo with | none=>l=0 | some y=>∃k,ρ y = .int k (l:Int)) (hhi:match hi with | none=>h=n | some y=>∃k,ρ y = .int k (h:Int)) (h1:l<=h) (h2:h<=n) (h3:n<=c) (hlc:l<c) (ho:o+l*z=o') :
    Db P ⟨d,.slice t x lo hi none,ty,pos,aft,gd⟩ ρ K (.val (.slice (some ⟨b,o',none⟩) (h-l) (c-l))):=
  .of_run fun g w a hr=>by
    have e1:=(hx▸hr x (by simp [Op.operands]):Rep g w _ _).inv_val;have hu:=Ee (hT t td ht) hk;have hsz:=F0 (hT e te hte) w;subst ho
    have e2:∀v,lo.map a.eval=some v->∃k,v = .int k (l:Int):=fun v hv=>by
      cases lo with
      | none=>cases hv
      | some y=>
        obtain ⟨k,hk⟩:=hlo;simp only [Hv,Option.some.injEq] at hv;subst hv;exact ⟨k,(hk▸hr y (by simp [Op.operands]):Rep g w _ _).inv_int⟩
    have e3:∀v,hi.map a.eval=some v->∃k,v = .int k (h:Int):=fun v hv=>by
      cases hi with
      | none=>cases hv
      | some y=>
        obtain ⟨k,hk⟩:=hhi;simp only [Hv,Option.some.injEq] at hv;subst hv;exact ⟨k,(hk▸hr y (by simp [Op.operands]):Rep g w _ _).inv_int⟩
    have key:(Instr.sliceBounds true n c (lo.map a.eval) (hi.map a.eval) none).run P w = .ok (l,h,c) w:=by
      unfold Instr.sliceBounds;simp only [Sem.run_bind,Sem.run_pure,Result.andThen_ok];cases hh:hi.map a.eval with
      | none=>
        have:h=n:=by cases hi with | none=>exact hhi | some y=>cases hh
        subst this;simp only [Sem.run_pure,Result.andThen_ok];cases hl:lo.map a.eval with
        | none=>
          have:l=0:=by cases lo with | none=>exact hlo | some y=>cases hl
          subst this;rfl
        | some v=>obtain ⟨k,rfl⟩:=e2 v hl;simp [Ei (P:=P) (k:=k) (n:=(l:Int)) (y:=h) (by omega) (by omega)]
      | some v=>
        obtain ⟨k,rfl⟩:=e3 v hh;simp only [Ei (P:=P) (k:=k) (n:=(h:Int)) (y:=c) (by omega) (by omega),Sem.run_bind,Result.andThen_ok,Sq];cases hl:lo.map a.eval with
        | none=>
          have:l=0:=by cases lo with | none=>exact hlo | some y=>cases hl
          subst this;rfl
        | some v=>obtain ⟨k,rfl⟩:=e2 v hl;simp [Ei (P:=P) (k:=k) (n:=(l:Int)) (y:=h) (by omega) (by omega)]
    refine ⟨_,?_,.val _⟩;have hne:¬c=l:=by omega
    simp only [execOp,e1,Instr.sliceAt,Sem.run_bind,A8 hu,Result.andThen_ok,Instr.slice,Option.map_none,key,hsz,hz,Sem.run_pure,if_neg hne,Hv,Fb]

theorem wT {x y:Operand}{t u e k b o o2 dn dc sn sc m TT:Nat}{td te:TD}{cs cs':List AV}{H H2:List HO}(hT:H6 P T)(hx:ρ x = .val (.slice (some ⟨b,o,none⟩) dn dc))(hy:ρ y = .val (.slice (some ⟨b,o2,none⟩) sn sc))(ht:Bl T t=some td)(hk:td.kind = .slice e)
  (hte:Bl T e=some te) (hz:te.size=1) (hH:H[k]? = some (.box b TT cs)) (hsc:Au cs=true) (hm:Nat.min sn dn=m) (h1:o+m<=cs.length) (h2:o2+m<=cs.length) (hcs:Gb cs o ((cs.drop o2).take m)=cs') (hH2:H.set k (.box b TT cs')=H2) :
  L7 P ⟨d,.call ⟨.builtin .copy,#[x,y],#[t,u]⟩,ty,pos,aft,gd⟩ ρ H (fun r H'=>r = .int .i64 (m:Int)/\H'=H2):=by
 subst hH2;subst hcs;intro g w a next Q hr hHK hn
 have e1:=(hx▸hr x (by simp [Op.operands,Call.operands]):Rep g w _ _).inv_val;have e2:=(hy▸hr y (by simp [Op.operands,Call.operands]):Rep g w _ _).inv_val;have hu:=Ee (hT t td ht) hk;obtain ⟨it,hit,his,_⟩:=(hT e te hte).info;obtain ⟨hg,vs,h5,h6⟩:=hHK.ok _ (Aj hH)
 have hone:∀v∈vs.toList,v.oneCell'=true:=fun v hv=>by
  obtain ⟨i,hi⟩:=List.getElem?_of_mem hv;have hi':vs[i]? = some v:=by simpa using hi
  have hil:i<cs.length:=by rw [<-h6.1];exact (Array.getElem?_eq_some_iff.1 hi').1
  have hr7:=h6.2 i _ (List.getElem?_eq_getElem hil);have:vs.getD i undef=v:=by rw [Ct,hi'];rfl
  rw [this] at hr7;exact Sg hr7 (Ml hsc _ (Ub hil))
 have hnl:((vs.toList.drop o2).take m).length=m:=by rw [Df,C4,W0,h6.1];omega
 have hrun:=run_copy_row (P:=P) w t u ty e b o dn dc ⟨b,o2,none⟩ sn sc vs TT ((vs.toList.drop o2).take m) hu (by rw [hit];simp [his,hz]) h5 (by rw [hnl];exact hm.symm) (fun j v hj=>by
   rw [Fb,Bj h5];rw [List.getElem?_take] at hj;split at hj
   . rw [List.getElem?_drop] at hj;simpa using hj
   cases hj) (by rw [hnl,h6.1];exact h1) (fun v hv=>hone v (List.mem_of_mem_drop (List.mem_of_mem_take hv)))
 rw [hnl] at hrun;have hx:Ext g w g (w.setRow b (vs.toList.take o++(vs.toList.drop o2).take m++vs.toList.drop (o+m)).toArray):=Ext.setRow hg;unfold Oper.wp
 rw [Fu (v:=goInt m) (w':=w.setRow b (vs.toList.take o++(vs.toList.drop o2).take m++vs.toList.drop (o+m)).toArray) (by
  have:(#[x,y]:Array Operand).map a.eval = #[a.eval x,a.eval y]:=by simp
  rw [this,e1,e2];simp only [builtin,Sem.run_bind,hrun,Result.andThen_ok,Sem.run_pure])]
 refine hn g _ _ _ _ ⟨rfl,rfl⟩ (.int _ _) (hHK.set hx hH (fun b' hb'=>.inl hb') ⟨hg,_,setRow_heap w b vs _ TT (0,0) h5,?_⟩ ?_) hx
 .
  have hml:((cs.drop o2).take m).length=m:=by rw [Df,C4];omega
  have r1:=((h6.take o).append ((h6.drop o2).take m)).append (h6.drop (o+((cs.drop o2).take m).length));rw [hml] at r1
  have e9:(vs.toList.take o++(vs.toList.drop o2).take m++vs.toList.drop (o+m)).toArray=(vs.toList.take o).toArray++(((vs.toList.drop o2).toArray).toList.take m).toArray++(vs.toList.drop (o+m)).toArray:=by
   apply Pp.1;simp
  unfold Gb;rw [hml];have r3:=r1.mono hx;rw [<-e9] at r3;exact r3
 intro c _ hne _;exact ⟨rfl,setRow_other w b c _ (fun e=>hne (by rw [e];rfl))⟩
theorem zO {x y:Operand}{t u e k b o dn dc m TT:Nat}{td te:TD}{es:List (List AV)}{cs cs':List AV}{H H2:List HO}(hT:H6 P T)(hx:ρ x = .val (.slice (some ⟨b,o,none⟩) dn dc))(hy:ρ y = .sl 1 es)(ht:Bl T t=some td)(hk:td.kind = .slice e)
  (hte:Bl T e=some te) (hz:te.size=1) (hH:H[k]? = some (.box b TT cs)) (hne:es≠[]) (hs:∀c∈es,Au c=true) (hm:Nat.min es.length dn=m) (h1:o+m<=cs.length) (hcs:Gb cs o (es.flatten.take m)=cs') (hH2:H.set k (.box b TT cs')=H2) :
  L7 P ⟨d,.call ⟨.builtin .copy,#[x,y],#[t,u]⟩,ty,pos,aft,gd⟩ ρ H (fun r H'=>r = .int .i64 (m:Int)/\H'=H2):=by
 subst hH2;subst hcs;intro g w a next Q hr hHK hn
 have e1:=(hx▸hr x (by simp [Op.operands,Call.operands]):Rep g w _ _).inv_val;have r2:=(hy▸hr y (by simp [Op.operands,Call.operands]):Rep g w _ _);obtain ⟨a2,sn,sc,e2,h22,_⟩:=r2.inv_sl;rw [e2] at r2;obtain ⟨_,hz2,b2,o2,hb2,news,n1,n2,n3,n4⟩:=Mb r2 (Nat.zero_lt_one) hs hne;subst hb2;have hu:=Ee (hT t td ht) hk;obtain ⟨it,hit,his,_⟩:=(hT e te hte).info;obtain ⟨hg,vs,h5,h6⟩:=hHK.ok _ (Aj hH)
 have hnl:(news.take m).length=m:=by
  have hle:m<=es.length:=hm▸Nat.min_le_left _ _;rw [Df,n1];omega
 have hrun:=run_copy_row (P:=P) w t u ty e b o dn dc ⟨b2,o2,none⟩ sn sc vs TT (news.take m) hu (by rw [hit];simp [his,hz]) h5 (by rw [hnl,h22];exact hm.symm) (fun j v hj=>by
   rw [List.getElem?_take] at hj;split at hj
   . rw [Fb];exact (n4 j v hj).2
   cases hj) (by rw [hnl,h6.1];exact h1) (fun v hv=>n3 v (List.mem_of_mem_take hv))
 rw [hnl] at hrun;have hx:Ext g w g (w.setRow b (vs.toList.take o++news.take m++vs.toList.drop (o+m)).toArray):=Ext.setRow hg;unfold Oper.wp
 rw [Fu (v:=goInt m) (w':=w.setRow b (vs.toList.take o++news.take m++vs.toList.drop (o+m)).toArray) (by
  have:(#[x,y]:Array Operand).map a.eval = #[a.eval x,a.eval y]:=by simp
  rw [this,e1,e2];simp only [builtin,Sem.run_bind,hrun,Result.andThen_ok,Sem.run_pure])]
 refine hn g _ _ _ _ ⟨rfl,rfl⟩ (.int _ _) (hHK.set hx hH (fun b' hb'=>.inl hb') ⟨hg,_,setRow_heap w b vs _ TT (0,0) h5,?_⟩ ?_) hx
 .
  have hfl:es.flatten.length=sn:=by rw [Ds hz2,h22,Nat.mul_one]
  have hle:m<=es.length:=hm▸Nat.min_le_left _ _;have hml:(es.flatten.take m).length=m:=by rw [Df,hfl];omega
  have r1:=((h6.take o).append (n2.take m)).append (h6.drop (o+(es.flatten.take m).length));rw [hml] at r1
  have e9:(vs.toList.take o++news.take m++vs.toList.drop (o+m)).toArray=(vs.toList.take o).toArray++((news.toArray).toList.take m).toArray++(vs.toList.drop (o+m)).toArray:=by
   apply Pp.1;simp
  unfold Gb;rw [hml];have r3:=r1.mono hx;rw [<-e9] at r3;exact r3
 intro c _ hne _;exact ⟨rfl,setRow_other w b c _ (fun e=>hne (by rw [e];rfl))⟩
end

theorem GS.perm {sl:List (Nat×AV)}{H H2:List HO}{n:Nat}(h:H.Perm H2):GS ⟨sl,H,n⟩ ⟨sl,H2,n⟩:=fun g _ w hG=>
 ⟨g,⟨hG.size,hG.defers,hG.sl,hG.heap.perm h⟩,Ext.refl g w⟩
end Go.Aw
namespace Go.Aw

section
variable {P:Program} {T:List (Nat×TD)} {d:Option Nat} {ty:TypeId} {pos:String} {aft:Array Edge} {gd:Option (Nat×Bool)} {ρ:Operand->AV}

end
end Go.Aw
namespace Go.Aw

section
variable {P:Program} {T:List (Nat×TD)} {d:Option Nat} {ty:TypeId} {pos:String} {aft:Array Edge} {gd:Option (Nat×Bool)} {ρ:Operand->AV}

theorem lS {x y:Operand}{t e k z:Nat}{td te:TD}{v:Value}{es:List (List AV)}{c:List AV}{H:List HO}(hT:H6 P T)(hx:ρ x = .val v)(hy:ρ y = .sl z [c])(ht:Bl T t=some td)(hk:td.kind = .slice e)
  (hte:Bl T e=some te) (hz:te.size=z) (hp:Nat.blt 0 z=true) (hH:H[k]? = some (.buf v es e z)) (hs:Au c=true) (hb:(es.length+1)*te.bytes<=140737488355328) (hm:es.length+1<=maxLen) :
  L7 P ⟨d,.call ⟨.builtin .append,#[x,y],#[t,t]⟩,ty,pos,aft,gd⟩ ρ H (fun r H'=>∃v',r = .val v'/\H'=H.set k (.buf v' (es ++ [c]) e z)):=by
 intro g w a next Q hr hHK hn
 have hpos:0<z:=by simpa using hp
 have e1:=(hx▸hr x (by simp [Op.operands,Call.operands]):Rep g w _ _).inv_val;have r2:=(hy▸hr y (by simp [Op.operands,Call.operands]):Rep g w _ _);have hu:=Ee (hT t td ht) hk;obtain ⟨it,hit,his,hib,zv,hzv,hzs,_⟩:=(hT e te hte).info;have hok:=hHK.ok _ (Aj hH);obtain ⟨a2,m,c2,h21,h22,h23,h24,_⟩:=r2.inv_sl;have hm1:m=1:=h22;subst hm1
 have fin:∀v' g' w',(Builtin.append_ #[t,t] ty #[a.eval x,a.eval y]).run P w = .ok v' w'->HOK g' w' (H.set k (.buf v' (es ++ [c]) e z))->Ext g w g' w'->Oper.wp P ⟨d,.call ⟨.builtin .append,#[x,y],#[t,t]⟩,ty,pos,aft,gd⟩ a w next Q:=by
  intro v' g' w' hrun hok' hext;unfold Oper.wp
  rw [Fu (v:=v') (w':=w') (by
   have:(#[x,y]:Array Operand).map a.eval = #[a.eval x,a.eval y]:=by simp
   rw [this];simp only [builtin,Sem.run_bind,hrun,Result.andThen_ok,Sem.run_pure])]
  exact hn g' w' v' _ _ ⟨v',rfl,rfl⟩ (.val _) hok' hext
 rw [h21] at r2;obtain ⟨_,hz2,b2,o2,hb2,news,n1,n2,n3,n4⟩:=Mb r2 hpos (by simpa using hs) (by simp);subst hb2;have hnews:∀j u,news[j]? = some u->w.cell? ((⟨b2,o2,none⟩:Addr).add j)=some u:=fun j u hj=>by rw [Fb];exact (n4 j u hj).2
 have hsz:it.size=z:=by rw [his,hz]
 have hnl:news.length=1*it.size:=by rw [n1,hsz]
 have hnz:news.length=z:=by rw [n1,Nat.one_mul]
 have hmax:maxLen=9223372036854775807:=rfl;have hcz:c.length=z:=hz2 c (by simp);have hlen:(es ++ [c]).length=es.length+1:=by simp
 rcases hok with ⟨rfl,h0⟩ | ⟨b,cap,cur,rfl,hg,hcur,hcsz,hcap,hcmax,hz1,hrep⟩
 .
  subst h0;simp only [Du,Bi,Do] at hb hm fin ⊢;have hbb:1*it.bytes<=281474976710656:=by rw [hib];omega
  have hrun:=run_append_nil (P:=P) w t ty e it zv hu hit hzv ⟨b2,o2,none⟩ 1 c2 news hnl hnews (by omega) (by omega) hbb;have hext:Ext g w (g.put w.heap.size (some 0)) (w.drew.alloc (.cells (news.toArray++Builtin.zeroCells zv.cells (grownCap w 1 0 e-1)) e)):=(Ext.drew g w).trans (Ext.alloc g w.drew _ _);have hcapm:1<=grownCap w 1 0 e:=grownCap_ge w 1 0 e;have hcapM:=grownCap_le_maxLen w 1 0 e (by omega);refine fin _ (g.put w.heap.size (some 0)) _ (by rw [e1,h21];exact hrun) ?_ hext;refine hHK.set hext hH (fun b hb=>?_) (.inr ⟨w.heap.size,grownCap w 1 0 e,_,rfl,Gh.Aaw _ _ _,Ce w.drew _,?_,hcapm,hcapM,by simpa using hcz,fun i x hi=>?_⟩) (fun c hc _ _=>?_)
  . simp only [HO.blk,Option.some.injEq] at hb;exact .inr (by omega)
  .
   simp only [L3,I8,n1,size_zeroCells,hzs,hz,Nat.sub_mul];have:=Hw z hcapm;omega
  .
   have h3:=(n2.mono hext).2 i x hi
   have hlt:i<news.length:=by
    have:=(List.getElem?_eq_some_iff.1 hi).1;simp only [Bd,Bs,A3] at this;omega
   have e2:(news.toArray++Builtin.zeroCells zv.cells (grownCap w 1 0 e-1)).getD i undef=news.toArray.getD i undef:=by
    rw [Ct,Ct,Array.getElem?_append_left (by simpa using hlt)]
   rw [e2];exact h3
  exact ⟨Gh.Aa0 _ _ (by omega),Gf w.drew _ hc⟩
 have hfl:es.flatten.length=es.length*z:=by rw [Ds hz1]
 have hle:es.length*z<=cur.size:=by rw [hcsz];exact Hw z hcap
 have hzall:∀x∈es ++ [c],x.length=z:=fun x hx=>by
  rcases Gd.1 hx with h | h
  . exact hz1 x h
  exact hz2 x h
 have rl1:Di g w (cur.toList.take (es.length*z)).toArray es.flatten:=by
  refine ⟨by simp [hfl];omega,fun i x hi=>?_⟩;have hlt:=(List.getElem?_eq_some_iff.1 hi).1;have h3:=hrep i x hi
  have e2:(cur.toList.take (es.length*z)).toArray.getD i undef=cur.getD i undef:=by
   simp only [Ct,List.getElem?_toArray,List.getElem?_take,Array.getElem?_toList];rw [if_pos (by omega)]
  rw [e2];exact h3
 have hrl:Di g w ((cur.toList.take (es.length*z)).toArray++news.toArray) (es ++ [c]).flatten:=by
  rw [aB];exact rl1.append n2
 have htk:(cur.toList.take (es.length*z)).length=es.length*z:=by simp;omega
 have hfl2:(es ++ [c]).flatten.length=es.length*z+z:=by rw [Ds hzall,hlen,Ij,Nat.one_mul]
 by_cases hroom:es.length+1<=cap
 .
  have hfit:es.length*it.size+news.length<=cur.size:=by
   rw [hsz,n1,hcsz,<-Ij];exact Hw z hroom
  have hrun:=run_append_room (P:=P) w t ty e it hu hit b es.length cap cur hcur ⟨b2,o2,none⟩ 1 c2 news hnl hnews n3 hroom hfit;rw [hsz] at hrun hfit;have hnew:=setRow_heap w b cur (cur.toList.take (es.length*z)++news++cur.toList.drop (es.length*z+news.length)).toArray e (0,0) hcur;have hext:Ext g w g (w.setRow b (cur.toList.take (es.length*z)++news++cur.toList.drop (es.length*z+news.length)).toArray):=Ext.setRow hg;refine fin _ g _ (by rw [e1,h21];exact hrun) ?_ hext;refine hHK.set hext hH (fun b' hb'=>.inl hb') (.inr ⟨b,cap,_,by rw [hlen],hg,hnew,?_,by rw [hlen];exact hroom,hcmax,hzall,fun i x hi=>?_⟩) (fun c hc hne _=>?_)
  . simp only [I8,Ao,Df,C4,W0];omega
  .
   have h3:=(hrl.mono hext).2 i x hi;have hlt:=(List.getElem?_eq_some_iff.1 hi).1
   have e2:(cur.toList.take (es.length*z)++news++cur.toList.drop (es.length*z+news.length)).toArray.getD i undef=((cur.toList.take (es.length*z)).toArray++news.toArray).getD i undef:=by
    have e3:(cur.toList.take (es.length*z)++news++cur.toList.drop (es.length*z+news.length)).toArray=((cur.toList.take (es.length*z)).toArray++news.toArray)++(cur.toList.drop (es.length*z+news.length)).toArray:=by
     apply Pp.1;simp
    rw [e3,Ct,Ct,Array.getElem?_append_left (by simp only [L3,I8];omega)]
   rw [e2];exact h3
  exact ⟨rfl,setRow_other w b c _ (fun h=>hne (by rw [h];rfl))⟩
 have hg':cap<es.length+1:=by omega
 have hfit:Builtin.nextslicecap (es.length+1) cap*it.bytes<=281474976710656:=growslice_fits hg' (by rw [hib];exact hb);have hol:(cur.toList.take (es.length*z)).length=es.length*it.size:=by rw [htk,hsz]
 have holds:∀j u,(cur.toList.take (es.length*z))[j]? = some u->w.cell? ((⟨b,0,none⟩:Addr).add j)=some u:=fun j u hj=>by
  rw [Fb,Do,Bj hcur];rw [List.getElem?_take] at hj;split at hj
  . simpa using hj
  cases hj
 have hrun:=run_append_grow (P:=P) w t ty e it zv hu hit hzv ⟨b,0,none⟩ es.length cap (cur.toList.take (es.length*z)) hol holds ⟨b2,o2,none⟩ 1 c2 news hnl hnews hg' (by omega) hfit;have hext:Ext g w (g.put w.heap.size (some 0)) (w.drew.alloc (.cells ((cur.toList.take (es.length*z)).toArray++news.toArray++Builtin.zeroCells zv.cells (grownCap w (es.length+1) cap e-(es.length+1))) e)):=(Ext.drew g w).trans (Ext.alloc g w.drew _ _);have hcapm:=grownCap_ge w (es.length+1) cap e;have hcapM:=grownCap_le_maxLen w (es.length+1) cap e (by omega);refine fin _ (g.put w.heap.size (some 0)) _ (by rw [e1,h21];exact hrun) ?_ hext;refine hHK.set hext hH (fun b' hb'=>?_) (.inr ⟨w.heap.size,grownCap w (es.length+1) cap e,_,by rw [hlen],Gh.Aaw _ _ _,Ce w.drew _,?_,by rw [hlen];exact hcapm,hcapM,hzall,fun i x hi=>?_⟩) (fun c hc _ _=>?_)
 . simp only [HO.blk,Option.some.injEq] at hb';exact .inr (by omega)
 .
  simp only [L3,I8,n1,size_zeroCells,hzs,hz,Nat.sub_mul,hol,hsz];have:=Hw z hcapm;rw [Ij] at this;rw [Ij];omega
 .
  have h3:=(hrl.mono hext).2 i x hi;have hlt:=(List.getElem?_eq_some_iff.1 hi).1
  have e2:((cur.toList.take (es.length*z)).toArray++news.toArray++Builtin.zeroCells zv.cells (grownCap w (es.length+1) cap e-(es.length+1))).getD i undef=((cur.toList.take (es.length*z)).toArray++news.toArray).getD i undef:=by
   rw [Ct,Ct,Array.getElem?_append_left (by simp only [L3,I8];omega)]
  rw [e2];exact h3
 exact ⟨Gh.Aa0 _ _ (by omega),Gf w.drew _ hc⟩
theorem GS.buf {sl:List (Nat×AV)}{H:List HO}{n:Nat}(E z:Nat):GS ⟨sl,H,n⟩ ⟨sl,.buf (.slice none 0 0) [] E z::H,n⟩:=fun g a w hG=>
 ⟨g,⟨hG.size,hG.defers,hG.sl,hG.heap.cons (.inl ⟨rfl,rfl⟩) (fun b hb=>by simp [HO.blk] at hb)⟩,Ext.refl g w⟩

theorem GS.freezeBuf {sl:List (Nat×AV)}{H:List HO}{n t:Nat}{v:Value}{es:List (List AV)}{E z:Nat}(k:Nat)(h:get sl t = .val v)(hk:H[k]? = some (.buf v es E z)):GS ⟨sl,H,n⟩ ⟨(t,.sl z es)::sl,H.eraseIdx k,n⟩:=fun g a w hG=>by
 have hok:=hG.heap.ok _ (Aj hk);have hv:=(h▸hG.sl t:Rep g w _ _).inv_val;rcases hok with ⟨rfl,rfl⟩ | ⟨b,cap,cur,rfl,hg,hcur,hcsz,hcap,hcmax,hz1,hrep⟩
 .
  refine ⟨g,⟨hG.size,hG.defers,fun i=>?_,hG.heap.sub (Z8 ..)⟩,Ext.refl g w⟩;show Rep _ w _ (get ((t,AV.sl z [])::sl) i);rw [E3];split
  . rename_i e;subst e;rw [hv];exact .sl0 _ _ _ (A7 _)
  exact hG.sl i
 have hx:Ext g w (g.put b none) w:=by
  refine ⟨rfl,rfl,rfl,Bc _,fun c hc hgc=>⟨?_,rfl⟩,fun c m hc hgc=>⟨fun m' hm=>?_,fun _ _=>rfl⟩⟩
  .
   by_cases e:c=b
   . subst e;exact Gh.Aaw _ _ _
   rw [Gh.Aa0 _ _ e];exact hgc
  by_cases e:c=b
  . subst e;rw [Gh.Aaw] at hm;cases hm
  rw [Gh.Aa0 _ _ e,hgc] at hm;cases hm;exact Bc _
 refine ⟨g.put b none,⟨hG.size,hG.defers,fun i=>?_,?_⟩,hx⟩
 .
  show Rep _ w _ (get ((t,AV.sl z es)::sl) i);rw [E3];by_cases e:t=i
  .
   subst e;simp only [if_true];rw [hv];refine .sl b 0 es.length cap z es rfl hcap hcmax hz1 (fun i j=>cur.getD (i*z+j) undef) (fun i e hi j y hj=>⟨by unfold D4;rw [Gh.Aaw];trivial,?_⟩) (fun i e hi j y hj=>?_)
   .
    have h3:=Hg hz1 hi hj
    have hlt:i*z+j<cur.size:=by
     have h4:=(List.getElem?_eq_some_iff.1 h3).1;rw [Ds hz1] at h4;have:=Hw z hcap;omega
    rw [Do,Bj hcur];simp [hlt]
   exact (hrep _ _ (Hg hz1 hi hj)).mono hx
  simp only [e,if_false];exact (hG.sl i).mono hx
 have hsub:(H.eraseIdx k).Sublist H:=Z8 ..;refine ⟨(hG.heap.sub hsub).nodup,fun o ho=>?_,hG.heap.glob.mono hx⟩;obtain ⟨j,hj⟩:=List.getElem?_of_mem ho;rw [List.getElem?_eraseIdx] at hj
 obtain ⟨j',hjk,hj'⟩:∃j',j'≠k/\H[j']? = some o:=by
  split at hj
  . exact ⟨j,by omega,hj⟩
  exact ⟨j+1,by omega,hj⟩
 have hok:=hG.heap.ok o (Aj hj');refine HO.ok_of_same hx hok fun c hc=>⟨Gh.Aa0 _ _ fun e=>hjk (hG.heap.nodup_blk hj' hk (e▸hc) rfl),rfl⟩
theorem Bt.buf {f:FuncId}{v:Value}{es:List (List AV)}{E z:Nat}{H:List HO}{args:List AV}{Q:AV->List HO->Prop}
  (h0:v = .slice none 0 0->es = []->Bt P f (.buf v es E z::H) args Q)
  (h1:∀b cap J,v = .slice (some ⟨b,0,none⟩) es.length cap->es.length<=cap->Bt P f (.box b E (es.flatten++J)::H) args (fun r H'=>∃es',H' = .box b E (es'.flatten++J)::H/\es'.length=es.length/\(∀e∈es',e.length=z)/\Q r (.buf v es' E z::H))) :
  Bt P f (.buf v es E z::H) args Q:=by
 intro g w vs hH hA;have hok:=hH.ok _ (I7 ..);rcases hok with ⟨e1,e2⟩ | ⟨b,cap,cur,e1,hg,hcur,hcsz,hcap,hcmax,hz1,hrep⟩
 . exact h0 e1 e2 g w vs hH hA
 have hfl:es.flatten.length=es.length*z:=Ds hz1;have hle:es.length*z<=cur.size:=by rw [hcsz];exact Hw z hcap
 have hbox:HOK g w (.box b E (es.flatten++List.replicate (cur.size-es.length*z) .junk)::H):=by
  have hb1:(HO.buf v es E z).blk=some b:=by rw [e1];rfl
  refine ⟨?_,fun o ho=>?_,hH.glob⟩
  .
   have:=hH.nodup;simp only [L5,hb1] at this;simpa [L5,HO.blk] using this
  rcases Cn.1 ho with rfl | ho
  .
   refine ⟨hg,cur,hcur,by simp [hfl];omega,fun i x hi=>?_⟩;rw [List.getElem?_append] at hi;split at hi
   . exact hrep i x hi
   have:=List.eq_of_mem_replicate (Aj hi);rw [this];exact .junk _
  exact hH.ok o (Ha _ ho)
 have h1':=h1 b cap (List.replicate (cur.size-es.length*z) .junk) e1 hcap g w vs hbox hA;refine h1'.mono ?_;rintro e w' ⟨r,g',x,H',rfl,k1,k2,k3,es',rfl,k5,k6,k7⟩;refine ⟨r,g',x,_,rfl,k1,?_,k3,k7⟩;obtain ⟨b1,vs',b2,b3⟩:=k2.ok _ (I7 ..);have hfl':es'.flatten.length=es.length*z:=by rw [Ds k6,k5]
 have hvs:vs'.size=cap*z:=by
  rw [b3.1,Ao,L2,hfl',hcsz];have:=Hw z hcap;omega
 refine ⟨?_,fun o ho=>?_,k2.glob⟩
 .
  have:=k2.nodup;rw [e1];simpa [L5,HO.blk] using this
 rcases Cn.1 ho with rfl | ho
 .
  refine .inr ⟨b,cap,vs',by rw [e1,k5],b1,b2,hvs,by rw [k5];exact hcap,hcmax,k6,fun i x hi=>?_⟩;refine b3.2 i x ?_;rw [List.getElem?_append_left (List.getElem?_eq_some_iff.1 hi).1];exact hi
 exact k2.ok o (Ha _ ho)
end
end Go.Aw
namespace Go.Aw

section
variable {P:Program} {T:List (Nat×TD)} {d:Option Nat} {ty:TypeId} {pos:String} {aft:Array Edge} {gd:Option (Nat×Bool)} {ρ:Operand->AV}

end
end Go.Aw
namespace Go.Aw

theorem GS.freezeSMapCell {sl:List (Nat×AV)}{H H2:List HO}{n b bb TT:Nat}{es:List (List UInt8×AV)}{cs cs':List AV}(k j o:Nat)(hk:H[k]? = some (.smap b es))(hj:(H.eraseIdx k)[j]? = some (.box bb TT cs))(hc:cs[o]? = some (.val (.map (some b))))(hcs:cs.set o (.smapv es)=cs')
  (hH2:(H.eraseIdx k).set j (.box bb TT cs')=H2):GS ⟨sl,H,n⟩ ⟨sl,H2,n⟩:=fun g a w hG=>by
 subst hcs;subst hH2;obtain ⟨hg,ms,clock,h1,h2,h3,h4⟩:=hG.heap.ok _ (Aj hk)
 have hx:Ext g w (g.put b none) w:=by
  refine ⟨rfl,rfl,rfl,Bc _,fun c hc hgc=>⟨?_,rfl⟩,fun c m hc hgc=>⟨fun m' hm=>?_,fun _ _=>rfl⟩⟩
  .
   by_cases e:c=b
   . subst e;exact Gh.Aaw _ _ _
   rw [Gh.Aa0 _ _ e];exact hgc
  by_cases e:c=b
  . subst e;rw [Gh.Aaw] at hm;cases hm
  rw [Gh.Aa0 _ _ e,hgc] at hm;cases hm;exact Bc _
 have hv:Rep (g.put b none) w (.map (some b)) (.smapv es):=.smapv b ms clock es (Gh.Aaw _ _ _) (Array.getElem?_eq_some_iff.1 h1).1 h1 h2 h3 (fun i k x hi=>(h4 i k x hi).mono hx)
 have hH:HOK (g.put b none) w (H.eraseIdx k):=by
  have hsub:(H.eraseIdx k).Sublist H:=Z8 ..;refine ⟨(hG.heap.sub hsub).nodup,fun o ho=>?_,hG.heap.glob.mono hx⟩;obtain ⟨i,hi⟩:=List.getElem?_of_mem ho;rw [List.getElem?_eraseIdx] at hi
  obtain ⟨j',hjk,hj'⟩:∃j',j'≠k/\H[j']? = some o:=by
   split at hi
   . exact ⟨i,by omega,hi⟩
   exact ⟨i+1,by omega,hi⟩
  have hok:=hG.heap.ok o (Aj hj');refine HO.ok_of_same hx hok fun c hc=>⟨Gh.Aa0 _ _ fun e=>hjk (hG.heap.nodup_blk hj' hk (e▸hc) rfl),rfl⟩
 refine ⟨g.put b none,⟨hG.size,hG.defers,fun i=>(hG.sl i).mono hx,?_⟩,hx⟩;refine hH.set (Ext.refl _ w) hj (fun b h=>.inl h) ?_ (fun _ _ _ _=>⟨rfl,rfl⟩);obtain ⟨hg2,vs,hvs,hr⟩:=hH.ok _ (Aj hj);refine ⟨hg2,vs,hvs,by rw [Sr];exact hr.1,fun i x hi=>?_⟩;rw [List.getElem?_set] at hi;by_cases e:o=i
 .
  subst e;have hlt:=(List.getElem?_eq_some_iff.1 hc).1;simp only [if_true,hlt,Option.some.injEq] at hi;subst hi;have h5:=(hr.2 o _ hc).inv_val;rw [h5];exact hv
 rw [if_neg e] at hi;exact hr.2 i x hi
section
variable {P:Program} {T:List (Nat×TD)} {d:Option Nat} {ty:TypeId} {pos:String} {aft:Array Edge} {gd:Option (Nat×Bool)} {ρ:Operand->AV} {K:List HO->Prop}

theorem Zv {t:TypeId}{kt et b:Nat}{td tk te:TD}{n:List UInt8}{es:List (List UInt8×AV)}{x:AV}{g:Gh}{w:World}{ms:Array MapEntry}{clock:Nat}(hT:H6 P T)(ht:Bl T t=some td)(hk:td.kind = .map kt et)(htk:Bl T kt=some tk)(hkk:tk.kind = .str)
    (hte:Bl T et=some te) (hzs:aW P et=true) (hheap:w.heap[b]? = some (.map ms clock)) (hl:ms.size=es.length) (hks:∀i k x,es[i]? = some (k,x)->(ms.getD i default).key = .string ⟨k.toArray⟩) (hvs:∀i k x,es[i]? = some (k,x)->Rep g w (ms.getD i default).val x)
    (hx:match Lu es n with | some y=>y=x | none=>te.zero = [x]) :
    ∃v,Rep g w v x/\(Instr.lookup t (.map (some b)) (.string ⟨n.toArray⟩) false).run P w = .ok v w/\(Instr.lookup t (.map (some b)) (.string ⟨n.toArray⟩) true).run P w = .ok (.tuple #[v,.bool (Lu es n).isSome]) w:=by
  have hu:=Ov (hT t td ht) hk;have huk:=L9 (hT kt tk htk) hkk;have hget:(getObj b).run P w = .ok (.map ms clock) w:=by simp [getObj,Sem.run,hheap]
  cases hs:Lu es n with
  | some y=>
    rw [hs] at hx;simp only at hx;subst hx;obtain ⟨i',v,hf,hrep⟩:=Wo (n:=n) (x:=y) (g:=g) (w:=w) ms.toList es 0 (by simpa using hl) (fun j m x hj=>by simpa using hks j m x hj) (fun j m x hj=>by simpa using hvs j m x hj) hs
    have hfk:(Instr.findKey kt (.string ⟨n.toArray⟩) ms.toList).run P w = .ok (some (i',v)) w:=by
      unfold Instr.findKey;rw [Sem.run_bind,A8 huk];simp only [Result.andThen_ok,hf,Sem.run_pure]
    refine ⟨v,hrep,?_,?_⟩ <;> simp [Instr.lookup,Sem.run_bind,A8 hu,Result.andThen_ok,hget,Sem.run_pure,Ku (n:=9999) huk,hfk]
  | none=>
    rw [hs] at hx;simp only at hx;have hf:=Sl (n:=n) ms.toList es 0 (by simpa using hl) (fun j m x hj=>by simpa using hks j m x hj) hs
    have hfk:(Instr.findKey kt (.string ⟨n.toArray⟩) ms.toList).run P w = .ok none w:=by
      unfold Instr.findKey;rw [Sem.run_bind,A8 huk];simp only [Result.andThen_ok,hf,Sem.run_pure]
    obtain ⟨z,hz1,hz2,hz3⟩:=qC (hT et te hte) w;have hz4:=hz3 g w;rw [hx] at hz4
    have hna:∀vs,z≠.agg vs:=by
      rintro vs rfl;obtain ⟨it,hit,_,_,zv,hzv,_⟩:=(hT et te hte).info;have hzz:(zeroValue et).run P w = .ok zv w:=by simp [zeroValue,Qj hit,hzv]
      rw [hzz] at hz1;cases hz1
      simp [aW,hit,hzv] at hzs
    have hcell:z.cells = #[z]:=by cases z <;> first | rfl | exact absurd rfl (hna _)
    rw [hcell] at hz4;refine ⟨z,hz4.2 0 x rfl,?_,?_⟩ <;> simp [Instr.lookup,Sem.run_bind,A8 hu,Result.andThen_ok,hget,Sem.run_pure,Ku (n:=9999) huk,hfk,hz1]

theorem oW {g:Gh}{w:World}{v:Value}{y:AV}{o:Bool}(hv:Rep g w v y):Rep g w (.tuple #[v,.bool o]) (.tuple [y,.bool o]):=.tuple _ _ rfl fun j z hj=>by
 match j,hj with
 | 0,hj=>cases hj;exact hv
 | 1,hj=>cases hj;exact .bool _
 | j+2,hj=>cases hj

theorem lX {t:TypeId}{m k:Operand}{kt et:Nat}{td tk te:TD}{n:List UInt8}{es:List (List UInt8×AV)}{x:AV}(hT:H6 P T)(ht:Bl T t=some td)(hk:td.kind = .map kt et)(htk:Bl T kt=some tk)(hkk:tk.kind = .str)
    (hte:Bl T et=some te) (hzs:aW P et=true) (hm:ρ m = .smapv es) (hkey:ρ k = .str n) (hx:match Lu es n with | some y=>y=x | none=>te.zero = [x]):Db P ⟨d,.lookup t m k false,ty,pos,aft,gd⟩ ρ K x:=
  .of_run fun g w a hr=>by
    have h1:=(hm▸hr m (by simp [Op.operands]):Rep g w _ _);have h2:=(hkey▸hr k (by simp [Op.operands]):Rep g w _ _).inv_str.1;generalize he:a.eval m=vm at h1;cases h1 with
    | smapv b ms clock _ hg hb hheap hl hks hvs=>
      obtain ⟨v,hv,h3,_⟩:=Zv hT ht hk htk hkk hte hzs hheap hl hks hvs hx;exact ⟨v,by simp only [execOp,he,h2,h3,Sem.run_bind,Result.andThen_ok,Sem.run_pure],hv⟩

theorem cC {t:TypeId}{m k:Operand}{kt et:Nat}{td tk te:TD}{n:List UInt8}{es:List (List UInt8×AV)}{x:AV}{ok:Bool}(hT:H6 P T)(ht:Bl T t=some td)(hk:td.kind = .map kt et)(htk:Bl T kt=some tk)(hkk:tk.kind = .str)
    (hte:Bl T et=some te) (hzs:aW P et=true) (hm:ρ m = .smapv es) (hkey:ρ k = .str n) (hx:match Lu es n with | some y=>y=x | none=>te.zero = [x]) (hok:(Lu es n).isSome=ok):Db P ⟨d,.lookup t m k true,ty,pos,aft,gd⟩ ρ K (.tuple [x,.bool ok]):=
  .of_run fun g w a hr=>by
    subst hok;have h1:=(hm▸hr m (by simp [Op.operands]):Rep g w _ _);have h2:=(hkey▸hr k (by simp [Op.operands]):Rep g w _ _).inv_str.1;generalize he:a.eval m=vm at h1;cases h1 with
    | smapv b ms clock _ hg hb hheap hl hks hvs=>
      obtain ⟨v,hv,_,h3⟩:=Zv hT ht hk htk hkk hte hzs hheap hl hks hvs hx;exact ⟨_,by simp only [execOp,he,h2,h3,Sem.run_bind,Result.andThen_ok,Sem.run_pure],oW hv⟩

theorem wU {t:TypeId}{m k:Operand}{kt et b i:Nat}{td tk te:TD}{n:List UInt8}{es:List (List UInt8×AV)}{x:AV}{ok:Bool}(hT:H6 P T)(ht:Bl T t=some td)(hk:td.kind = .map kt et)(htk:Bl T kt=some tk)(hkk:tk.kind = .str)
  (hte:Bl T et=some te) (hzs:aW P et=true) (hm:ρ m = .val (.map (some b))) (hkey:ρ k = .str n) (hx:match Lu es n with | some y=>y=x | none=>te.zero = [x]) (hok:(Lu es n).isSome=ok) :
  Db P ⟨d,.lookup t m k true,ty,pos,aft,gd⟩ ρ (fun H=>H[i]? = some (.smap b es)) (.tuple [x,.bool ok]):=by
 subst hok;intro g w a H next Q hr hHK hH hn
 have h1:=(hm▸hr m (by simp [Op.operands]):Rep g w _ _).inv_val;have h2:=(hkey▸hr k (by simp [Op.operands]):Rep g w _ _).inv_str.1;obtain ⟨hg,ms,clock,hheap,hl,hks,hvs⟩:=hHK.ok _ (Aj hH);obtain ⟨v,hv,_,h3⟩:=Zv (g:=g) hT ht hk htk hkk hte hzs hheap hl hks hvs hx;unfold Oper.wp;simp only [execOp,h1,h2,h3,Sem.run_bind,Result.andThen_ok,Sem.run_pure];exact hn g w _ (oW hv) hHK (Ext.refl g w)
end

def Pj (ns:List (List UInt8)):List (List UInt8×AV):=ns.zipIdx.map fun p=>(p.1,.int .i64 (p.2:Int))
theorem smI_go (n:List UInt8):∀(ns:List (List UInt8)) (i:Nat),Lu ((ns.zipIdx i).map fun p=>(p.1,AV.int .i64 (p.2:Int))) n=if ns.contains n then some (.int .i64 ((i+ns.idxOf n:Nat):Int)) else none
  | [],i=>rfl
  | a::r,i=>by
    have ih:=smI_go n r (i+1);rw [List.zipIdx_cons,Be,Lu,List.contains_cons];by_cases h:a=n
    . subst h;simp
    . have hb:(n==a)=false:=by rw [Fs];exact fun e=>h e.symm
      have hb2:(a==n)=false:=by rw [Fs];exact h
      rw [if_neg h,ih,hb,Ke,List.idxOf_cons,hb2];cases hc:r.contains n with
      | false=>rfl
      | true=>simp only [if_true,cond_false];exact congrArg (fun k:Nat=>some (AV.int .i64 (k:Int))) (by omega)
theorem lC (ns:List (List UInt8))(n:List UInt8):Lu (Pj ns) n=if ns.contains n then some (.int .i64 (ns.idxOf n:Int)) else none:=by
 unfold Pj;rw [smI_go,Do]
theorem T6 (ns:List (List UInt8))(n:List UInt8){te:TD}(h:te.zero = [.int .i64 0]):match Lu (Pj ns) n with | some y=>y = .int .i64 (if ns.contains n then (ns.idxOf n:Int) else 0) | none=>te.zero = [.int .i64 (if ns.contains n then (ns.idxOf n:Int) else 0)]:=by
 rw [lC];by_cases hc:ns.contains n=true
 . rw [if_pos hc,if_pos hc]
 rw [if_neg hc,if_neg hc];exact h
theorem sW (ns:List (List UInt8))(n:List UInt8):(Lu (Pj ns) n).isSome=ns.contains n:=by
 rw [lC];cases ns.contains n <;> rfl
theorem smI_add (ns:List (List UInt8))(n:List UInt8):Pj ns ++ [(n,.int .i64 (ns.length:Int))]=Pj (ns ++ [n]):=by
 unfold Pj;rw [List.zipIdx_append];simp
theorem smI_new {ns:List (List UInt8)}{n:List UInt8}(h:ns.contains n=false):Lu (Pj ns) n=none:=by rw [lC,h];rfl
end Go.Aw
