/-
  Several texts in one: R36w, R37w, R38w, R39w, R40w, R62, Qa, Q3, Q4, Q5, Q6, Q7, R63, Qb, Qc, Qd, Qe, Qf, R32, R64, R68, R65, R41w, R50, R66, S70, S73. No condition.
-/
import Derived.Test.YtibcelnfkhdjaaaGreatDoorK03
import Derived.Test.YtibcelnfkhdjaaaGreatDoorK09
import Derived.KernelRfl
import Derived.Test.YtibcelnfkhdjaaaGreatDoorK08
import Derived.Test.YtibcelnfkhdjaaaGreatDoorK07
import Derived.Test.YtibcelnfkhdjaaaGreatDoorK05
import Derived.Test.YtibcelnfkhdjaaaGreatDoorK06
import Derived.Test.YtibcelnfkhdjaaaGreatDoorK04
import Derived.Lib.SplitLaws
import Derived.Test.YtibcelnfkhdjaaaGreatDoorShelp
set_option linter.unusedVariables false
set_option linter.unusedSimpArgs false
set_option maxHeartbeats 12800000
set_option maxRecDepth 100000
namespace Go.Proofs.YtibcelnfkhdjaaaGreatDoor
open Go Go.Aw
def Wf (p:Pt):List (Int×Int):=if Z3 p then [(p.var,p.type)] else []
theorem lE (p:Pt):Li p=Wf p++p.args.flatMap Li:=tyP_eq p
def KN (L:List (Int×Int)):Prop:=(L.map (·.1)).Nodup
def wW (L es:List (Int×Int)):Prop:=KN es/\∀x,x∈es↔x∈L
theorem nI {p a:Pt}{k:Nat}(ha:p.args[k]? = some a):Li p=((Wf p++(p.args.take k).flatMap Li)++Li a)++(p.args.drop (k+1)).flatMap Li:=by
 have e:p.args=p.args.take k++a::p.args.drop (k+1):=by rw [<-Bm ha,Po]
 rw [lE,Dy,Dy];exact congrArg (Wf p ++ ·) ((congrArg (fun l=>l.flatMap Li) e).trans (by rw [Uf,Kf]))
theorem vD {p a:Pt}{k:Nat}(h:KN (Li p))(ha:p.args[k]? = some a):KN ((Wf p++(p.args.take k).flatMap Li)++Li a):=by
 unfold KN at h ⊢;rw [nI ha,E5] at h;exact (Jo.1 h).1
theorem kn_arg {p a:Pt}(h:KN (Li p))(hm:a∈p.args):KN (Li a):=by
 obtain ⟨k,hk⟩:=Jp.1 hm;have h1:=vD h hk;unfold KN at h1 ⊢;rw [E5] at h1;exact (Jo.1 h1).2.1
def InM (L es2 es:List (Int×Int))(seen:Array Nat):Prop:=KN es/\∀y,y∈es↔y∈L\/∃j,es2[j]? = some y/\seen.contains j=true
theorem ty_ne {L A es2 es:List (Int×Int)}{seen:Array Nat}{k:Nat}{x:Int×Int}(hn:KN (L++A))(h2:wW A es2)(hz:InM L es2 es seen)(hx:es2[k]? = some x)(hk:seen.contains k=false):∀q∈es,q.1≠x.1:=by
 intro q hq he;rcases (hz.2 q).1 hq with hL | ⟨j,hj,hs⟩
 .
  unfold KN at hn;rw [E5] at hn;exact (Jo.1 hn).2.2 _ (C9.2 ⟨q,hL,rfl⟩) _ (C9.2 ⟨x,(h2.2 x).1 (Aj hx),rfl⟩) he
 have h3:(es2.map (·.1))[j]? = (es2.map (·.1))[k]? :=by rw [List.getElem?_map,List.getElem?_map,hj,hx];exact congrArg some he
 have hlt:j<(es2.map (·.1)).length:=by rw [By];exact (List.getElem?_eq_some_iff.1 hj).1
 have:=(List.getElem?_inj hlt h2.1).1 h3;subst this;rw [hs] at hk;cases hk
theorem ty_push {L es2 es:List (Int×Int)}{seen:Array Nat}{k:Nat}{x:Int×Int}(hz:InM L es2 es seen)(hx:es2[k]? = some x)(hne:∀q∈es,q.1≠x.1):InM L es2 (es ++ [(x.1,x.2)]) (seen.push k):=by
 refine ⟨?_,fun y=>?_⟩
 .
  unfold KN;rw [E5];refine Jo.2 ⟨hz.1,by simp,fun a ha b hb=>?_⟩;obtain ⟨q,hq,rfl⟩:=C9.1 ha;rw [Wy,Ep] at hb;subst hb;exact hne q hq
 rw [Gd,Ep,hz.2 y]
 constructor
 .
  rintro ((h | ⟨j,h1,h2⟩) | h)
  . exact .inl h
  . exact .inr ⟨j,h1,Qv.2 (.inl h2)⟩
  exact .inr ⟨k,by rw [h];exact hx,Qv.2 (.inr rfl)⟩
 rintro (h | ⟨j,h1,h2⟩)
 . exact .inl (.inl h)
 rcases Qv.1 h2 with h3 | h3
 . exact .inl (.inr ⟨j,h1,h3⟩)
 subst h3;rw [hx] at h1;exact .inr (Option.some.inj h1).symm
theorem ty_done {L A es2 es:List (Int×Int)}{seen:Array Nat}(h2:wW A es2)(hz:InM L es2 es seen)(hall:∀k,k<es2.length->seen.contains k=true):wW (L++A) es:=by
 refine ⟨hz.1,fun x=>?_⟩;rw [hz.2 x,Gd,<-h2.2 x]
 constructor
 .
  rintro (h | ⟨j,h1,_⟩)
  . exact .inl h
  exact .inr (Aj h1)
 rintro (h | h)
 . exact .inl h
 obtain ⟨j,hj⟩:=Jp.1 h;exact .inr ⟨j,hj,hall j (List.getElem?_eq_some_iff.1 hj).1⟩
theorem ty_init {L es es2:List (Int×Int)}(h:wW L es):InM L es2 es #[]:=⟨h.1,fun y=>by
 rw [h.2 y];exact ⟨.inl,fun q=>q.elim id fun ⟨j,_,h3⟩=>by simp at h3⟩⟩
theorem ty_own (p:Pt):wW (Wf p++(p.args.take 0).flatMap Li) (Wf p):=by
 rw [List.take_zero,List.flatMap_nil,A3];refine ⟨?_,fun x=>Iff.rfl⟩;unfold KN Wf;split
 . simp
 exact Of
theorem ty_next {p a:Pt}{k:Nat}{es:List (Int×Int)}(ha:p.args[k]? = some a)(h:wW ((Wf p++(p.args.take k).flatMap Li)++Li a) es):wW (Wf p++(p.args.take (k+1)).flatMap Li) es:=by
 rw [Cs ha,Uf,List.flatMap_singleton,<-Dy];exact h
theorem ty_end {p:Pt}{es:List (Int×Int)}(h:wW (Wf p++p.args.flatMap Li) es):wW (Li p) es:=by rw [lE];exact h
theorem rz_typed (p:Pt)(hnd:KN (Li p))(hpn:J5 p<=1048576)(H:List HO):Bt Tryz.prog 164 H [.agg (cPt p)] (fun r H'=>∃b es,r = .val (.map (some b))/\H' = .obj b (Wa es)::H/\wW (Li p) es):=by
 induction p using Pt.ind generalizing H
 rename_i p ih;have hal:=Wj p;refine H7 42 Tryz.func164 rfl ?_;refine Af (Qp (Ik Gq) (Qp O2 (B7 (Qe (lU) ?_))));rintro _ _ ⟨b8,rfl,rfl⟩;refine Qp O2 (A2 ?_);refine AW.cut (fun (z0:List (Int×Int))=>(⟨[(1,.ptr (cPt p)),(3,.val (.map (some b8)))],.obj b8 (Wa z0)::H,42⟩:St)) (fun z0=>z0=Wf p) ?_ ?_
 .
  refine Af (Qp (Qf Gq) (Qp Cd (Qp Bq (Qp Co (Qg [] Qw (Qf Gq) (Qg [(13,_)] Qw Cd (Qg [(14,_)] Qw Bq (Qp Gv (Bp (fun hc1=>AW.region (Qp Bu (Qp (Qf giz) (Qp Cd (Qp (Qf gjz) (Qp Cd (Rt (tP (i:=0) (H2:=_::_) tok rfl rfl rfl rfl rfl rfl rfl rfl (rfl) rfl) (A2 ?_)))))))) fun hc1=>B6 ?_)))))))))
  .
   refine ⟨[(p.var,p.type)],?_,Dh⟩;exact (if_pos hc1).symm
  refine ⟨[],?_,Dh⟩;exact (B2 hc1).symm
 rintro z0 hz0;subst hz0;refine Cg (Qp (Qf ghy) (Qp Ew ?_));refine Qp (G1 p.args.length rfl rfl (by simp)) ?_;refine Qp A0 (A2 (AW.block ?_));refine AW.loopS (fun (q:Nat×List (Int×Int))=>(⟨[(1,.ptr (cPt p)),(3,.val (.map (some b8))),(23,.sl 14 (p.args.map Tj)),(24,.int .i64 p.args.length),(25,.int .i64 (q.1:Int))],.obj b8 (Wa q.2)::H,42⟩:St)) (fun q=>q.1<=p.args.length/\wW (Wf p++(p.args.take q.1).flatMap Li) q.2) (fun q=>p.args.length-q.1) ((0,Wf p)) ?_ Dh ?_
 . exact ⟨A7 _,ty_own p⟩
 rintro q hR;refine Af (Qp Cv (Re (Gn (fun hc2=>?_) fun hc2=>?_)))
 .
  obtain ⟨a,ha⟩:=C2 hc2;have hlt:=Cc ha;have hm:=Aj ha;refine B6 (AW.seq (AW.block (Af ?_)));refine Qp (E9 Gq rfl rfl (by omega) (iT ha)) ?_;refine Qp (C1 Gq) (D7 ggx fun b5=>?_);refine Bz 0 Gq (_::_::_) ?_;refine Kh 5 0 rfl ?_;refine B7 (Qp (C1 Gq) ?_);refine Qe (Dc rfl (ih a hm (kn_arg hnd hm) (by have:=Ph hm;omega) _)) ?_;rintro _ _ ⟨b30,es30,rfl,rfl,hty30⟩;refine Qe (gF (i:=0) tok rfl rfl rfl rfl) ?_;rintro _ _ ⟨i31,rfl,rfl⟩;refine A2 (AW.block ?_);refine AW.loopS (fun (z:List (Int×Int)×Array Nat)=>(⟨[(1,.ptr (cPt p)),(3,.val (.map (some b8))),(23,.sl 14 (p.args.map Tj)),(24,.int .i64 p.args.length),(25,.int .i64 (q.1:Int)),(31,.val (.pointer (some ⟨i31,0,none⟩)))],.obj i31 (itO b30 es30.length z.2) :: .obj b30 (Wa es30) :: .obj b8 (Wa z.1)::H,42⟩:St)) (fun z=>InM (Wf p++(p.args.take q.1).flatMap Li) es30 z.1 z.2) (fun z=>nO es30.length z.2) ((q.2,#[])) ?_ Dh ?_
  . exact ty_init hR.2
  rintro z hz;refine AW.seq (AW.mapNext (i:=0) (j:=1) rfl rfl rfl rfl rfl rfl ?_ ?_)
  .
   intro hov8;have htd:=ty_done hty30 hz hov8;refine Aa (AW.seq (Gn (fun hc3=>?_) fun hc3=>AW.exit ?_))
   . exact absurd (hc3.symm.trans rfl) (by decide)
   refine Br (Br (Gp (Ff (Aa (AW.region (Qp Hb (Qp A0 (A2 ?_))))))));refine ⟨(q.1+1,z.1),?_,?_,GS.weaken ⟨rfl,rfl,rfl,rfl,rfl,trivial⟩ (.cons _ (.cons _ (.refl _)))⟩
   . exact ⟨hlt,ty_next ha htd⟩
   simp only;omega
  intro mk8 mp8 hmp8 hmk8;have hnw:=ty_ne (vD hnd ha) hty30 hz hmp8 hmk8;refine Aa (AW.seq (Gn (fun hc4=>B6 (AW.block (Af (AOL.Aaz (gG (i:=0) (j:=1) rfl rfl hmp8) rfl rfl (Qp Td (Qp Td (Qp Ax (Qp Ax (A2 (AW.region (Qp Bu (Qp A0 (Qp A0 (Rt (tP (i:=2) (H2:=_::_::_::_) tok rfl rfl rfl rfl rfl rfl rfl rfl (dJ hnw) rfl) (Rk ?_))))))))))))))) fun hc4=>?_))
  .
   refine ⟨(z.1 ++ [(mp8.1,mp8.2)],z.2.push mk8),?_,?_,Dh⟩
   . exact ty_push hz hmp8 hnw
   exact dQ (List.getElem?_eq_some_iff.1 hmp8).1 hmk8
  exact absurd (hc4.symm.trans rfl) (by decide)
 have hte:=Dt hc2;have hall:=hR.2;rw [hte] at hall;refine AW.exit ?_;refine Br (Ri (Af (Qp Bu (Qp O2 (Rb ?_)))));refine ⟨.inr rfl,[.val _],Ze,_,S0,?_⟩;exact ⟨b8,q.2,rfl,rfl,ty_end hall⟩
section
variable {P:Program} {T:List (Nat×TD)} {ρ:Operand->AV} {K:List HO->Prop} {d:Option Nat} {ty:TypeId} {pos:String} {aft:Array Edge} {gd:Option (Nat×Bool)}
theorem qH {x:Operand}{t kt et n:Nat}{td:TD}{es:List (Int×AV)}(hT:H6 P T)(h:ρ x = .mapv es)(ht:Bl T t=some td)(hk:td.kind = .map kt et)(hn:es.length=n) :
    Db P ⟨d,.call ⟨.builtin .len,#[x],#[t]⟩,ty,pos,aft,gd⟩ ρ K (.int .i64 n):=
  .of_run fun g w a hr=>by
    have h1:=(h▸hr x (by simp [Op.operands,Call.operands]):Rep g w _ _);have hu:=Ov (hT t td ht) hk;generalize he:a.eval x=vm at h1;cases h1 with
    | mapv b ms clock _ hg hb hheap hl hks hvs=>
      refine ⟨.int .i64 n,Je ?_,.int _ _⟩;have hget:(getObj b).run P w = .ok (.map ms clock) w:=by simp [getObj,Sem.run,hheap]
      simp only [builtin,Builtin.len_,List.map_toArray,Be,Bw,he,Sem.run_bind];simp [A8 hu,goInt,hget,hl,hn]
end
theorem pV {L es:List (Int×Int)}(hL:KN L)(h:wW L es):es.length=L.length:=by
 have h1:es.Nodup:=(List.pairwise_map.1 h.1).imp fun hne he=>hne (by rw [he])
 have h2:L.Nodup:=(List.pairwise_map.1 hL).imp fun hne he=>hne (by rw [he])
 exact ((List.perm_ext_iff_of_nodup h1 h2).2 h.2).length_eq
theorem ty_look {L es:List (Int×Int)}{k:Nat}{x:Int×Int}(h:wW L es)(hx:L[k]? = some x)(hk:x.1=(k:Int)):Wd (zM es) (k:Int)=some (.int .i64 (((L.map (·.2))[k]?).getD 0)):=by
 rw [kH,<-hk];have:(x.1,x.2)∈es:=(h.2 x).2 (Aj hx);rw [iL h.1 this,List.getElem?_map,hx];rfl
section
variable {T:List e8Sc} {L:List Int} {ks:List Ag} {k:Nat} {a:Va} {V:List Va} {e:Int}
theorem wN (ha:V[k]? = some a)(h:vrE T L ks k a=e)(he:e≠0):tD T L ks k (V.drop k)=e:=by
 rw [Bm ha,tD,if_pos (by rw [h];simpa using he),h]
theorem vr_on (ha:V[k]? = some a)(h:vrE T L ks k a=0):tD T L ks k (V.drop k)=tD T L (ks ++ [a.name]) (k+1) (V.drop (k+1)):=by
 rw [Bm ha,tD,if_neg (by rw [h];decide)]
theorem X0 {s:Ag}{b:Bool}(h:(F7 s != 0)=b):(!(bC s))=b:=h
theorem ve8 (h:(F7 a.name != 0)=true):vrE T L ks k a=8:=if_pos (X0 h)
theorem ve7 (h:(F7 a.name != 0)=false)(h1:ks.contains a.name=true):vrE T L ks k a=7:=(B2 (X0 h)).trans (if_pos h1)
theorem ve6 (h:(F7 a.name != 0)=false)(h1:ks.contains a.name=false)(h2:(decide (a.type<0)||decide ((T.length:Int)<=a.type))=true):vrE T L ks k a=6:=(B2 (X0 h)).trans ((B2 h1).trans (if_pos h2))
theorem ve9 (h:(F7 a.name != 0)=false)(h1:ks.contains a.name=false)(h2:(decide (a.type<0)||decide ((T.length:Int)<=a.type))=false)(h3:((L[k]?).getD 0 != a.type)=true):vrE T L ks k a=9:=(B2 (X0 h)).trans ((B2 h1).trans ((B2 h2).trans (if_pos h3)))
theorem ve0 (h:(F7 a.name != 0)=false)(h1:ks.contains a.name=false)(h2:(decide (a.type<0)||decide ((T.length:Int)<=a.type))=false)(h3:((L[k]?).getD 0 != a.type)=false):vrE T L ks k a=0:=(B2 (X0 h)).trans ((B2 h1).trans ((B2 h2).trans (B2 h3)))
end
theorem vE_15 {T:List e8Sc}{q:Qy}(h:(((Li q.pattern).length:Int) != (q.vars.length:Int))=true):zK T q=15:=if_pos h
theorem vE_n {T:List e8Sc}{q:Qy}(h:(((Li q.pattern).length:Int) != (q.vars.length:Int))=false):zK T q=tD T ((Li q.pattern).map (·.2)) [] 0 q.vars:=B2 h
theorem rz_vars (T:List e8Sc)(htl:T.length<=1048576)(q:Qy)(hnd:KN (Li q.pattern))(hnu:∀(i:Nat) (x:Int×Int),(Li q.pattern)[i]? = some x->x.1=(i:Int))(hpn:J5 q.pattern<=1048576)(hv:q.vars.length<=1048576)(hvn:∀v∈q.vars,v.name.length<=1048576):Ap Tryz.prog 106 [.sl 2 (T.map Fx),.agg (cQy q)] (.int .i64 (zK T q)):=by
 refine Fl 59 Tryz.func106 rfl fun H=>?_
 refine Af (Qp (Ik Ps) (Qp Ax (B7 (Qp (Qf gkz) (Qp (C1 Gq) (Qe (Dc rfl (rz_typed q.pattern hnd hpn _)) ?_))))));rintro _ _ ⟨b11,es,rfl,rfl,hes⟩;refine Qp O2 (A2 (Cg ?_));refine AOL.ghost (GS.imAbs 0 rfl rfl) ?_;refine AOL.ghost (GS.freezeMap (t:=5) 0 rfl rfl) ?_;refine Qp (Ab (v:=.mapv _) rfl) (Qp (qH (n:=(Li q.pattern).length) tok rfl rfl rfl ((By _).trans (pV hnd hes))) (Qp (Qf giy) (Qp Ew ?_)));refine Qp (G1 q.vars.length rfl rfl (by simp)) ?_;refine Qp C3 (Bp (fun hc1=>Af (Qp Ax (Rc (Qr (Iq _) ?_)))) fun hc1=>?_)
 . exact Ye (AV.int .i64) (vE_15 hc1)
 have hlv:(Li q.pattern).length=q.vars.length:=by have:=hc1;simp at this;omega
 refine B6 (Af (Qe (Hl) ?_));rintro _ _ ⟨b18,rfl,rfl⟩;refine Qp O2 (A2 (Cg (Qp (Qf giy) (Qp Ew ?_))));refine Qp (G1 q.vars.length rfl rfl (by simp)) ?_;refine Qp A0 (A2 (AW.block ?_));refine AW.loopS (fun (z:Nat×List Ag)=>(⟨[(0,.sl 2 (T.map Fx)),(3,.ptr (cQy q)),(5,.mapv (zM es)),(6,.val (.map (some b18))),(20,.sl 2 (q.vars.map Rd)),(21,.int .i64 q.vars.length),(22,.int .i64 (z.1:Int))],.smap b18 (Tb z.2)::H,59⟩:St)) (fun z=>z.1<=q.vars.length/\tD T ((Li q.pattern).map (·.2)) [] 0 q.vars=tD T ((Li q.pattern).map (·.2)) z.2 z.1 (q.vars.drop z.1)) (fun z=>q.vars.length-z.1) ((0,[])) ?_ Dh ?_
 . exact ⟨A7 _,rfl⟩
 rintro z hR;refine Af (Qp Cv (Re (Gn (fun hc2=>?_) fun hc2=>?_)))
 .
  obtain ⟨a,ha⟩:=C2 hc2;have hlt:=Cc ha;have hm:=Aj ha;have hlk:Wd (zM es) ((z.1:Nat):Int)=some (.int .i64 ((((Li q.pattern).map (·.2))[z.1]?).getD 0)):=ty_look hes (List.getElem?_eq_getElem (show z.1<(Li q.pattern).length by omega)) (hnu _ _ (List.getElem?_eq_getElem _));refine B6 (AW.seq (AW.block (Af (Qp A0 ?_))));refine Qp (E9 Iy rfl rfl (by omega) (Cf ha)) ?_;refine Qp (C1 Iy) (D7 gix fun b8=>Qp Ax ?_);refine Bz 0 Iy (_::_::_) ?_;refine Kh 8 0 rfl ?_;refine Re (AW.block (Af (Qp (Qf Iy) (Qp F4 (Qp (Qc rfl (c20 a.name (hvn a hm))) (Qp C3 (Qp Bh (Bp (fun hc3=>Af (Qp Ax (Ra (Rj (A4 ?_))))) fun hc3=>Af (Qp Bu (Qp (Qf Iy) (Qp F4 ?_)))))))))))
  .
   refine Yx [Iq _] Ze S1 ?_;exact Ye (AV.int .i64) ((vE_n hc1).trans (hR.2.trans (wN ha (ve8 hc3) (by decide))))
  refine AOL.Aaz (Ll (i:=0) (ks:=z.2) tok rfl rfl rfl rfl rfl (by kernel_rfl) rfl rfl rfl) rfl rfl ?_;refine Qp Bh (Bp (fun hc4=>Af (Qp Ax (Ra (Rj (A4 ?_))))) fun hc4=>Af (Qp (Qf [Iq _]) (Qp Cd (Qp Cv (Qp Co (Qg [] Qw (Qf [Iq _]) (Qg [(42,_)] Qw Cd (Qg [] Qw Mm ?_))))))))
  .
   refine Yx [Iq _] Ze S1 ?_;exact Ye (AV.int .i64) ((vE_n hc1).trans (hR.2.trans (wN ha (ve7 hc3 hc4) (by decide))))
  refine Yh [(44,_)] Qw (fun hG=>G1 T.length rfl rfl (by simp)) ?_;refine Qg [(43,_),(45,_)] Yw Jt (Qp Gv (Qp Bh (Bp (fun hc5=>Af (Qp Ax (Ra (Rj (A4 ?_))))) fun hc5=>?_)))
  .
   refine Yx [Iq _] Ze S1 ?_;exact Ye (AV.int .i64) ((vE_n hc1).trans (hR.2.trans (wN ha (ve6 hc3 hc4 hc5) (by decide))))
  refine Af (Qp (Ab (v:=.mapv _) rfl) (Qp A0 (Qp (Xf tok rfl rfl rfl rfl rfl rfl (hlk)) (Qp (Qf [Iq _]) (Qp Cd (Qp C3 (Qp Bh (Bp (fun hc6=>Af (Qp Ax (Ra (Rj (A4 ?_))))) fun hc6=>Rf (AW.region (Qp Bu (Qp (Qf Iy) (Qp F4 (Rt (Nn (i:=0) (H2:=_::_) tok rfl rfl rfl rfl rfl rfl rfl rfl (hc4) rfl) (Rk (AW.region (Qp Hb (Qp A0 (A2 ?_))))))))))))))))))
  .
   refine Yx [Iq _] Ze S1 ?_;exact Ye (AV.int .i64) ((vE_n hc1).trans (hR.2.trans (wN ha (ve9 hc3 hc4 hc5 hc6) (by decide))))
  refine ⟨(z.1+1,z.2 ++ [a.name]),?_,?_,Dh⟩
  . exact ⟨hlt,hR.2.trans (vr_on ha (ve0 hc3 hc4 hc5 hc6))⟩
  simp only;omega
 have hde:=Gz hc2;have hall:=hR.2;rw [hde,tD] at hall;refine AW.exit ?_;refine Br (Ri (Af (Qp Ax (Rb ?_))));refine Yx [Iq _] Ze S1 ?_;exact Ye (AV.int .i64) ((vE_n hc1).trans hall)
def cRvX (T:List e8Sc)(V:List Va)(m1 m2 n1 n2:AV):List AV:=[.sl 2 (T.map Fx),m1,.sl 2 (V.map Rd),m2,n1,n2]
theorem eq_no {l m:List Int}(h:((l.length:Int) != (m.length:Int))=true):(l==m)=false:=by
 rw [Fs];rintro rfl;simp at h
theorem eq_ne {l m:List Int}{k:Nat}{a c:Int}(ha:l[k]? = some a)(hc:m[k]? = some c)(h:(a != c)=true):(l==m)=false:=by
 rw [Fs];rintro rfl;rw [ha] at hc;cases hc;simp at h
theorem eq_on {l m:List Int}{k:Nat}{a c:Int}(ha:l[k]? = some a)(hc:m[k]? = some c)(h:(a != c)=false)(hk:l.take k=m.take k):l.take (k+1)=m.take (k+1):=by
 rw [Cs ha,Cs hc,hk];have:a=c:=by simpa using h
 rw [this]
theorem eq_all {l m:List Int}(hl:l.length=m.length)(h:l.take l.length=m.take l.length):(l==m)=true:=by
 rw [Mu,hl,Mu] at h;rw [h];simp
abbrev gJ (q:List Int×Bool):AV:=AV.tuple [.sl 1 (q.1.map cI),.bool q.2]
abbrev Uk (q:Ag×Bool):AV:=AV.tuple [.str q.1,.bool q.2]
theorem rz_key (T:List e8Sc)(V:List Va)(s:Nx)(bp:Nat)(m1 m2 n1 n2:AV)(hrv:RvOK T V)(n:Ag)(hT:0<T.length):Bf Tryz.prog 48 bp 126 (cRvX T V m1 m2 n1 n2) (cRvX T V m1 m2 n1 n2) [.val (.pointer (some ⟨bp,0,none⟩)),.str n] (.tuple [.sl 1 ((O0 T V n).1.map cI),.bool (O0 T V n).2]):=by
 intro H;have htl:=hrv.tl;have hvl:=hrv.vl;refine H7 47 Tryz.func48 rfl ?_;refine Af (Qp (Cb (z:=1) rfl) (Qp Bh (B7 (Qp (Ir ([[Iq _]]) rfl) (Qp Bu (Qp (Ae rfl) (Qp Cw (Pz 0 (.sl _ _) rfl ?_))))))));refine Qp (G1 T.length rfl rfl (by simp)) ?_;refine Qe (Dc rfl (pJ _ T.length hT hrv.tl)) ?_;rintro _ _ ⟨b15,rfl,rfl⟩;refine Qp O2 (A2 (Cg (Qp Bu (Qp (Ae rfl) (Qp Cw (Pz 1 (.sl _ _) rfl ?_))))));refine Qp (G1 V.length rfl rfl (by simp)) ?_;refine Qp A0 (A2 (AW.block ?_));refine AW.loopS (fun (q:Nat×List Int)=>(⟨[(0,.val (.pointer (some ⟨bp,0,none⟩))),(1,.str n),(6,.val (.slice (some ⟨b15,0,none⟩) T.length T.length)),(19,.sl 2 (V.map Rd)),(20,.int .i64 V.length),(21,.int .i64 (q.1:Int))],.box b15 3 (bI q.2) :: .box bp 126 (cRvX T V m1 m2 n1 n2)::H,47⟩:St)) (fun q=>q.1<=V.length/\q.2.length=T.length/\O0 T V n=O8 T n (V.drop q.1) q.2) (fun q=>V.length-q.1) ((0,dZ T.length)) ?_ Dh ?_
 . exact ⟨A7 _,by simp [dZ],rfl⟩
 rintro q hR;refine Af (Qp Cv (Re (Gn (fun hc1=>?_) fun hc1=>?_)))
 .
  obtain ⟨a,ha⟩:=C2 hc1;have hlt:=Cc ha;have hm:=Aj ha;have hvt:=hrv.ty a hm;refine (fA hrv hm).elim fun sc hsc=>?_
  have hfl:=hrv.fl sc (Aj hsc);have hb:a.type.toNat<q.2.length:=by have:=hR.2.1;omega
  refine B6 (AW.seq (AW.block (Af ?_)));refine Qp (E9 Iy rfl rfl (by omega) (Cf ha)) ?_;refine Qp (C1 Iy) (D7 gix fun b8=>?_);refine Bz 0 Iy (_::_::_::_) ?_;refine Kh 8 0 rfl ?_;refine Re (Pq 1 rfl (Qn 0 rfl Bu (Qn 1 rfl (Qf [Iq _]) (Qn 2 rfl Cd (Qn 3 rfl Bu (Qn 4 rfl (Ae rfl) (Qn 5 rfl Cw (Qn 6 rfl (Lb (.sl _ _) rfl) ?_))))))));refine Qn 7 rfl (Qf [Iq _]) (Qn 8 rfl Cd (Qn 9 rfl (E9 M7 rfl rfl (hvt.1) (Cf hsc)) (Qn 10 rfl (C1 M7) (Qn 11 rfl Gu (Qn 12 rfl (Qc rfl (Mk sc hfl n)) (Qn 13 rfl (Cp (o':=a.type.toNat) tok rfl rfl rfl rfl rfl (hvt.1) (hvt.2) (off0 _)) ?_))))));refine bF 14 rfl (Dj (k:=0) (v:=Iq _) (cs':=bI (q.2.set a.type.toNat (Ey sc n))) (H2:=_::_::_) tok rfl rfl rfl rfl rfl rfl (tZ hb) (qP hb) rfl) ?_;rintro _ _ ⟨rfl,rfl⟩;refine Aa (Af (Qp Bu (Qp (Qf [Iq _]) (Qp Cd (Qp (Cp (o':=a.type.toNat) tok rfl rfl rfl rfl rfl (hvt.1) (hvt.2) (off0 _)) (AOL.Aaz (B8 (k:=0) (c:=.int .i64 (Ey sc n)) tok rfl rfl rfl (gL hb)) rfl rfl (Qp Cv (Bp (fun hc2=>Af (Qp (Cb (z:=1) rfl) (Qp Bh (Ra (A4 (Dw (A4 ?_))))))) fun hc2=>Rf (AW.region (Qp Hb (Qp A0 (A2 ?_))))))))))))
  .
   refine ⟨.inr rfl,[.sl _ _,.bool _],Zf,_,S1,?_⟩;exact ⟨Ye gJ (hR.2.2.trans (vA ha hsc hc2)),rfl⟩
  refine ⟨(q.1+1,q.2.set a.type.toNat (Ey sc n)),?_,?_,Dh⟩
  . exact ⟨hlt,by simp only [Sr];exact hR.2.1,hR.2.2.trans (key_on ha hsc hc2)⟩
  simp only;omega
 have hde:=Gz hc1;have hall:=hR.2.2;rw [hde] at hall;refine AW.exit ?_;refine Br (Ri (Af ?_));refine AOL.ghost (GS.freezeSl (t:=6) (z:=1) (es:=q.2.map cI) 0 rfl rfl (uA _) (by rw [By];exact hR.2.1.symm) (Bc _) (by unfold maxLen;omega) (oF (fun _=>rfl) _) wB) ?_;refine Qp Mm (Qp jF (Qp Bh (Rb ?_)));refine ⟨.inr rfl,[.sl _ _,.bool _],Zf,_,S0,?_⟩;exact ⟨Ye gJ ((hall.trans (by rw [O8]):O0 T V n=(q.2,true))),rfl⟩
theorem rz_eq (l m:List Int)(hl:l.length<=1048576)(hm:m.length<=1048576):Ap Tryz.prog 165 [.sl 1 (l.map cI),.sl 1 (m.map cI)] (.bool (l==m)):=by
 refine Fl 26 Tryz.func165 rfl fun H=>?_
 refine Af (Qp Bh (A2 (Cg (Qp Mm ?_))));refine Qp (G1 l.length rfl rfl (by simp)) ?_;refine Qp Mm ?_;refine Qp (G1 m.length rfl rfl (by simp)) ?_;refine Qp C3 (Bp (fun hc1=>Af (Qp Bh (Rc (Qr (.bool _) ?_)))) fun hc1=>?_)
 . exact Ye AV.bool (eq_no hc1)
 have hlm:l.length=m.length:=by have:=hc1;simp at this;omega
 refine B6 (Cg (Qp Mm ?_));refine Qp (G1 l.length rfl rfl (by simp)) ?_;refine Qp A0 (A2 (AW.block ?_));refine AW.loopS (fun (k:Nat)=>(⟨[(0,.sl 1 (l.map cI)),(1,.sl 1 (m.map cI)),(12,.int .i64 l.length),(13,.int .i64 (k:Int))],H,26⟩:St)) (fun k=>k<=l.length/\l.take k=m.take k) (fun k=>l.length-k) (0) ?_ Dh ?_
 . exact ⟨A7 _,rfl⟩
 rintro k hR;refine Af (Qp Cv (Re (Gn (fun hc2=>?_) fun hc2=>?_)))
 .
  obtain ⟨a,ha⟩:=C2 hc2;have hlt:=Cc ha;have hm:=Aj ha;obtain ⟨c,hc⟩:∃c,m[k]? = some c:=⟨_,List.getElem?_eq_getElem (show k<m.length by omega)⟩;refine B6 (AW.seq (AW.block (Af (Qp A0 (Qp Ax (Re ?_))))));refine Ok ?_;refine Qn 0 rfl Mm (Qn 1 rfl A0 ?_);refine Qn 2 rfl (E9 [Iq _] rfl rfl (by omega) (Cf ha)) ?_;refine Qn 3 rfl Cd (Qn 4 rfl Mm (Qn 5 rfl A0 ?_));refine Qn 6 rfl (E9 [Iq _] rfl rfl (by omega) (Cf hc)) ?_;refine Qn 7 rfl Cd (Qn 8 rfl C3 ?_);refine Iw ?_;refine Aa (Gn (fun hc3=>Af (Qp Bh (Ra (A4 (Dw (A4 (Qr (.bool _) ?_))))))) fun hc3=>Rf (AW.region (Qp Hb (Qp A0 (A2 ?_)))))
  . exact Ye AV.bool (eq_ne ha hc hc3)
  refine ⟨k+1,?_,?_,Dh⟩
  . exact ⟨hlt,eq_on ha hc hc3 hR.2⟩
  omega
 have hke:k=l.length:=by have:=Er hc2;have:=hR.1;omega
 subst hke;refine AW.exit ?_;refine Br (Ri (Af (Qp Bh (Rb ?_))));refine Qr (.bool _) ?_;exact Ye AV.bool (eq_all hlm hR.2)
theorem rz_index (l:List Va)(hl:l.length<=1048576)(K:FuncId)(hK:Tn Tryz.prog K=true)(cs:List AV)(p:Va->Bool)(hf:∀a∈l,Ap Tryz.prog K (.agg (Rd a)::cs) (.bool (p a))):Ap Tryz.prog 166 [.sl 2 (l.map Rd),.fn (.func K) [] cs] (.int .i64 (Vz p l)):=by
 refine Fl 19 Tryz.func166 rfl fun H=>?_
 refine Af (Qp Ax (A2 (Cg (Qp Mm ?_))));refine Qp (G1 l.length rfl rfl (by simp)) ?_;refine Qp A0 (A2 (AW.block ?_));refine AW.loopS (fun (k:Nat)=>(⟨[(0,.sl 2 (l.map Rd)),(1,.fn (.func K) [] cs),(6,.sl 2 (l.map Rd)),(7,.int .i64 l.length),(8,.int .i64 (k:Int))],H,19⟩:St)) (fun k=>k<=l.length/\(l.take k).any p=false) (fun k=>l.length-k) (0) ?_ Dh ?_
 . exact ⟨A7 _,by simp⟩
 rintro k hR;refine Af (Qp Cv (Re (Gn (fun hc1=>?_) fun hc1=>?_)))
 .
  obtain ⟨a,ha⟩:=C2 hc1;have hlt:=Cc ha;have hm:=Aj ha;refine B6 (AW.seq (AW.block (Af (Qp A0 (Qp Ax (B7 (Qp (Ab (v:=.fn _ _ _) rfl) (Qp Mm (Qp A0 ?_)))))))));refine Qp (E9 Iy rfl rfl (by omega) (Cf ha)) ?_;refine Qp (C1 Iy) (Qp (O1 hK rfl rfl rfl (hf a (Aj ha))) (Bp (fun hc2=>Af (Qp A0 (Qp Ax (Ra (A4 (Dw (A4 (Qr (Iq _) ?_)))))))) fun hc2=>Rf (AW.region (Qp Hb (Qp A0 (A2 ?_))))))
  . exact Ye (AV.int .i64) (dH ha hR.2 hc2)
  refine ⟨k+1,?_,?_,Dh⟩
  . exact ⟨hlt,N7 hR.2 ha hc2⟩
  omega
 have hte:=Dt hc1;have hall:=hR.2;rw [hte] at hall;refine AW.exit ?_;refine Br (Ri (Af (Qp Ax (Rb ?_))));refine Qr (Iq _) ?_;exact Ye (AV.int .i64) (Y8 hall)
theorem zQ (T:List e8Sc)(V:List Va)(n:Ag):(O0 T V n).1.length<=T.length:=by
 have h:=dM (T:=T) (n:=n) V (List.replicate T.length (-1));rw [L2] at h;exact h
section
variable {T:List e8Sc} {q:Qy}
theorem ky_1 (h:((q.key.length:Int)==0)=true):nL T q=([],true):=if_pos h
theorem ky_2 (h:((q.key.length:Int)==0)=false)(h2:((q.key.length:Int) != (T.length:Int))=true):nL T q=([],false):=(B2 h).trans (if_pos h2)
theorem ky_3 (h:((q.key.length:Int)==0)=false)(h2:((q.key.length:Int) != (T.length:Int))=false)(h3:(decide (rO q<0)||decide (((kyF T q).length:Int)<=rO q))=true):nL T q=([],false):=(B2 h).trans ((B2 h2).trans (if_pos h3))
theorem ky_4 (h:((q.key.length:Int)==0)=false)(h2:((q.key.length:Int) != (T.length:Int))=false)(h3:(decide (rO q<0)||decide (((kyF T q).length:Int)<=rO q))=false):nL T q=(gA T q,kyO T q):=(B2 h).trans ((B2 h2).trans (B2 h3))
theorem kv0 (h:0<q.vars.length):q.vars[0]? = some ((q.vars[0]?).getD va0):=by rw [List.getElem?_eq_getElem h];rfl
theorem ks0 (h:0<=Y9 q/\Y9 q<(T.length:Int)):T[(Y9 q).toNat]? = some ((T[(Y9 q).toNat]?).getD Zs):=by rw [List.getElem?_eq_getElem (show (Y9 q).toNat<T.length by omega)];rfl
theorem kk0 (h:0<=Y9 q/\Y9 q<(T.length:Int))(h2:((q.key.length:Int) != (T.length:Int))=false):q.key[(Y9 q).toNat]? = some (rO q):=by
 have h3:q.key.length=T.length:=by simp at h2;omega
 unfold rO ixI;rw [List.getElem?_eq_getElem (show (Y9 q).toNat<q.key.length by omega)];rfl
theorem kf0 (h:(decide (rO q<0)||decide (((kyF T q).length:Int)<=rO q))=false):0<=rO q/\(kyF T q)[(rO q).toNat]? = some (((kyF T q)[(rO q).toNat]?).getD fi0):=by
 simp only [Ft,I6] at h;refine ⟨by omega,?_⟩;rw [List.getElem?_eq_getElem (show (rO q).toNat<(kyF T q).length by omega)];rfl
end
theorem rz_keyed (T:List e8Sc)(hT:TsOK T)(hsn:∀s∈T,T3 s)(q:Qy)(hrv:RvOK T q.vars)(hvp:0<q.vars.length)(hkl:q.key.length<=1048576):Ap Tryz.prog 107 [.sl 2 (T.map Fx),.agg (cQy q)] (.tuple [.str (nL T q).1,.bool (nL T q).2]):=by
 have htl:=hT.tl;have hv0:=kv0 hvp;have hk0:0<=Y9 q/\Y9 q<(T.length:Int):=hrv.ty _ (Aj hv0);have hs0:=ks0 hk0;have hTp:0<T.length:=by omega
 refine Fl 83 Tryz.func107 rfl fun H=>?_
 refine Af (Qp (Ik Ps) (Qp La (Qp Bh (A2 (Cg (Qp (Qf gky) (Qp Ew ?_)))))));refine Qp (G1 q.key.length rfl rfl (by simp)) ?_;refine Qp Bq (Bp (fun hc1=>?_) fun hc1=>?_)
 .
  refine Af (Qp La (Qp Bh (Rc ?_)));refine Nb (.str _) (.bool _) ?_;exact Ye Uk (ky_1 hc1)
 refine B6 (Cg (Qp (Qf gky) (Qp Ew ?_)));refine Qp (G1 q.key.length rfl rfl (by simp)) ?_;refine Qp Mm ?_;refine Qp (G1 T.length rfl rfl (by simp)) ?_;refine Qp C3 (Bp (fun hc2=>?_) fun hc2=>?_)
 .
  refine Af (Qp La (Qp Bh (Rc ?_)));refine Nb (.str _) (.bool _) ?_;exact Ye Uk (ky_2 hc1 hc2)
 have hky:=kk0 hk0 hc2;refine B6 (Af (Qp Mm ?_));refine Qe (Dc rfl (T1 T hT.tl hT.nd _)) ?_;rintro _ _ ⟨b23,s23,rfl,rfl⟩;refine Qp O2 (B7 (Qp Bu (Qp (Qf giy) (Qp Ew ?_))));refine Qp (Ae rfl) ?_;refine Qp Cw ?_;refine Bz 0 [_,_,_,_,Iq _,Iq _] (_::_::_) ?_;refine B7 (Qp (Qf giy) (Qp Ew ?_));refine Qp (E9 Iy rfl rfl (by decide) (Cf hv0)) ?_;refine Qp (Qf [Iq _]) (Qp Cd (Qp Ax (A2 (Cg (Qp (Qf gky) (Qp Ew (Qp A0 ?_)))))));refine Qp (E9 [Iq _] rfl rfl (hk0.1) (Cf hky)) ?_;refine Qp Cd (Qp Ax (B7 (Qp A0 (Qp Cv (Qp Co (Qg [] Qw A0 (Qg [] Qw Mm (Qg [] Qw A0 ?_))))))));refine Qg [(43,_),(44,_)] (Yv rfl Es Es) (E9 M7 rfl rfl (hk0.1) (Cf hs0)) ?_;refine Qg [(45,_)] Qw (Qf [_]) (Qg [(46,_)] Qw Ew ?_);refine Yh [(47,_)] Qw (fun hG=>G1 ((kyF T q).length) rfl rfl (by rw [By];rfl)) ?_;refine Qg [(42,_),(48,_)] Yw Jt ?_;refine Qp Gv (Bp (fun hc3=>?_) fun hc3=>?_)
 .
  refine Af (Qp La (Qp Bh (Rc ?_)));refine Yx [.str _,.bool _] Zf S2 ?_;exact Ye Uk (ky_3 hc1 hc2 hc3)
 have hfi:=kf0 hc3;have hnl:(gA T q).length<=1048576:=(hsn _ (Aj hs0)).2.2 _ (Aj hfi.2);refine B6 (AW.seq ?_);refine Ok ?_;refine Qn 0 rfl Mm (Qn 1 rfl A0 ?_);refine Qn 2 rfl (E9 M7 rfl rfl (hk0.1) (Cf hs0)) ?_;refine Qn 3 rfl (Qf [_]) (Qn 4 rfl Ew (Qn 5 rfl (Qf gky) (Qn 6 rfl Ew (Qn 7 rfl A0 ?_))));refine Qn 8 rfl (E9 [Iq _] rfl rfl (hk0.1) (Cf hky)) ?_;refine Qn 9 rfl Cd ?_;refine Qn 10 rfl (E9 Iy rfl rfl (hfi.1) (Cf hfi.2)) ?_;refine Qn 11 rfl (Qf Iy) (Qn 12 rfl F4 (Qn 13 rfl La ?_));refine Iw ?_;refine Aa (Af (Qp Bu (Qp Gu ?_)));refine AOL.Aaz (Cj (k:=0) (by kernel_rfl) rfl rfl (rz_key T q.vars ⟨0,0⟩ b23 _ _ _ _ hrv (gA T q) hTp)) rfl rfl ?_;refine Qp Th (Qp Qxs (Qp fU (Qp jF (Qp Bh (B7 (Qp Gu (Qp Co (Qp Co (Qg [] Qw Mm ?_)))))))));refine Qg [] Qw (Qf gky) (Qg [(74,_)] Qw Ew ?_);refine Yh [(73,_),(75,_)] Yw (fun hG=>Qc rfl (rz_eq (O0 T q.vars (gA T q)).1 q.key (by have:=zQ T q.vars (gA T q);omega) hkl)) ?_;refine Qp Ks (Qp Co (Qg [] Qw Gu ?_));refine Qg [(79,_)] Qw (Qc rfl (c20 (gA T q) hnl)) ?_;refine Qg [(80,_)] Qw Bq (Qp Ks (Qp La (Qp Bh (Rb ?_))));refine Yx [.str _,.bool _] Zf S2 ?_;exact Ye Uk (ky_4 hc1 hc2 hc3)
theorem rz_conds (p:Pt)(hp:J5 p<=1048576)(H:List HO):Bt Tryz.prog 110 H [.agg (cPt p)] (fun r H'=>∃v,r = .row v 8 ((Tg p).map Gx)/\H' = .row v ((Tg p).map Gx).length 53 8::H):=by
 have hal:=Wj p;refine H7 37 Tryz.func110 rfl ?_;refine Af (Qp (Ik Gq) (Qp (Cb (z:=8) rfl) (B7 (Qp O2 ?_))));refine AOL.ghost (GS.row (t:=3) 53 8 rfl) ?_;refine A2 ?_;refine AW.cut (fun (z:List (List AV)×Value)=>(⟨[(1,.ptr (cPt p)),(2,.sl 8 []),(3,.row z.2 8 z.1)],.row z.2 z.1.length 53 8::H,37⟩:St)) (fun z=>z.1=(coH p).map Gx) ?_ ?_
 .
  refine Af (Qp (Qf Gq) (Qp Cd (Qp Bq (Qp Co (Qg [] Qw (Qf Gq) (Qg [(10,_)] Qw Cd (Qg [(11,_)] Qw Bq (Qp Gv (Qp Co ?_)))))))));refine Qg [] Qw (Qf Gq) (Qg [(15,_)] Qw Cd (Qg [(16,_)] Qw Bq (Qp Gv (Bp (fun hc1=>AW.region (Qp (Ab (v:=.row _ _ _) rfl) (Qp jG (Qp Xb (Qp (Ir [Me] rfl) ?_))))) fun hc1=>B6 ?_))))
  .
   refine Qe (Vc 0 rfl (D5 rfl) (by simp) (by simp) (by simp [maxLen])) ?_;rintro _ _ ⟨v23,rfl,rfl⟩;refine Qp (Ad (v:=.row _ _ _) rfl) (A2 ?_);refine ⟨([cE p.cond],v23),?_,Dh⟩;show [cE p.cond]=_;unfold coH;rw [show Vu p=true from hc1];exact congrArg (fun c=>[c]) (M5 _).symm
  refine ⟨([],.slice none 0 0),?_,Dh⟩;show []=_;unfold coH;rw [show Vu p=false from hc1];rfl
 rintro z hz;refine Cg (Qp (Qf ghy) (Qp Ew ?_));refine Qp (G1 p.args.length rfl rfl (by simp)) ?_;refine Qp A0 (A2 (AW.block ?_));refine AW.loopS (fun (q:Nat×List (List AV)×Value)=>(⟨[(1,.ptr (cPt p)),(2,.sl 8 []),(3,.row q.2.2 8 q.2.1),(25,.sl 14 (p.args.map Tj)),(26,.int .i64 p.args.length),(27,.int .i64 (q.1:Int))],.row q.2.2 q.2.1.length 53 8::H,37⟩:St)) (fun q=>q.1<=p.args.length/\q.2.1=(coH p++(p.args.take q.1).flatMap Tg).map Gx) (fun q=>p.args.length-q.1) ((0,z.1,z.2)) ?_ Dh ?_
 . exact ⟨A7 _,by rw [hz];simp⟩
 rintro q hR;refine Af (Qp Cv (Re (Gn (fun hc2=>?_) fun hc2=>?_)))
 .
  obtain ⟨a,ha⟩:=C2 hc2;have hlt:=Cc ha;have hm:=Aj ha;have hsc:∀c∈q.2.1,Au c=true:=by rw [hR.2];exact yT _
  have hb1:q.2.1.length<=1048577:=by have h:=uL (p:=p) q.1;have h2:=uK p;rw [hR.2,By,Ao];omega
  have hb2:((Tg a).map Gx).length<=1048576:=by have:=jO a;have:=Ph hm;rw [By];omega
  refine B6 (AW.seq (AW.block (Af ?_)));refine Qp (E9 Gq rfl rfl (by omega) (iT ha)) ?_;refine Qp (C1 Gq) (D7 ggx fun b5=>?_);refine Bz 0 Gq (_::_::_) ?_;refine Kh 5 0 rfl ?_;refine A2 (AW.region (Qp (Ab (v:=.row _ _ _) rfl) (Qp (C1 Gq) ?_)));refine Qp (Qc rfl (rf_conds a (by have:=Ph hm;omega))) ?_;refine Qe (Vc 0 rfl (yT _) (hsc) (by simp at hb2 ⊢;omega) (by simp [maxLen] at hb2 ⊢;omega)) ?_;rintro _ _ ⟨v34,rfl,rfl⟩;refine Qp (Ad (v:=.row _ _ _) rfl) (Rk (AW.region (Qp Hb (Qp A0 (A2 ?_)))));refine ⟨(q.1+1,q.2.1++(Tg a).map Gx,v34),?_,?_,Dh⟩
  . exact ⟨hlt,by simp only;rw [Cs ha,hR.2];simp⟩
  simp only;omega
 have hte:=Dt hc2;have hall:=hR.2;rw [hte] at hall;refine AW.exit ?_;refine Br (Ri (Af ?_));refine Qp (Ab (v:=.row _ _ _) rfl) (Qp (Ad (v:=.row _ _ _) rfl) (Rb ?_));refine ⟨.inr rfl,[.row _ _ _],Ze,_,S0,?_⟩;have hq:q.2.1=(Tg p).map Gx:=hall.trans (congrArg (List.map Gx) (coP_H p)).symm;exact ⟨q.2.2,congrArg (fun l:List (List AV)=>AV.row q.2.2 8 l) hq,congrArg (fun l:List (List AV)=>(HO.row q.2.2 l.length 53 8::H:List HO)) hq⟩
theorem tnB_any (T:List e8Sc)(q:Qy):(!(q.vars.any fun v=>F7 ((T[v.type.toNat]?).getD Zs).name != 0))=tnB T q:=by
 unfold tnB;rw [List.not_any_eq_all_not]
 congr 1
 funext v
 unfold bC;simp [bne]
theorem rz_sh1 (T:List e8Sc)(hsn:∀s∈T,T3 s)(a:Va)(ht:0<=a.type/\a.type<(T.length:Int)):Ap Tryz.prog 109 [.agg (Rd a),.ptr [.sl 2 (T.map Fx)]] (.bool (F7 ((T[a.type.toNat]?).getD Zs).name != 0)):=by
 refine Fl 12 Tryz.func109 rfl fun H=>?_
 refine Af (Qp (Ik Iy) (Qp Bh (B7 (Qp Ew (Qp (Qf [Iq _]) (Qp Cd ?_))))));refine Qp (E9 M7 rfl rfl (ht.1) (Cf (ty_in ht))) (Qp (Qf M7) (Qp F4 (Qp (Qc rfl (c20 ((T[a.type.toNat]?).getD Zs).name (hsn _ (Aj (ty_in ht))).1)) (Qp C3 (Qp Bh (Rb (Qr (.bool _) ?_)))))));rfl
theorem pI (l:List Va)(hl:l.length<=1048576)(K:FuncId)(hK:Tn Tryz.prog K=true)(cs:List AV)(p:Va->Bool)(hf:∀a∈l,Ap Tryz.prog K (.agg (Rd a)::cs) (.bool (p a))):Ap Tryz.prog 108 [.sl 2 (l.map Rd),.fn (.func K) [] cs] (.bool (l.any p)):=by
 refine Fl 9 Tryz.func108 rfl fun H=>?_
 refine Af (Qp Bh (B7 (Qp Mm (Qp (Ab (v:=.fn _ _ _) rfl) (Qp (Qc rfl (rz_index l hl K hK cs p hf)) (Qp Jt (Qp Bh (Rb (Qr (.bool _) ?_)))))))));exact Eq.trans rfl (congrArg (fun q:Bool=>AV.bool q) (dG p l).2)
theorem rv_of {T:List e8Sc}{q:Qy}(hT:TsOK T)(hc:(Hf q.pattern != 0)=false)(h:zK T q=0):RvOK T q.vars/\(Li q.pattern).length=q.vars.length:=by
 have hvl:(Li q.pattern).length=q.vars.length/\tD T ((Li q.pattern).map (·.2)) [] 0 q.vars=0:=by
  unfold zK at h;split at h
  . cases h
  rename_i h1;exact ⟨by have h2:=h1;simp at h2;omega,h⟩
 have h1:=tE q.vars [] 0 hvl.2 Of;refine ⟨⟨hT.tl,hT.fl,by have:=ty_len hc;have:=hvl.1;omega,fun v hv=>?_⟩,hvl.1⟩;obtain ⟨k,hk⟩:=Jp.1 hv;obtain ⟨_,b,c,_⟩:=h1.2 k v hk;exact ⟨b,c⟩
theorem ty_pos:∀p:Pt,(∀x∈Hx p,NdOK x)->0<(Li p).length:=by
  intro p
  induction p using Pt.ind with
  | h p ih=>
    intro hp;have hme:=hp p (kN p);by_cases ho:p.op=0
    . rw [lE,Ao]
      have:Wf p = [(p.var,p.type)]:=if_pos (by unfold Z3;rw [ho];rfl);rw [this];simp;omega
    . have hl:0<p.args.length:=by
        have h1:=hme.parts.1.1;rcases hme.cases with h | h | h | h | h | h | h | h <;> first | exact absurd h ho | (rw [h] at h1;simp [Lg,shpL] at h1;omega)
      obtain ⟨a,ha⟩:∃a,p.args[0]? = some a:=⟨_,List.getElem?_eq_getElem hl⟩;have hm:=Aj ha;have h2:=ih a hm fun x hx=>hp x (nd_kid hm hx)
      rw [nI ha,Ao,Ao];omega
section
variable {T:List e8Sc} {q:Qy}
theorem sn_1 (h:(F7 q.name != 0)=true):fV T q=([],8):=if_pos (X0 h)
theorem sn_2 (h:(F7 q.name != 0)=false)(h2:(Hf q.pattern != 0)=true):fV T q=([],Hf q.pattern):=(B2 (X0 h)).trans (if_pos h2)
theorem sn_3 (h:(F7 q.name != 0)=false)(h2:(Hf q.pattern != 0)=false)(h3:(zK T q != 0)=true):fV T q=([],zK T q):=(B2 (X0 h)).trans ((B2 h2).trans (if_pos h3))
theorem yZ (h:(F7 q.name != 0)=false)(h2:(Hf q.pattern != 0)=false)(h3:(zK T q != 0)=false):fV T q=sh1 T q:=(B2 (X0 h)).trans ((B2 h2).trans (B2 h3))
theorem sn_4 (h:(!(nL T q).2)=true):sh1 T q=([],16):=if_pos h
theorem sn_5 (h:(!(nL T q).2)=false)(h2:((q.returns.length:Int)==0)=true):sh1 T q=([],15):=(B2 h).trans (if_pos h2)
theorem sn_c (h:(!(nL T q).2)=false)(h2:((q.returns.length:Int)==0)=false):sh1 T q=sh2 T q:=(B2 h).trans (B2 h2)
theorem sn_6 {e:Int}(h:rtE q=e)(he:(e != 0)=true):sh2 T q=([],e):=by unfold sh2;rw [h,if_pos he]
theorem sn_d (h:rtE q=0):sh2 T q=sh3 T q:=by unfold sh2;rw [h];rfl
theorem sn_7 {u:Int×Bool}(h:usR T q=u)(hu:(u.1 != 0)=true):sh3 T q=([],u.1):=by unfold sh3;rw [h,if_pos hu]
theorem sn_8 {b:Bool}(h:usR T q=(0,b))(hb:(!b)=true):sh3 T q=([],8):=by unfold sh3;rw [h];exact (B2 (rfl:((0:Int) != 0)=false)).trans (if_pos hb)
theorem sn_9 {b:Bool}(h:usR T q=(0,b))(hb:(!b)=false):sh3 T q=((nL T q).1,0):=by unfold sh3;rw [h];exact (B2 (rfl:((0:Int) != 0)=false)).trans (B2 hb)
theorem ex_at2 {l m:List Ex}{k:Nat}{a:Ex}(h:(l++m)[k]? = some a):(l.map Gx++m.map Gx)[k]? = some (cE a):=by rw [<-E5];exact ex_at h
theorem co_size {p:Pt}(hp:medP p):∀e∈Tg p,Dp e<=1048576:=fun e he=>by
 obtain ⟨x,hx,rfl⟩:=C9.1 he;exact hp.cond x (Jq.1 hx).1
end
abbrev Jb (q:Ag×Int):AV:=AV.tuple [.str q.1,.int .i64 q.2]
theorem rz_shown (T:List e8Sc)(hT:TsOK T)(hsn:∀s∈T,T3 s)(q:Qy)(hq:medQ q)(hql:q.name.length<=1048576)(hvn:∀v∈q.vars,v.name.length<=1048576):Ap Tryz.prog 60 [.sl 2 (T.map Fx),.agg (cQy q)] (.tuple [.str (fV T q).1,.int .i64 (fV T q).2]):=by
 have hll:(Tg q.pattern++q.returns).length=(Tg q.pattern).length+q.returns.length:=Ao;have hcl:=jO q.pattern;have hpn:=hq.p.n;have hrl:=hq.r;refine Fl 97 Tryz.func60 rfl fun H=>?_
 refine Af (Qp (Sw (v:=.sl _ _) (cs:=[_]) rfl rfl rfl) (Qp (Ik Ps) (Qp La (Qp Ax (A2 (Cg (Qp (Qf Ps) (Qp F4 (Qp (Qc rfl (c20 q.name hql)) (Qp C3 (Bp (fun hc1=>Af (Qp La (Qp Ax (Rc (Nb (.str _) (Iq _) ?_))))) fun hc1=>?_)))))))))))
 . exact Ye Jb (sn_1 hc1)
 refine B6 (Cg (Qp (Qf gkz) (Qp (C1 Gq) (Qp (Qc rfl (pH q.pattern hq.p)) (Qp Ax (B7 (Qp A0 (Qp C3 (Bp (fun hc2=>Af (Qp A0 (Qp La (Qp Ax (Rc (Nb (.str _) (Iq _) ?_)))))) fun hc2=>B6 (Cg (Qp Ew (Qp (C1 Ps) (Qp (Qc rfl (rz_vars T hT.tl q (ty_nodup hc2) (fun i x hx=>Z2 hc2 hx) hq.p.n hq.v hvn)) ?_)))))))))))))
 . exact Ye Jb (sn_2 hc1 hc2)
 refine Qp Ax (B7 (Qp A0 (Qp C3 (Bp (fun hc3=>Af (Qp A0 (Qp La (Qp Ax (Rc (Nb (.str _) (Iq _) ?_)))))) fun hc3=>?_))))
 . exact Ye Jb (sn_3 hc1 hc2 hc3)
 have hrv:=rv_of hT hc2 (by simpa using hc3);have hvp:0<q.vars.length:=by have:=ty_pos q.pattern (Up hc2);have:=hrv.2;omega
 refine B6 (Af (Qp Ew (Qp (C1 Ps) (Qp (Qc rfl (rz_keyed T hT hsn q hrv.1 hvp hq.k)) (Qp Th (Qp wV (Qp fU (Qp La (Qp Bh (A2 (Cg (Qp Co (Qp J4 (Bp (fun hc4=>Af (Qp La (Qp Ax (Rc (Nb (.str _) (Iq _) ?_))))) fun hc4=>B6 (Cg (Qp (Qf [_]) (Qp Ew ?_)))))))))))))))))
 . exact Ye Jb ((yZ hc1 hc2 hc3).trans (sn_4 hc4))
 refine Qp (G1 q.returns.length rfl rfl (by simp)) ?_;refine Qp Bq (Bp (fun hc5=>Af (Qp La (Qp Ax (Rc (Nb (.str _) (Iq _) ?_))))) fun hc5=>B6 (Cg (Qp (Qf [_]) (Qp Ew ?_))))
 . exact Ye Jb ((yZ hc1 hc2 hc3).trans (sn_5 hc4 hc5))
 refine Qp (G1 q.returns.length rfl rfl (by simp)) ?_;refine Qp A0 (A2 (AW.block ?_));refine AW.loopS (fun (k:Nat)=>(⟨[(2,.ptr [.sl 2 (T.map Fx)]),(3,.ptr (cQy q)),(8,.str (nL T q).1),(48,.sl 8 (q.returns.map Gx)),(49,.int .i64 q.returns.length),(50,.int .i64 (k:Int))],H,97⟩:St)) (fun k=>k<=q.returns.length/\(q.returns.take k).any (fun x=>Fg x != 0)=false) (fun k=>q.returns.length-k) (0) ?_ Dh ?_
 . exact ⟨A7 _,by simp⟩
 rintro k hR;refine Af (Qp Cv (Re (Gn (fun hc6=>?_) fun hc6=>?_)))
 .
  obtain ⟨a,ha⟩:=C2 hc6;have hlt:=Cc ha;have hm:=Aj ha;refine B6 (AW.seq (AW.block (Af ?_)));refine Qp (E9 Me rfl rfl (by omega) (ex_at ha)) ?_;refine Qp Xb (D7 ggy fun b11=>?_);refine Bz 0 Me (_::_) ?_;refine Kh 11 0 rfl ?_;refine B7 (Qp Xb (Qp (Qc rfl (e8c21 a (hq.e a hm))) (Qp Ax (B7 (Qp A0 (Qp C3 (Bp (fun hc7=>Af (Qp A0 (Qp La (Qp Ax (Ra (A4 (Dw (A4 (Nb (.str _) (Iq _) ?_))))))))) fun hc7=>Rf (AW.region (Qp Hb (Qp A0 (A2 ?_)))))))))))
  . exact Ye Jb (((yZ hc1 hc2 hc3).trans (sn_c hc4 hc5)).trans (sn_6 (iF ha hR.2 hc7) hc7))
  refine ⟨k+1,?_,?_,Dh⟩
  . exact ⟨hlt,N7 hR.2 ha hc7⟩
  omega
 have hte:=Dt hc6;have hrt:=hR.2;rw [hte] at hrt;refine AW.exit ?_;refine Br (Ri (Af (Qp Ew (Qp (Qf giy) (Qp Ew (Qp (E2 [_,_]) ?_))))));refine D7 [.sl 2 [],.sl 2 []] fun b13=>?_
 refine Bz 0 [_,_] (_::_) ?_;refine Kh 13 0 rfl ?_;refine B7 (Qp (Qf giy) (Qp Ew (Qp (B0 (l:=[]) (l':=[.ptr _]) rfl rfl) ?_)));refine Qp (Qc rfl (pI q.vars hq.v 109 (by kernel_rfl) [.ptr [.sl 2 (T.map Fx)]] (fun v=>F7 ((T[v.type.toNat]?).getD Zs).name != 0) (fun a ha=>rz_sh1 T hsn a (hrv.1.ty a ha)))) ?_;refine Qp J4 (Qp Bh (Re (AW.seq ?_)));refine Ok ?_;refine Qn 0 rfl (Qf gkz) (Qn 1 rfl (C1 Gq) (Qn 3 rfl (Qf [_]) (Qn 4 rfl Ew (Qn 7 rfl A0 ?_))));refine qE 2 rfl (Dc rfl (rz_conds q.pattern hq.p.n _)) ?_;rintro _ _ ⟨v71,rfl,rfl⟩;refine qE 5 rfl (Vc 0 rfl (yT _) (yT _) (by simp;omega) (by simp [maxLen];omega)) ?_;rintro _ _ ⟨v74,rfl,rfl⟩;refine Qn 6 rfl (E8 (n:=(Tg q.pattern++q.returns).length) tok rfl rfl rfl (by simp)) ?_;refine Iw ?_;refine Aa (AW.block ?_);refine AW.ghost (GS.unrow 74 rfl) ?_;refine AW.loopS (fun (z:Nat×Bool)=>(⟨[(8,.str (nL T q).1),(13,.ptr (cNm T q.vars)),(14,.bool z.2),(74,.sl 8 ((Tg q.pattern).map Gx++q.returns.map Gx)),(75,.int .i64 (Tg q.pattern++q.returns).length),(76,.int .i64 (z.1:Int))],H,97⟩:St)) (fun z=>z.1<=(Tg q.pattern++q.returns).length/\usR T q=Pm T q.vars ((Tg q.pattern++q.returns).drop z.1) z.2) (fun z=>(Tg q.pattern++q.returns).length-z.1) ((0,!(q.vars.any fun v=>F7 ((T[v.type.toNat]?).getD Zs).name != 0))) ?_ (GS.weaken ⟨rfl,rfl,rfl,rfl,rfl,rfl,trivial⟩ (.cons _ (.refl _))) ?_
 . exact ⟨A7 _,by simp only;rw [tnB_any];rfl⟩
 rintro z hz;refine Af (Qp Cv (Re (Gn (fun hc8=>?_) fun hc8=>?_)))
 .
  obtain ⟨a,ha⟩:=C2 hc8;have hlt:=Cc ha;have hm:=Aj ha;have hsa:Dp a<=1048576:=(Gd.1 hm).elim (co_size hq.p a) (hq.e a);refine B6 (AW.seq (AW.block (Af ?_)));refine Qp (E9 Me rfl rfl (by omega) (ex_at2 ha)) ?_;refine Qp Xb (D7 ggy fun b16=>?_);refine Bz 0 Me (_::_) ?_;refine Kh 16 0 rfl ?_;refine B7 (Qp (C1 [_,_]) (Qp Xb (Qp (Qc rfl (rf_uses T q.vars hrv.1 hsn a hsa)) (Qp Th (Qp Td (Qp fU (Qp Ax (Qp Bh (A2 (Cg (Qp A0 (Qp C3 ?_))))))))))));refine Bp (fun hc9=>Af (Qp A0 (Qp La (Qp Ax (Rc (Rj (A4 (Nb (.str _) (Iq _) ?_)))))))) fun hc9=>B6 (AW.region (Qp Co (Qp Co (Qg [] Qw Co (Qp Ks (Qp Bh (Rk (AW.region (Qp Hb (Qp A0 (A2 ?_)))))))))))
  . exact Ye Jb ((((yZ hc1 hc2 hc3).trans (sn_c hc4 hc5)).trans (sn_d (Ry hrt))).trans (sn_7 (hz.2.trans (wG ha hc9)) hc9))
  refine ⟨(z.1+1,z.2&&(Tc T q.vars a).2),?_,?_,Dh⟩
  . exact ⟨hlt,hz.2.trans (wH ha hc9)⟩
  simp only;omega
 have hde:=Gz hc8;have hall:=hz.2;rw [hde,Pm] at hall;refine AW.exit ?_;refine Br (Ri (Cg (Qp Co (Qp J4 (Bp (fun hc10=>?_) fun hc10=>?_)))))
 .
  refine Af (Qp La (Qp Ax (Rc (Nb (.str _) (Iq _) ?_))));exact Ye Jb ((((yZ hc1 hc2 hc3).trans (sn_c hc4 hc5)).trans (sn_d (Ry hrt))).trans (sn_8 hall hc10))
 refine B6 (Af (Qp Gu (Qp La (Qp Ax (Rb (Nb (.str _) (Iq _) ?_))))));exact Ye Jb ((((yZ hc1 hc2 hc3).trans (sn_c hc4 hc5)).trans (sn_d (Ry hrt))).trans (sn_9 hall hc10))
def wt (t:Tok):Nat:=70+5*t.text.length
def pot:List Tok->Nat->Nat
 | [],_=>0
 | _::_,0=>0
 | t::r,n+1=>wt t+pot r n
def pt (st:PS):Nat:=pot st.toks st.pos
variable {l:List Tok} {e d:Int} {a b st:PS} {w:Ag}
variable {pre post rest:List Tok} {d:Int} {t:Tok}
variable {pre post rest:List Tok} {d:Int} {t:Tok}
variable {pre post rest:List Tok} {d:Int} {t:Tok}
variable {pre post rest:List Tok} {d:Int} {t:Tok}
variable {pre post rest:List Tok} {d:Int} {t:Tok}
theorem sG {a:Syn}(h:B4 a (.only 0)=0)(hk:a.kind=0):∃A B,a.kids=A++B/\(∀x∈A,x.kind=1/\B4 x (.only 1)=0)/\∀x∈B,x.kind=3/\B4 x (.only 3)=0:=by
  have key:∀(j:Nat) x,a.kids[j]? = some x->(x.kind=1/\(j=0\/(B5 a (j-1)).kind=1))\/x.kind=3:=fun j x hx=>by
    have c:=Pa h hx;have e:B5 a j=x:=by unfold B5;rw [E6,hx];rfl
    unfold Id at c;rw [hk,if_pos (by rfl),e] at c;split at c
    . rename_i h1
      rw [Cy,Ii] at h1;refine .inl ⟨by simpa using h1.1,?_⟩;rcases h1.2 with h2 | h2
      . left;simpa using h2
      right;simpa using h2
    exact .inr (Jf c.2)
  have kc:∀(j:Nat) x,a.kids[j]? = some x->(x.kind=1->B4 x (.only 1)=0)/\(x.kind=3->B4 x (.only 3)=0):=fun j x hx=>by
    have c:=Pa h hx;have e:B5 a j=x:=by unfold B5;rw [E6,hx];rfl
    unfold Id at c;rw [hk,if_pos (by rfl),e] at c;split at c
    . exact ⟨fun _=>c.1,fun h3=>by have:=Jf c.2;omega⟩
    exact ⟨fun h1=>by have:=Jf c.2;omega,fun _=>c.1⟩
  -- the longest beginning of types
  have main:∀n:Nat,n<=a.kids.length->(∀j,j<n->∀x,a.kids[j]? = some x->x.kind=1)\/∃m,m<n/\(∀j,j<m->∀x,a.kids[j]? = some x->x.kind=1)/\∀j,m<=j->j<n->∀x,a.kids[j]? = some x->x.kind=3:=by
    intro n
    induction n with
    | zero=>intro _;left;intro j hj;omega
    | succ n ih=>
      intro hn;have hx:a.kids[n]? = some a.kids[n]:=List.getElem?_eq_getElem (by omega);rcases ih (by omega) with h1 | ⟨m,hm,h2,h3⟩
      . rcases key n _ hx with ⟨k1,_⟩ | k3
        . left
          intro j hj x hjx;by_cases hjn:j=n
          . subst hjn;rw [hx] at hjx;cases hjx;exact k1
          exact h1 j (by omega) x hjx
        . right
          refine ⟨n,by omega,h1,fun j hj hj2 x hjx=>?_⟩;obtain rfl:j=n:=by omega
          rw [hx] at hjx;cases hjx;exact k3
      . right
        refine ⟨m,by omega,h2,fun j hj hj2 x hjx=>?_⟩;by_cases hjn:j=n
        . subst hjn
          rw [hx] at hjx;cases hjx;rcases key j _ hx with ⟨k1,k2⟩ | k3
          . exfalso
            have hp:a.kids[j-1]? = some a.kids[j-1]:=List.getElem?_eq_getElem (by omega);have e:B5 a (j-1)=a.kids[j-1]:=by unfold B5;rw [E6,hp];rfl
            have k3:=h3 (j-1) (by omega) (by omega) _ hp;rcases k2 with h0 | h0
            . omega
            rw [e] at h0;omega
          exact k3
        exact h3 j hj (by omega) x hjx
  rcases main a.kids.length (Bc _) with h1 | ⟨m,hm,h2,h3⟩
  . refine ⟨a.kids,[],by simp,fun x hx=>?_,fun x hx=>by cases hx⟩
    obtain ⟨j,hj⟩:=Jp.1 hx;have:=h1 j (List.getElem?_eq_some_iff.1 hj).1 x hj;exact ⟨this,(kc j x hj).1 this⟩
  . refine ⟨a.kids.take m,a.kids.drop m,(Po ..).symm,fun x hx=>?_,fun x hx=>?_⟩
    . obtain ⟨j,hj⟩:=Jp.1 hx
      rw [List.getElem?_take] at hj;split at hj
      . have:=h2 j (by assumption) x hj
        exact ⟨this,(kc j x hj).1 this⟩
      cases hj
    . obtain ⟨j,hj⟩:=Jp.1 hx
      rw [List.getElem?_drop] at hj;have:=h3 (m+j) (by omega) (List.getElem?_eq_some_iff.1 hj).1 x hj;exact ⟨this,(kc _ x hj).2 this⟩
section
variable {f g:Syn->Ag} {l:List Syn}
end
variable {l:List Tok} {e d:Int} {a b st:PS} {w:Ag} {p:Pl}
variable {l:List Tok} {e d:Int} {a b st:PS} {w:Ag} {p:Pl}
variable {l:List Tok} {e d:Int} {a b st:PS} {w:Ag} {p:Pl}
def qmed (t:Syn):Prop:=∀a∈t.kids,a.kind=3->U7 a
theorem wD {p:UInt8->Bool}:∀{s:Ag},Bb p s=s.length->s.all p=true
  | [],_=>rfl
  | c::r,h=>by
    rw [Bb] at h;split at h
    . rename_i h1
      rw [Lz,h1,wD (by rw [A1] at h;omega)];rfl
    rw [A1] at h;omega
theorem nm_sch {s:Ag}(h:bC s=true):D3 s=true/\Lp s=true:=by
  obtain ⟨h0,h1,h2,h3,h4⟩:=name_is h;have ha:=wD h3;obtain ⟨c,r,rfl⟩:∃c r,s=c::r:=by cases s with | nil=>cases h0 | cons c r=>exact ⟨c,r,rfl⟩
  have hl:C7 c=true:=h2
  have hd:A9 c=false:=by
    cases hq:A9 c with
    | false=>rfl
    | true=>
      have:=rB c;rw [hq,hl] at this;simp at this
  have hn:D3 (c::r)=true:=by
    unfold D3;have e1:(c::r).all xB=true:=ha;have e2:jR ((c::r).headD 0).toNat=false:=hd;rw [e1,e2,Gc h1];rfl
  refine ⟨hn,?_⟩;unfold Lp;rw [hn,Fj,A5];cases hq:(c::r)==timeB with
  | false=>rfl
  | true=>
    rw [eq_of_beq hq] at h;have:=nm_time;rw [show Hs=timeB from rfl,h] at this;cases this
def fiA (x:Syn):Fi:=⟨x.text,x.num⟩
def tyA (a:Syn):e8Sc:=⟨a.text,a.kids.map fiA⟩
theorem uR:∀(l:List Syn) (fs:List Fi),(G4 fs l).2.err=0->fs.length<=8->(fs.map (·.name)).Nodup->G4 fs l=(fs++l.map fiA,Tk)/\fs.length+l.length<=8/\(fs.map (·.name)++l.map (·.text)).Nodup
  | [],fs,_,h2,h3=>⟨by rw [G4,Bw,A3],h2,by simpa using h3⟩
  | x::r,fs,h,h2,h3=>by
    rw [G4] at h ⊢;split at h
    . cases h
    . rename_i g1
      split at h
      . cases h
      . rename_i g2
        have c1:fs.length≠8:=by intro e;exact g1 (by rw [e];rfl)
        have c2:x.text∉fs.map (·.name):=by simpa using g2
        have ih:=uR r (fs ++ [⟨x.text,x.num⟩]) h (by rw [Ao,D2];omega) (by
          rw [E5]
          exact Jo.2 ⟨h3,by simp,fun a ha b hb=>by
            have e:b=x.text:=by simpa using hb
            rw [e];exact fun e=>c2 (e▸ha)⟩)
        rw [if_neg g1,if_neg g2,ih.1];refine ⟨by simp [fiA],?_,?_⟩
        . have:=ih.2.1
          rw [Ao,D2] at this;rw [A1];omega
        . have:=ih.2.2
          rw [E5] at this;simpa using this
theorem wE {B:List Syn}(hB:∀b∈B,b.kind≠1):∀(A:List Syn) (out:List e8Sc),(∀a∈A,a.kind=1)->(Gt out (A++B)).2.err=0->out.length<=16->(G0 out).Nodup->
    Gt out (A++B)=(out++A.map tyA,Tk)/\out.length+A.length<=16/\(G0 out++A.map (·.text)).Nodup/\∀a∈A,a.kids.length<=8/\(a.kids.map (·.text)).Nodup
  | [],out,_,_,h2,h3=>⟨by rw [Du,iX _ _ hB,Bw,A3],h2,by simpa using h3,fun a h=>by cases h⟩
  | x::r,out,hA,h,h2,h3=>by
    have hx:=hA x (by simp);rw [Dn,Gt,if_neg (by rw [hx];decide)] at h ⊢;split at h
    . cases h
    . rename_i g1
      split at h
      . cases h
      . rename_i g2
        split at h
        . rename_i g3
          exfalso;have h0:(G4 [] x.kids).2.err=0:=h;rw [h0] at g3;cases g3
        . rename_i g3
          have hf:=uR x.kids [] (by simpa using g3) (A7 _) Of;have c1:out.length≠16:=by intro e;exact g1 (by rw [e];rfl)
          have c2:x.text∉G0 out:=by simpa using g2
          have e0:(G4 [] x.kids).1=x.kids.map fiA:=by rw [hf.1,Du]
          rw [e0] at h;have en:G0 (out ++ [⟨x.text,x.kids.map fiA⟩])=G0 out ++ [x.text]:=by simp
          have ih:=wE hB r (out ++ [⟨x.text,x.kids.map fiA⟩]) (fun a ha=>hA a (by simp [ha])) h (by rw [Ao,D2];omega) (by
            rw [en];exact Jo.2 ⟨h3,by simp,fun a ha b hb=>by rw [Ep.1 hb];exact fun e=>c2 (e▸ha)⟩)
          rw [en] at ih;rw [if_neg g1,if_neg g2,if_neg g3,e0,ih.1];refine ⟨by simp [tyA],?_,by simpa using ih.2.2.1,fun a ha=>?_⟩
          . have:=ih.2.1
            rw [Ao,D2] at this;rw [A1];omega
          . rcases Cn.1 ha with rfl | ha
            . exact ⟨by simpa using hf.2.1,by simpa using hf.2.2⟩
            exact ih.2.2.2 a ha
theorem kid_ty {a x:Syn}(hc:B4 a (.only 1)=0)(hx:x∈a.kids):x.kind=2/\bC x.text=true/\x.name = []/\x.kids = []/\0<=x.num/\x.num<=2:=by
 have hk:a.kind=1:=Jf (K1 (Ka hc).1).1;obtain ⟨j,hj⟩:=Jp.1 hx;have h1:=(Pa hc hj).1;have e:Id a j = .only 2:=by unfold Id;rw [hk];rfl
 rw [e] at h1;obtain ⟨o1,o2,o3,o4⟩:=K1 (Ka h1).1;have k2:x.kind=2:=Jf o1;exact ⟨k2,vI o3 (by rw [k2];rfl) (by omega),(used_not o4 (by omega)).2 (by rw [k2];rfl),leaf_nil o2 (by simp [k2]),Y3 o4 k2⟩
theorem uS:∀(l:List Fi) (seen:List Ag),(seen++l.map (·.name)).Nodup->(∀f∈l,bC f.name=true/\0<=f.kind/\f.kind<=2)->Hp seen l=0
  | [],seen,_,_=>rfl
  | f::r,seen,h1,h2=>by
    obtain ⟨a1,a2,a3⟩:=h2 f (by simp)
    have hc:seen.contains f.name=false:=by
      cases hq:seen.contains f.name with
      | false=>rfl
      | true=>
        rw [Jo] at h1;exact absurd rfl (h1.2.2 f.name (by simpa using hq) f.name (by simp))
    have e:F9 seen f=0:=by
      unfold F9;rw [(nm_sch a1).2,if_neg (by decide),hc,if_neg (by decide),if_neg (by simp;omega)]
    rw [Hp,e,if_neg (by decide)];refine uS r _ ?_ fun f hf=>h2 f (by simp [hf])
    rw [Be] at h1;simpa using h1
theorem wF:∀(l:List e8Sc) (seen:List Ag),(seen++G0 l).Nodup->(∀s∈l,Gi s=0)->Ly seen l=0
  | [],seen,_,_=>rfl
  | s::r,seen,h1,h2=>by
    have hc:seen.contains s.name=false:=by
      cases hq:seen.contains s.name with
      | false=>rfl
      | true=>
        rw [Jo] at h1;exact absurd rfl (h1.2.2 s.name (by simpa using hq) s.name (by simp))
    have e:Lj seen s=0:=by
      unfold Lj;rw [h2 s (by simp),if_neg (by decide),hc];rfl
    rw [Ly,e,if_neg (by decide)];refine wF r _ ?_ fun f hf=>h2 f (by simp [hf])
    simpa using h1
theorem oR {T:List e8Sc}:∀(B:List Syn) (qs:List Qy),(∀b∈B,b.kind=3)->(E0 T qs B).2.err=0->qs.length<=16->(qs.map (·.name)).Nodup->
    E0 T qs B=(qs++B.map (fun b=>(Ef T b).1),Tk)/\qs.length+B.length<=16/\(qs.map (·.name)++B.map (·.text)).Nodup/\∀b∈B,((Ef T b).2.err != 0)=false
  | [],qs,_,_,h2,h3=>⟨by rw [E0,Bw,A3],h2,by simpa using h3,fun b h=>by cases h⟩
  | x::r,qs,hB,h,h2,h3=>by
    have hx:=hB x (by simp);rw [E0,if_neg (by rw [hx];decide)] at h ⊢;split at h
    . cases h
    . rename_i g1
      split at h
      . cases h
      . rename_i g2
        split at h
        . rename_i g3
          exfalso;have h0:(Ef T x).2.err=0:=h;rw [h0] at g3;cases g3
        . rename_i g3
          have g4:((Ef T x).2.err != 0)=false:=by simpa using g3
          have hn:=(oV g4).1;have c1:qs.length≠16:=by intro e;exact g1 (by rw [e];rfl)
          have c2:x.text∉qs.map (·.name):=by simpa using g2
          have en:(qs ++ [(Ef T x).1]).map (·.name)=qs.map (·.name) ++ [x.text]:=by simp [hn]
          have ih:=oR r (qs ++ [(Ef T x).1]) (fun a ha=>hB a (by simp [ha])) h (by rw [Ao,D2];omega) (by
            rw [en];exact Jo.2 ⟨h3,by simp,fun a ha b hb=>by rw [Ep.1 hb];exact fun e=>c2 (e▸ha)⟩)
          rw [en] at ih;rw [if_neg g1,if_neg g2,if_neg g3,ih.1];refine ⟨by simp,?_,by simpa using ih.2.2.1,fun a ha=>?_⟩
          . have:=ih.2.1
            rw [Ao,D2] at this;rw [A1];omega
          . rcases Cn.1 ha with rfl | ha
            . exact g4
            exact ih.2.2.2 a ha
def Wg (e p:Int):Nat:=if 0<=p/\p<=e then 1 else 100000
mutual
def vC (e:Int):Syn->Nat
 | ⟨_,x,n,_,ks,p⟩=>Wg e p+x.length+n.length+vL e ks
def vL (e:Int):List Syn->Nat
 | []=>0
 | x::r=>vC e x+vL e r
end
theorem Ws (e:Int):∀a b:List Syn,vL e (a++b)=vL e a+vL e b
 | [],b=>by rw [Du,vL];omega
 | x::a,b=>by rw [Dn,vL,vL,Ws e a b];omega
theorem pen_pos (e p:Int):1<=Wg e p:=by unfold Wg;split <;> omega
mutual
theorem w_v (e:Int):∀t:Syn,wC t<=vC e t
 | ⟨_,x,n,_,ks,p⟩=>by rw [wC,vC];have:=pen_pos e p;have:=wl_v e ks;omega
theorem wl_v (e:Int):∀l:List Syn,wL l<=vL e l
 | []=>Bc _
 | x::r=>by rw [wL,vL];have:=w_v e x;have:=wl_v e r;omega
end
def Vin (e:Int)(t:Syn):Prop:=vC e t<100000
def wz (t:Tok):Nat:=10+t.text.length
def sD:List Tok->Nat->Nat
 | [],_=>0
 | _::_,0=>0
 | t::r,n+1=>wz t+sD r n
theorem eK (l:List Tok):sD l 0=0:=by cases l <;> rfl
theorem oN:∀{l:List Tok} {n:Nat},n<l.length->sD l (n+1)=sD l n+wz (l.getD n M9)
  | t::r,0,_=>by
    show wz t+sD r 0=0+wz t;rw [eK];omega
  | t::r,n+1,h=>by
    rw [sD,sD,oN (by simpa using h)];simp only [List.getD_cons_succ];omega
theorem oM:∀(l:List Tok) {n m:Nat},n<=m->sD l n<=sD l m
  | [],_,_,_=>Bc _
  | t::r,0,m,_=>by rw [eK];exact A7 _
  | t::r,n+1,0,h=>by omega
  | t::r,n+1,m+1,h=>by
    rw [sD,sD];have:=oM r (n:=n) (m:=m) (by omega);omega
theorem vQ:∀(l:List Tok) (n:Nat),sD l n<=(l.map wz).sum
 | [],_=>A7 _
 | t::r,0=>by rw [eK];exact A7 _
 | t::r,n+1=>by rw [sD,Be,Hu];have:=vQ r n;omega
def pz (st:PS):Nat:=sD st.toks st.pos
variable {l:List Tok} {e d:Int} {a b st:PS} {w:Ag}
theorem Bo.pz (h:Bo a b):pz a<=pz b:=by
 unfold Go.Proofs.YtibcelnfkhdjaaaGreatDoor.pz;rw [h.toks];exact oM _ h.pos
theorem pz_adv (h:endP st=false):pz (adv st)=pz st+10+(lD st).text.length:=by
 show sD st.toks (st.pos+1)=_;rw [oN (X1 h)];unfold wz pz lD;omega
theorem N6 (hi:G6 w st=true):pz (adv st)=pz st+10+w.length:=by
 have h:=is_end hi
 have e:(lD st).text=w:=by
  unfold G6 at hi;rw [h] at hi;simp only [Al,↓reduceIte,Cy,beq_iff_eq] at hi;exact hi.1
 rw [pz_adv h,e]
theorem N5 (h:(Bn w st).bad=0):pz (Bn w st)=pz st+10+w.length:=by
 have h0:=(Bo.exp w st).good h;cases hi:G6 w st with
 | true=>rw [exp_yes h0 hi,N6 hi]
 | false=>rw [exp_no h0 hi] at h;exact absurd h (by decide)
theorem If {k:Int}(h:(Ck k st).bad=0):pz (Ck k st)=pz st+10+(G7 k st).length:=by
  have h0:=(Bo.tok k st).good h;cases hi:Ta k st with
  | true=>
    have e:Ck k st=adv st:=by unfold Ck;rw [if_pos hi]
    rw [e,pz_adv (nxt_end hi)];unfold G7;rw [if_pos hi]
  | false=>rw [tok_no h0 hi] at h;exact absurd h (by decide)
def Rn (l:List Tok)(e:Int):Prop:=∀n,0<=Qt l e n/\Qt l e n<=e
theorem At.pen (hR:Rn l e)(h:At l e d st):Wg e (D0 st)=1:=by
 rw [h.off];unfold Wg;rw [if_pos (hR _)]
def Wv (e:Int)(st:PS)(r:Syn×PS):Prop:=r.2.bad=0->Wg e r.1.pos=1/\pz st+vC e r.1<=pz r.2
def Te (l:List Tok)(e d:Int)(F:PS->Syn×PS):Prop:=∀st,At l e d st->Wv e st (F st)
theorem Kd {k m p:Int}{x n:Ag}{ks:List Syn}(hp:Wg e p=1):vC e ⟨k,x,n,m,ks,p⟩=1+x.length+n.length+vL e ks:=by rw [vC,hp]
theorem Vf (hR:Rn l e)(h:At l e d st){k m:Int}{x n:Ag}{ks:List Syn}{s:PS}(hp:s.bad=0->pz st+1+x.length+n.length+vL e ks<=pz s):Wv e st (⟨k,x,n,m,ks,D0 st⟩,s):=fun hb=>by
 have h1:=h.pen hR;refine ⟨h1,?_⟩;show pz st+vC e ⟨k,x,n,m,ks,D0 st⟩<=pz s;rw [Kd h1];have:=hp hb;omega
theorem wI (hR:Rn l e):Te l e d Fh:=fun st h=>by
 have q1:I4.length=3:=rfl;have q2:Gj.length=4:=rfl;have q3:Fe.length=6:=rfl;unfold Fh;split
 .
  rename_i h1;exact Vf hR h fun hb=>by have:=N6 h1;have:=If hb;simp only [vL,Bi];omega
 split
 . exact Vf hR h fun hb=>by have:=If hb;simp only [vL,Bi];omega
 split
 .
  rename_i h1;exact Vf hR h fun hb=>by have:=N6 h1;simp only [vL,Bi];omega
 split
 .
  rename_i h1;exact Vf hR h fun hb=>by have:=N6 h1;simp only [vL,Bi];omega
 exact Vf hR h fun hb=>by have:=If hb;simp only [vL,Bi];omega
theorem tC (h:At l e d st){read:Syn->PS->Syn×PS}{z:Syn}(hr:d<64->Wv e st ((read z (adv (Go.Proofs.YtibcelnfkhdjaaaGreatDoor.deep st))).1,shallow (read z (adv (Go.Proofs.YtibcelnfkhdjaaaGreatDoor.deep st))).2)):Wv e st (Mw read z st):=by
 rw [iR];rcases nest_bad st with hn | ⟨hn,h0⟩
 .
  rw [if_pos hn];exact fun hb=>absurd hb (by simpa using hn)
 rw [hn,if_neg (by rw [h0];decide)];refine hr (Classical.byContradiction fun hd=>?_);unfold F8 at hn;rw [if_pos (Gc (show 64<=st.depth by rw [h.2.2.1];omega))] at hn;have:=Md (e:=12) (by decide) st;rw [hn,h0] at this;exact absurd this (by decide)
theorem ins_v (hb:(Ts st).2.bad=0):pz st+30+(Ts st).1.1.length+(Ts st).1.2.length<=pz (Ts st).2:=by
 unfold Ts at hb ⊢;simp only at hb ⊢;have b3:=(Bo.tok 0 _).good hb;have b2:=(Bo.exp iZ _).good b3;have b1:=(Bo.tok 0 _).good b2;have p1:=N5 b1;have p2:=If b2;have p3:=N5 b3;have p4:=If hb;omega
theorem v_unit (hR:Rn l e){E:PS->Syn×PS}(sE:J3 E)(hE:d<64->Te l e (d+1) E):Te l e d (Ip E):=fun st h=>by
 unfold Ip;split
 .
  refine tC h fun hd hb=>?_
  have kd:Bo (deep st) (adv (deep st)):=.adv _;have b1:=(Bo.exp Ih (E (adv (deep st))).2).good hb;obtain ⟨g1,g2⟩:=hE hd _ ((h.deep hd).next kd) b1;have p1:=(Bo.exp Ih (E (adv (deep st))).2).pz;have p2:pz st<=pz (adv (deep st)):=kd.pz;exact ⟨g1,E7 (E7 (Nat.add_le_add_right p2 _) g2) p1⟩
 split
 .
  rename_i s hs;simp only;refine Vf hR h fun hb=>?_
  have k1:Bo st (Bn C8 (Ts (adv st)).2):=((Bo.adv _).trans (qU _)).trans (.exp _ _);have b3:=(Bo.exp Ih _).good hb;have b2:=(mC _).good b3;have q:=ins_v ((Bo.exp C8 _).good b2);have p0:=N6 (jX hs);obtain ⟨g1,g2⟩:=wI hR _ (h.next k1) b3;have p2:=(Bo.exp C8 (Ts (adv st)).2).pz;have p3:=(Bo.exp Ih (Fh (Bn C8 (Ts (adv st)).2)).2).pz;simp only [vL];omega
 split
 .
  rename_i h2;refine Vf hR h fun hb=>?_
  have q:=ins_v ((Bo.exp Ih _).good hb);have p0:=N6 h2;have p3:=(Bo.exp Ih (Ts (adv st)).2).pz;simp only [vL];omega
 split
 .
  rename_i h3;refine Vf hR h fun hb=>?_
  have b2:=(Bo.exp Ih _).good hb;have p0:=N6 h3;have p1:=(Bo.exp Fq (adv st)).pz;have p2:=If b2;have p3:=N5 hb;simp only [vL,Bi];omega
 split
 .
  simp only;split
  .
   rename_i h5;refine Vf hR h fun hb=>?_
   have b2:(Bn iZ (Ck 0 st)).bad=0:=hb;have p1:=If ((Bo.exp iZ _).good b2);have p2:=N5 b2;have p3:=N6 h5;simp only [vL];omega
  refine Vf hR h fun hb=>?_
  have b2:=(Bo.tok 0 _).good hb;have p1:=If ((Bo.exp iZ _).good b2);have p2:=N5 b2;have p3:=If hb;simp only [vL];omega
 exact wI hR st h
theorem iY {F:PS->Syn×PS}(sF:J3 F)(hF:Te l e d F){sg:List (Ag×Int)}{f:Nat}:∀(n:Nat) (st:PS) (out:Syn),At l e d st->Wg e out.pos=1->f+vC e out<=pz st->(Il F sg n st out).2.bad=0->Wg e (Il F sg n st out).1.pos=1/\f+vC e (Il F sg n st out).1<=pz (Il F sg n st out).2
  | 0,st,out,h,ho,hp,hb=>⟨ho,hp⟩
  | n+1,st,out,h,ho,hp,hb=>by
    unfold Il at hb ⊢;split
    . rename_i s hs1
      rw [hs1] at hb;simp only at hb;have k:=(Bo.adv st).trans (sF (adv st));have hb2:=(Ro sF n (F (adv st)).2 (Ti s.2 out (F (adv st)).1 out.pos) trivial).good hb;obtain ⟨g1,g2⟩:=hF (adv st) (h.next (.adv st)) hb2;have p0:=N6 (jX hs1);exact iY sF hF n _ _ (h.next k) ho (by unfold Ti;rw [Kd ho];simp only [vL,Bi];omega) hb
    exact ⟨ho,hp⟩
theorem lI {F:PS->Syn×PS}(sF:J3 F)(hF:Te l e d F)(sg:List (Ag×Int)):Te l e d (Nu F sg):=fun st h hb=>by
 unfold Nu at hb ⊢;have hb2:=(Ro sF (B1 (F st).2) (F st).2 (F st).1 trivial).good hb;obtain ⟨g1,g2⟩:=hF st h hb2;exact iY sF hF _ _ _ (h.next (sF st)) g1 g2 hb
theorem v_cmp (hR:Rn l e){E:PS->Syn×PS}(sE:J3 E)(hE:d<64->Te l e (d+1) E):Te l e d (Nv E):=fun st h=>by
 have hs:Te l e d (Hd E):=lI (mD sE) (v_unit hR sE hE) sumL;have b1:=bJ sE st;have b2:=(Bo.adv (Hd E st).2).trans (bJ sE (adv (Hd E st).2))
 have key:∀w,G6 w (Hd E st).2=true->(Hd E (adv (Hd E st).2)).2.bad=0->Wg e (Hd E st).1.pos=1/\pz st+vC e (Hd E st).1+vC e (Hd E (adv (Hd E st).2)).1+10<=pz (Hd E (adv (Hd E st).2)).2:=fun w hi hb=>by
  obtain ⟨g1,g2⟩:=hs st h (b2.good hb);obtain ⟨g3,g4⟩:=hs _ ((h.next b1).next (.adv _)) hb;have p0:=N6 hi;exact ⟨g1,by omega⟩
 have K:∀(w:Ag) (op:Int),G6 w (Hd E st).2=true->Wv e st (Ti op (Hd E st).1 (Hd E (adv (Hd E st).2)).1 (Hd E st).1.pos,(Hd E (adv (Hd E st).2)).2):=fun w op hi hb=>by
  obtain ⟨k1,k3⟩:=key w hi hb;exact ⟨k1,by simp only [Ti];rw [Kd k1];simp only [vL,Bi];omega⟩
 have K2:∀(w:Ag) (op:Int),G6 w (Hd E st).2=true->Wv e st (Ti op (Hd E (adv (Hd E st).2)).1 (Hd E st).1 (Hd E st).1.pos,(Hd E (adv (Hd E st).2)).2):=fun w op hi hb=>by
  obtain ⟨k1,k3⟩:=key w hi hb;exact ⟨k1,by simp only [Ti];rw [Kd k1];simp only [vL,Bi];omega⟩
 unfold Nv;simp only;split
 . rename_i hi;exact K _ 7 hi
 split
 . rename_i hi;exact K _ 8 hi
 split
 . rename_i hi;exact K2 _ 7 hi
 split
 . rename_i hi;exact K2 _ 8 hi
 split
 . rename_i hi;exact K _ 9 hi
 split
 .
  rename_i hi;intro hb;obtain ⟨k1,k3⟩:=key _ hi hb;exact ⟨k1,by simp only [Ti];rw [Kd k1,vL,Kd k1];simp only [vL,Bi];omega⟩
 exact hs st h
theorem v_not (hR:Rn l e){E N:PS->Syn×PS}(sE:J3 E)(hE:d<64->Te l e (d+1) E)(sN:J3 N)(hN:d<64->Te l e (d+1) N):Te l e d (Vd E N):=fun st h=>by
  unfold Vd;cases hi:G6 lL st with
  | false=>exact v_cmp hR sE hE st h
  | true=>
    rw [if_neg (by decide)];refine tC h fun hd hb=>?_
    have kd:Bo (deep st) (adv (deep st)):=.adv _;obtain ⟨g1,g2⟩:=hN hd _ ((h.deep hd).next kd) hb;have p0:pz (adv (deep st))=pz st+10+lL.length:=N6 hi;have h1:=h.pen hR;refine ⟨h1,?_⟩;show pz st+vC e ⟨18,[],[],0,[(N (adv (deep st))).1],D0 st⟩<=pz (N (adv (deep st))).2;rw [Kd h1];simp only [vL,Bi];omega
theorem v_or (hR:Rn l e){E N:PS->Syn×PS}(sE:J3 E)(hE:d<64->Te l e (d+1) E)(sN:J3 N)(hN:d<64->Te l e (d+1) N):Te l e d (orP E N):=
 lI (Um (Xi sE sN) qO) (lI (Xi sE sN) (v_not hR sE hE sN hN) qO) orL
theorem v_neg (hR:Rn l e):∀(n:Nat) (d:Int),64<=(n:Int)+d->Te l e d (Se n).1/\Te l e d (Se n).2
  | 0,d,h=>⟨v_not hR Ju (fun hd=>by omega) Ju (fun hd=>by omega),v_or hR Ju (fun hd=>by omega) Ju (fun hd=>by omega)⟩
  | n+1,d,h=>by
    obtain ⟨i1,i2⟩:=v_neg hR n (d+1) (by omega);exact ⟨v_not hR (M0 n).2 (fun _=>i2) (M0 n).1 (fun _=>i1),v_or hR (M0 n).2 (fun _=>i2) (M0 n).1 (fun _=>i1)⟩
theorem v_EE (hR:Rn l e)(hd:0<=d):Te l e d EE:=(v_neg hR 64 d (by omega)).2
theorem wJ (hR:Rn l e){E:PS->Syn×PS}(sE:J3 E)(hE:Te l e d E):Te l e d (Jj E):=fun st h=>by
 have k2:Bo st (Ck 0 (Ck 0 st)):=(Bo.tok _ _).trans (.tok _ _);unfold Jj;simp only;split
 .
  rename_i hi;refine Vf hR h fun hb=>?_
  have b2:(Ck 0 (Ck 0 st)).bad=0:=(sE (adv (Ck 0 (Ck 0 st)))).good hb;have p1:=If ((Bo.tok 0 _).good b2);have p2:=If b2;have p3:=N6 hi;obtain ⟨g1,g2⟩:=hE _ (h.next (k2.trans (.adv _))) hb;simp only [vL];omega
 refine Vf hR h fun hb=>?_
 have p1:=If ((Bo.tok 0 _).good hb);have p2:=If hb;simp only [vL];omega
theorem fE {F:PS->Syn×PS}(sF:J3 F)(hF:Te l e d F){f:Nat}:∀(n:Nat) (st:PS) (out:List Syn),At l e d st->f+vL e out<=pz st->(Hr F n st out).2.bad=0->f+vL e (Hr F n st out).1<=pz (Hr F n st out).2
  | 0,st,out,_,hf,_=>hf
  | n+1,st,out,h,hf,hb=>by
    unfold Hr at hb ⊢;split
    . rename_i hi
      rw [if_pos hi] at hb;have k:=(Bo.adv st).trans (sF (adv st));have hb2:=(Nd sF n (F (adv st)).2 (out ++ [(F (adv st)).1]) trivial).good hb;obtain ⟨g1,g2⟩:=hF (adv st) (h.next (.adv st)) hb2;have p0:=N6 hi;exact fE (f:=f) sF hF n _ (out ++ [(F (adv st)).1]) (h.next k) (by rw [Ws,vL,vL];omega) hb
    exact hf
theorem v_list {F:PS->Syn×PS}(sF:J3 F)(hF:Te l e d F)(h:At l e d st)(hb:(Mh F st).2.bad=0):pz st+vL e (Mh F st).1<=pz (Mh F st).2:=by
 unfold Mh at hb ⊢;have hb2:=(Nd sF (B1 (F st).2) (F st).2 [(F st).1] trivial).good hb;obtain ⟨g1,g2⟩:=hF st h hb2;exact fE (f:=pz st) sF hF _ _ _ (h.next (sF st)) (by rw [vL,vL];omega) hb
theorem v_rest (hR:Rn l e){E T:PS->Syn×PS}(sE:J3 E)(hE:Te l e d E)(sT:J3 T)(hT:Te l e d T){f:Nat}{k q:Int}{x:Syn}(h:At l e d st)(hq:Wg e q=1)(hf:f+vC e x+1<=pz st)
  (hb:(Fz E T k ⟨k,[],[],0,[x],q⟩ st).2.bad=0) :
  (Fz E T k ⟨k,[],[],0,[x],q⟩ st).1.pos=q/\f+vC e (Fz E T k ⟨k,[],[],0,[x],q⟩ st).1<=pz (Fz E T k ⟨k,[],[],0,[x],q⟩ st).2:=by
 have kc:Bo st (Bn C8 st):=.exp _ _;have hc:=h.next kc;have pc:=kc.pz;unfold Fz at hb ⊢;split
 .
  rename_i h1;rw [if_pos h1] at hb;unfold gE at hb ⊢;simp only at hb ⊢;have k2:=sT (Bn C8 st);have hb2:=(Nd sT (B1 (T (Bn C8 st)).2) (T (Bn C8 st)).2 ([x] ++ [(T (Bn C8 st)).1]) trivial).good hb;obtain ⟨g1,g2⟩:=hT _ hc hb2;have r:=fE (f:=f+1) sT hT (B1 (T (Bn C8 st)).2) _ ([x] ++ [(T (Bn C8 st)).1]) (hc.next k2) (by rw [Ws,vL,vL,vL,vL];omega) hb;refine ⟨trivial,?_⟩;rw [Kd hq];simp only [Bi];omega
 rename_i h1;rw [if_neg h1] at hb;split
 . exact ⟨rfl,by simp only;rw [Kd hq];simp only [vL,Bi];omega⟩
 rename_i h2;rw [if_neg h2] at hb;split
 .
  rename_i h3;rw [if_pos h3] at hb;simp only at hb ⊢;obtain ⟨g1,g2⟩:=wJ hR sE hE _ hc hb;exact ⟨trivial,by rw [Kd hq,Ws];simp only [vL,Bi];omega⟩
 rename_i h3;rw [if_neg h3] at hb;split
 .
  rename_i h4;rw [if_pos h4] at hb;simp only at hb ⊢;have p3:=If hb;exact ⟨trivial,by rw [Kd hq];simp only [vL,Bi];omega⟩
 rename_i h4;rw [if_neg h4] at hb;simp only at hb ⊢;obtain ⟨g1,g2⟩:=hE _ hc hb;exact ⟨trivial,by rw [Kd hq,Ws];simp only [vL,Bi];omega⟩
theorem v_pat (hR:Rn l e){E T:PS->Syn×PS}(sE:J3 E)(hE:∀d,0<=d->Te l e d E)(sT:J3 T)(hT:d<64->Te l e (d+1) T):Te l e d (X3 E T):=fun st h=>by
 unfold X3;split
 .
  rename_i f hf;have hi:=jX hf;refine tC h fun hd hb=>?_
  have h0:=h.2.2.2.1;have hp:=h.pen hR;have kl:Bo (deep st) (Bn Fq (adv (deep st))):=(Bo.adv _).trans (.exp _ _);have hl:=(h.deep hd).next kl;have kt:=sT (Bn Fq (adv (deep st)));have hb2:=(Bo.exp Ih _).good hb;have kr:=uD sE sT f.2 (⟨f.2,[],[],0,[(T (Bn Fq (adv (deep st)))).1],D0 st⟩:Syn) (st:=(T (Bn Fq (adv (deep st)))).2) trivial;have hb1:=kr.good hb2;obtain ⟨g1,g2⟩:=hT hd _ hl hb1;have p0:pz (adv (deep st))=pz st+10+f.1.length:=N6 hi;have p1:=N5 (kt.good hb1);obtain ⟨r1,r2⟩:=v_rest (f:=pz st) hR sE (hE (d+1) (by omega)) sT (hT hd) (hl.next kt) hp (by omega) hb2;have p2:=(Bo.exp Ih (Fz E T f.2 (⟨f.2,[],[],0,[(T (Bn Fq (adv (deep st)))).1],D0 st⟩:Syn) (T (Bn Fq (adv (deep st)))).2).2).pz;exact ⟨(congrArg (Wg e) r1).trans hp,E7 r2 p2⟩
 exact wJ hR sE (hE d h.2.2.2.1) st h
theorem v_patN (hR:Rn l e){E:PS->Syn×PS}(sE:J3 E)(hE:∀d,0<=d->Te l e d E):∀(n:Nat) (d:Int),64<=(n:Int)+d->Te l e d (oJ E n)
 | 0,d,h=>v_pat hR sE hE Ju (fun hd=>by omega)
 | n+1,d,h=>v_pat hR sE hE (cK sE n) (fun _=>v_patN hR sE hE n (d+1) (by omega))
theorem v_TT (hR:Rn l e)(hd:0<=d):Te l e d TT:=v_patN hR cH (fun d hd=>v_EE hR hd) 64 d (by omega)
theorem v_field (hR:Rn l e):Te l e d Jk:=fun st h=>by
 have kx:Bo (Ck 0 st) (Bn J6 (Ck 0 st)):=.exp _ _
 have mk:∀(n:Int) (s:PS),Bo (Bn J6 (Ck 0 st)) s->Wv e st (⟨2,G7 0 st,[],n,[],D0 st⟩,s):=fun n s k=>Vf hR h fun hb=>by
  have p1:=If ((kx.trans k).good hb);have p2:=(kx.trans k).pz;simp only [vL,Bi];omega
 unfold Jk;split
 . exact mk 0 _ (.adv _)
 split
 . exact mk 1 _ (.adv _)
 split
 . exact mk 2 _ (.adv _)
 exact mk 0 _ (.fail _ _)
theorem v_kind (hR:Rn l e):Te l e d H0:=fun st h=>by
 have k2:Bo (Bn Dq st) (Ck 0 (Bn Dq st)):=.tok _ _;have k3:Bo (Ck 0 (Bn Dq st)) (Bn H1 (Ck 0 (Bn Dq st))):=.exp _ _;have k:Bo st (Bn H1 (Ck 0 (Bn Dq st))):=((Bo.exp _ _).trans k2).trans k3
 have fin:∀(ks:List Syn) (s:PS),(Bn H1 (Ck 0 (Bn Dq st))).bad=0->pz (Bn H1 (Ck 0 (Bn Dq st)))+vL e ks<=pz s->pz st+1+(G7 0 (Bn Dq st)).length+([]:Ag).length+vL e ks<=pz s:=fun ks s b3 hp=>by
  have b2:=k3.good b3;have p1:=N5 (k2.good b2);have p2:=If b2;have p3:=N5 b3;simp only [Bi];omega
 unfold H0;simp only;split
 .
  refine Vf hR h fun hb=>?_
  have b5:=(Bo.exp Oc _).good hb;have r:=v_list Yr (v_field hR) (h.next k) b5;have p4:=(Bo.exp Oc (Mh Jk (Bn H1 (Ck 0 (Bn Dq st)))).2).pz;exact fin _ _ ((bH Yr trivial).good b5) (by omega)
 refine Vf hR h fun hb=>?_
 have p4:=(Bo.exp Oc (Bn H1 (Ck 0 (Bn Dq st)))).pz;exact fin [] _ ((Bo.exp Oc _).good hb) (by rw [vL];omega)
theorem v_key (hR:Rn l e)(h:At l e d st){q:Int}(hq:Wg e q=1)(hb:(O9 st q).2.bad=0):pz st+vC e (O9 st q).1<=pz (O9 st q).2+1:=by
 unfold O9 at hb ⊢;split
 .
  rename_i h1;rw [if_pos h1] at hb;have p0:=N6 h1;have p1:=If hb;simp only;rw [Kd ((h.next (.adv _)).pen hR)];simp only [vL,Bi];omega
 simp only;rw [Kd hq];simp only [vL,Bi];omega
theorem v_query (hR:Rn l e){E T:PS->Syn×PS}(sE:J3 E)(hE:Te l e d E)(sT:J3 T)(hT:Te l e d T):Te l e d (I1 E T):=fun st h=>by
 have k1:Bo st (Ck 0 (Bn Dm st)):=(Bo.exp _ _).trans (.tok _ _);have h1:=h.next k1;have k2:=Aah (Ck 0 (Bn Dm st)) (D0 st);have k3:Bo (O9 (Ck 0 (Bn Dm st)) (D0 st)).2 (Bn Gk (O9 (Ck 0 (Bn Dm st)) (D0 st)).2):=.exp _ _;have k4:=(k1.trans k2).trans k3;have k5:=sT (Bn Gk (O9 (Ck 0 (Bn Dm st)) (D0 st)).2);have k6:Bo _ (Bn G9 (T (Bn Gk (O9 (Ck 0 (Bn Dm st)) (D0 st)).2)).2):=.exp _ _;have k7:Bo _ (Mh E (Bn G9 (T (Bn Gk (O9 (Ck 0 (Bn Dm st)) (D0 st)).2)).2)).2:=bH sE trivial;have h4:=h.next k4;unfold I1;simp only;refine Vf hR h fun hb=>?_
 have b7:=(Bo.exp tH _).good hb;have b6:=k7.good b7;have b5:=k6.good b6;have b4:=k5.good b5;have b3:=k3.good b4;have b2:=k2.good b3;have c:=v_key hR h1 (h.pen hR) b3;obtain ⟨g1,g2⟩:=hT _ h4 b5;have r:=v_list sE hE (h4.next (k5.trans k6)) b7;have p1:=N5 ((Bo.tok 0 _).good b2);have p2:=If b2;have p3:=N5 b4;have p4:=N5 b6;have p5:=(Bo.exp tH (Mh E (Bn G9 (T (Bn Gk (O9 (Ck 0 (Bn Dm st)) (D0 st)).2)).2)).2).pz;rw [Ws];simp only [vL,Bi];omega
theorem fF {F:PS->Syn×PS}(sF:J3 F)(hF:Te l e d F){w:Ag}{f:Nat}:∀(n:Nat) (st:PS) (out:List Syn),At l e d st->f+vL e out<=pz st->(Ga w F n st out).2.bad=0->f+vL e (Ga w F n st out).1<=pz (Ga w F n st out).2
  | 0,st,out,h,hf,hb=>hf
  | n+1,st,out,h,hf,hb=>by
    unfold Ga at hb ⊢;split
    . rename_i hi
      rw [if_pos hi] at hb;have hb2:=(Nf (w:=w) sF n (F st).2 (out ++ [(F st).1])).good hb;obtain ⟨g1,g2⟩:=hF st h hb2;exact fF (f:=f) sF hF n _ _ (h.next (sF st)) (by rw [Ws,vL,vL];omega) hb
    exact hf
theorem v_prog (hR:Rn l e)(he:0<=e)(h:At l e d st)(hb:(Ch EE TT st).2.bad=0):vC e (Ch EE TT st).1<=1+pz (Ch EE TT st).2:=by
 have hd:=h.2.2.2.1;unfold Ch at hb ⊢;simp only at hb ⊢;have k1:Bo st (Ga Dq H0 (B1 st) st []).2:=Nf cJ _ _ _;have sq:=gO cH qV;have hb2:=(Nf (w:=Dm) sq (B1 (Ga Dq H0 (B1 st) st []).2) (Ga Dq H0 (B1 st) st []).2 (Ga Dq H0 (B1 st) st []).1).good hb;have a:=fF (w:=Dq) (f:=0) cJ (v_kind hR) (B1 st) st [] h (by rw [vL];omega) hb2;have b:=fF (w:=Dm) (f:=0) sq (v_query hR cH (v_EE hR hd) qV (v_TT hR hd)) _ _ _ (h.next k1) a hb;rw [Kd (show Wg e 0=1 by unfold Wg;rw [if_pos ⟨Fr _,he⟩])];simp only [Bi];omega
theorem Sc.small {s:Ag}{i:Nat}{l:List Tok}{j:Nat}(h:Sc s i l j):(l.map wz).sum+11*i<=11*j:=by
  induction h with
  | nil i=>simp
  | @sep i l j hi hs hr ih=>omega
  | @tok i l j hi hs he hr ih=>
    have h0:0<(s.drop i).length:=by rw [C4];omega
    have hgd:=xL h0 hs he (i:Int);have hpos:=(Xy (s.drop i) h0).2.2.2.2 he;have h1:=hgd.2.2.2.2;rw [Be,Hu];show 10+(B3 (s.drop i)).tok.text.length+(l.map wz).sum+11*i<=11*j;simp only at h1;omega
theorem sV {s:Ag}(hs:s.length<=800)(h:(Bv (Ch EE TT) s).2.2=0):Vin s.length (Bv (Ch EE TT) s).1/\J9 (Bv (Ch EE TT) s).1:=by
 obtain ⟨h1,h2,h3,h4⟩:=sA h;have hw:=(vX h1).2.small;have hsr:=scan_srt h1
 have hR:Rn (Dl s).1 (s.length:Int):=fun n=>by
  refine ⟨?_,(hsr.1 n n (Bc _)).2⟩;unfold Qt;split
  .
   rename_i hn;have hn:=C6 hn;have h2:n<(Dl s).1.length:=by omega
   have e1:(Dl s).1.getD n M9=(Dl s).1[n]:=by simp [E6,List.getElem?_eq_getElem h2]
   rw [e1];exact (hsr.2 _ (Ub h2)).1
  exact Int.natCast_nonneg _
 have hA:At (Dl s).1 s.length 0 (Hn (Dl s).1 s.length):=⟨rfl,rfl,rfl,Fr _,by decide⟩;have r:=v_prog hR (Int.natCast_nonneg _) hA h2
 have ht:pz (Ch EE TT (Hn (Dl s).1 s.length)).2<=((Dl s).1.map wz).sum:=by
  unfold pz;rw [(Aaj cH qV (Hn (Dl s).1 s.length)).toks];exact vQ _ _
 have e:(Bv (Ch EE TT) s).1=(Ch EE TT (Hn (Dl s).1 s.length)).1:=congrArg (fun x=>x.1) h4;rw [e];have hv:vC s.length (Ch EE TT (Hn (Dl s).1 s.length)).1<=8801:=by omega
 refine ⟨by unfold Vin;omega,Zk ?_⟩;unfold U7;have:=w_v s.length (Ch EE TT (Hn (Dl s).1 s.length)).1;omega
section
variable {e:Int}
end
theorem med_q {t:Syn}(h:J9 t):qmed t:=fun a ha _=>rR h ha
theorem ShOK.shn {T:List e8Sc}{q:Qy}(h:ShOK T q)(hq:medQ q):∀x∈Hx q.pattern,ShN T q.vars x:=fun x hx=>by
 have hp:=h.pt x hx;refine ⟨hp.n.op,fun ht=>?_,fun hc=>⟨hq.p.cond x hx,(hp.c hc).n,(hp.c hc).k⟩⟩;have hr:=hp.n.rng (by rw [<-hp.n.flags.1];exact ht);obtain ⟨i,hi⟩:=Jp.1 (show (x.var,x.type)∈Li q.pattern from C9.2 ⟨x,Jq.2 ⟨hx,ht⟩,rfl⟩);have h1:=Z2 h.p hi;have h2:=(List.getElem?_eq_some_iff.1 hi).1;have h3:=h.vl.1;simp only at h1;exact ⟨⟨hr.1.1,hp.t ht⟩,hr.2.1,by omega⟩
section
variable {T:List e8Sc} {q:Qy}
theorem sw_1 (h:(Dr T != 0)=true):Ld T q=(He,Dr T):=if_pos h
theorem sw_2 (h:(Dr T != 0)=false)(h2:((fV T q).2 != 0)=true):Ld T q=(He,(fV T q).2):=(B2 h).trans (if_pos h2)
theorem sw_3 (h:(Dr T != 0)=false)(h2:((fV T q).2 != 0)=false)(h3:((Ca (qT T q) (.only 3)).2 != 0)=true):Ld T q=(He,(Ca (qT T q) (.only 3)).2):=(B2 h).trans ((B2 h2).trans (if_pos h3))
theorem sw_4 (h:(Dr T != 0)=false)(h2:((fV T q).2 != 0)=false)(h3:((Ca (qT T q) (.only 3)).2 != 0)=false):Ld T q=(qT T q,0):=(B2 h).trans ((B2 h2).trans (B2 h3))
def Vn (T:List e8Sc)(q:Qy)(k:Nat):List (List AV):=((⟨4,(fV T q).1,[],0,[],0⟩:Syn)::X8 T q.vars q.pattern::(q.returns.take k).map (U5 T q.vars)).map Cu
theorem qk_0:([[.int .i64 4,.str (fV T q).1,.str [],.int .i64 0,.sl 6 [],.int .i64 0],cSyn (X8 T q.vars q.pattern)]:List (List AV))=Vn T q 0:=by
 unfold Vn;rw [List.take_zero,Bw,Be,Be,Bw,Ba,Ba];rfl
theorem qk_on {k:Nat}{a:Ex}(ha:q.returns[k]? = some a):Vn T q k ++ [cSyn (U5 T q.vars a)]=Vn T q (k+1):=by
 unfold Vn;rw [Cs ha,E5,Wy,Be,Be,Be,Be,E5,Wy,Ba (U5 T q.vars a)];rfl
theorem qk_len {k:Nat}(h:k<=q.returns.length):(Vn T q k).length=k+2:=by
 unfold Vn;simp;omega
theorem qk_sc (k:Nat):∀c∈Vn T q k,Au c=true:=scLe _
end
abbrev Ul (q:Syn×Int):AV:=AV.tuple [.agg (cSyn q.1),.int .i64 q.2]
theorem rz_Show (T:List e8Sc)(hl:T.length<=1048576)(hsn:∀s∈T,T3 s)(q:Qy)(hq:medQ q)(hql:q.name.length<=1048576)(hvn:∀v∈q.vars,v.name.length<=1048576)(hmed:ShOK T q->J9 (qT T q)):Ap Tryz.prog 25 [.sl 2 (T.map Fx),.agg (cQy q)] (.tuple [.agg (cSyn (Ld T q).1),.int .i64 (Ld T q).2]):=by
 have hrl:=hq.r;refine Fl 71 Tryz.func25 rfl fun H=>?_
 refine Af (Qp (Ik Ps) (D7 In fun b4=>Qp Ax (A2 (Cg (Qp Mm (Qp (Qc rfl (e8c57 T hl hsn)) (Qp Ax (B7 (Qp A0 (Qp C3 (Bp (fun hc1=>Af (Qp (E2 Ak) (Qp A0 ?_))) fun hc1=>?_)))))))))))
 .
  refine Bz 0 Ak (_::_) (Qp Ax (Rc ?_));refine Yx [.agg Ak,Iq _] (Zc 0) S1 ?_;exact Ye Ul (sw_1 hc1)
 refine B6 (Af (Qp Mm (Qp (C1 Ps) (Qp (Qc rfl (rz_shown T (qN hc1) hsn q hq hql hvn)) (Qp Th (Qp wV (Qp Td (Qp La (Qp Ax (A2 (Cg (Qp A0 (Qp C3 (Bp (fun hc2=>Af (Qp (E2 Ak) (Qp A0 ?_))) fun hc2=>?_))))))))))))))
 .
  refine Bz 0 Ak (_::_) (Qp Ax (Rc ?_));refine Yx [.agg Ak,Iq _] (Zc 0) S1 ?_;exact Ye Ul (sw_2 hc1 hc2)
 have hok:ShOK T q:=(sh_ok hc1 hc2).1;refine B6 (Af (Qp Mm (Qp (Qf giy) (Qp Ew (Qp (E2 [_,_]) (D7 [.sl 2 [],.sl 2 []] fun b9=>?_))))));refine Bz 0 [_,_] (_::_::_) ?_;refine Kh 9 0 rfl ?_;refine A2 ?_;refine AW.cut (fun (w:Nat×Value)=>(⟨[(3,.ptr (cQy q)),(4,.val (.pointer (some ⟨b4,0,none⟩))),(9,.ptr (cNm T q.vars)),(10,.val (.pointer (some ⟨w.1,0,none⟩)))],.row w.2 2 25 6 :: .box w.1 25 [.int .i64 3,.str q.name,.str [],.int .i64 0,.row w.2 6 [[.int .i64 4,.str (fV T q).1,.str [],.int .i64 0,.sl 6 [],.int .i64 0],cSyn (X8 T q.vars q.pattern)],.int .i64 0] :: .box b4 25 In::H,71⟩:St)) (fun w=>True) ?_ ?_
 .
  refine Ok ?_;refine Qn 0 rfl (Qf Ps) (Qn 1 rfl F4 (Qn 2 rfl Gu (Qn 3 rfl (E2 Ak) (Qn 4 rfl (C1 [_,_]) (Qn 5 rfl (Qf gkz) (Qn 6 rfl (C1 Gq) (Qn 7 rfl (Qc rfl (sR T q.vars hok.rv hsn q.pattern (hok.shn hq) hq.p.n)) ?_)))))));refine F3.two _ _ 8 10 _ _ _ _ rfl rfl (by kernel_rfl) rfl rfl rfl rfl (Hk (es:=[Ak,Ak]) tok rfl rfl rfl rfl rfl rfl rfl rfl rfl) (Dg (l:=In) (by kernel_rfl)) (by rintro _ _ ⟨v43,rfl,rfl⟩;trivial) (by rintro _ _ ⟨b10,rfl,rfl⟩;trivial) ?_ ?_
  .
   rintro _ _ ⟨v43,rfl,rfl⟩;refine Qn 9 rfl (E2 Ak) ?_;refine qE 10 rfl (Dg (l:=In) (by kernel_rfl)) ?_;rintro _ _ ⟨b10,rfl,rfl⟩;refine Ns 11 rfl (Ki 0 (.agg _) Ak (_::_::_::_) rfl) ?_;refine Iw ?_;refine Aa ?_;refine ⟨(b10,v43),?_,GS.trans (GS.perm (List.Perm.swap _ _ _)) Dh⟩
   trivial
  rintro _ _ ⟨b10,rfl,rfl⟩;refine qE 8 rfl (Hk (es:=[Ak,Ak]) tok rfl rfl rfl rfl rfl rfl rfl rfl rfl) ?_;rintro _ _ ⟨v43,rfl,rfl⟩;refine Qn 9 rfl (E2 Ak) ?_;refine Ns 11 rfl (Ki 1 (.agg _) Ak (_::_::_::_) rfl) ?_;refine Iw ?_;refine Aa ?_;refine ⟨(b10,v43),?_,GS.trans (GS.perm (List.Perm.refl _)) Dh⟩
  trivial
 rintro ⟨b10,v⟩ _;refine Cg (Qp (Qf [_]) (Qp Ew ?_));refine Qp (G1 q.returns.length rfl rfl (by simp)) ?_;refine Qp A0 (A2 (AW.block ?_));refine AW.loopS (fun (z:Nat×List (List AV)×Value)=>(⟨[(3,.ptr (cQy q)),(4,.val (.pointer (some ⟨b4,0,none⟩))),(9,.ptr (cNm T q.vars)),(10,.val (.pointer (some ⟨b10,0,none⟩))),(46,.sl 8 (q.returns.map Gx)),(47,.int .i64 q.returns.length),(48,.int .i64 (z.1:Int))],.row z.2.2 z.2.1.length 25 6 :: .box b10 25 [.int .i64 3,.str q.name,.str [],.int .i64 0,.row z.2.2 6 z.2.1,.int .i64 0] :: .box b4 25 In::H,71⟩:St)) (fun z=>z.1<=q.returns.length/\z.2.1=Vn T q z.1) (fun z=>q.returns.length-z.1) ((0,[[.int .i64 4,.str (fV T q).1,.str [],.int .i64 0,.sl 6 [],.int .i64 0],cSyn (X8 T q.vars q.pattern)],v)) ?_ Dh ?_
 . exact ⟨A7 _,qk_0⟩
 rintro z hR;refine Af (Qp Cv (Re (Gn (fun hc3=>?_) fun hc3=>?_)))
 .
  obtain ⟨a,ha⟩:=C2 hc3;have hlt:=Cc ha;have hm:=Aj ha;have hsc:∀c∈z.2.1,Au c=true:=by rw [hR.2];exact qk_sc _
  have hzl:z.2.1.length=z.1+2:=by rw [hR.2];exact qk_len hR.1
  refine B6 (AW.seq (AW.block (Af ?_)));refine Qp (E9 Me rfl rfl (by omega) (ex_at ha)) ?_;refine Qp Xb (D7 ggy fun b12=>?_);refine Bz 0 Me (_::_::_::_::_) ?_;refine Kh 12 0 rfl ?_;refine A2 (Pq 1 rfl (Qn 0 rfl Cw (Qn 1 rfl (Lb (.row _ _ _) rfl) (Qn 2 rfl (C1 [_,_]) (Qn 3 rfl Xb (Qn 4 rfl (Qc rfl (sP T q.vars hok.rv hsn a (hq.e a hm) (hok.conds a (Z9 _ hm)).n (hok.conds a (Z9 _ hm)).k)) (Qn 5 rfl (Ir [Ak] rfl) ?_)))))));refine Vr 6 rfl (Vc 0 rfl (D5 rfl) (hsc) (by simp;omega) (by simp [maxLen];omega)) (by rintro _ _ ⟨v58,rfl,rfl⟩;simp) ?_;rintro _ _ ⟨v58,rfl,rfl⟩;refine Qn 7 rfl Cw ?_;refine bF 8 rfl (Ki 1 (.row _ _ _) Ak (_::_::_::_) rfl) ?_;rintro _ _ ⟨rfl,rfl⟩;refine Ff (Aa (AW.region (Qp Hb (Qp A0 (A2 ?_)))));refine ⟨(z.1+1,z.2.1 ++ [cSyn (U5 T q.vars a)],v58),?_,?_,Dh⟩
  . exact ⟨hlt,(congrArg (· ++ [cSyn (U5 T q.vars a)]) hR.2).trans (qk_on ha)⟩
  simp only;omega
 obtain ⟨z1,z2,z3⟩:=z;have hz1:z1=q.returns.length:=by have:=Er hc3;have:=hR.1;simp only at this;omega
 have hz2:z2=((⟨4,(fV T q).1,[],0,[],0⟩:Syn)::X8 T q.vars q.pattern::q.returns.map (U5 T q.vars)).map Cu:=by have h:=hR.2;simp only [hz1,Vn,Mu] at h;exact h
 subst hz2;refine AW.exit ?_;refine Br (Ri (Cg ?_));refine AOL.ghost (GS.cell (H2:=_::_::_::_) 1 4 rfl rfl rfl rfl D1) ?_;refine O3 1 Ak rfl (Qp (Qc rfl (m_Query (qT T q) (hmed hok))) (Qp Th (Qp wV (Qp Td (Qp La (Qp Ax (B7 (Qp A0 (Qp C3 (Bp (fun hc4=>Af (Qp (E2 Ak) (Qp A0 ?_))) fun hc4=>B6 (Af (O3 1 Ak rfl ?_))))))))))))
 .
  refine Bz 2 Ak (_::_::_::_) (Qp Ax (Rc ?_));refine Yx [.agg Ak,Iq _] (Zc 2) S3 ?_;exact Ye Ul (sw_3 hc1 hc2 hc4)
 refine Bz 2 Ak (_::_::_::_) (Qp Ax (Rb ?_));refine Yx [.agg Ak,Iq _] (Zc 2) S3 ?_;exact Ye Ul (sw_4 hc1 hc2 hc4)
section
variable {T:List e8Sc} {V:List Va}
end
theorem uZ {T:List e8Sc}{n:Ag}{k:Nat}:∀(l:List Va) (out:List Int),(O8 T n l out).2=true->(∀v∈l,v.type.toNat≠k)->(O8 T n l out).1[k]? = out[k]?
  | [],out,_,_=>by rw [O8]
  | v::r,out,h,hv=>by
    rw [O8] at h ⊢;split at h
    . cases h
    . rename_i h1
      rw [if_neg h1,uZ r _ h fun x hx=>hv x (by simp [hx]),List.getElem?_set_ne (hv v (by simp))]
theorem kI {c:UInt8}:∀{l r:Ag},c∉l->Lib.index (l++c::r) [c]=(l.length:Int)
  | [],r,_=>by rw [Du,Lib.index_one,Lib.indexByte,if_pos (by simp)];rfl
  | b::l,r,h=>by
    have hb:b≠c:=fun e=>h (by simp [e])
    have ih:=kI (c:=c) (l:=l) (r:=r) fun hm=>h (Ha _ hm)
    rw [Lib.index_one] at ih;rw [Dn,Lib.index_one,Lib.indexByte,if_neg (by simpa using hb),ih,if_neg (by rw [beq_iff_eq];omega),A1];omega
theorem Xt {c:UInt8}:∀{l:Ag},c∉l->Lib.index l [c] = -1
  | [],_=>by rw [Lib.index_one];rfl
  | b::l,h=>by
    have hb:b≠c:=fun e=>h (by simp [e])
    have ih:=Xt (c:=c) (l:=l) fun hm=>h (Ha _ hm)
    rw [Lib.index_one] at ih;rw [Lib.index_one,Lib.indexByte,if_neg (by simpa using hb),ih];rfl
theorem zD {c:UInt8}{l r:Ag}(h:c∉l):Lib.split (l++c::r) [c]=l::Lib.split r [c]:=by
 have hi:=kI (r:=r) h
 have hd:(l++c::r).drop (l.length+1)=r:=by
  rw [show l++c::r=(l ++ [c])++r by simp,List.drop_left' (by simp)]
 unfold Lib.split;rw [Lib.count_hit (i:=l.length) (by simp) hi,Nat.add_comm,Lib.splitK,hi,if_neg (by rw [beq_iff_eq];omega)];show (l++c::r).take (l.length+0)::Lib.splitK [c] 0 (Lib.count ((l++c::r).drop (l.length+1)) [c]) ((l++c::r).drop (l.length+1))=_;rw [hd,Nat.add_zero,List.take_left' rfl]
theorem sX {c:UInt8}{l:Ag}(h:c∉l):Lib.split l [c] = [l]:=by
 unfold Lib.split;rw [Lib.count_miss (Xt h),Lib.splitK]
theorem jP {c:UInt8}{l r:Ag}(h:c∉l):Lib.cut (l++c::r) [c]=(l,r,true):=by
 have hi:=kI (r:=r) h
 have hd:(l++c::r).drop (l.length+1)=r:=by
  rw [show l++c::r=(l ++ [c])++r by simp,List.drop_left' (by simp)]
 unfold Lib.cut;rw [hi,if_pos (by omega)];show ((l++c::r).take l.length,(l++c::r).drop (l.length+1),true)=_;rw [hd,List.take_left' rfl]
theorem mF {c:UInt8}{l:Ag}(h:c∉l):Lib.cut l [c]=(l,[],false):=by
 unfold Lib.cut;rw [Xt h,if_neg (by decide)]
theorem con_miss {c:UInt8}{l:Ag}(h:c∉l):Lib.contains l [c]=false:=by
 unfold Lib.contains;rw [Xt h];rfl
def De (f:Fi):Ag:=[32]++f.name ++ [58]++lO f.kind
def Ez (s:e8Sc):Ag:=s.name++s.fields.flatMap De
def M6 (T:List e8Sc):Ag:=T.flatMap fun s=>Ez s ++ [10]
def Jn:Nat->Nat->Ag->List (Nat×Ag)
 | 0,_,_=>[]
 | _+1,_,[]=>[]
 | n+1,at',c::r=>if (c==32) then Jn n (at'+1) r else (at',(Lib.cut (c::r) [32]).1)::Jn n (at'+(Lib.cut (c::r) [32]).1.length) ((c::r).drop (Lib.cut (c::r) [32]).1.length)
def Yl (w:Ag):Int:=if (w==Fe) then 2 else if (w==Gj) then 1 else if (w==I4) then 0 else -1
def Vt (l:List e8Sc)(w:Ag):Int:=if Lib.contains w [58] then 4 else if ((l.length:Int)==16) then 5 else if !(D3 w) then 8 else if (G0 l).contains w then 7 else 0
def cT (s:e8Sc)(w:Ag):Int:=if decide (Yl (Lib.cut w [58]).2.1<0) then 4 else if ((s.fields.length:Int)==8) then 5 else if !(Lp (Lib.cut w [58]).1) then 8 else if decide (0<=Ey s (Lib.cut w [58]).1) then 7 else 0
theorem Jx {s:Ag}(h:D3 s=true):0<s.length/\s.length<=24/\10∉s/\32∉s/\58∉s:=by
 unfold D3 at h;simp only [Cy,A5,Ea,Fs,ne_eq] at h;obtain ⟨⟨⟨h1,h2⟩,_⟩,h4⟩:=h;have h5:=Ht.1 h4;exact ⟨by omega,h2,fun hm=>by have:=h5 _ hm;revert this;decide,fun hm=>by have:=h5 _ hm;revert this;decide,fun hm=>by have:=h5 _ hm;revert this;decide⟩
theorem Uu (k:Int):10∉lO k/\32∉lO k/\(lO k).length<=6/\(k=0\/k=1\/k=2->Yl (lO k)=k):=by
 unfold lO;split
 .
  rename_i h;have:k=0:=by simpa using h
  subst this;exact ⟨by decide,by decide,by decide,fun _=>by decide⟩
 split
 .
  rename_i h;have:k=1:=by simpa using h
  subst this;exact ⟨by decide,by decide,by decide,fun _=>by decide⟩
 rename_i h1 h2;have e0:k≠0:=by simpa using h1
 have e1:k≠1:=by simpa using h2
 exact ⟨by decide,by decide,by decide,fun h=>by
  have:k=2:=by omega
  subst this;decide⟩
def Gl (f:Fi):Ag:=f.name ++ [58]++lO f.kind
theorem fL {f:Fi}(h:D3 f.name=true):Lib.cut (Gl f) [58]=(f.name,lO f.kind,true)/\32∉Gl f/\10∉Gl f/\Gl f≠[]:=by
 obtain ⟨h0,_,h1,h2,h3⟩:=Jx h;obtain ⟨k1,k2,_⟩:=Uu f.kind;unfold Gl;refine ⟨by rw [show f.name ++ [58]++lO f.kind=f.name++58::lO f.kind by simp];exact jP h3,?_,?_,?_⟩
 .
  simp only [Gd,Ep,not_or];exact ⟨⟨h2,by decide⟩,k2⟩
 .
  simp only [Gd,Ep,not_or];exact ⟨⟨h1,by decide⟩,k1⟩
 intro e;have:=congrArg List.length e;simp at this
theorem fM:∀(l:List Fi) (n at':Nat),(l.flatMap De).length<=n->(∀f∈l,D3 f.name=true)->(Jn n at' (l.flatMap De)).map (·.2)=l.map Gl
  | [],n,at',_,_=>by
    cases n with
    | zero=>rfl
    | succ n=>rfl
  | f::r,n,at',hn,h=>by
    obtain ⟨w1,w2,w3,w4⟩:=fL (h f (by simp));rw [Kf] at hn ⊢;have e:De f++r.flatMap De=32::(Gl f++r.flatMap De):=by unfold De Gl;simp
    rw [e] at hn ⊢;obtain ⟨n,rfl⟩:∃m,n=m+1:=⟨n-1,by rw [A1] at hn;omega⟩;rw [Jn,if_pos (by rfl)]
    obtain ⟨c,w,hw⟩:∃c w,Gl f=c::w:=by
      cases hq:Gl f with
      | nil=>exact absurd hq w4
      | cons c w=>exact ⟨c,w,rfl⟩
    have hc:(c==32)=false:=by
      rw [Fs];intro e;exact w2 (by rw [hw,e];simp)
    have hcut:(Lib.cut (Gl f++r.flatMap De) [32]).1=Gl f:=by
      cases r with
      | nil=>rw [List.flatMap_nil,A3,mF w2]
      | cons g r=>
        have e2:(g::r).flatMap De=32::(Gl g++r.flatMap De):=by rw [Kf];unfold De Gl;simp
        rw [e2,jP w2]
    rw [A1,Ao] at hn;have hl:0<(Gl f).length:=by rw [hw];simp
    obtain ⟨n,rfl⟩:∃m,n=m+1:=⟨n-1,by omega⟩;have e3:Gl f++r.flatMap De=c::(w++r.flatMap De):=by rw [hw];rfl
    rw [e3,Jn,if_neg (by rw [hc];decide),<-e3,hcut,Be,List.drop_left' rfl,fM r n _ (by omega) fun g hg=>h g (by simp [hg]),Be]
theorem tM {s:e8Sc}(hn:D3 s.name=true)(h:∀f∈s.fields,D3 f.name=true):(Jn (Ez s).length 0 (Ez s)).map (·.2)=s.name::s.fields.map Gl:=by
  obtain ⟨h0,_,h1,h2,h3⟩:=Jx hn
  obtain ⟨c,w,hw⟩:∃c w,s.name=c::w:=by
    cases hq:s.name with
    | nil=>rw [hq] at h0;cases h0
    | cons c w=>exact ⟨c,w,rfl⟩
  have hc:(c==32)=false:=by
    rw [Fs];intro e;exact h2 (by rw [hw,e];simp)
  have hcut:(Lib.cut (s.name++s.fields.flatMap De) [32]).1=s.name:=by
    cases hq:s.fields with
    | nil=>rw [List.flatMap_nil,A3,mF h2]
    | cons g r=>
      have e2:(g::r).flatMap De=32::(Gl g++r.flatMap De):=by rw [Kf];unfold De Gl;simp
      rw [e2,jP h2]
  unfold Ez;have hlen:(s.name++s.fields.flatMap De).length=s.name.length+(s.fields.flatMap De).length:=Ao;rw [hlen];obtain ⟨n,hnn⟩:∃m,s.name.length+(s.fields.flatMap De).length=m+1:=⟨s.name.length+(s.fields.flatMap De).length-1,by omega⟩;rw [hnn];have e3:s.name++s.fields.flatMap De=c::(w++s.fields.flatMap De):=by rw [hw];rfl
  rw [e3,Jn,if_neg (by rw [hc];decide),<-e3,hcut,Be,List.drop_left' rfl,fM _ n _ (by omega) h]
theorem mW:∀(l:List Fi) (seen:List Ag),Hp seen l=0->∀f∈l,Lp f.name=true/\D3 f.name=true/\(f.kind=0\/f.kind=1\/f.kind=2)
  | [],_,_,f,hf=>by cases hf
  | x::r,seen,h,f,hf=>by
    rw [Hp] at h;split at h
    . rename_i h1;rw [h] at h1;cases h1
    . rename_i h1
      rcases Cn.1 hf with rfl | hf
      . have h0:F9 seen f=0:=by simpa using h1
        unfold F9 at h0;split at h0
        . cases h0
        . split at h0
          . cases h0
          . split at h0
            . cases h0
            . rename_i g1 g2 g3
              have e1:Lp f.name=true:=by simpa using g1
              refine ⟨e1,?_,?_⟩
              . unfold Lp at e1;rw [Cy] at e1;exact e1.1
              simp at g3;omega
      exact mW r _ h f hf
theorem Jg {s:e8Sc}(h:Gi s=0):D3 s.name=true/\∀f∈s.fields,Lp f.name=true/\D3 f.name=true/\(f.kind=0\/f.kind=1\/f.kind=2):=by
 unfold Gi at h;split at h
 . cases h
 rename_i h1;split at h
 . cases h
 exact ⟨by simpa using h1,mW _ _ h⟩
theorem rP {s:e8Sc}(h:Gi s=0):10∉Ez s:=by
 obtain ⟨a1,a2⟩:=Jg h;unfold Ez;rw [Gd,not_or];refine ⟨(Jx a1).2.2.1,fun hm=>?_⟩;obtain ⟨f,hf,hm⟩:=List.mem_flatMap.1 hm;have:=(fL (a2 f hf).2.1).2.2.1;have e:De f=32::Gl f:=by unfold De Gl;simp
 rw [e] at hm;rcases Cn.1 hm with h1 | h1
 . revert h1;decide
 exact this h1
theorem Zy:∀T:List e8Sc,(∀s∈T,Gi s=0)->Lib.split (M6 T) [10]=T.map Ez ++ [[]]
  | [],_=>by
    show Lib.split [] [10] = [[]];exact sX (by simp)
  | s::r,h=>by
    have e:M6 (s::r)=Ez s++10::M6 r:=by unfold M6;rw [Kf];simp
    rw [e,zD (rP (h s (by simp))),Zy r fun x hx=>h x (by simp [hx])];rfl
theorem bQ {T:List e8Sc}(h:(Dr T != 0)=false):(M6 T).length<=4500:=by
  obtain ⟨h1,h2,h3⟩:=Rm h
  have hl:∀s∈T,(Ez s ++ [10]).length<=281:=fun s hs=>by
    obtain ⟨a1,a2⟩:=Jg (h3 s hs);have e1:=(Jx a1).2.1;have e2:=U4 (h3 s hs)
    have e3:(s.fields.flatMap De).length<=32*s.fields.length:=by
      have key:∀l:List Fi,(∀f∈l,D3 f.name=true)->(l.flatMap De).length<=32*l.length:=by
        intro l
        induction l with
        | nil=>intro _;exact Bc _
        | cons f r ih=>
          intro hf;have f1:=(Jx (hf f (by simp))).2.1;have f2:=(Uu f.kind).2.2.1;have f3:=ih fun g hg=>hf g (by simp [hg])
          have f4:(De f).length<=32:=by
            unfold De;simp only [Ao,D2];omega
          rw [Kf,Ao,A1];omega
      exact key _ fun f hf=>(a2 f hf).2.1
    unfold Ez;simp only [Ao,D2];omega
  have key:∀l:List e8Sc,(∀s∈l,(Ez s ++ [10]).length<=281)->(M6 l).length<=281*l.length:=by
    intro l
    induction l with
    | nil=>intro _;exact Bc _
    | cons s r ih=>
      intro hs;have f1:=hs s (by simp);have f3:=ih fun g hg=>hs g (by simp [hg])
      unfold M6 at f3 ⊢;rw [Kf,Ao,A1];omega
  have:=key T hl;omega
end Go.Proofs.YtibcelnfkhdjaaaGreatDoor
namespace Go.Aw
theorem Ap.of_alloc {P:Program}{f:FuncId}{args:List AV}{r:AV}
  (h:∀g w vs,GlobOK g w->Di g w vs args->∃v o,(∀g' w',g' w.heap.size=none->w'.heap[w.heap.size]? = some o->Rep g' w' v r)/\Calls P f vs w (fun e w'=>e = .returned v/\w'=w.alloc o)):Ap P f args r:=by
 intro H g w vs hH ha;obtain ⟨v,o,hv,hc⟩:=h g w vs hH.glob ha;refine hc.mono ?_;rintro e w' ⟨rfl,rfl⟩;exact ⟨v,g.put w.heap.size none,r,H,rfl,hv _ _ (Gh.Aaw ..) (Ce ..),hH.alloc o none,Ext.alloc ..,rfl,rfl⟩
end Go.Aw
namespace Go.Proofs.YtibcelnfkhdjaaaGreatDoor
open Go Go.Aw
theorem cut_le (s p:Ag):(Lib.cut s p).1.length<=s.length/\(Lib.cut s p).2.1.length<=s.length:=by
 unfold Lib.cut;split
 . exact ⟨by simp only [Df];omega,by simp only [C4];omega⟩
 exact ⟨Bc _,A7 _⟩
theorem k_cut (s p:Ag)(hs:s.length<=1048576):Ap Tryz.prog 76 [.str s,.str p] (.tuple [.str (Lib.cut s p).1,.str (Lib.cut s p).2.1,.bool (Lib.cut s p).2.2]):=
 .of_calls fun g w vs hg ha=>by
  obtain ⟨u,v,rfl,h1,h2⟩:=ha.inv2;obtain ⟨e1,l1⟩:=h1.inv_str;have e2:=h2.inv_str.1;subst e1 e2;obtain ⟨m,hm⟩:=hg.int (gl:=6) (k:=.i64) (by simp [globals]);have hl:=cut_le s p;refine ⟨.tuple #[.string ⟨(Lib.cut s p).1.toArray⟩,.string ⟨(Lib.cut s p).2.1.toArray⟩,.bool (Lib.cut s p).2.2],fun g' w' _=>?_,(Tryz.strings_Cut ⟨s.toArray⟩ ⟨p.toArray⟩ m w (by rw [bG];omega) hm).mono ?_⟩
  rotate_left
  .
   rintro e w' ⟨rfl,n,rfl⟩;exact ⟨rfl,⟨rfl,rfl,rfl,Bc _,fun _ _=>rfl⟩⟩
  refine .tuple _ _ rfl fun i x hi=>?_
  have hmax:maxLen=9223372036854775807:=rfl
  match i with
  | 0=>cases hi;exact .str _ _ (by simp) (by omega)
  | 1=>cases hi;exact .str _ _ (by simp) (by omega)
  | 2=>cases hi;exact .bool _
  | n+3=>cases hi
theorem Wr (sep:Ag)(n:Nat):∀(k:Nat) (s x:Ag),x∈Lib.splitK sep n k s->x.length<=s.length
  | 0,s,x,h=>by rw [Lib.splitK,Ep] at h;rw [h];exact Bc _
  | k+1,s,x,h=>by
    rw [Lib.splitK] at h;split at h
    . rw [Ep] at h;rw [h];exact Bc _
    . rcases Cn.1 h with rfl | h
      . rw [Df];omega
      . have:=Wr sep n k _ x h
        rw [C4] at this;omega
theorem k_split (s:Ag)(c:UInt8)(hs:s.length<=1048576):Ap Tryz.prog 31 [.str s,.str [c]] (.sl 1 ((Lib.split s [c]).map fun x=>[.str x])):=
  .of_alloc fun g w vs hg ha=>by
    obtain ⟨u,v,rfl,h1,h2⟩:=ha.inv2;obtain ⟨e1,l1⟩:=h1.inv_str;have e2:=h2.inv_str.1;subst e1 e2;obtain ⟨m,hm⟩:=hg.int (gl:=6) (k:=.i64) (by simp [globals]);refine ⟨_,_,fun g' w' hn hw=>?_,Tryz.strings_Split ⟨s.toArray⟩ ⟨#[c]⟩ m w (by rw [bG];omega) hm (by simp [ByteArray.size])⟩;have hd:=Lib.splitB_data ⟨#[c]⟩ 0 (Lib.countB ⟨s.toArray⟩ ⟨#[c]⟩) ⟨s.toArray⟩;have hlen:=Lib.splitB_all ⟨#[c]⟩ (by simp [ByteArray.size]) 0 _ ⟨s.toArray⟩ rfl;have hcl:=Lib.countB_le ⟨#[c]⟩ (by simp [ByteArray.size]) _ ⟨s.toArray⟩ (Bc _);have hsz:(⟨s.toArray⟩:ByteArray).size=s.length:=bG _
    have hsp:Lib.split s [c]=(Lib.splitB ⟨#[c]⟩ 0 (Lib.countB ⟨s.toArray⟩ ⟨#[c]⟩) ⟨s.toArray⟩).map (·.data.toList):=by
      rw [hd];rfl
    have hpl:∀x∈Lib.split s [c],x.length<=s.length:=fun x hx=>Wr _ _ _ _ x hx
    have hmax:maxLen=9223372036854775807:=rfl;rw [hsp] at hpl ⊢;generalize Lib.splitB ⟨#[c]⟩ 0 (Lib.countB ⟨s.toArray⟩ ⟨#[c]⟩) ⟨s.toArray⟩=l at *
    have hget:∀(i:Nat) (e:List AV),((l.map (·.data.toList)).map fun x=>[AV.str x])[i]? = some e->∀(j:Nat) (x:AV),e[j]? = some x->j=0/\∃b:ByteArray,l[i]? = some b/\x=AV.str b.data.toList:=by
      intro i e hi j x hj;simp only [List.getElem?_map,Option.map_map] at hi;cases hb:l[i]? with
      | none=>rw [hb] at hi;cases hi
      | some b=>
        rw [hb] at hi;cases hi
        cases j with
        | zero=>cases hj;exact ⟨rfl,b,rfl,rfl⟩
        | succ j=>cases hj
    refine .sl _ 0 _ _ 1 _ (by simp [hlen]) (Bc _) (by omega) (fun e he=>?_) (fun i _=>((l[i]?).map Value.string).getD undef) (fun i e hi j x hj=>?_) fun i e hi j x hj=>?_
    . simp only [List.map_map,C9] at he
      obtain ⟨_,_,rfl⟩:=he;rfl
    . obtain ⟨rfl,b,hb,rfl⟩:=hget i e hi j x hj
      refine ⟨by unfold D4;rw [hn];trivial,?_⟩;rw [Bj hw];simp [hb]
    . obtain ⟨rfl,b,hb,rfl⟩:=hget i e hi j x hj
      rw [hb];exact .str _ _ rfl (by have:=hpl _ (List.mem_map_of_mem (Aj hb));omega)
end Go.Proofs.YtibcelnfkhdjaaaGreatDoor
