/-
  Several texts in one: R41w, R50, R66, S71, R51, R48w, R49w, R51w, S72w, G14. No condition.
-/
import Derived.Test.YtibcelnfkhdjaaaGreatDoorK02
import Derived.Test.YtibcelnfkhdjaaaGreatDoorK10
import Derived.Test.YtibcelnfkhdjaaaGreatDoorK06
import Derived.Test.YtibcelnfkhdjaaaGreatDoorK09
import Derived.KernelRfl
import Derived.Test.YtibcelnfkhdjaaaGreatDoorK11
import Derived.Test.YtibcelnfkhdjaaaGreatDoorK04
import Derived.Test.YtibcelnfkhdjaaaGreatDoorK01
import Derived.Test.YtibcelnfkhdjaaaGreatDoorAx
import Derived.Test.YtibcelnfkhdjaaaGreatDoorCards
import Derived.Test.YtibcelnfkhdjaaaGreatDoorTie
import Derived.Deep.DeepHandedRow
import Derived.Lib.LaidTab
set_option linter.unusedVariables false
set_option linter.unusedSimpArgs false
set_option maxHeartbeats 25600000
set_option maxRecDepth 100000
namespace Go.Proofs.YtibcelnfkhdjaaaGreatDoor
open Go Go.Aw
theorem ShOK.shn {T:List e8Sc}{q:Qy}(h:ShOK T q)(hq:medQ q):∀x∈H1 q.pattern,ShN T q.vars x:=fun x hx=>by
 have hp:=h.pt x hx;refine ⟨hp.n.op,fun ht=>?_,fun hc=>⟨hq.p.cond x hx,(hp.c hc).n,(hp.c hc).k⟩⟩;have hr:=hp.n.rng (by rw [<-hp.n.flags.1];exact ht);obtain ⟨i,hi⟩:=Fh.1 (show (x.var,x.type)∈L3 q.pattern from Cd.2 ⟨x,Kv.2 ⟨hx,ht⟩,rfl⟩);have h1:=fY h.p hi;have h2:=(List.getElem?_eq_some_iff.1 hi).1;have h3:=h.vl.1;simp only at h1;exact ⟨⟨hr.1.1,hp.t ht⟩,hr.2.1,by omega⟩
section
variable {T:List e8Sc} {q:Qy}
theorem sw_1 (h:(Fv T != 0)=true):Kl T q=(Iz,Fv T):=if_pos h
theorem sw_2 (h:(Fv T != 0)=false)(h2:((fQ T q).2 != 0)=true):Kl T q=(Iz,(fQ T q).2):=(Bu h).trans (if_pos h2)
theorem sw_3 (h:(Fv T != 0)=false)(h2:((fQ T q).2 != 0)=false)(h3:((Ba (qT T q) (.only 3)).2 != 0)=true):Kl T q=(Iz,(Ba (qT T q) (.only 3)).2):=(Bu h).trans ((Bu h2).trans (if_pos h3))
theorem sw_4 (h:(Fv T != 0)=false)(h2:((fQ T q).2 != 0)=false)(h3:((Ba (qT T q) (.only 3)).2 != 0)=false):Kl T q=(qT T q,0):=(Bu h).trans ((Bu h2).trans (Bu h3))
def Z4 (T:List e8Sc)(q:Qy)(k:Nat):List (List AV):=((⟨4,(fQ T q).1,[],0,[],0⟩:Syn)::Oa T q.vars q.pattern::(q.returns.take k).map (Pa T q.vars)).map Df
theorem qk_0:([[.int .i64 4,.str (fQ T q).1,.str [],.int .i64 0,.sl 6 [],.int .i64 0],cSyn (Oa T q.vars q.pattern)]:List (List AV))=Z4 T q 0:=by
 unfold Z4;rw [List.take_zero,A0,Ao,Ao,A0,Bi,Bi];rfl
theorem qk_on {k:Nat}{a:Ex}(ha:q.returns[k]? = some a):Z4 T q k ++ [cSyn (Pa T q.vars a)]=Z4 T q (k+1):=by
 unfold Z4;rw [El ha,Di,X6,Ao,Ao,Ao,Ao,Di,X6,Bi (Pa T q.vars a)];rfl
theorem qk_len {k:Nat}(h:k<=q.returns.length):(Z4 T q k).length=k+2:=by
 unfold Z4;simp;omega
theorem qk_sc (k:Nat):∀c∈Z4 T q k,Av c=true:=scLe _
end
abbrev Yj (q:Syn×Int):AV:=AV.tuple [.agg (cSyn q.1),.int .i64 q.2]
theorem rz_Show (T:List e8Sc)(hl:T.length<=1048576)(hsn:∀s∈T,fO s)(q:Qy)(hq:medQ q)(hql:q.name.length<=1048576)(hvn:∀v∈q.vars,v.name.length<=1048576)(hmed:ShOK T q->Ie (qT T q)):Au Tryz.prog 25 [.sl 2 (T.map Oh),.agg (cQy q)] (.tuple [.agg (cSyn (Kl T q).1),.int .i64 (Kl T q).2]):=by
 have hrl:=hq.r;refine G3 71 Tryz.func25 rfl fun H=>?_
 refine Ab (Qp (Ji O8) ?_);refine E8 Kb fun b4=>?_
 refine Qp A3 (A7 (Cj (Qp Ng (Qp (Qc rfl (e8c57 T hl hsn)) (Qp A3 (Cf (Qp Ax (Qp Cq (Br (fun hc1=>Ab (Qp (Gz Aj) (Qp Ax ?_))) fun hc1=>?_)))))))))
 .
  refine B4 0 Aj (_::_) (Qp A3 (Rc ?_));refine Yx [.agg Aj,Iq _] (Zc 0) S1 ?_;exact Ye Yj (sw_1 hc1)
 refine B8 (Ab (Qp Ng (Qp (C8 O8) (Qp (Qc rfl (rz_shown T (all_ts hc1) hsn q hq hql hvn)) (Qp Wz (Qp Qxt (Qp Wt (Qp Nb (Qp A3 (A7 (Cj (Qp Ax (Qp Cq (Br (fun hc2=>Ab (Qp (Gz Aj) (Qp Ax ?_))) fun hc2=>?_))))))))))))))
 .
  refine B4 0 Aj (_::_) (Qp A3 (Rc ?_));refine Yx [.agg Aj,Iq _] (Zc 0) S1 ?_;exact Ye Yj (sw_2 hc1 hc2)
 have hok:ShOK T q:=(sh_ok hc1 hc2).1;refine B8 (Ab (Qp Ng (Qp (Qf ggy) (Qp Eg (Qp (Gz [_,_]) (E8 [.sl 2 [],.sl 2 []] fun b9=>?_))))));refine B4 0 [_,_] (_::_::_) ?_;refine Me 9 0 rfl ?_;refine A7 ?_;refine AW.Aat (fun (w:Nat×Value)=>(⟨[(3,.ptr (cQy q)),(4,.val (.pointer (some ⟨b4,0,none⟩))),(9,.ptr (cNm T q.vars)),(10,.val (.pointer (some ⟨w.1,0,none⟩)))],.row w.2 2 25 6 :: .box w.1 25 [.int .i64 3,.str q.name,.str [],.int .i64 0,.row w.2 6 [[.int .i64 4,.str (fQ T q).1,.str [],.int .i64 0,.sl 6 [],.int .i64 0],cSyn (Oa T q.vars q.pattern)],.int .i64 0] :: .box b4 25 Kb::H,71⟩:St)) (fun w=>True) ?_ ?_
 .
  refine Oe ?_;refine Qn 0 rfl (Qf O8) (Qn 1 rfl Hn (Qn 2 rfl Iw (Qn 3 rfl (Gz Aj) (Qn 4 rfl (C8 [_,_]) (Qn 5 rfl (Qf gkz) (Qn 6 rfl (C8 Hp) (Qn 7 rfl (Qc rfl (rz_pattern T q.vars hok.rv hsn q.pattern (hok.shn hq) hq.p.n)) ?_)))))));refine H9.two _ _ 8 10 _ _ _ _ rfl rfl (by kernel_rfl) rfl rfl rfl rfl (Jl (es:=[Aj,Aj]) tok rfl rfl rfl rfl rfl rfl rfl rfl rfl) (G5 (l:=Kb) (by kernel_rfl)) (by rintro _ _ ⟨v43,rfl,rfl⟩;trivial) (by rintro _ _ ⟨b10,rfl,rfl⟩;trivial) ?_ ?_
  .
   rintro _ _ ⟨v43,rfl,rfl⟩;refine Qn 9 rfl (Gz Aj) ?_;refine Sef 10 rfl (G5 (l:=Kb) (by kernel_rfl)) ?_;rintro _ _ ⟨b10,rfl,rfl⟩;refine Qz 11 rfl (Mf 0 (.agg _) Aj (_::_::_::_) rfl) ?_;refine Jr ?_;refine Ap ?_;refine ⟨(b10,v43),?_,GS.trans (GS.perm (List.Perm.swap _ _ _)) Dp⟩
   trivial
  rintro _ _ ⟨b10,rfl,rfl⟩;refine Sef 8 rfl (Jl (es:=[Aj,Aj]) tok rfl rfl rfl rfl rfl rfl rfl rfl rfl) ?_;rintro _ _ ⟨v43,rfl,rfl⟩;refine Qn 9 rfl (Gz Aj) ?_;refine Qz 11 rfl (Mf 1 (.agg _) Aj (_::_::_::_) rfl) ?_;refine Jr ?_;refine Ap ?_;refine ⟨(b10,v43),?_,GS.trans (GS.perm (List.Perm.refl _)) Dp⟩
  trivial
 rintro ⟨b10,v⟩ _;refine Cj (Qp (Qf [_]) (Qp Eg ?_));refine Qp (G6 q.returns.length rfl rfl (by simp)) ?_;refine Qp Ax (A7 (AW.block ?_));refine AW.Aan (fun (z:Nat×List (List AV)×Value)=>(⟨[(3,.ptr (cQy q)),(4,.val (.pointer (some ⟨b4,0,none⟩))),(9,.ptr (cNm T q.vars)),(10,.val (.pointer (some ⟨b10,0,none⟩))),(46,.sl 8 (q.returns.map Ix)),(47,.int .i64 q.returns.length),(48,.int .i64 (z.1:Int))],.row z.2.2 z.2.1.length 25 6 :: .box b10 25 [.int .i64 3,.str q.name,.str [],.int .i64 0,.row z.2.2 6 z.2.1,.int .i64 0] :: .box b4 25 Kb::H,71⟩:St)) (fun z=>z.1<=q.returns.length/\z.2.1=Z4 T q z.1) (fun z=>q.returns.length-z.1) ((0,[[.int .i64 4,.str (fQ T q).1,.str [],.int .i64 0,.sl 6 [],.int .i64 0],cSyn (Oa T q.vars q.pattern)],v)) ?_ Dp ?_
 . exact ⟨Bk _,qk_0⟩
 rintro z hR;refine Ab (Qp C5 (Re (Hs (fun hc3=>?_) fun hc3=>?_)))
 .
  obtain ⟨a,ha⟩:=De hc3;have hlt:=Ch ha;have hm:=Ak ha;have hsc:∀c∈z.2.1,Av c=true:=by rw [hR.2];exact qk_sc _
  have hzl:z.2.1.length=z.1+2:=by rw [hR.2];exact qk_len hR.1
  refine B8 (AW.seq (AW.block (Ab ?_)));refine Qp (F5 Nd rfl rfl (by omega) (wE ha)) ?_;refine Qp Ws (E8 ghx fun b12=>?_);refine B4 0 Nd (_::_::_::_::_) ?_;refine Me 12 0 rfl ?_;refine A7 (T6 1 rfl (Qn 0 rfl Dg (Qn 1 rfl (Nc (.row _ _ _) rfl) (Qn 2 rfl (C8 [_,_]) (Qn 3 rfl Ws (Qn 4 rfl (Qc rfl (rf_shE T q.vars hok.rv hsn a (hq.e a hm) (hok.conds a (T1 _ hm)).n (hok.conds a (T1 _ hm)).k)) (Qn 5 rfl (Kf [Aj] rfl) ?_)))))));refine aB 6 rfl (Zq 0 rfl (Ff rfl) (hsc) (by simp;omega) (by simp [maxLen];omega)) (by rintro _ _ ⟨v58,rfl,rfl⟩;simp) ?_;rintro _ _ ⟨v58,rfl,rfl⟩;refine Qn 7 rfl Dg ?_;refine iR 8 rfl (Mf 1 (.row _ _ _) Aj (_::_::_::_) rfl) ?_;rintro _ _ ⟨rfl,rfl⟩;refine Km (Ap (AW.region (Qp Ii (Qp Ax (A7 ?_)))));refine ⟨(z.1+1,z.2.1 ++ [cSyn (Pa T q.vars a)],v58),?_,?_,Dp⟩
  . exact ⟨hlt,(congrArg (· ++ [cSyn (Pa T q.vars a)]) hR.2).trans (qk_on ha)⟩
  simp only;omega
 obtain ⟨z1,z2,z3⟩:=z;have hz1:z1=q.returns.length:=by have:=He hc3;have:=hR.1;simp only at this;omega
 have hz2:z2=((⟨4,(fQ T q).1,[],0,[],0⟩:Syn)::Oa T q.vars q.pattern::q.returns.map (Pa T q.vars)).map Df:=by have h:=hR.2;simp only [hz1,Z4,Sm] at h;exact h
 subst hz2;refine AW.exit ?_;refine B9 (Ri (Cj ?_));refine AOL.ghost (GS.cell (H2:=_::_::_::_) 1 4 rfl rfl rfl rfl Fg) ?_;refine Tn 1 Aj rfl (Qp (Qc rfl (m_Query (qT T q) (hmed hok))) (Qp Wz (Qp Qxt (Qp Wt (Qp Nb (Qp A3 (Cf (Qp Ax (Qp Cq (Br (fun hc4=>Ab (Qp (Gz Aj) (Qp Ax ?_))) fun hc4=>B8 (Ab (Tn 1 Aj rfl ?_))))))))))))
 .
  refine B4 2 Aj (_::_::_::_) (Qp A3 (Rc ?_));refine Yx [.agg Aj,Iq _] (Zc 2) S3 ?_;exact Ye Yj (sw_3 hc1 hc2 hc4)
 refine B4 2 Aj (_::_::_::_) (Qp A3 (Rb ?_));refine Yx [.agg Aj,Iq _] (Zc 2) S3 ?_;exact Ye Yj (sw_4 hc1 hc2 hc4)
theorem tL {s:Ac}(h:Ru s=true):s.length<=24:=(cQ h).2.1
section
variable {T:List e8Sc} {V:List Va}
end
theorem zR {t:Syn}{p:Pg}(hm:Ie t)(hp:Jt t=(p,0,0)) :
  (p.types.length<=1048576/\∀s∈p.types,fO s)/\p.queries.length<=1048576/\(∀q∈p.queries,medQ q/\q.name.length<=1048576/\∀v∈q.vars,v.name.length<=1048576)/\
  (∀q∈p.queries,ShOK p.types q->Ie (qT p.types q))/\((Fv p.types != 0)=false->p.types.all Ti=true->p.queries.length<=16->Sw p.types [] p.queries=0->Ie (Sg p)):=by
 obtain ⟨h1,h2,h3,h4,A,B,hAB,hT,hQ,hB⟩:=src_fwd (med_q hm) hp
 have hg:medG p:=by
  have:=prg_med hm;rw [hp] at this;exact this
 obtain ⟨g1,g2,g3⟩:=rM h1.t
 have hq:∀q∈p.queries,ShOK p.types q/\∃b∈t.kids,qT p.types q=Ft b/\aZ b:=fun q hq=>by
  rw [hQ] at hq;obtain ⟨b,hb,rfl⟩:=Cd.1 hq;obtain ⟨k1,k2⟩:=hB b hb;obtain ⟨s1,s2⟩:=q_fwd h1.t k1 k2;exact ⟨s1,b,by rw [hAB];exact T1 _ hb,s2,k1.m⟩
 refine ⟨⟨by omega,fun s hs=>?_⟩,by have:=h1.l;omega,fun q hqm=>?_,fun q hqm _=>?_,fun _ _ _ _=>by rw [h2];exact st_med hm⟩
 .
  have hb:=F3.1 h1.b s hs;unfold Ti at hb;rw [Ce] at hb;have e1:=tL hb.1;have e2:=uA (g3 s hs);exact ⟨by omega,by omega,fun f hf=>by have:=tL (F3.1 hb.2 f hf);omega⟩
 .
  obtain ⟨s1,_⟩:=hq q hqm;refine ⟨hg.m q hqm,by have:=tL s1.n;omega,fun v hv=>?_⟩;obtain ⟨k,hk⟩:=Fh.1 hv;have:=tL (s1.va.2 k v hk).1;omega
 obtain ⟨_,b,hb,e,hs⟩:=hq q hqm;rw [e];exact st_med (tJ hs)
theorem prg_zero {t:Syn}(h:((Jt t).2.2 != 0)=false):Jt t=((Jt t).1,0,0):=by
 have key:∀{c:Bool} {a:Pg} {x y:Int} {r:Pg×Int×Int},(c=true->(y != 0)=true)->(((if c then (a,x,y) else r).2.2 != 0)=false)->(if c then (a,x,y) else r)=r:=fun {c a x y r} h1 h2=>by
  cases c with
  | false=>rfl
  | true=>rw [if_pos rfl] at h2;rw [h1 rfl] at h2;cases h2
 unfold Jt at h ⊢;have h1:=key (fun _=>by decide) h;rw [h1] at h ⊢;have h2:=key (fun h=>h) h;rw [h2] at h ⊢;unfold rJ at h ⊢;have h3:=key (fun h=>h) h;rw [h3]
theorem prg_at {t:Syn}{e:Int}(h:oO e t):(decide ((0:Int)<=(Jt t).2.1)&&decide ((Jt t).2.1<=e))=true:=by
 obtain ⟨h1,h2⟩:=prg_in h;rw [Gt h1,Gt h2];rfl
theorem same_self (t:Syn):Tf t t=true:=zG _ _ rfl
theorem rz_src1 (f:Fi)(hf:f.name.length<=1048576):Au Tryz.prog 24 [.agg (cFi f)] (.bool (Ib f.name != 0)):=by
 refine G3 7 Tryz.func24 rfl fun H=>?_
 refine Ab (Qp (Ji J6) (Qp Bl (Cf (Qp (Qf J6) (Qp Hn (Qp (Qc rfl (c20 f.name hf)) (Qp Cq (Qp Bl (Rb (Qr (.bool _) ?_))))))))));rfl
theorem tX (l:List Fi)(hl:l.length<=1048576)(K:FuncId)(hK:Y0 Tryz.prog K=true)(cs:List AV)(p:Fi->Bool)(hf:∀a∈l,Au Tryz.prog K (.agg (cFi a)::cs) (.bool (p a))):Au Tryz.prog 23 [.sl 2 (l.map cFi),.fn (.func K) [] cs] (.bool (l.any p)):=by
 refine G3 9 Tryz.func23 rfl fun H=>?_
 refine Ab (Qp Bl (Cf (Qp Ng (Qp (Ai (v:=.fn _ _ _) rfl) (Qp (Qc rfl (yV l hl K hK cs p hf)) (Qp Lm (Qp Bl (Rb (Qr (.bool _) ?_)))))))));exact Eq.trans rfl (congrArg (fun q:Bool=>AV.bool q) (lK p l).2)
section
variable {p:Pg}
theorem so_1 (h:(Fv p.types != 0)=true):K3 p=(Iz,Fv p.types):=if_pos h
theorem so_b (h:(Fv p.types != 0)=false):K3 p=src1 p:=Bu h
theorem ty_nm (a:e8Sc):((Ib a.name != 0)||a.fields.any (fun f=>Ib f.name != 0)) = !(Ti a):=by
 unfold Ti Ru;rw [Bool.not_and,List.not_all_eq_any_not];rfl
theorem so_2 (h1:(Fv p.types != 0)=false){a:e8Sc}(hm:a∈p.types)(h:((Ib a.name != 0)||a.fields.any (fun f=>Ib f.name != 0))=true):K3 p=(Iz,8):=by
 rw [so_b h1]
 have h2:p.types.all Ti=false:=by
  rw [<-Bool.not_eq_true,F3];intro hl;rw [ty_nm,hl a hm] at h;cases h
 unfold src1;rw [h2];rfl
theorem so_c (h1:(Fv p.types != 0)=false)(h2:p.types.all Ti=true){c:Bool}(h3:decide ((16:Int)<(p.queries.length:Int))=c):K3 p=if c then (Iz,5) else zP p:=by
 rw [so_b h1];unfold src1;rw [h2,h3];rfl
theorem so_e (h1:(Fv p.types != 0)=false)(h2:p.types.all Ti=true)(h3:decide ((16:Int)<(p.queries.length:Int))=false){e:Int}(h:Sw p.types [] p.queries=e)(he:(e != 0)=true):K3 p=(Iz,e):=by
 refine (so_c h1 h2 h3).trans ?_;show zP p=_;unfold zP;rw [h,if_pos he]
theorem so_d (h1:(Fv p.types != 0)=false)(h2:p.types.all Ti=true)(h3:decide ((16:Int)<(p.queries.length:Int))=false)(h:Sw p.types [] p.queries=0):K3 p=src3 p:=by
 refine (so_c h1 h2 h3).trans ?_;show zP p=_;unfold zP;rw [h];rfl
theorem so_w (h:((Ba (Sg p) (.only 0)).2 != 0)=true):src3 p=(Iz,(Ba (Sg p) (.only 0)).2):=if_pos h
theorem so_y (h:((Ba (Sg p) (.only 0)).2 != 0)=false):src3 p=(Sg p,0):=Bu h
end
section
variable {T:List e8Sc} {l:List Qy} {k:Nat} {a:Qy} {seen:List Ac}
theorem sg_e (ha:l[k]? = some a)(h:((Kl T a).2 != 0)=true):Sw T seen (l.drop k)=(Kl T a).2:=by rw [A4 ha,Sw,if_pos h]
theorem sg_7 (ha:l[k]? = some a)(h:((Kl T a).2 != 0)=false)(h2:seen.contains a.name=true):Sw T seen (l.drop k)=7:=by rw [A4 ha,Sw,Bu h,if_pos h2]
theorem sg_on (ha:l[k]? = some a)(h:((Kl T a).2 != 0)=false)(h2:seen.contains a.name=false):Sw T seen (l.drop k)=Sw T (seen ++ [a.name]) (l.drop (k+1)):=by rw [A4 ha,Sw,Bu h,Bu h2]
end
theorem fi_row (f:Fi):([.int .i64 2,.str f.name,.str [],.int .i64 f.kind,.sl 6 [],.int .i64 0]:List AV)=Df (fiT f):=by rw [Bi];rfl
theorem ty_row (s:e8Sc):([.int .i64 1,.str s.name,.str [],.int .i64 0,.sl 6 ((s.fields.map fiT).map Df),.int .i64 0]:List AV)=Df (tyT s):=by rw [Bi];rfl
def Wa (T:List e8Sc)(k:Nat):List (List AV):=((T.take k).map tyT).map Df
def Tq (s:e8Sc)(k:Nat):List (List AV):=((s.fields.take k).map fiT).map Df
def Xs (p:Pg)(k:Nat):List (List AV):=(p.types.map tyT++(p.queries.take k).map (qT p.types)).map Df
theorem fr_on {s:e8Sc}{k:Nat}{f:Fi}(hf:s.fields[k]? = some f):Tq s k ++ [[.int .i64 2,.str f.name,.str [],.int .i64 f.kind,.sl 6 [],.int .i64 0]]=Tq s (k+1):=by
 unfold Tq;rw [El hf,Di,Di,fi_row];rfl
theorem tr_on {T:List e8Sc}{k:Nat}{s:e8Sc}(hs:T[k]? = some s){r:List (List AV)}(hr:r=Tq s s.fields.length):Wa T k ++ [[.int .i64 1,.str s.name,.str [],.int .i64 0,.sl 6 r,.int .i64 0]]=Wa T (k+1):=by
 subst hr;unfold Wa;rw [El hs,Di,Di,Tq,Sm,ty_row];rfl
theorem qr_on {p:Pg}{k:Nat}{q:Qy}(hq:p.queries[k]? = some q)(h:((Kl p.types q).2 != 0)=false):Xs p k ++ [cSyn (Kl p.types q).1]=Xs p (k+1):=by
 unfold Xs;rw [(show_ok h).2.2.2];show _ ++ [cSyn (qT p.types q)]=_;rw [<-Bi (qT p.types q),El hq];simp
theorem zA (p:Pg):∀k,(Wa p.types k).length<=p.types.length/\(Xs p k).length<=p.types.length+p.queries.length:=fun k=>by
 unfold Wa Xs;rw [Bg,Bg,Bg,Al,Bg,Bg,Gv,Gv];exact ⟨by omega,by omega⟩
theorem fr_len (s:e8Sc)(k:Nat):(Tq s k).length<=s.fields.length:=by
 unfold Tq;rw [Bg,Bg,Gv];omega
theorem sc_tyR (T:List e8Sc)(k:Nat):∀c∈Wa T k,Av c=true:=scLe _
theorem sc_fiR (s:e8Sc)(k:Nat):∀c∈Tq s k,Av c=true:=scLe _
theorem sc_qR (p:Pg)(k:Nat):∀c∈Xs p k,Av c=true:=scLe _
theorem tr_end {p:Pg}{k:Nat}(h:p.types.take k=p.types):Wa p.types k=Xs p 0:=by
 unfold Wa Xs;rw [h,List.take_zero,A0,A1]
theorem q_end {p:Pg}{k:Nat}(h:p.queries.take k=p.queries):Xs p k=(Sg p).kids.map Df:=by
 unfold Xs;rw [h];rfl
theorem ty_all {T:List e8Sc}{k:Nat}{a:e8Sc}(ha:T[k]? = some a)(h:(T.take k).all Ti=true)(h2:((Ib a.name != 0)||a.fields.any (fun f=>Ib f.name != 0))=false):(T.take (k+1)).all Ti=true:=by
 rw [ty_nm] at h2;rw [El ha,List.all_append,h,Kx,List.all_nil];simpa using h2
theorem nm_on {l:List Qy}{k:Nat}{a:Qy}(ha:l[k]? = some a):(l.take k).map (·.name) ++ [a.name]=(l.take (k+1)).map (·.name):=by
 rw [El ha,Di];rfl
abbrev Nn (q:Syn×Int):AV:=AV.tuple [.agg (cSyn q.1),.int .i64 q.2]
theorem qS (p:Pg)(hT:p.types.length<=1048576)(hsn:∀s∈p.types,fO s)(hql:p.queries.length<=1048576)(hqs:∀q∈p.queries,medQ q/\q.name.length<=1048576/\∀v∈q.vars,v.name.length<=1048576)(hm1:∀q∈p.queries,ShOK p.types q->Ie (qT p.types q))(hmed:(Fv p.types != 0)=false->p.types.all Ti=true->p.queries.length<=16->Sw p.types [] p.queries=0->Ie (Sg p)):Au Tryz.prog 8 [.agg (cPg p)] (.tuple [.agg (cSyn (K3 p).1),.int .i64 (K3 p).2]):=by
 refine G3 116 Tryz.func8 rfl fun H=>?_
 refine Ab (Qp (Ji [_,_]) ?_);refine E8 Kb fun b2=>?_
 refine Qp A3 (A7 (Cj (Qp (Qf [_,_]) (Qp Eg (Qp (Qc rfl (e8c57 p.types hT hsn)) (Qp A3 (Cf (Qp Ax (Qp Cq (Br (fun hc1=>Ab (Qp (Gz Aj) (Qp Ax ?_))) fun hc1=>B8 (Ab ?_)))))))))))
 .
  refine B4 0 Aj (_::_) (Qp A3 (Rc ?_));refine Yx [.agg Aj,Iq _] (Zc 0) S1 ?_;exact Ye Nn (so_1 hc1)
 refine Qp (Kj (l0:=[.int .i64 0,.str [],.str [],.int .i64 0,.val (.slice none 0 0),.int .i64 0]) (l:=Aj) tok rfl rfl (by kernel_rfl) rfl) ?_;refine E8 Kb fun b5=>?_
 refine B4 0 Aj (_::_::_) ?_;refine AOL.ghost (GS.cellRow 0 4 25 6 rfl rfl rfl rfl) ?_;refine A7 (Cj (Qp (Qf [_,_]) (Qp Eg ?_)));refine Qp (G6 p.types.length rfl rfl (by simp)) ?_;refine Qp Ax (A7 (AW.block ?_));refine AW.Aan (fun (q:Nat×List (List AV)×Value)=>(⟨[(1,.ptr (cPg p)),(2,.val (.pointer (some ⟨b2,0,none⟩))),(3,.int .i64 0),(5,.val (.pointer (some ⟨b5,0,none⟩))),(26,.sl 2 (p.types.map Oh)),(27,.int .i64 p.types.length),(28,.int .i64 (q.1:Int))],.row q.2.2 q.2.1.length 25 6 :: .box b5 25 [.int .i64 0,.str [],.str [],.int .i64 0,.row q.2.2 6 q.2.1,.int .i64 0] :: .box b2 25 Kb::H,116⟩:St)) (fun q=>q.1<=p.types.length/\q.2.1=Wa p.types q.1/\(p.types.take q.1).all Ti=true) (fun q=>p.types.length-q.1) ((0,[],.slice none 0 0)) ?_ Dp ?_
 . exact ⟨Bk _,rfl,rfl⟩
 rintro q hR;refine Ab (Qp C5 (Re (Hs (fun hc2=>?_) fun hc2=>?_)))
 .
  obtain ⟨a,ha⟩:=De hc2;have hlt:=Ch ha;have hm:=Ak ha;have hok:=hsn a hm;have hso:∀c∈q.2.1,Av c=true:=by rw [hR.2.1];exact sc_tyR _ _
  have hol:q.2.1.length<=p.types.length:=by rw [hR.2.1];exact (zA p _).1
  have hfl0:=hok.2.1;refine B8 (AW.seq (AW.block (Ab ?_)));refine Qp (F5 Pn rfl rfl (by omega) (C2 ha)) ?_;refine Qp (C8 Pn) (E8 [.str [],.sl 2 []] fun b7=>?_);refine B4 0 Pn (_::_::_::_::_) ?_;refine Me 7 0 rfl ?_;refine A7 (Cj (Qp (Qf Pn) (Qp Hn (Qp (Qc rfl (c20 a.name hok.1)) (Qp Cq (Qp Cw (Qg [] Qw (Qf [_]) (Qg [(37,_)] Qw Eg ?_))))))));refine Qg [(38,_)] Qw (Qc rfl (tX a.fields hok.2.1 24 (by kernel_rfl) [] (fun f=>Ib f.name != 0) (fun f hf=>rz_src1 f (hok.2.2 f hf)))) ?_;refine Qp G4 (Br (fun hc3=>Ab (Qp (Gz Aj) ?_)) fun hc3=>B8 (Ab (Qp (Qf Pn) (Qp Hn ?_))))
  .
   refine B4 2 Aj (_::_::_::_) (Qp A3 (Rc (Rj (Bc ?_))));refine Yx [.agg Aj,Iq _] (Zc 2) S3 ?_;exact Ye Nn (so_2 hc1 hm hc3)
  refine Qp (Kj (l0:=[.int .i64 0,.str [],.str [],.int .i64 0,.val (.slice none 0 0),.int .i64 0]) (l:=Aj) tok rfl rfl (by kernel_rfl) rfl) ?_;refine E8 Kb fun b8=>?_
  refine B4 0 Aj (_::_::_::_::_) ?_;refine AOL.ghost (GS.cellRow 0 4 25 6 rfl rfl rfl rfl) ?_;refine A7 (Cj (Qp (Qf [_]) (Qp Eg ?_)));refine Qp (G6 a.fields.length rfl rfl (by simp)) ?_;refine Qp Ax (A7 (AW.block ?_));refine AW.Aan (fun (r:Nat×List (List AV)×Value)=>(⟨[(1,.ptr (cPg p)),(2,.val (.pointer (some ⟨b2,0,none⟩))),(3,.int .i64 0),(5,.val (.pointer (some ⟨b5,0,none⟩))),(26,.sl 2 (p.types.map Oh)),(27,.int .i64 p.types.length),(28,.int .i64 (q.1:Int)),(7,.ptr (Oh a)),(8,.val (.pointer (some ⟨b8,0,none⟩))),(46,.sl 2 (a.fields.map cFi)),(47,.int .i64 a.fields.length),(48,.int .i64 (r.1:Int))],.row r.2.2 r.2.1.length 25 6 :: .box b8 25 [.int .i64 1,.str a.name,.str [],.int .i64 0,.row r.2.2 6 r.2.1,.int .i64 0] :: .row q.2.2 q.2.1.length 25 6 :: .box b5 25 [.int .i64 0,.str [],.str [],.int .i64 0,.row q.2.2 6 q.2.1,.int .i64 0] :: .box b2 25 Kb::H,116⟩:St)) (fun r=>r.1<=a.fields.length/\r.2.1=Tq a r.1) (fun r=>a.fields.length-r.1) ((0,[],.slice none 0 0)) ?_ Dp ?_
  . exact ⟨Bk _,rfl⟩
  rintro r hP;refine Ab (Qp C5 (Re (Hs (fun hc4=>?_) fun hc4=>?_)))
  .
   obtain ⟨x,hax⟩:=De hc4;have hltx:=Ch hax;have hmx:=Ak hax;have hsf:∀c∈r.2.1,Av c=true:=by rw [hP.2];exact sc_fiR _ _
   have hfl:r.2.1.length<=a.fields.length:=by rw [hP.2];exact fr_len _ _
   refine B8 (AW.seq (AW.block (Ab ?_)));refine Qp (F5 J6 rfl rfl (by omega) (C2 hax)) ?_;refine Qp (C8 J6) (E8 gjy fun b10=>?_);refine B4 0 J6 (_::_::_::_::_::_::_) ?_;refine Me 10 0 rfl ?_;refine A7 (AW.region (Qp Dg (Ua 1 (.row _ _ _) rfl (Qp (Qf J6) (Qp Hn (Qp (Qf [Iq _]) (Qp B7 (Qp (Gz Aj) (Qp (Kf [Aj] rfl) ?_)))))))));refine Qe (Zq 0 rfl (Ff rfl) (hsf) (by simp;omega) (by simp [maxLen];omega)) ?_;rintro _ _ ⟨v60,rfl,rfl⟩;refine Qp Dg ?_;refine B4 1 Aj (_::_::_::_::_::_) (Rk (AW.region (Qp Ii (Qp Ax (A7 ?_)))));refine ⟨(r.1+1,r.2.1 ++ [[.int .i64 2,.str x.name,.str [],.int .i64 x.kind,.sl 6 [],.int .i64 0]],v60),?_,?_,Dp⟩
   . exact ⟨hltx,(congrArg (· ++ _) hP.2).trans (fr_on hax)⟩
   simp only;omega
  have hdx:=Hk hc4;have hfw:r.2.1=Tq a a.fields.length:=by have h:=hP.2;have h9:r.1=a.fields.length:=(by have:=He hc4;have:=hP.1;omega);rw [h9] at h;exact h
  refine AW.exit ?_;refine B9 (Ri (AW.region (Qp Dg ?_)));refine Ua 3 (.row _ _ _) rfl ?_;refine AOL.ghost (GS.cell (H2:=_::_::_::_::_::_) 1 4 rfl rfl rfl rfl Fg) ?_;refine Tn 1 Aj rfl (Qp (Kf [Aj] rfl) ?_);refine Qe (Zq 2 rfl (Ff rfl) (hso) (by simp;omega) (by simp [maxLen];omega)) ?_;rintro _ _ ⟨v67,rfl,rfl⟩;refine Qp Dg ?_;refine B4 3 Aj (_::_::_::_::_::_) (Rk (AW.region (Qp Ii (Qp Ax (A7 ?_)))));refine ⟨(q.1+1,q.2.1 ++ [[.int .i64 1,.str a.name,.str [],.int .i64 0,.sl 6 r.2.1,.int .i64 0]],v67),?_,?_,GS.weaken ⟨rfl,rfl,rfl,rfl,rfl,rfl,rfl,trivial⟩ (.cons _ (.cons _ (.refl _)))⟩
  . exact ⟨hlt,(congrArg (· ++ _) hR.2.1).trans (tr_on ha hfw),ty_all ha hR.2.2 hc3⟩
  simp only;omega
 have hte:=F1 hc2;have htn:=hR.2.2;rw [hte] at htn;have hqw:=hR.2.1.trans (tr_end hte);refine AW.exit ?_;refine B9 (Ri (Cj (Qp (Qf [_]) (Qp Eg ?_))));refine Qp (G6 p.queries.length rfl rfl (by simp)) ?_;refine Qp Jj (Br (fun hc5=>Ab (Qp (Gz Aj) ?_)) fun hc5=>?_)
 .
  refine B4 2 Aj (_::_::_::_) (Qp A3 (Rc ?_));refine Yx [.agg Aj,Iq _] (Zc 2) S3 ?_;exact Ye Nn ((so_c hc1 htn hc5:K3 p=if true then (Iz,5) else zP p))
 have hq16:p.queries.length<=16:=by have:=He hc5;omega
 refine B8 (Ab (Qe (Jm) ?_));rintro _ _ ⟨b75,rfl,rfl⟩;refine Qp Tm (A7 (Cj (Qp (Qf [_]) (Qp Eg ?_))));refine Qp (G6 p.queries.length rfl rfl (by simp)) ?_;refine Qp Ax (A7 (AW.block ?_));refine AW.Aan (fun (w:Nat×List (List AV)×List Ac×Value)=>(⟨[(1,.ptr (cPg p)),(2,.val (.pointer (some ⟨b2,0,none⟩))),(3,.int .i64 0),(5,.val (.pointer (some ⟨b5,0,none⟩))),(11,.val (.map (some b75))),(77,.sl 18 (p.queries.map cQy)),(78,.int .i64 p.queries.length),(79,.int .i64 (w.1:Int))],.smap b75 (Wp w.2.2.1) :: .row w.2.2.2 w.2.1.length 25 6 :: .box b5 25 [.int .i64 0,.str [],.str [],.int .i64 0,.row w.2.2.2 6 w.2.1,.int .i64 0] :: .box b2 25 Kb::H,116⟩:St)) (fun w=>w.1<=p.queries.length/\w.2.1=Xs p w.1/\w.2.2.1=(p.queries.take w.1).map (·.name)/\Sw p.types [] p.queries=Sw p.types w.2.2.1 (p.queries.drop w.1)) (fun w=>p.queries.length-w.1) ((0,q.2.1,[],q.2.2)) ?_ Dp ?_
 . exact ⟨Bk _,hqw,rfl,rfl⟩
 rintro w hW;refine Ab (Qp C5 (Re (Hs (fun hc6=>?_) fun hc6=>?_)))
 .
  obtain ⟨a,ha⟩:=De hc6;have hlt:=Ch ha;have hm:=Ak ha;have hqa:=hqs a hm;have hso:∀c∈w.2.1,Av c=true:=by rw [hW.2.1];exact sc_qR _ _
  have hol:w.2.1.length<=p.types.length+p.queries.length:=by rw [hW.2.1];exact (zA p _).2
  refine B8 (AW.seq (AW.block (Ab ?_)));refine Qp (F5 O8 rfl rfl (by omega) (C2 ha)) ?_;refine Qp (C8 O8) (E8 gky fun b13=>?_);refine B4 0 O8 (_::_::_::_::_::_) ?_;refine Me 13 0 rfl ?_;refine Cf (Qp (Qf [_,_]) (Qp Eg (Qp (C8 O8) (Qp (Qc rfl (rz_Show p.types hT hsn a hqa.1 hqa.2.1 hqa.2.2 (hm1 a hm))) (Qp Wz (Qp (Bm (v:=.agg Aj) rfl rfl) (Qp Wt ?_)))))));refine E8 Kb fun b14=>?_
  refine B4 0 Aj (_::_::_::_::_::_) (Qp A3 ?_);refine Me 14 0 rfl ?_;refine A7 (Cj (Qp Ax (Qp Cq (Br (fun hc7=>Ab (Qp (Gz Aj) (Qp Ax ?_))) fun hc7=>B8 (Cj (Qp B3 (Qp (Qf O8) (Qp Hn ?_))))))))
  .
   refine B4 3 Aj (_::_::_::_::_) (Qp A3 (Rc (Rj (Bc ?_))));refine Yx [.agg Aj,Iq _] (Zc 3) S4 ?_;exact Ye Nn (so_e hc1 htn hc5 (hW.2.2.2.trans (sg_e ha hc7)) hc7)
  refine AOL.Aaq (Nl (i:=0) (ks:=w.2.2.1) tok rfl rfl rfl rfl rfl (by kernel_rfl) rfl rfl rfl) rfl rfl ?_;refine Br (fun hc8=>?_) fun hc8=>?_
  .
   have hc8n:w.2.2.1.contains a.name=true:=hc8;refine Ab (Qp (Gz Aj) ?_);refine B4 3 Aj (_::_::_::_::_) (Qp A3 (Rc (Rj (Bc ?_))));refine Yx [.agg Aj,Iq _] (Zc 3) S4 ?_;exact Ye Nn (so_e hc1 htn hc5 (hW.2.2.2.trans (sg_7 ha hc7 hc8n)) rfl)
  have hc8n:w.2.2.1.contains a.name=false:=hc8;refine B8 (Ab (Qp B3 (Qp (Qf O8) (Qp Hn (Rt (Qu (i:=0) (H2:=_::_::_::_::_) tok rfl rfl rfl rfl rfl rfl rfl rfl (hc8) rfl) (A7 (AW.region (Qp Dg (Ua 2 (.row _ _ _) rfl (Qp (C8 Aj) (Qp (Kf [Aj] rfl) ?_)))))))))));refine Qe (Zq 1 rfl (Ff rfl) (hso) (by simp;omega) (by simp [maxLen];omega)) ?_;rintro _ _ ⟨v106,rfl,rfl⟩;refine Qp Dg ?_;refine B4 2 Aj (_::_::_::_::_) (Rk (AW.region (Qp Ii (Qp Ax (A7 ?_)))));refine ⟨(w.1+1,w.2.1 ++ [cSyn (Kl p.types a).1],w.2.2.1 ++ [a.name],v106),?_,?_,Dp⟩
  . exact ⟨hlt,(congrArg (· ++ _) hW.2.1).trans (qr_on ha hc7),(congrArg (· ++ _) hW.2.2.1).trans (nm_on ha),hW.2.2.2.trans (sg_on ha hc7 hc8n)⟩
  simp only;omega
 have hde:=Hk hc6;have hte:=F1 hc6;have hsg:=hW.2.2.2;rw [hde,Sw] at hsg;obtain ⟨w1,w2,w3,w4⟩:=w;have hw2:w2=(Sg p).kids.map Df:=hW.2.1.trans (q_end hte);subst hw2;refine AW.exit ?_;refine B9 (Ri (Cj ?_));refine AOL.ghost (GS.cell (H2:=_::_::_::_::_) 2 4 rfl rfl rfl rfl Fg) ?_;refine Tn 2 Aj rfl (Qp (Qc rfl (yT (Sg p) (hmed hc1 htn hq16 hsg))) (Qp A3 (Cf (Qp Ax (Qp Cq (Br (fun hc9=>Ab (Qp (Gz Aj) (Qp Ax ?_))) fun hc9=>B8 (Ab (Tn 2 Aj rfl ?_))))))))
 .
  refine B4 3 Aj (_::_::_::_::_) (Qp A3 (Rc ?_));refine Yx [.agg Aj,Iq _] (Zc 3) S4 ?_;exact Ye Nn (((so_d hc1 htn hc5 hsg).trans (so_w hc9)))
 refine B4 3 Aj (_::_::_::_::_) (Qp A3 (Rb ?_));refine Yx [.agg Aj,Iq _] (Zc 3) S4 ?_;exact Ye Nn (((so_d hc1 htn hc5 hsg).trans (so_y hc9)))
theorem g_parse {s:Ac}{t:Syn}(hs:s.length<=100000)(h:(Dh (Fm EE TT) s).1=t)(h2:(Dh (Fm EE TT) s).2=(0,0)):Au Tryz.prog 6 [.str s] (.tuple [.agg (cSyn t),.int .i64 0,.int .i64 0]):=by
 have p:=mQ s hs;rw [h2,h] at p;exact p
theorem g_prg {t:Syn}{p:Pg}(hm:Ie t)(h:Jt t=(p,0,0)):Au Tryz.prog 7 [.agg (cSyn t)] (.tuple [.agg (cPg p),.int .i64 0,.int .i64 0]):=by
 have q:=aW t hm;rw [h] at q;exact q
theorem g_src {t:Syn}{p:Pg}(hm:Ie t)(h:Jt t=(p,0,0)):Au Tryz.prog 8 [.agg (cPg p)] (.tuple [.agg (cSyn (Ft t)),.int .i64 0]):=by
 obtain ⟨⟨hT,hsn⟩,hql,hqs,hm1,hmed⟩:=zR hm h;obtain ⟨r1,_⟩:=fN hm h;have q:=qS p hT hsn hql hqs hm1 hmed;rw [r1] at q;exact q
theorem g_fmt {t:Syn}{p:Pg}{o:Ac}(hm:Ie t)(h:Jt t=(p,0,0))(ho:Ad (Ft t)=o):Au Tryz.prog 9 [.agg (cSyn (Ft t))] (.tuple [.str o,.int .i64 0]):=by
 obtain ⟨r1,r2,r3,_⟩:=fN hm h;have q:=lZ (Ft t) r2;rw [r3,ho] at q;exact q
theorem ts_c:Au Tryz.prog 6 [.str src0] (.tuple [.agg (cSyn tq0),.int .i64 0,.int .i64 0])/\Au Tryz.prog 7 [.agg (cSyn tq0)] (.tuple [.agg (cPg pq0),.int .i64 0,.int .i64 0])/\
  Au Tryz.prog 8 [.agg (cPg pq0)] (.tuple [.agg (cSyn (Ft tq0)),.int .i64 0])/\Au Tryz.prog 9 [.agg (cSyn (Ft tq0))] (.tuple [.str out0,.int .i64 0]):=
 have hm:Ie tq0:=tJ e_med
 ⟨g_parse (by decide) rfl e_parse,g_prg hm e_is,g_src hm e_is,g_fmt hm e_is e_out⟩
theorem tp_c {t:Syn}(hm:Ie t)(h:((Jt t).2.2 != 0)=false) :
  Au Tryz.prog 8 [.agg (cPg (Jt t).1)] (.tuple [.agg (cSyn (Ft t)),.int .i64 0])/\Au Tryz.prog 9 [.agg (cSyn (Ft t))] (.tuple [.str (Ad (Ft t)),.int .i64 0])/\
  Au Tryz.prog 6 [.str (Ad (Ft t))] (.tuple [.agg (cSyn (Dh (Fm EE TT) (Ad (Ft t))).1),.int .i64 0,.int .i64 0])/\
  Au Tryz.prog 7 [.agg (cSyn (Dh (Fm EE TT) (Ad (Ft t))).1)] (.tuple [.agg (cPg (Jt t).1),.int .i64 0,.int .i64 0])/\
  Au Tryz.prog 10 [.agg (cPg (Jt t).1),.agg (cPg (Jt t).1)] (.bool true)/\Tf (Ft t) (Dh (Fm EE TT) (Ad (Ft t))).1=true:=by
 have hz:=prg_zero h;obtain ⟨⟨hT,hsn⟩,hql,hqs,hm1,hmed⟩:=zR hm hz;obtain ⟨r1,r2,r3,r4,r5,r6,r7,r8⟩:=fN hm hz;have p3:=qS (Jt t).1 hT hsn hql hqs hm1 hmed;have p4:=lZ (Ft t) r2;have p5:=mQ (Ad (Ft t)) (by omega);have p6:=aW _ r7;rw [r1] at p3;rw [r3] at p4;rw [r5] at p5;rw [r8] at p6;exact ⟨p3,p4,p5,p6,n4_sp (Jt t).1 (prg_med hm),r6⟩
theorem e_q1:((pq0.queries.map cQy).length:Int)=1:=by
 obtain ⟨q,h,_⟩:=e_qs;rw [h];rfl
theorem t_try  : Au Tryz.prog 5 [] (.bool true):=by
 refine e_qs.elim fun q hq=>?_
 refine Au.body (n:=59) tok Tryz.func5 rfl rfl rfl fun H=>?_
 refine AW.seq (AW.region (AOL.p (An (v:=.bool _) rfl) rfl (AOL.nil (Ap (AW.seq (AW.region ?_))))));refine AOL.p (I1 (by kernel_rfl) rfl rfl (ts_c.1)) rfl ?_;refine AOL.p (Ai (v:=.tuple _) rfl) rfl (AOL.p (Bm (v:=.agg [.int .i64 _,.str _,.str _,.int .i64 _,_,.int .i64 _]) rfl rfl) rfl (AOL.p (Bm (v:=.int .i64 _) rfl rfl) rfl (AOL.p (Bm (v:=.int .i64 _) rfl rfl) rfl ?_)));refine AOL.e (G5 (l:=[.int .i64 0,.str [],.str [],.int .i64 0,.sl 6 [],.int .i64 0]) (by kernel_rfl)) rfl ?_;rintro _ _ ⟨b1,rfl,rfl⟩;refine AOL.e (I0 (k:=0) (v:=.agg _) (cs':=[.int .i64 _,.str _,.str _,.int .i64 _,_,.int .i64 _]) (H2:=_::_) tok rfl rfl rfl rfl (rfl) rfl rfl rfl rfl) rfl ?_;rintro _ _ ⟨rfl,rfl⟩;refine AOL.p (An (v:=.int .i64 _) rfl) rfl (AOL.p (An (v:=.int .i64 _) rfl) rfl ?_);refine AOL.ghost (GS.freeze (t:=1) 0 rfl rfl) ?_;refine AOL.nil (Ap (AW.seq (AW.region (AOL.p (Cs (l:=[.int .i64 _,.str _,.str _,.int .i64 _,_,.int .i64 _]) tok rfl rfl rfl rfl rfl) rfl ?_))));refine AOL.p (I1 (by kernel_rfl) rfl rfl (ts_c.2.1)) rfl ?_;refine AOL.p (Ai (v:=.tuple _) rfl) rfl (AOL.p (Bm (v:=.agg [_,_]) rfl rfl) rfl (AOL.p (Bm (v:=.int .i64 _) rfl rfl) rfl (AOL.p (Bm (v:=.int .i64 _) rfl rfl) rfl ?_)));refine AOL.e (G5 (l:=[.sl 2 [],.sl 18 []]) (by kernel_rfl)) rfl ?_;rintro _ _ ⟨b4,rfl,rfl⟩;refine AOL.e (I0 (k:=0) (v:=.agg _) (cs':=[_,_]) (H2:=_::_) tok rfl rfl rfl rfl (rfl) rfl rfl rfl rfl) rfl ?_;rintro _ _ ⟨rfl,rfl⟩;refine AOL.p (An (v:=.int .i64 _) rfl) rfl (AOL.p (An (v:=.int .i64 _) rfl) rfl ?_);refine AOL.ghost (GS.freeze (t:=4) 0 rfl rfl) ?_;refine AOL.nil (Ap (AW.seq (AW.region (AOL.p (Cs (l:=[_,_]) tok rfl rfl rfl rfl rfl) rfl ?_))));refine AOL.p (I1 (by kernel_rfl) rfl rfl (ts_c.2.2.1)) rfl ?_;refine AOL.p (Ai (v:=.tuple _) rfl) rfl (AOL.p (Bm (v:=.agg [.int .i64 _,.str _,.str _,.int .i64 _,_,.int .i64 _]) rfl rfl) rfl (AOL.p (Bm (v:=.int .i64 _) rfl rfl) rfl ?_));refine AOL.e (G5 (l:=[.int .i64 0,.str [],.str [],.int .i64 0,.sl 6 [],.int .i64 0]) (by kernel_rfl)) rfl ?_;rintro _ _ ⟨b7,rfl,rfl⟩;refine AOL.e (I0 (k:=0) (v:=.agg _) (cs':=[.int .i64 _,.str _,.str _,.int .i64 _,_,.int .i64 _]) (H2:=_::_) tok rfl rfl rfl rfl (rfl) rfl rfl rfl rfl) rfl ?_;rintro _ _ ⟨rfl,rfl⟩;refine AOL.p (An (v:=.int .i64 _) rfl) rfl ?_;refine AOL.ghost (GS.freeze (t:=7) 0 rfl rfl) ?_;refine AOL.nil (Ap (AW.seq (AW.region (AOL.p (Cs (l:=[.int .i64 _,.str _,.str _,.int .i64 _,_,.int .i64 _]) tok rfl rfl rfl rfl rfl) rfl ?_))));refine AOL.p (I1 (by kernel_rfl) rfl rfl (ts_c.2.2.2)) rfl ?_;refine AOL.p (Ai (v:=.tuple _) rfl) rfl (AOL.p (Bm (v:=.str _) rfl rfl) rfl (AOL.p (Bm (v:=.int .i64 _) rfl rfl) rfl (AOL.p (An (v:=.str _) rfl) rfl (AOL.p (An (v:=.int .i64 _) rfl) rfl (AOL.nil (Ap (AW.seq (AW.region (AOL.p (Ai (v:=.int .i64 _) rfl) rfl (AOL.p (Ai (v:=.int .i64 _) rfl) rfl ?_))))))))))
 refine AOL.p (gL rfl rfl rfl (by constructor <;> omega)) rfl ?_;refine AOL.p (Ai (v:=.int .i64 _) rfl) rfl ?_;refine AOL.p (gL rfl rfl rfl (by constructor <;> omega)) rfl ?_;refine AOL.p (Ai (v:=.int .i64 _) rfl) rfl ?_;refine AOL.p (gL rfl rfl rfl (by constructor <;> omega)) rfl ?_;refine AOL.p (uZ rfl rfl) rfl (AOL.p (Ai (v:=.bool _) rfl) rfl (AOL.g (y:=.ptr _) _ [] rfl (jS.all trivial) (fun hG=>Do (cs':=[_]) tok rfl rfl rfl rfl rfl rfl) rfl ?_));refine AOL.g (y:=.sl _ _) _ [(41,_)] rfl (jS.all ⟨Ent.Aas _ _,trivial⟩) (fun hG=>E1 (c:=.sl _ _) tok rfl rfl rfl) rfl ?_;refine AOL.g (y:=.int .i64 _) _ [(42,_)] rfl (jS.all ⟨Ent.Aas _ _,trivial⟩) (fun hG=>bN tok rfl rfl rfl rfl) rfl ?_;refine AOL.g (y:=.bool _) _ [(43,_)] rfl (jS.all ⟨Ent.Aas _ _,trivial⟩) (fun hG=>uZ rfl rfl) rfl ?_;refine AOL.p (Kk rfl rfl rfl) rfl (AOL.p (Ai (v:=.bool _) rfl) rfl (AOL.g (y:=.ptr _) _ [] rfl (jS.all trivial) (fun hG=>Do (cs':=[_]) tok rfl rfl rfl rfl rfl rfl) rfl ?_));refine AOL.g (y:=.sl _ _) _ [(47,_)] rfl (jS.all ⟨Ent.Aas _ _,trivial⟩) (fun hG=>E1 (c:=.sl _ _) tok rfl rfl rfl) rfl ?_;refine AOL.g (y:=.ptr _) _ [(48,_)] rfl (jS.all ⟨Ent.Aas _ _,trivial⟩) (fun hG=>gM (c:=[.str _,_,_,.int .i64 _,_,.int .i64 _,.int .i64 _,.int .i64 _,.int .i64 _,.int .i64 _,_,.int .i64 _,.int .i64 _,.int .i64 _,.int .i64 _,.int .i64 _,.str _,_]) tok rfl rfl rfl rfl rfl rfl (by decide) (by rw [hq.1];rfl)) rfl ?_;refine AOL.g (y:=.ptr _) _ [(49,_)] rfl (jS.all ⟨Ent.Aas _ _,trivial⟩) (fun hG=>Do (cs':=[_,.int .i64 _,_,.int .i64 _,.int .i64 _,.int .i64 _,.int .i64 _,.int .i64 _,_,.int .i64 _,.int .i64 _,.int .i64 _,.int .i64 _,.int .i64 _,.str _,_]) tok rfl rfl rfl rfl rfl rfl) rfl ?_;refine AOL.g (y:=.sl _ _) _ [(50,_)] rfl (jS.all ⟨Ent.Aas _ _,trivial⟩) (fun hG=>E1 (c:=.sl _ _) tok rfl rfl rfl) rfl ?_;refine AOL.g (y:=.int .i64 _) _ [(51,_)] rfl (jS.all ⟨Ent.Aas _ _,trivial⟩) (fun hG=>bN tok rfl rfl rfl rfl) rfl ?_;refine AOL.g (y:=.bool _) _ [(52,_)] rfl (jS.all ⟨Ent.Aas _ _,trivial⟩) (fun hG=>uZ rfl rfl) rfl ?_;refine AOL.p (Kk rfl rfl rfl) rfl (AOL.p (Ai (v:=.bool _) rfl) rfl (AOL.g (y:=.str _) _ [] rfl (jS.all trivial) (fun hG=>Ai (v:=.str _) rfl) rfl ?_));refine AOL.g (y:=.bool _) _ [(56,_)] rfl (jS.all ⟨Ent.Aas _ _,trivial⟩) (fun hG=>Gk rfl rfl) rfl ?_;refine AOL.p (Kk rfl rfl rfl) rfl (AOL.p (An (v:=.bool _) rfl) rfl (AOL.nil (Ap (AW.ret ?_))));refine ⟨.inr rfl,[.bool _],.cons (.tmp _ _ rfl) <| .nil,.refl _,?_⟩;simp only [Af];rw [e_q1,show ((q.key.map cI).length:Int)=1 by rw [Bg,hq.2];rfl];exact congrArg AV.bool (by kernel_rfl)
theorem Zv (s:Ac):Au Tryz.prog 3 [.str s] (.bool true):=by
 refine Au.body (n:=102) tok Tryz.func3 rfl rfl rfl fun H=>?_
 refine AW.seq (AW.region (AOL.p (An (v:=.bool _) rfl) rfl (AOL.nil (Ap (AW.seq (AW.seq (AW.region ?_)))))));refine AOL.p (I1 (by kernel_rfl) rfl rfl (t_try)) rfl ?_;refine AOL.p (P_not rfl) rfl (AOL.nil (Ap (AW.cond (b:=_) rfl (fun hc1=>?_) (fun hc1=>AW.skip (Ap (AW.seq (AW.seq (AW.region (AOL.p (Ai (v:=.str _) rfl) rfl (AOL.p (D7 tok rfl rfl rfl rfl) rfl (AOL.p (P_gtr rfl rfl) rfl (AOL.nil (Ap (AW.cond (b:=_) rfl (fun hc2=>AW.seq (AW.region (AOL.p (An (v:=.bool _) rfl) rfl (AOL.nil (Ap (AW.ret (Bc ?_))))))) (fun hc2=>?_)))))))))))))))
 . exact absurd hc1 (by decide)
 .
  refine ⟨.inr rfl,[.bool _],.cons (.tmp _ _ rfl) <| .nil,.refl _,?_⟩;rfl
 have hs:s.length<=800:=by have:=He hc2;omega
 refine AW.skip (Ap (AW.seq (AW.region (AOL.p (Ai (v:=.str _) rfl) rfl ?_))));refine AOL.p (I1 (by kernel_rfl) rfl rfl (mQ s (by omega))) rfl ?_;refine AOL.p (Ai (v:=.tuple _) rfl) rfl (AOL.p (Bm (v:=.agg [.int .i64 _,.str _,.str _,.int .i64 _,_,.int .i64 _]) rfl rfl) rfl (AOL.p (Bm (v:=.int .i64 _) rfl rfl) rfl (AOL.p (Bm (v:=.int .i64 _) rfl rfl) rfl ?_)));refine AOL.e (G5 (l:=[.int .i64 0,.str [],.str [],.int .i64 0,.sl 6 [],.int .i64 0]) (by kernel_rfl)) rfl ?_;rintro _ _ ⟨b3,rfl,rfl⟩;refine AOL.e (I0 (k:=0) (v:=.agg _) (cs':=[.int .i64 _,.str _,.str _,.int .i64 _,_,.int .i64 _]) (H2:=_::_) tok rfl rfl rfl rfl (rfl) rfl rfl rfl rfl) rfl ?_;rintro _ _ ⟨rfl,rfl⟩;refine AOL.p (An (v:=.int .i64 _) rfl) rfl (AOL.p (An (v:=.int .i64 _) rfl) rfl ?_);refine AOL.ghost (GS.freeze (t:=3) 0 rfl rfl) ?_;refine AOL.nil (Ap (AW.seq (AW.seq (AW.region (AOL.p (Ai (v:=.int .i64 _) rfl) rfl (AOL.p (P_neq rfl rfl) rfl (AOL.nil (Ap (AW.cond (b:=_) rfl (fun hc3=>AW.seq (AW.region (AOL.p (An (v:=.bool _) rfl) rfl (AOL.nil (Ap (AW.ret (Bc ?_))))))) (fun hc3=>?_))))))))))
 .
  refine ⟨.inr rfl,[.bool _],.cons (.tmp _ _ rfl) <| .nil,.refl _,?_⟩;rfl
 have he:(Dh (Fm EE TT) s).2.2=0:=by simpa using hc3
 have hpd:=short_read hs he;refine AW.skip (Ap (AW.seq (AW.region (AOL.p (Cs (l:=[.int .i64 _,.str _,.str _,.int .i64 _,_,.int .i64 _]) tok rfl rfl rfl rfl rfl) rfl ?_))));refine AOL.p (I1 (by kernel_rfl) rfl rfl (aW _ hpd.2)) rfl ?_;refine AOL.p (Ai (v:=.tuple _) rfl) rfl (AOL.p (Bm (v:=.agg [_,_]) rfl rfl) rfl (AOL.p (Bm (v:=.int .i64 _) rfl rfl) rfl (AOL.p (Bm (v:=.int .i64 _) rfl rfl) rfl ?_)));refine AOL.e (G5 (l:=[.sl 2 [],.sl 18 []]) (by kernel_rfl)) rfl ?_;rintro _ _ ⟨b6,rfl,rfl⟩;refine AOL.e (I0 (k:=0) (v:=.agg _) (cs':=[_,_]) (H2:=_::_) tok rfl rfl rfl rfl (rfl) rfl rfl rfl rfl) rfl ?_;rintro _ _ ⟨rfl,rfl⟩;refine AOL.p (An (v:=.int .i64 _) rfl) rfl (AOL.p (An (v:=.int .i64 _) rfl) rfl ?_);refine AOL.ghost (GS.freeze (t:=6) 0 rfl rfl) ?_;refine AOL.nil (Ap (AW.seq (AW.seq (AW.region (AOL.p (Ai (v:=.int .i64 _) rfl) rfl (AOL.p (P_neq rfl rfl) rfl (AOL.nil (Ap (AW.cond (b:=_) rfl (fun hc4=>AW.seq (AW.region (AOL.p (Ai (v:=.int .i64 _) rfl) rfl (AOL.p (P_geq rfl rfl) rfl (AOL.p (Ai (v:=.bool _) rfl) rfl (AOL.g (y:=.int .i64 _) _ [] rfl (jS.all trivial) (fun hG=>Ai (v:=.int .i64 _) rfl) rfl ?_)))))) (fun hc4=>?_))))))))))
 .
  refine AOL.g (y:=.str _) _ [] rfl (jS.all trivial) (fun hG=>Ai (v:=.str _) rfl) rfl ?_;refine AOL.g (y:=.int .i64 _) _ [(44,_)] rfl (jS.all ⟨Ent.Aas _ _,trivial⟩) (fun hG=>D7 tok rfl rfl rfl rfl) rfl ?_;refine AOL.g (y:=.bool _) _ [(43,_),(45,_)] rfl (jS.all ⟨Ent.Aas _ _,Ent.Aas _ _,trivial⟩) (fun hG=>P_leq rfl rfl) rfl ?_;refine AOL.p (Kk rfl rfl rfl) rfl (AOL.p (An (v:=.bool _) rfl) rfl (AOL.nil (Ap (AW.ret (Bc ?_)))));refine ⟨.inr rfl,[.bool _],.cons (.tmp _ _ rfl) <| .nil,.refl _,?_⟩;simp only [Af];exact congrArg AV.bool (prg_at hpd.1)
 have hrc:=tp_c hpd.2 hc4;refine AW.skip (Ap (AW.seq (AW.region (AOL.p (Cs (l:=[_,_]) tok rfl rfl rfl rfl rfl) rfl ?_))));refine AOL.p (I1 (by kernel_rfl) rfl rfl (hrc.1)) rfl ?_;refine AOL.p (Ai (v:=.tuple _) rfl) rfl (AOL.p (Bm (v:=.agg [.int .i64 _,.str _,.str _,.int .i64 _,_,.int .i64 _]) rfl rfl) rfl (AOL.p (Bm (v:=.int .i64 _) rfl rfl) rfl ?_));refine AOL.e (G5 (l:=[.int .i64 0,.str [],.str [],.int .i64 0,.sl 6 [],.int .i64 0]) (by kernel_rfl)) rfl ?_;rintro _ _ ⟨b8,rfl,rfl⟩;refine AOL.e (I0 (k:=0) (v:=.agg _) (cs':=[.int .i64 _,.str _,.str _,.int .i64 _,_,.int .i64 _]) (H2:=_::_) tok rfl rfl rfl rfl (rfl) rfl rfl rfl rfl) rfl ?_;rintro _ _ ⟨rfl,rfl⟩;refine AOL.p (An (v:=.int .i64 _) rfl) rfl ?_;refine AOL.ghost (GS.freeze (t:=8) 0 rfl rfl) ?_;refine AOL.nil (Ap (AW.seq (AW.seq (AW.region (AOL.p (Ai (v:=.int .i64 _) rfl) rfl (AOL.p (P_neq rfl rfl) rfl (AOL.nil (Ap (AW.cond (b:=_) rfl (fun hc5=>?_) (fun hc5=>AW.skip (Ap (AW.seq (AW.region (AOL.p (Cs (l:=[.int .i64 _,.str _,.str _,.int .i64 _,_,.int .i64 _]) tok rfl rfl rfl rfl rfl) rfl ?_))))))))))))))
 . exact absurd hc5 (by decide)
 refine AOL.p (I1 (by kernel_rfl) rfl rfl (hrc.2.1)) rfl ?_;refine AOL.p (Ai (v:=.tuple _) rfl) rfl (AOL.p (Bm (v:=.str _) rfl rfl) rfl (AOL.p (Bm (v:=.int .i64 _) rfl rfl) rfl (AOL.p (An (v:=.str _) rfl) rfl (AOL.p (An (v:=.int .i64 _) rfl) rfl (AOL.nil (Ap (AW.seq (AW.region (AOL.p (Ai (v:=.str _) rfl) rfl ?_)))))))));refine AOL.p (I1 (by kernel_rfl) rfl rfl (hrc.2.2.1)) rfl ?_;refine AOL.p (Ai (v:=.tuple _) rfl) rfl (AOL.p (Bm (v:=.agg [.int .i64 _,.str _,.str _,.int .i64 _,_,.int .i64 _]) rfl rfl) rfl (AOL.p (Bm (v:=.int .i64 _) rfl rfl) rfl (AOL.p (Bm (v:=.int .i64 _) rfl rfl) rfl ?_)));refine AOL.e (G5 (l:=[.int .i64 0,.str [],.str [],.int .i64 0,.sl 6 [],.int .i64 0]) (by kernel_rfl)) rfl ?_;rintro _ _ ⟨b11,rfl,rfl⟩;refine AOL.e (I0 (k:=0) (v:=.agg _) (cs':=[.int .i64 _,.str _,.str _,.int .i64 _,_,.int .i64 _]) (H2:=_::_) tok rfl rfl rfl rfl (rfl) rfl rfl rfl rfl) rfl ?_;rintro _ _ ⟨rfl,rfl⟩;refine AOL.p (An (v:=.int .i64 _) rfl) rfl (AOL.p (An (v:=.int .i64 _) rfl) rfl ?_);refine AOL.ghost (GS.freeze (t:=11) 0 rfl rfl) ?_;refine AOL.nil (Ap (AW.seq (AW.region (AOL.p (Cs (l:=[.int .i64 _,.str _,.str _,.int .i64 _,_,.int .i64 _]) tok rfl rfl rfl rfl rfl) rfl ?_))));refine AOL.p (I1 (by kernel_rfl) rfl rfl (hrc.2.2.2.1)) rfl ?_;refine AOL.p (Ai (v:=.tuple _) rfl) rfl (AOL.p (Bm (v:=.agg [_,_]) rfl rfl) rfl (AOL.p (Bm (v:=.int .i64 _) rfl rfl) rfl (AOL.p (Bm (v:=.int .i64 _) rfl rfl) rfl ?_)));refine AOL.e (G5 (l:=[.sl 2 [],.sl 18 []]) (by kernel_rfl)) rfl ?_;rintro _ _ ⟨b14,rfl,rfl⟩;refine AOL.e (I0 (k:=0) (v:=.agg _) (cs':=[_,_]) (H2:=_::_) tok rfl rfl rfl rfl (rfl) rfl rfl rfl rfl) rfl ?_;rintro _ _ ⟨rfl,rfl⟩;refine AOL.p (An (v:=.int .i64 _) rfl) rfl (AOL.p (An (v:=.int .i64 _) rfl) rfl ?_);refine AOL.ghost (GS.freeze (t:=14) 0 rfl rfl) ?_;refine AOL.nil (Ap (AW.seq (AW.region (AOL.p (Cs (l:=[_,_]) tok rfl rfl rfl rfl rfl) rfl ?_))));refine AOL.p (I1 (by kernel_rfl) rfl rfl (hrc.1)) rfl ?_;refine AOL.p (Ai (v:=.tuple _) rfl) rfl (AOL.p (Bm (v:=.agg [.int .i64 _,.str _,.str _,.int .i64 _,_,.int .i64 _]) rfl rfl) rfl (AOL.p (Bm (v:=.int .i64 _) rfl rfl) rfl ?_));refine AOL.e (G5 (l:=[.int .i64 0,.str [],.str [],.int .i64 0,.sl 6 [],.int .i64 0]) (by kernel_rfl)) rfl ?_;rintro _ _ ⟨b17,rfl,rfl⟩;refine AOL.e (I0 (k:=0) (v:=.agg _) (cs':=[.int .i64 _,.str _,.str _,.int .i64 _,_,.int .i64 _]) (H2:=_::_) tok rfl rfl rfl rfl (rfl) rfl rfl rfl rfl) rfl ?_;rintro _ _ ⟨rfl,rfl⟩;refine AOL.p (An (v:=.int .i64 _) rfl) rfl ?_;refine AOL.ghost (GS.freeze (t:=17) 0 rfl rfl) ?_;refine AOL.nil (Ap (AW.seq (AW.region (AOL.p (Ai (v:=.int .i64 _) rfl) rfl (AOL.p (Ai (v:=.int .i64 _) rfl) rfl ?_)))));refine AOL.p (gL rfl rfl rfl (by constructor <;> omega)) rfl ?_;refine AOL.p (Ai (v:=.int .i64 _) rfl) rfl ?_;refine AOL.p (gL rfl rfl rfl (by constructor <;> omega)) rfl ?_
 refine AOL.p (Ai (v:=.int .i64 _) rfl) rfl ?_;refine AOL.p (gL rfl rfl rfl (by constructor <;> omega)) rfl ?_;refine AOL.p (uZ rfl rfl) rfl (AOL.p (Ai (v:=.bool _) rfl) rfl (AOL.g (y:=.agg _) _ [] rfl (jS.all trivial) (fun hG=>Cs (l:=[_,_]) tok rfl rfl rfl rfl rfl) rfl ?_));refine AOL.g (y:=.agg _) _ [] rfl (jS.all trivial) (fun hG=>Cs (l:=[_,_]) tok rfl rfl rfl rfl rfl) rfl ?_;refine AOL.g (y:=.bool _) _ [(88,_),(89,_)] rfl (jS.all ⟨Ent.Aas _ _,Ent.Aas _ _,trivial⟩) (fun hG=>I1 (by kernel_rfl) rfl rfl (hrc.2.2.2.2.1)) rfl ?_;refine AOL.p (Kk rfl rfl rfl) rfl (AOL.p (Ai (v:=.bool _) rfl) rfl (AOL.g (y:=.agg _) _ [] rfl (jS.all trivial) (fun hG=>Cs (l:=[.int .i64 _,.str _,.str _,.int .i64 _,_,.int .i64 _]) tok rfl rfl rfl rfl rfl) rfl ?_));refine AOL.g (y:=.agg _) _ [] rfl (jS.all trivial) (fun hG=>Cs (l:=[.int .i64 _,.str _,.str _,.int .i64 _,_,.int .i64 _]) tok rfl rfl rfl rfl rfl) rfl ?_;refine AOL.g (y:=.bool _) _ [(93,_),(94,_)] rfl (jS.all ⟨Ent.Aas _ _,Ent.Aas _ _,trivial⟩) (fun hG=>I1 (by kernel_rfl) rfl rfl (r_Same _ _)) rfl ?_;refine AOL.p (Kk rfl rfl rfl) rfl (AOL.p (Ai (v:=.bool _) rfl) rfl (AOL.g (y:=.agg _) _ [] rfl (jS.all trivial) (fun hG=>Cs (l:=[.int .i64 _,.str _,.str _,.int .i64 _,_,.int .i64 _]) tok rfl rfl rfl rfl rfl) rfl ?_));refine AOL.g (y:=.agg _) _ [] rfl (jS.all trivial) (fun hG=>Cs (l:=[.int .i64 _,.str _,.str _,.int .i64 _,_,.int .i64 _]) tok rfl rfl rfl rfl rfl) rfl ?_;refine AOL.g (y:=.bool _) _ [(98,_),(99,_)] rfl (jS.all ⟨Ent.Aas _ _,Ent.Aas _ _,trivial⟩) (fun hG=>I1 (by kernel_rfl) rfl rfl (r_Same _ _)) rfl ?_;refine AOL.p (Kk rfl rfl rfl) rfl (AOL.p (An (v:=.bool _) rfl) rfl (AOL.nil (Ap (AW.ret ?_))));refine ⟨.inr rfl,[.bool _],.cons (.tmp _ _ rfl) <| .nil,.refl _,?_⟩;simp only [Af,same_self,hrc.2.2.2.2.2];rfl
open Go Go.Aw Go.ChangeShapes Go.WideShapes Go.ChangeAt Go.RowKit
theorem laid:laidOutB Tryz.prog=true:=by kernel_rfl
theorem own:ownKnob Tryz.prog.godebug=none:=by kernel_rfl
def valOf:AV->Value
 | .str s=>.string ⟨s.toArray⟩
 | .int k n=>.int k n
 | .bool b=>.bool b
 | _=>.int .i64 0
def gopL:List AV->List (Ac×Int)
 | .str s :: .int _ n::r=>(s,n)::gopL r
 | _=>[]
def Ww (W:World)(gl:Nat)(l:List AV):Prop:=Rep g0 W (.pointer (some ⟨gl,0,none⟩)) (.ptr l)
def tS:AV->Bool
 | .str s=>decide (s.length<=maxLen)
 | .int _ _=>true
 | .bool _=>true
 | _=>false
theorem rep_valOf {g:Gh}{w:World}{x:AV}(h:tS x=true):Rep g w (valOf x) x:=by
 cases x <;> simp only [tS,Ah,Cb] at h
 all_goals first | exact .int _ _ | exact .bool _ | exact aV h
theorem aG {W:World}{n:String}{gl:Nat}{cs:Array Value}{l:List AV}(hn:Tryz.prog.globalNamed n=some gl)(hv:W.var? Tryz.prog n=some cs)(hc:cs.toList=l.map valOf)(hp:l.all tS=true):Ww W gl l:=by
 have hcell:∀j,W.cell? ⟨gl,j,none⟩=cs[j]? :=fun j=>World.var?_cell hn hv j
 refine .ptr gl 0 _ (fun j=>(l[j]?.map valOf).getD default) (fun j x hj=>?_) (fun j x hj=>?_)
 .
  refine ⟨trivial,?_⟩;rw [Eb,hcell j,<-Array.getElem?_toList,hc,List.getElem?_map,hj];simp
 simp only [hj,Ka,Option.getD_some];exact rep_valOf (F3.1 hp _ (Ak hj))
theorem Zy {H:Type}{enc:TypeId×Value->H}{P:Program}{w:World}{base:Nat}{sp:Nat->Bool}{held:Bool}{B1:Nat}{t e:TypeId}{n:Nat}{cs:List Value}{ss:List Ac}{p:List MemPlace}
    (ht:P.underlying t=some (.array n e)) (he:P.underlying e=some .string) (hce:P.cellsOf e=1) (hct:P.cellsOf t=n)
    (h:DataW.trod enc P w base sp held B1 t cs=some (.agg (ss.map fun s=>.lit (.string s)),p)):cs=ss.map fun s=>Value.string ⟨s.toArray⟩:=by
  cases B1 with
  | zero=>simp [DataW.trod] at h
  | succ B1=>
    simp only [DataW.trod,ht,hce,hct,Nat.mul_one] at h;split at h
    . rename_i hl
      obtain ⟨xs,hm,hx⟩:=Sn.1 h
      have hxs:xs.map (·.1)=ss.map fun s=>(DataW.lit (.string s):DataW H):=by
        have:=congrArg Prod.fst hx;simpa using this
      have hxl:xs.length=n:=by simpa using Lib.mapM_length hm
      have hzl:ss.length=n:=by
        have:=congrArg List.length hxs;simp at this;omega
      apply X8
      intro i;by_cases hi:i<n
      . obtain ⟨b,hb,hf⟩:=Lib.mapM_at hm i i (by simp [hi])
        obtain ⟨z,hc,rfl,_⟩:=DataW.trod_string he hf
        have h1:cs[i]? = some (.string z):=by
          have:=congrArg (·[0]?) hc;simpa [List.getElem?_take,List.getElem?_drop] using this
        have h2:(xs.map (·.1))[i]? = some (DataW.lit (.string z.data.toList):DataW H):=by simp [hb]
        rw [hxs] at h2;simp only [List.getElem?_map,Sn,DataW.lit.injEq,Lit.string.injEq] at h2;obtain ⟨z',hz',rfl⟩:=h2;simp [h1,hz']
      rw [List.getElem?_eq_none (by omega),List.getElem?_eq_none (by simp;omega)]
    cases h
theorem chunk2 {α β:Type}(f g:α->β):∀(ss:List α) (cs:List β),cs.length=2*ss.length->(∀i x,ss[i]? = some x->(cs.drop (i*2)).take 2 = [f x,g x])->cs=ss.flatMap fun x=>[f x,g x]
  | [],cs,hl,_=>by simpa using hl
  | x::ss,cs,hl,h=>by
    have h0:=h 0 x rfl
    match cs,hl with
    | a::b::r,hl=>
      simp at h0;obtain ⟨rfl,rfl⟩:=h0
      have:=chunk2 f g ss r (by simp at hl;omega) (fun i y hy=>by
        have:=h (i+1) y (by simpa using hy)
        rwa [show (i+1)*2=i*2+1+1 by omega,List.drop_succ_cons,List.drop_succ_cons] at this)
      simp [<-this]
    | [],hl=>simp at hl
    | [_],hl=>simp at hl;omega
theorem Pk {H:Type}{enc:TypeId×Value->H}{P:Program}{w:World}{base:Nat}{sp:Nat->Bool}{held:Bool}{B1:Nat}{t e:TypeId}{n:Nat}{cs:List Value}{ss:List (Ac×Int)}{p:List MemPlace}{f0 f1:Field}
    (ht:P.underlying t=some (.array n e)) (he:P.underlying e=some (.struct #[f0,f1])) (o0:f0.offset=0) (o1:f1.offset=1) (t0:P.underlying f0.type=some .string) (t1:P.underlying f1.type=some (.int .i64)) (c0:P.cellsOf f0.type=1) (c1:P.cellsOf f1.type=1) (hce:P.cellsOf e=2) (hct:P.cellsOf t=n*2)
    (h:DataW.trod enc P w base sp held B1 t cs=some (.agg (ss.map fun s=>.agg [.lit (.string s.1),.lit (.int .i64 s.2)]),p)):cs=ss.flatMap fun s=>[Value.string ⟨s.1.toArray⟩,.int .i64 s.2]:=by
  cases B1 with
  | zero=>simp [DataW.trod] at h
  | succ B1=>
    simp only [DataW.trod,ht,hce,hct] at h;split at h
    . rename_i hl
      obtain ⟨xs,hm,hx⟩:=Sn.1 h
      have hxs:xs.map (·.1)=ss.map fun s=>(DataW.agg [.lit (.string s.1),.lit (.int .i64 s.2)]:DataW H):=by
        have:=congrArg Prod.fst hx;simpa using this
      have hxl:xs.length=n:=by simpa using Lib.mapM_length hm
      have hzl:ss.length=n:=by
        have:=congrArg List.length hxs;simp at this;omega
      apply chunk2
      . omega
      intro i x hi;have hin:i<n:=by have:=(List.getElem?_eq_some_iff.1 hi).1;omega
      obtain ⟨b,hb,hf⟩:=Lib.mapM_at hm i i (by simp [hin]);obtain ⟨y0,y1,m,rfl,hlen,h0,h1⟩:=trod_struct2 he hf;obtain ⟨z,hz,rfl,_⟩:=DataW.trod_string t0 h0;obtain ⟨k,hk,rfl,_⟩:=DataW.trod_int t1 h1;have h2:(xs.map (·.1))[i]? = some (DataW.agg [.lit (.string z.data.toList),.lit (.int .i64 k)]:DataW H):=by simp [hb]
      rw [hxs] at h2;simp [hi] at h2;obtain ⟨e1,e2⟩:=h2;rw [o0,c0] at hz;rw [o1,c1] at hk;have hl2:((cs.drop (i*2)).take 2).length=2:=by rw [hlen,hce]
      match hq:(cs.drop (i*2)).take 2,hl2 with
      | [a,b],_=>
        rw [hq] at hz hk;simp at hz hk;subst hz hk;simp [e1,e2]
    cases h
theorem chunkN {α β:Type}(k:Nat)(f:α->List β)(hf:∀x,(f x).length=k):∀(ss:List α) (cs:List β),cs.length=k*ss.length->(∀i x,ss[i]? = some x->(cs.drop (i*k)).take k=f x)->cs=ss.flatMap f
  | [],cs,hl,_=>by simpa using hl
  | x::ss,cs,hl,h=>by
    have h0:=h 0 x rfl;rw [Nat.zero_mul,T3] at h0
    have ih:=chunkN k f hf ss (cs.drop k) (by rw [Eh,hl,A8,Nat.mul_succ];omega) fun i y hy=>by
      have:=h (i+1) y (by simpa using hy)
      rwa [List.drop_drop,show k+i*k=(i+1)*k by rw [Nat.succ_mul,Nat.add_comm]]
    rw [J9,<-ih,<-h0,gH]
theorem iI {H:Type}{enc:TypeId×Value->H}{P:Program}{w:World}{base:Nat}{sp:Nat->Bool}{held:Bool}{B1:Nat}{t e:TypeId}{n:Nat}{cs:List Value}{ss:List Shp}{p:List MemPlace}{f0 f1 f2 f3 f4 f5:Field}
    (ht:P.underlying t=some (.array n e)) (he:P.underlying e=some (.struct #[f0,f1,f2,f3,f4,f5])) (ho:f0.offset=0/\f1.offset=1/\f2.offset=2/\f3.offset=3/\f4.offset=4/\f5.offset=5)
    (t0:P.underlying f0.type=some (.int .i64)) (t1:P.underlying f1.type=some (.int .i64)) (t2:P.underlying f2.type=some .bool) (t3:P.underlying f3.type=some .bool) (t4:P.underlying f4.type=some .bool) (t5:P.underlying f5.type=some .bool)
    (hcc:P.cellsOf f0.type=1/\P.cellsOf f1.type=1/\P.cellsOf f2.type=1/\P.cellsOf f3.type=1/\P.cellsOf f4.type=1/\P.cellsOf f5.type=1) (hce:P.cellsOf e=6) (hct:P.cellsOf t=n*6)
    (h:DataW.trod enc P w base sp held B1 t cs=some (.agg (ss.map fun s=>.agg [.lit (.int .i64 s.least),.lit (.int .i64 s.most),.lit (.bool s.typed),.lit (.bool s.cond),.lit (.bool s.scope),.lit (.bool s.span)]),p)) :
    cs=ss.flatMap fun s=>[Value.int .i64 s.least,.int .i64 s.most,.bool s.typed,.bool s.cond,.bool s.scope,.bool s.span]:=by
  cases B1 with
  | zero=>simp [DataW.trod] at h
  | succ B1=>
    simp only [DataW.trod,ht,hce,hct] at h;split at h
    . rename_i hl
      obtain ⟨xs,hm,hx⟩:=Sn.1 h
      have hxs:xs.map (·.1)=ss.map fun s=>(DataW.agg [.lit (.int .i64 s.least),.lit (.int .i64 s.most),.lit (.bool s.typed),.lit (.bool s.cond),.lit (.bool s.scope),.lit (.bool s.span)]:DataW H):=by
        have:=congrArg Prod.fst hx;simpa using this
      have hxl:xs.length=n:=by simpa using Lib.mapM_length hm
      have hzl:ss.length=n:=by
        have:=congrArg List.length hxs;simp at this;omega
      apply chunkN 6 _ (fun _=>rfl)
      . omega
      intro i x hi;have hin:i<n:=by have:=(List.getElem?_eq_some_iff.1 hi).1;omega
      obtain ⟨b,hb,hf⟩:=Lib.mapM_at hm i i (by simp [hin]);obtain ⟨ys,m,_,rfl,hlen,hyl,hfs⟩:=DataW.trod_struct he hf
      match ys,hyl with
      | [y0,y1,y2,y3,y4,y5],_=>
        obtain ⟨o0,o1,o2,o3,o4,o5⟩:=ho;obtain ⟨c0,c1,c2,c3,c4,c5⟩:=hcc;obtain ⟨k0,e0,rfl,_⟩:=DataW.trod_int t0 (show _=some y0 by simpa using hfs 0 f0 rfl);obtain ⟨k1,e1,rfl,_⟩:=DataW.trod_int t1 (show _=some y1 by simpa using hfs 1 f1 rfl);obtain ⟨k2,e2,rfl⟩:=DataW.trod_bool t2 (show _=some y2 by simpa using hfs 2 f2 rfl);obtain ⟨k3,e3,rfl⟩:=DataW.trod_bool t3 (show _=some y3 by simpa using hfs 3 f3 rfl);obtain ⟨k4,e4,rfl⟩:=DataW.trod_bool t4 (show _=some y4 by simpa using hfs 4 f4 rfl);obtain ⟨k5,e5,rfl⟩:=DataW.trod_bool t5 (show _=some y5 by simpa using hfs 5 f5 rfl);have h2:(xs.map (·.1))[i]? = some (DataW.agg [.lit (.int .i64 k0),.lit (.int .i64 k1),.lit (.bool k2),.lit (.bool k3),.lit (.bool k4),.lit (.bool k5)]:DataW H):=by simp [hb]
        rw [hxs] at h2;simp [hi] at h2;obtain ⟨q0,q1,q2,q3,q4,q5⟩:=h2;rw [o0,c0] at e0;rw [o1,c1] at e1;rw [o2,c2] at e2;rw [o3,c3] at e3;rw [o4,c4] at e4;rw [o5,c5] at e5;have hl2:((cs.drop (i*6)).take 6).length=6:=by rw [hlen,hce]
        match hq:(cs.drop (i*6)).take 6,hl2 with
        | [a,b,c,d,e,f],_=>
          rw [hq] at e0 e1 e2 e3 e4 e5;simp at e0 e1 e2 e3 e4 e5;subst e0 e1 e2 e3 e4 e5;simp [q0,q1,q2,q3,q4,q5]
    cases h
theorem signs_of {W : World} {r : List (String × DataW Unit)} {ps : List MemPlace} (h : DataW.LaidVars Tryz.prog W (("tidegate/lexer.signs", Rows.laid_tidegate_lexer_signs) :: r) ps) : Ww W 4 Nz /\ ∃ q, DataW.LaidVars Tryz.prog W r q := by
 obtain ⟨g',t',cs,B1,p,q,hg',ht',hvar,hd,hr,_⟩:=h;obtain rfl := Option.some.inj ((show Tryz.prog.globalNamed "tidegate/lexer.signs" = some 4 by kernel_rfl).symm.trans hg');obtain rfl:=Option.some.inj ((show (Tryz.prog.globals[4]?).map (·.type)=some 246 by kernel_rfl).symm.trans ht');have:=Zy (ss:=Nz.filterMap fun | .str s=>some s | _=>none) (n:=17) (e:=9) (by kernel_rfl) (by kernel_rfl) (by kernel_rfl) (by kernel_rfl) hd;exact ⟨aG (n := "tidegate/lexer.signs") (by kernel_rfl) hvar (by rw [this]; rfl) (by decide), q, hr⟩
theorem kinds_of {W : World} {r : List (String × DataW Unit)} {ps : List MemPlace} (h : DataW.LaidVars Tryz.prog W (("tidegate/parser.kinds", Rows.laid_tidegate_parser_kinds) :: r) ps) : Ww W 1 Nq /\ ∃ q, DataW.LaidVars Tryz.prog W r q := by
 obtain ⟨g',t',cs,B1,p,q,hg',ht',hvar,hd,hr,_⟩:=h;obtain rfl := Option.some.inj ((show Tryz.prog.globalNamed "tidegate/parser.kinds" = some 1 by kernel_rfl).symm.trans hg');obtain rfl:=Option.some.inj ((show (Tryz.prog.globals[1]?).map (·.type)=some 98 by kernel_rfl).symm.trans ht');have:=Zy (ss:=Nq.filterMap fun | .str s=>some s | _=>none) (n:=3) (e:=9) (by kernel_rfl) (by kernel_rfl) (by kernel_rfl) (by kernel_rfl) hd;exact ⟨aG (n := "tidegate/parser.kinds") (by kernel_rfl) hvar (by rw [this]; rfl) (by decide), q, hr⟩
theorem ors_of {W : World} {r : List (String × DataW Unit)} {ps : List MemPlace} (h : DataW.LaidVars Tryz.prog W (("tidegate/parser.ors", Rows.laid_tidegate_parser_ors) :: r) ps) : Ww W 2 Xp /\ ∃ q, DataW.LaidVars Tryz.prog W r q := by
 obtain ⟨g',t',cs,B1,p,q,hg',ht',hvar,hd,hr,_⟩:=h;obtain rfl := Option.some.inj ((show Tryz.prog.globalNamed "tidegate/parser.ors" = some 2 by kernel_rfl).symm.trans hg');obtain rfl:=Option.some.inj ((show (Tryz.prog.globals[2]?).map (·.type)=some 220 by kernel_rfl).symm.trans ht');have := Pk (ss := gopL Xp) (n := 1) (e := 219) (by kernel_rfl) (show Tryz.prog.underlying 219 = some (.struct #[⟨ "text", 9, 0, false, "", "tidegate/parser", 0⟩, ⟨ "op", 3, 1, false, "", "tidegate/parser", 16⟩]) by kernel_rfl) rfl rfl (by kernel_rfl) (by kernel_rfl) (by kernel_rfl) (by kernel_rfl) (by kernel_rfl) (by kernel_rfl) hd;exact ⟨aG (n := "tidegate/parser.ors") (by kernel_rfl) hvar (by rw [this]; rfl) (by decide), q, hr⟩
theorem ands_of {W : World} {r : List (String × DataW Unit)} {ps : List MemPlace} (h : DataW.LaidVars Tryz.prog W (("tidegate/parser.ands", Rows.laid_tidegate_parser_ands) :: r) ps) : Ww W 5 Ub /\ ∃ q, DataW.LaidVars Tryz.prog W r q := by
 obtain ⟨g',t',cs,B1,p,q,hg',ht',hvar,hd,hr,_⟩:=h;obtain rfl := Option.some.inj ((show Tryz.prog.globalNamed "tidegate/parser.ands" = some 5 by kernel_rfl).symm.trans hg');obtain rfl:=Option.some.inj ((show (Tryz.prog.globals[5]?).map (·.type)=some 220 by kernel_rfl).symm.trans ht');have := Pk (ss := gopL Ub) (n := 1) (e := 219) (by kernel_rfl) (show Tryz.prog.underlying 219 = some (.struct #[⟨ "text", 9, 0, false, "", "tidegate/parser", 0⟩, ⟨ "op", 3, 1, false, "", "tidegate/parser", 16⟩]) by kernel_rfl) rfl rfl (by kernel_rfl) (by kernel_rfl) (by kernel_rfl) (by kernel_rfl) (by kernel_rfl) (by kernel_rfl) hd;exact ⟨aG (n := "tidegate/parser.ands") (by kernel_rfl) hvar (by rw [this]; rfl) (by decide), q, hr⟩
theorem sums_of {W : World} {r : List (String × DataW Unit)} {ps : List MemPlace} (h : DataW.LaidVars Tryz.prog W (("tidegate/parser.sums", Rows.laid_tidegate_parser_sums) :: r) ps) : Ww W 9 Uw /\ ∃ q, DataW.LaidVars Tryz.prog W r q := by
 obtain ⟨g',t',cs,B1,p,q,hg',ht',hvar,hd,hr,_⟩:=h;obtain rfl := Option.some.inj ((show Tryz.prog.globalNamed "tidegate/parser.sums" = some 9 by kernel_rfl).symm.trans hg');obtain rfl:=Option.some.inj ((show (Tryz.prog.globals[9]?).map (·.type)=some 274 by kernel_rfl).symm.trans ht');have := Pk (ss := gopL Uw) (n := 2) (e := 219) (by kernel_rfl) (show Tryz.prog.underlying 219 = some (.struct #[⟨ "text", 9, 0, false, "", "tidegate/parser", 0⟩, ⟨ "op", 3, 1, false, "", "tidegate/parser", 16⟩]) by kernel_rfl) rfl rfl (by kernel_rfl) (by kernel_rfl) (by kernel_rfl) (by kernel_rfl) (by kernel_rfl) (by kernel_rfl) hd;exact ⟨aG (n := "tidegate/parser.sums") (by kernel_rfl) hvar (by rw [this]; rfl) (by decide), q, hr⟩
theorem totals_of {W : World} {r : List (String × DataW Unit)} {ps : List MemPlace} (h : DataW.LaidVars Tryz.prog W (("tidegate/parser.totals", Rows.laid_tidegate_parser_totals) :: r) ps) : Ww W 11 Mo /\ ∃ q, DataW.LaidVars Tryz.prog W r q := by
 obtain ⟨g',t',cs,B1,p,q,hg',ht',hvar,hd,hr,_⟩:=h;obtain rfl := Option.some.inj ((show Tryz.prog.globalNamed "tidegate/parser.totals" = some 11 by kernel_rfl).symm.trans hg');obtain rfl:=Option.some.inj ((show (Tryz.prog.globals[11]?).map (·.type)=some 279 by kernel_rfl).symm.trans ht');have := Pk (ss := gopL Mo) (n := 4) (e := 219) (by kernel_rfl) (show Tryz.prog.underlying 219 = some (.struct #[⟨ "text", 9, 0, false, "", "tidegate/parser", 0⟩, ⟨ "op", 3, 1, false, "", "tidegate/parser", 16⟩]) by kernel_rfl) rfl rfl (by kernel_rfl) (by kernel_rfl) (by kernel_rfl) (by kernel_rfl) (by kernel_rfl) (by kernel_rfl) hd;exact ⟨aG (n := "tidegate/parser.totals") (by kernel_rfl) hvar (by rw [this]; rfl) (by decide), q, hr⟩
theorem shapes_of {W : World} {r : List (String × DataW Unit)} {ps : List MemPlace} (h : DataW.LaidVars Tryz.prog W (("tidegate/pattern.shapes", Rows.laid_tidegate_pattern_shapes) :: r) ps) : Ww W 3 aY /\ ∃ q, DataW.LaidVars Tryz.prog W r q := by
 obtain ⟨g',t',cs,B1,p,q,hg',ht',hvar,hd,hr,_⟩:=h;obtain rfl := Option.some.inj ((show Tryz.prog.globalNamed "tidegate/pattern.shapes" = some 3 by kernel_rfl).symm.trans hg');obtain rfl:=Option.some.inj ((show (Tryz.prog.globals[3]?).map (·.type)=some 230 by kernel_rfl).symm.trans ht');have := iI (ss := shpL) (n := 11) (e := 229) (by kernel_rfl) (show Tryz.prog.underlying 229 = some (.struct #[⟨ "least", 3, 0, false, "", "tidegate/pattern", 0⟩, ⟨ "most", 3, 1, false, "", "tidegate/pattern", 8⟩, ⟨ "typed", 4, 2, false, "", "tidegate/pattern", 16⟩, ⟨ "cond", 4, 3, false, "", "tidegate/pattern", 17⟩, ⟨ "scope", 4, 4, false, "", "tidegate/pattern", 18⟩, ⟨ "span", 4, 5, false, "", "tidegate/pattern", 19⟩]) by kernel_rfl) ⟨rfl, rfl, rfl, rfl, rfl, rfl⟩ (by kernel_rfl) (by kernel_rfl) (by kernel_rfl) (by kernel_rfl) (by kernel_rfl) (by kernel_rfl) ⟨by kernel_rfl, by kernel_rfl, by kernel_rfl, by kernel_rfl, by kernel_rfl, by kernel_rfl⟩ (by kernel_rfl) (by kernel_rfl) hd;exact ⟨aG (n := "tidegate/pattern.shapes") (by kernel_rfl) hvar (by rw [this]; rfl) (by decide), q, hr⟩
def fL:List Int:=[1,10,100,1000,10000,100000,1000000,10000000,100000000,1000000000,10000000000,100000000000,1000000000000,10000000000000,100000000000000,1000000000000000,10000000000000000,100000000000000000,1000000000000000000,10000000000000000000]
theorem skip_of {W:World}{n:String}{d:DataW Unit}{r:List (String×DataW Unit)}{ps:List MemPlace}(h:DataW.LaidVars Tryz.prog W ((n,d)::r) ps):∃q,DataW.LaidVars Tryz.prog W r q:=by
 obtain ⟨g',t',cs,B1,p,q,hg',ht',hvar,hd,hr,_⟩:=h;exact ⟨q,hr⟩
theorem pow_of {W : World} {r : List (String × DataW Unit)} {ps : List MemPlace} (h : DataW.LaidVars Tryz.prog W (("internal/strconv.uint64pow10", Rows.laid_internal_strconv_uint64pow10) :: r) ps) : Lib.TabIs Tryz.prog W "internal/strconv.uint64pow10" .u64 fL /\ ∃ q, DataW.LaidVars Tryz.prog W r q := by
 obtain ⟨g',t',cs,B1,p,q,hg',ht',hvar,hd,hr,_⟩:=h;obtain rfl := Option.some.inj ((show Tryz.prog.globalNamed "internal/strconv.uint64pow10" = some 10 by kernel_rfl).symm.trans hg');obtain rfl:=Option.some.inj ((show (Tryz.prog.globals[10]?).map (·.type)=some 276 by kernel_rfl).symm.trans ht');have:=Lib.cells_of_tab (k:=.u64) (zs:=fL) (n:=20) (e:=252) (by kernel_rfl) (by kernel_rfl) (by kernel_rfl) (by kernel_rfl) hd;refine ⟨?_,q,hr⟩;unfold Lib.TabIs;rw [hvar,<-this]
theorem pow_heap {W : World} (h : Lib.TabIs Tryz.prog W "internal/strconv.uint64pow10" .u64 fL) : ∃ T fr, W.heap[10]? = some (.cells (fL.map fun z => Value.int .u64 z).toArray T fr) := by
 have e : Tryz.prog.globalNamed "internal/strconv.uint64pow10" = some 10 := by kernel_rfl
 unfold Lib.TabIs World.var? at h;rw [e] at h
 have hk:∀(X:Array Value) (o:Option Obj),(match o with | some (Obj.cells cs _ _)=>some cs | _=>none)=some X->∃T fr,o=some (Obj.cells X T fr):=by
  intro X o h
  match o,h with
  | some (Obj.cells cs T fr),h=>exact ⟨T,fr,by rw [Option.some.inj h]⟩
 exact hk _ _ h
theorem globOK {W:World}(h:laidMet Tryz.prog Rows.topProgramsReturnRow.laid W)(hS:W.ShapedOpen Tryz.prog):GlobOK g0 W:=by
  obtain ⟨ps,h,_⟩:=h;obtain ⟨ps,h⟩:=skip_of h;obtain ⟨ps,h⟩:=skip_of h;obtain ⟨ht,ps,h⟩:=pow_of h;obtain ⟨hsigns,ps,h⟩:=signs_of h;obtain ⟨hkinds,ps,h⟩:=kinds_of h;obtain ⟨hors,ps,h⟩:=ors_of h;obtain ⟨hands,ps,h⟩:=ands_of h;obtain ⟨hsums,ps,h⟩:=sums_of h;obtain ⟨htotals,ps,h⟩:=totals_of h;obtain ⟨hshapes,ps,h⟩:=shapes_of h;refine ⟨fun p hp=>?_,fun p hp=>?_⟩
  . simp only [globals,Cu,Na,or_false] at hp
    rcases hp with rfl | rfl | rfl | rfl | rfl | rfl | rfl | rfl | rfl
    . exact ⟨_,rfl,hsigns⟩
    . exact ⟨_,rfl,hors⟩
    . exact ⟨_,rfl,hands⟩
    . exact ⟨_,rfl,hsums⟩
    . exact ⟨_,rfl,hkinds⟩
    . exact ⟨_,rfl,htotals⟩
    . skip
      refine ⟨aS,rfl,?_⟩;have hcell : ∀ j, W.cell? ⟨10, j, none⟩ = (fL.map fun z => Value.int .u64 z).toArray[j]? := fun j => World.var?_cell (show Tryz.prog.globalNamed "internal/strconv.uint64pow10" = some 10 by kernel_rfl) ht j
      have hs:aS=fL.map fun z=>AV.int .u64 z:=rfl
      rw [hs];refine .ptr 10 0 _ (fun j=>Value.int .u64 (fL.getD j 0)) (fun j x hj=>?_) (fun j x hj=>?_)
      . rw [List.getElem?_map] at hj
        cases hq:fL[j]? with
        | none=>rw [hq] at hj;cases hj
        | some y=>
          refine ⟨trivial,?_⟩;rw [Eb,hcell j];simp [hq,Dm]
      . rw [List.getElem?_map] at hj
        cases hq:fL[j]? with
        | none=>rw [hq] at hj;cases hj
        | some y=>
          rw [hq] at hj;simp only [Ka,Option.some.injEq] at hj;subst hj;have e:fL.getD j 0=y:=by rw [Dm,hq];rfl
          rw [e];exact .int _ _
    . exact ⟨_,rfl,hshapes⟩
    . obtain ⟨m,hm⟩:=Tryz.laysM144.s1_3 W hS
      refine ⟨[.int .i64 m],⟨m,rfl⟩,.ptr 6 0 _ (fun _=>.int .i64 m) (fun j x hj=>?_) (fun j x hj=>?_)⟩
      . have hj0:j=0:=by have:=(List.getElem?_eq_some_iff.1 hj).1;simp at this;omega
        subst hj0;exact ⟨trivial,hm⟩
      . have hj0:j=0:=by have:=(List.getElem?_eq_some_iff.1 hj).1;simp at this;omega
        subst hj0;simp only [List.getElem?_cons_zero,Option.some.injEq] at hj;subst hj;exact .int _ _
  . obtain rfl:=D5.1 hp
    exact ⟨rfl,pow_heap ht⟩
def setTab (k:IntKind)(l:List Int):Obj->Obj
 | .cells _ t frozen=>.cells (l.map fun z=>Value.int k z).toArray t frozen
 | o=>o
def ofTab (d:DataW Unit):List Int:=match d with
 | .agg l=>l.map fun | .lit (.int _ n)=>n | _=>0
 | _=>[]
def Sf (l:List AV):Obj->Obj
 | .cells _ t frozen=>.cells (l.map valOf).toArray t frozen
 | o=>o
noncomputable def laidWorld (os:Os):World:=
 { World.holding Tryz.prog os ⟨#[],#[],[]⟩ with heap:=(((((((((((World.holding Tryz.prog os ⟨#[],#[],[]⟩).heap.modify 4 (Sf Nz)).modify 1 (Sf Nq)).modify 2 (Sf Xp)).modify 5 (Sf Ub)).modify 9 (Sf Uw)).modify 11 (Sf Mo)).modify 3 (Sf aY)).modify 10 (setTab .u64 fL)).modify 12 (setTab .u8 (ofTab Rows.laid_math_bits_deBruijn32tab))).modify 13 (setTab .u8 (ofTab Rows.laid_math_bits_deBruijn64tab))) }
end Go.Proofs.YtibcelnfkhdjaaaGreatDoor
