/-
  Several texts in one: U5, U22, U23, U32, U33. No condition.
-/
import Derived.Test.YtkdhionilabokaaGreatDoorK04
import Derived.Test.YtkdhionilabokaaGreatDoorK05
import Derived.KernelRfl
import Derived.Test.YtkdhionilabokaaGreatDoorK09
import Derived.Test.YtkdhionilabokaaGreatDoorK07
set_option linter.unusedVariables false
set_option linter.unusedSimpArgs false
set_option maxHeartbeats 6400000
set_option maxRecDepth 20000
namespace Go.Proofs.YtkdhionilabokaaGreatDoor
open Go Go.Aw
theorem tT (d:Dv):d.kids.length<=M4 d:=by
 rw [Od]
 have:∀l:List Dv,l.length<=(l.map M4).sum:=by
  intro l
  induction l with
  | nil=>exact Bi _
  | cons a r ih=>rw [Eb,Ba,Dq];have:=Od a;omega
 have:=this d.kids;omega
theorem eI (x y:Rz):Al Tryz.prog 53 [.agg [.int .i64 x.s,.int .i64 x.q,.int .i64 0,.int .i64 x.t,.sl 3 []],.agg [.int .i64 y.s,.int .i64 y.q,.int .i64 0,.int .i64 y.t,.sl 3 []]] (.int .i64 (Ic x y)):=by
 have h:=W0 ⟨x.s,x.q,0,x.t,[]⟩ ⟨y.s,y.q,0,y.t,[]⟩;rw [gS] at h;exact h
theorem yC (d:Dv)(hd:M4 d<=1048576):Al Tryz.prog 21 [.agg (cD d)] (.int .i64 (M4 d:Nat)):=by
 induction d using Dv.ind
 rename_i d ih;refine Al.body (n:=19) Ai Tryz.func21 rfl rfl rfl fun H=>?_
 refine AW.seq (AW.region (AOL.Aag (Bt (v:=.agg _) (cs:=[.int .i64 _,.int .i64 _,.int .i64 _,.int .i64 _,_]) rfl rfl rfl) rfl (AOL.Aag (Ag (v:=.int .i64 _) rfl) rfl (AOL.nil (Aa (AW.seq (AW.region (AOL.Aag (Ag (v:=.int .i64 _) rfl) rfl (AOL.nil (Aa (AW.seq (AW.seq (AW.region (AOL.Aag (Ad (cs':=[_]) Ai rfl rfl rfl rfl rfl rfl) rfl (AOL.Aag (Af (c:=.sl _ _) Ai rfl rfl rfl) rfl ?_)))))))))))))));refine AOL.Aag (Av (n:=d.kids.length) Ai rfl rfl rfl (by simp)) rfl ?_;refine AOL.Aag (Ae (v:=.int .i64 _) rfl) rfl (AOL.nil (Aa (AW.block (AW.sllen 7 rfl fun hlen=>?_))));simp only [B1,maxLen] at hlen;refine AW.loopS (fun (q:Nat×Nat)=>(⟨[(3,.int .i64 (q.2:Int)),(7,.sl 5 (d.kids.map C6)),(8,.int .i64 d.kids.length),(9,.int .i64 (q.1:Int))],H,19⟩:St)) (fun q=>q.1<=d.kids.length/\q.2=1+((d.kids.take q.1).map M4).sum) (fun q=>d.kids.length-q.1) ((0,1)) ?_ (GS.weaken ⟨rfl,rfl,rfl,rfl,trivial⟩ (.refl _)) ?_
 . exact ⟨Bn _,rfl⟩
 rintro q hR;refine AW.seq (AW.region (AOL.Aag (B9 rfl rfl) rfl (AOL.nil (Aa (AW.seq (AW.cond (b:=_) rfl (fun hc1=>?_) (fun hc1=>?_)))))))
 .
  obtain ⟨a,ha⟩:=Dd hc1;have hlt:=Bj ha;have hm:=A0 ha;have hps:=dB (d:=d) ha;have hq1:=hR.2;refine AW.skip (Aa (AW.seq (AW.block (AW.seq (AW.region ?_)))));refine AOL.Aag (Am (c:=[.int .i64 _,.int .i64 _,.int .i64 _,.int .i64 _,_]) Ai rfl rfl rfl rfl rfl rfl (by omega) (Ko ha)) rfl ?_;refine AOL.Aag (Ah (l:=[.int .i64 _,.int .i64 _,.int .i64 _,.int .i64 _,_]) Ai rfl rfl rfl rfl rfl) rfl ?_;refine AOL.e (Bh (l:=[.int .i64 0,.int .i64 0,.int .i64 0,.int .i64 0,.sl 5 []]) (by kernel_rfl)) rfl ?_;rintro _ _ ⟨b5,rfl,rfl⟩;refine AOL.e (Ao (k:=0) (v:=.agg _) (cs':=[.int .i64 _,.int .i64 _,.int .i64 _,.int .i64 _,_]) (H2:=_::_) Ai rfl rfl rfl rfl (rfl) rfl rfl rfl rfl) rfl ?_;rintro _ _ ⟨rfl,rfl⟩;refine AOL.ghost (GS.Aaj (t:=5) 0 rfl rfl) ?_;refine AOL.nil (Aa (AW.region (AOL.Aag (Ae (v:=.int .i64 _) rfl) rfl (AOL.Aag (Ah (l:=[.int .i64 _,.int .i64 _,.int .i64 _,.int .i64 _,_]) Ai rfl rfl rfl rfl rfl) rfl ?_))));refine AOL.Aag (Ak (by kernel_rfl) rfl rfl (ih a hm (by omega))) rfl ?_;refine AOL.Aag (Cc rfl rfl rfl (by constructor <;> omega)) rfl ?_;refine AOL.Aag (Ag (v:=.int .i64 _) rfl) rfl (AOL.nil (C9 (Aa (AW.region ?_))));refine AOL.Aag (Cc rfl rfl rfl (by constructor <;> omega)) rfl ?_;refine AOL.Aag (Ae (v:=.int .i64 _) rfl) rfl (AOL.nil (Aa ?_));refine ⟨(q.1+1,q.2+M4 a),?_,?_,GS.weaken ⟨rfl,rfl,rfl,rfl,trivial⟩ (.refl _)⟩
  . exact ⟨hlt,by simp only;rw [Cr ha,hR.2];simp;omega⟩
  simp only;omega
 have hte:=D3 hc1;have h1:=hR.2;rw [hte] at h1;refine AW.exit ?_;refine A1 (A1 (Cd (Aa ?_)));refine AW.seq (AW.region (AOL.Aag (Ae (v:=.int .i64 _) rfl) rfl (AOL.Aag (Ag (v:=.int .i64 _) rfl) rfl (AOL.nil (Aa (AW.ret ?_))))));refine ⟨.inr rfl,[.int .i64 _],.cons (.tmp _ _ rfl) <| .nil,.refl _,?_⟩;exact Eq.trans rfl (congrArg (fun q:Nat=>AV.int .i64 (q:Int)) (show q.2=M4 d by rw [h1,Od];omega))
theorem yB (F:Nat)(hfn:Pe Tryz.prog F=true)(f:Dv->Dv->Int)(l m:List Dv)(hf:∀x∈l,∀y,Al Tryz.prog F [.agg (cD x),.agg (cD y)] (.int .i64 (f x y))):Al Tryz.prog 60 [.sl 5 (l.map C6),.sl 5 (m.map C6),.fn (.func F) [] []] (.int .i64 (Em f l m)):=by
 refine Al.body (n:=39) Ai Tryz.func60 rfl rfl rfl fun H=>?_
 refine AW.seq (AW.region (AOL.Aag (Ag (v:=.int .i64 _) rfl) rfl (AOL.nil (Aa (AW.seq (AW.seq (AW.region (AOL.Aag (Ae (v:=.sl _ _) rfl) rfl ?_))))))));refine AOL.Aag (Av (n:=l.length) Ai rfl rfl rfl (by simp)) rfl ?_;refine AOL.Aag (Ae (v:=.int .i64 _) rfl) rfl (AOL.nil (Aa (AW.block (AW.sllen 11 rfl fun hlen=>?_))));simp only [B1,maxLen] at hlen;refine AW.loopS (fun (k:Nat)=>(⟨[(0,.sl 5 (l.map C6)),(1,.sl 5 (m.map C6)),(2,.fn (.func F) [] []),(11,.sl 5 (l.map C6)),(12,.int .i64 l.length),(13,.int .i64 (k:Int))],H,39⟩:St)) (fun k=>k<=l.length/\k<=m.length/\Em f l m=Em f (l.drop k) (m.drop k)) (fun k=>l.length-k) (0) ?_ (GS.weaken ⟨rfl,rfl,rfl,rfl,rfl,rfl,trivial⟩ (.refl _)) ?_
 . exact ⟨Bn _,Bn _,rfl⟩
 rintro k hR;refine AW.seq (AW.region (AOL.Aag (B9 rfl rfl) rfl (AOL.nil (Aa (AW.seq (AW.cond (b:=_) rfl (fun hc1=>?_) (fun hc1=>?_)))))))
 .
  obtain ⟨a,ha⟩:=Dd hc1;have hlt:=Bj ha;have hm:=A0 ha;refine AW.skip (Aa (AW.seq (AW.block (AW.seq (AW.region (AOL.Aag (Ae (v:=.int .i64 _) rfl) rfl ?_))))));refine AOL.Aag (Am (c:=[.int .i64 _,.int .i64 _,.int .i64 _,.int .i64 _,_]) Ai rfl rfl rfl rfl rfl rfl (by omega) (Ko ha)) rfl ?_;refine AOL.Aag (Ah (l:=[.int .i64 _,.int .i64 _,.int .i64 _,.int .i64 _,_]) Ai rfl rfl rfl rfl rfl) rfl ?_;refine AOL.e (Bh (l:=[.int .i64 0,.int .i64 0,.int .i64 0,.int .i64 0,.sl 5 []]) (by kernel_rfl)) rfl ?_;rintro _ _ ⟨b8,rfl,rfl⟩;refine AOL.Aag (Ag (v:=.int .i64 _) rfl) rfl (AOL.e (Ao (k:=0) (v:=.agg _) (cs':=[.int .i64 _,.int .i64 _,.int .i64 _,.int .i64 _,_]) (H2:=_::_) Ai rfl rfl rfl rfl (rfl) rfl rfl rfl rfl) rfl ?_);rintro _ _ ⟨rfl,rfl⟩;refine AOL.ghost (GS.Aaj (t:=8) 0 rfl rfl) ?_;refine AOL.nil (Aa (AW.seq (AW.seq (AW.region (AOL.Aag (Ae (v:=.int .i64 _) rfl) rfl (AOL.Aag (Ae (v:=.sl _ _) rfl) rfl ?_))))));refine AOL.Aag (Av (n:=m.length) Ai rfl rfl rfl (by simp)) rfl ?_;refine AOL.Aag (I7 rfl rfl) rfl (AOL.nil (Aa (AW.cond (b:=_) rfl (fun hc2=>?_) (fun hc2=>?_))))
  .
   have hmk:m.length<=k:=by have:=B2 hc2;omega
   refine AW.seq (AW.region (AOL.Aag (Ag (v:=.int .i64 _) rfl) rfl (AOL.nil (Aa (AW.ret (Ap (Cn (Ap (Ap (Cn (Ap ?_)))))))))));refine ⟨.inr rfl,[.int .i64 _],.cons (.tmp _ _ rfl) <| .nil,.refl _,?_⟩;exact Eq.trans rfl (congrArg (fun q:Int=>AV.int .i64 q) (hR.2.2.trans (aE ha hmk))).symm
  refine (Fa (l:=m) (k:=k) (by have:=C7 hc2;omega)).elim fun y hy=>?_
  have hlty:=Bj hy;refine AW.skip (Aa (AW.seq (AW.region (AOL.Aag (Ae (v:=.sl _ _) rfl) rfl (AOL.Aag (Ae (v:=.int .i64 _) rfl) rfl ?_)))));refine AOL.Aag (Am (c:=[.int .i64 _,.int .i64 _,.int .i64 _,.int .i64 _,_]) Ai rfl rfl rfl rfl rfl rfl (by omega) (Ko hy)) rfl ?_;refine AOL.Aag (Ah (l:=[.int .i64 _,.int .i64 _,.int .i64 _,.int .i64 _,_]) Ai rfl rfl rfl rfl rfl) rfl ?_;refine AOL.e (Bh (l:=[.int .i64 0,.int .i64 0,.int .i64 0,.int .i64 0,.sl 5 []]) (by kernel_rfl)) rfl ?_;rintro _ _ ⟨b9,rfl,rfl⟩;refine AOL.e (Ao (k:=0) (v:=.agg _) (cs':=[.int .i64 _,.int .i64 _,.int .i64 _,.int .i64 _,_]) (H2:=_::_) Ai rfl rfl rfl rfl (rfl) rfl rfl rfl rfl) rfl ?_;rintro _ _ ⟨rfl,rfl⟩;refine AOL.ghost (GS.Aaj (t:=9) 0 rfl rfl) ?_;refine AOL.nil (Aa (AW.seq (AW.region (AOL.Aag (Ae (v:=.fn _ _ _) rfl) rfl (AOL.Aag (Ah (l:=[.int .i64 _,.int .i64 _,.int .i64 _,.int .i64 _,_]) Ai rfl rfl rfl rfl rfl) rfl (AOL.Aag (Ah (l:=[.int .i64 _,.int .i64 _,.int .i64 _,.int .i64 _,_]) Ai rfl rfl rfl rfl rfl) rfl (AOL.Aag (Fy hfn rfl rfl rfl (hf a hm y)) rfl (AOL.Aag (Ag (v:=.int .i64 _) rfl) rfl (AOL.nil (Aa (AW.seq (AW.region (AOL.Aag (Ae (v:=.int .i64 _) rfl) rfl (AOL.Aag (Fk rfl rfl) rfl (AOL.nil (Aa (AW.cond (b:=_) rfl (fun hc3=>AW.seq (AW.region (AOL.Aag (Ae (v:=.int .i64 _) rfl) rfl (AOL.Aag (Ag (v:=.int .i64 _) rfl) rfl (AOL.nil (Aa (AW.ret (Cn (Ap (Ap (Cn (Ap ?_)))))))))))) (fun hc3=>AW.skip (C9 (Aa (AW.region ?_)))))))))))))))))))))
  .
   refine ⟨.inr rfl,[.int .i64 _],.cons (.tmp _ _ rfl) <| .nil,.refl _,?_⟩;exact Eq.trans rfl (congrArg (fun q:Int=>AV.int .i64 q) (hR.2.2.trans (aD ha hy hc3))).symm
  refine AOL.Aag (Cc rfl rfl rfl (by constructor <;> omega)) rfl ?_;refine AOL.Aag (Ae (v:=.int .i64 _) rfl) rfl (AOL.nil (Aa ?_));refine ⟨k+1,?_,?_,GS.weaken ⟨rfl,rfl,rfl,rfl,rfl,rfl,trivial⟩ (.refl _)⟩
  . exact ⟨hlt,hlty,hR.2.2.trans (gH ha hy hc3)⟩
  omega
 have hkl:k=l.length:=by have:=C7 hc1;omega
 refine AW.exit ?_;refine A1 (A1 (Cd (Aa (AW.seq ?_))));refine AW.seq (AW.region (AOL.Aag (Ae (v:=.sl _ _) rfl) rfl ?_));refine AOL.Aag (Av (n:=l.length) Ai rfl rfl rfl (by simp)) rfl ?_;refine AOL.Aag (Ae (v:=.sl _ _) rfl) rfl ?_;refine AOL.Aag (Av (n:=m.length) Ai rfl rfl rfl (by simp)) rfl ?_;refine AOL.Aag (B9 rfl rfl) rfl (AOL.nil (Aa (AW.cond (b:=_) rfl (fun hc4=>AW.seq (AW.region (AOL.Aag (Ag (v:=.int .i64 _) rfl) rfl (AOL.nil (Aa (AW.ret (Ap ?_))))))) (fun hc4=>AW.skip (Aa (AW.seq (AW.region (AOL.Aag (Ag (v:=.int .i64 _) rfl) rfl (AOL.nil (Aa (AW.ret ?_)))))))))))
 .
  refine ⟨.inr rfl,[.int .i64 _],.cons (.tmp _ _ rfl) <| .nil,.refl _,?_⟩;exact Eq.trans rfl (congrArg (fun q:Int=>AV.int .i64 q) ((hR.2.2.trans ((Q0 (by omega) hR.2.1).trans (if_pos (G7 (by have:=B2 hc4;omega)))):Em f l m = -1))).symm
 refine ⟨.inr rfl,[.int .i64 _],.cons (.tmp _ _ rfl) <| .nil,.refl _,?_⟩;exact Eq.trans rfl (congrArg (fun q:Int=>AV.int .i64 q) ((hR.2.2.trans ((Q0 (by omega) hR.2.1).trans (if_neg (by have:=C7 hc4;simp;omega))):Em f l m=0))).symm
theorem jT (x y:Dv):Al Tryz.prog 23 [.agg (cD x),.agg (cD y)] (.int .i64 (Kg x y)):=by
 revert y
 induction x using Dv.ind
 rename_i x ih;intro y;refine Al.body (n:=48) Ai Tryz.func23 rfl rfl rfl fun H=>?_
 refine AW.seq (AW.region (AOL.Aag (Bt (v:=.agg _) (cs:=[.int .i64 _,.int .i64 _,.int .i64 _,.int .i64 _,_]) rfl rfl rfl) rfl (AOL.Aag (Bt (v:=.agg _) (cs:=[.int .i64 _,.int .i64 _,.int .i64 _,.int .i64 _,_]) rfl rfl rfl) rfl (AOL.Aag (Ag (v:=.int .i64 _) rfl) rfl (AOL.nil (Aa (AW.seq (AW.region (AOL.Aag (Ad (cs':=[.int .i64 _,.int .i64 _,.int .i64 _,.int .i64 _,_]) Ai rfl rfl rfl rfl rfl rfl) rfl (AOL.Aag (Ad (cs':=[.int .i64 _,.int .i64 _,.int .i64 _,.int .i64 _,_]) Ai rfl rfl rfl rfl rfl rfl) rfl (AOL.Aag (Af (c:=.int .i64 _) Ai rfl rfl rfl) rfl (AOL.Aag (Ad (cs':=[.int .i64 _,.int .i64 _,.int .i64 _,.int .i64 _,_]) Ai rfl rfl rfl rfl rfl rfl) rfl (AOL.Aag (Ad (cs':=[.int .i64 _,.int .i64 _,.int .i64 _,_]) Ai rfl rfl rfl rfl rfl rfl) rfl (AOL.Aag (Af (c:=.int .i64 _) Ai rfl rfl rfl) rfl (AOL.Aag (Ad (cs':=[.int .i64 _,.int .i64 _,.int .i64 _,.int .i64 _,_]) Ai rfl rfl rfl rfl rfl rfl) rfl (AOL.Aag (Ad (cs':=[.int .i64 _,.int .i64 _,_]) Ai rfl rfl rfl rfl rfl rfl) rfl (AOL.Aag (Af (c:=.int .i64 _) Ai rfl rfl rfl) rfl (AOL.Aag (C3 (l:=[.int .i64 _,.int .i64 _,.int .i64 _,.int .i64 _,_]) Ai rfl rfl rfl) rfl (AOL.Aag (Ad (cs':=[.int .i64 _,.int .i64 _,.int .i64 _,.int .i64 _,_]) Ai rfl rfl rfl rfl rfl rfl) rfl (AOL.Aag (Ad (cs':=[.int .i64 _,.int .i64 _,.int .i64 _,.int .i64 _,_]) Ai rfl rfl rfl rfl rfl rfl) rfl (AOL.Aag (Af (c:=.int .i64 _) Ai rfl rfl rfl) rfl (AOL.Aag (Ad (cs':=[.int .i64 _,.int .i64 _,.int .i64 _,.int .i64 _,_]) Ai rfl rfl rfl rfl rfl rfl) rfl (AOL.Aag (Ad (cs':=[.int .i64 _,.int .i64 _,.int .i64 _,_]) Ai rfl rfl rfl rfl rfl rfl) rfl (AOL.Aag (Af (c:=.int .i64 _) Ai rfl rfl rfl) rfl (AOL.Aag (Ad (cs':=[.int .i64 _,.int .i64 _,.int .i64 _,.int .i64 _,_]) Ai rfl rfl rfl rfl rfl rfl) rfl (AOL.Aag (Ad (cs':=[.int .i64 _,.int .i64 _,_]) Ai rfl rfl rfl rfl rfl rfl) rfl (AOL.Aag (Af (c:=.int .i64 _) Ai rfl rfl rfl) rfl (AOL.Aag (C3 (l:=[.int .i64 _,.int .i64 _,.int .i64 _,.int .i64 _,_]) Ai rfl rfl rfl) rfl ?_))))))))))))))))))))))))))));refine AOL.Aag (Ak (by kernel_rfl) rfl rfl (eI x.ref y.ref)) rfl ?_;refine AOL.Aag (Ag (v:=.int .i64 _) rfl) rfl (AOL.nil (Aa (AW.seq (AW.block (AW.seq (AW.region (AOL.Aag (Ae (v:=.int .i64 _) rfl) rfl (AOL.Aag (Fk rfl rfl) rfl (AOL.Aag (Ag (v:=.bool _) rfl) rfl (AOL.nil (Aa (AW.cond (b:=_) rfl (fun hc1=>AW.seq (AW.region (AOL.Aag (Ae (v:=.int .i64 _) rfl) rfl (AOL.Aag (Ag (v:=.int .i64 _) rfl) rfl (AOL.nil (Aa (AW.ret (Cn (Ap ?_))))))))) (fun hc1=>?_)))))))))))))
 .
  refine ⟨.inr rfl,[.int .i64 _],.cons (.tmp _ _ rfl) <| .nil,.refl _,?_⟩;exact Eq.trans rfl (congrArg (fun q:Int=>AV.int .i64 q) ((Ms x y).trans (if_pos hc1))).symm
 refine AW.seq (AW.region (AOL.Aag (Ad (cs':=[.int .i64 _,_]) Ai rfl rfl rfl rfl rfl rfl) rfl (AOL.Aag (Af (c:=.int .i64 _) Ai rfl rfl rfl) rfl (AOL.Aag (Ad (cs':=[.int .i64 _,_]) Ai rfl rfl rfl rfl rfl rfl) rfl (AOL.Aag (Af (c:=.int .i64 _) Ai rfl rfl rfl) rfl (AOL.Aag (B9 rfl rfl) rfl (AOL.Aag (Ag (v:=.bool _) rfl) rfl (AOL.nil (Aa (AW.cond (b:=_) rfl (fun hc2=>AW.seq (AW.region (AOL.Aag (Ag (v:=.int .i64 _) rfl) rfl (AOL.nil (Aa (AW.ret (Cn (Ap ?_)))))))) (fun hc2=>AW.seq (AW.region (AOL.Aag (Ad (cs':=[.int .i64 _,_]) Ai rfl rfl rfl rfl rfl rfl) rfl (AOL.Aag (Af (c:=.int .i64 _) Ai rfl rfl rfl) rfl (AOL.Aag (Ad (cs':=[.int .i64 _,_]) Ai rfl rfl rfl rfl rfl rfl) rfl (AOL.Aag (Af (c:=.int .i64 _) Ai rfl rfl rfl) rfl (AOL.Aag (Gy rfl rfl) rfl (AOL.Aag (Ag (v:=.bool _) rfl) rfl (AOL.nil (Aa (AW.cond (b:=_) rfl (fun hc3=>AW.seq (AW.region (AOL.Aag (Ag (v:=.int .i64 _) rfl) rfl (AOL.nil (Aa (AW.ret (Cn (Ap ?_)))))))) (fun hc3=>AW.skip (C9 (Aa (AW.seq (AW.region (AOL.Aag (Ad (cs':=[_]) Ai rfl rfl rfl rfl rfl rfl) rfl (AOL.Aag (Af (c:=.sl _ _) Ai rfl rfl rfl) rfl (AOL.Aag (Ad (cs':=[_]) Ai rfl rfl rfl rfl rfl rfl) rfl (AOL.Aag (Af (c:=.sl _ _) Ai rfl rfl rfl) rfl ?_))))))))))))))))))))))))))))))
 .
  refine ⟨.inr rfl,[.int .i64 _],.cons (.tmp _ _ rfl) <| .nil,.refl _,?_⟩;exact Eq.trans rfl (congrArg (fun q:Int=>AV.int .i64 q) ((Ms x y).trans ((Ep hc1).trans (if_pos hc2)))).symm
 .
  refine ⟨.inr rfl,[.int .i64 _],.cons (.tmp _ _ rfl) <| .nil,.refl _,?_⟩;exact Eq.trans rfl (congrArg (fun q:Int=>AV.int .i64 q) ((Ms x y).trans ((Ep hc1).trans ((Ep hc2).trans (if_pos hc3))))).symm
 refine AOL.Aag (Ak (by kernel_rfl) rfl rfl (yB 23 (by kernel_rfl) Kg x.kids y.kids (fun a h=>ih a h))) rfl ?_;refine AOL.Aag (Ag (v:=.int .i64 _) rfl) rfl (AOL.nil (Aa (AW.ret ?_)));refine ⟨.inr rfl,[.int .i64 _],.cons (.tmp _ _ rfl) <| .nil,.refl _,?_⟩;exact Eq.trans rfl (congrArg (fun q:Int=>AV.int .i64 q) ((Ms x y).trans ((Ep hc1).trans ((Ep hc2).trans (Ep hc3))))).symm
theorem uR (d:Dv)(hd:M4 d<=1048576):Al Tryz.prog 24 [.agg (cD d),.agg (cD d)] (.int .i64 0):=by
 induction d using Dv.ind
 rename_i d ih;have hkl:=tT d;refine Al.body (n:=68) Ai Tryz.func24 rfl rfl rfl fun H=>?_
 refine AW.seq (AW.region (AOL.Aag (Bt (v:=.agg _) (cs:=[.int .i64 _,.int .i64 _,.int .i64 _,.int .i64 _,_]) rfl rfl rfl) rfl (AOL.Aag (Bt (v:=.agg _) (cs:=[.int .i64 _,.int .i64 _,.int .i64 _,.int .i64 _,_]) rfl rfl rfl) rfl (AOL.Aag (Ag (v:=.int .i64 _) rfl) rfl (AOL.nil (Aa (AW.seq (AW.seq (AW.region (AOL.Aag (Ad (cs':=[.int .i64 _,.int .i64 _,.int .i64 _,.int .i64 _,_]) Ai rfl rfl rfl rfl rfl rfl) rfl (AOL.Aag (Ah (l:=[.int .i64 _,.int .i64 _,.int .i64 _]) Ai rfl rfl rfl rfl rfl) rfl (AOL.Aag (Ad (cs':=[.int .i64 _,.int .i64 _,.int .i64 _,.int .i64 _,_]) Ai rfl rfl rfl rfl rfl rfl) rfl (AOL.Aag (Ah (l:=[.int .i64 _,.int .i64 _,.int .i64 _]) Ai rfl rfl rfl rfl rfl) rfl ?_)))))))))))));refine AOL.Aag (Ak (by kernel_rfl) rfl rfl (r4_cmp d.ref d.ref)) rfl ?_;refine AOL.Aag (Ag (v:=.int .i64 _) rfl) rfl (AOL.nil (Aa (AW.seq (AW.region (AOL.Aag (Ae (v:=.int .i64 _) rfl) rfl (AOL.Aag (Fk rfl rfl) rfl (AOL.nil (Aa (AW.cond (b:=_) rfl (fun hc1=>?_) (fun hc1=>AW.skip (Aa (AW.seq (AW.seq (AW.region (AOL.Aag (Ad (cs':=[.int .i64 _,_]) Ai rfl rfl rfl rfl rfl rfl) rfl (AOL.Aag (Af (c:=.int .i64 _) Ai rfl rfl rfl) rfl (AOL.Aag (Ad (cs':=[.int .i64 _,_]) Ai rfl rfl rfl rfl rfl rfl) rfl (AOL.Aag (Af (c:=.int .i64 _) Ai rfl rfl rfl) rfl (AOL.Aag (Fk rfl rfl) rfl (AOL.nil (Aa (AW.cond (b:=_) rfl (fun hc2=>?_) (fun hc2=>AW.skip (Aa (AW.seq (AW.seq (AW.region (AOL.Aag (Ag (v:=.int .i64 _) rfl) rfl (AOL.nil (Aa (AW.block ?_)))))))))))))))))))))))))))))))
 . rw [Sf] at hc1;exact absurd hc1 (by decide)
 . exact absurd hc2 (by simp)
 refine AW.loopS (fun (k:Nat)=>(⟨[(2,.ptr (cD d)),(3,.ptr (cD d)),(6,.int .i64 (k:Int))],H,68⟩:St)) (fun k=>k<=d.kids.length) (fun k=>d.kids.length-k) (0) ?_ (GS.weaken ⟨rfl,rfl,rfl,trivial⟩ (.refl _)) ?_
 . exact Bn _
 rintro k hk;refine AW.seq (AW.seq (AW.region (AOL.Aag (Ae (v:=.int .i64 _) rfl) rfl (AOL.Aag (Ad (cs':=[_]) Ai rfl rfl rfl rfl rfl rfl) rfl (AOL.Aag (Af (c:=.sl _ _) Ai rfl rfl rfl) rfl ?_)))));refine AOL.Aag (Av (n:=d.kids.length) Ai rfl rfl rfl (by simp)) rfl ?_;refine AOL.Aag (B9 rfl rfl) rfl (AOL.Aag (Ae (v:=.bool _) rfl) rfl (AOL.Aah (y:=.int .i64 _) _ [] rfl (Un.all trivial) (fun hG=>Ae (v:=.int .i64 _) rfl) rfl ?_));refine AOL.Aah (y:=.ptr _) _ [] rfl (Un.all trivial) (fun hG=>Ad (cs':=[_]) Ai rfl rfl rfl rfl rfl rfl) rfl ?_;refine AOL.Aah (y:=.sl _ _) _ [(33,_)] rfl (Un.all ⟨Zs.self _ _,trivial⟩) (fun hG=>Af (c:=.sl _ _) Ai rfl rfl rfl) rfl ?_;refine AOL.Aah (y:=.int .i64 _) _ [(34,_)] rfl (Un.all ⟨Zs.self _ _,trivial⟩) (fun hG=>Av (n:=d.kids.length) Ai rfl rfl rfl (by simp)) rfl ?_;refine AOL.Aah (y:=.bool _) _ [(32,_),(35,_)] rfl (Un.all ⟨Zs.self _ _,Zs.self _ _,trivial⟩) (fun hG=>B9 rfl rfl) rfl ?_;refine AOL.Aag (Bc rfl rfl rfl) rfl (AOL.nil (Aa (AW.cond (b:=_) rfl (fun hc3=>?_) (fun hc3=>AW.exit ?_))))
 .
  rw [Cq] at hc3;obtain ⟨a,ha⟩:=Dd hc3.1;have hlt:=Bj ha;have hm:=A0 ha;have hps:=dB (d:=d) ha;refine AW.skip (Aa (AW.seq (AW.block (AW.seq ?_))));refine AW.draw mixed (fun _=>True) trivial (by kernel_rfl) ?_;refine E5.pure _ _ 0 _ _ rfl (by kernel_rfl) (by kernel_rfl) rfl (.run rfl (Ad (cs':=[_]) Ai rfl rfl rfl rfl rfl rfl)) ?_;refine E5.pure _ _ 1 _ _ rfl (by kernel_rfl) (by kernel_rfl) rfl (.run rfl (Af (c:=.sl _ _) Ai rfl rfl rfl)) ?_;refine E5.pure _ _ 2 _ _ rfl (by kernel_rfl) (by kernel_rfl) rfl (.run rfl (Ae (v:=.int .i64 _) rfl)) ?_;refine E5.pure _ _ 3 _ _ rfl (by kernel_rfl) (by kernel_rfl) rfl (.run rfl (Am (c:=[.int .i64 _,.int .i64 _,.int .i64 _,.int .i64 _,_]) Ai rfl rfl rfl rfl rfl rfl (by omega) (Ko ha))) ?_;refine E5.pure _ _ 4 _ _ rfl (by kernel_rfl) (by kernel_rfl) rfl (.run rfl (Ah (l:=[.int .i64 _,.int .i64 _,.int .i64 _,.int .i64 _,_]) Ai rfl rfl rfl rfl rfl)) ?_;refine E5.pure _ _ 5 _ _ rfl (by kernel_rfl) (by kernel_rfl) rfl (.run rfl (Ad (cs':=[_]) Ai rfl rfl rfl rfl rfl rfl)) ?_;refine E5.pure _ _ 6 _ _ rfl (by kernel_rfl) (by kernel_rfl) rfl (.run rfl (Af (c:=.sl _ _) Ai rfl rfl rfl)) ?_;refine E5.pure _ _ 7 _ _ rfl (by kernel_rfl) (by kernel_rfl) rfl (.run rfl (Ae (v:=.int .i64 _) rfl)) ?_;refine E5.pure _ _ 8 _ _ rfl (by kernel_rfl) (by kernel_rfl) rfl (.run rfl (Am (c:=[.int .i64 _,.int .i64 _,.int .i64 _,.int .i64 _,_]) Ai rfl rfl rfl rfl rfl rfl (by omega) (Ko ha))) ?_;refine E5.pure _ _ 9 _ _ rfl (by kernel_rfl) (by kernel_rfl) rfl (.run rfl (Ah (l:=[.int .i64 _,.int .i64 _,.int .i64 _,.int .i64 _,_]) Ai rfl rfl rfl rfl rfl)) ?_;refine E5.pure _ _ 10 _ _ rfl (by kernel_rfl) (by kernel_rfl) rfl (.run rfl (Ak (by kernel_rfl) rfl rfl (ih a hm (by omega)))) ?_;refine E5.pure _ _ 11 _ _ rfl (by kernel_rfl) (by kernel_rfl) rfl (.run rfl (Ag (v:=.int .i64 _) rfl)) ?_;refine E5.done _ _ (by kernel_rfl) ?_;refine Aa (AW.seq (AW.region (AOL.Aag (Ae (v:=.int .i64 _) rfl) rfl (AOL.Aag (Fk rfl rfl) rfl (AOL.nil (Aa (AW.cond (b:=_) rfl (fun hc4=>?_) (fun hc4=>AW.skip (C9 (Aa (AW.region (AOL.Aag (Ae (v:=.int .i64 _) rfl) rfl ?_))))))))))))
  . exact absurd hc4 (by decide)
  refine AOL.Aag (Cc rfl rfl rfl (by constructor <;> omega)) rfl ?_;refine AOL.Aag (Ag (v:=.int .i64 _) rfl) rfl (AOL.nil (Aa ?_));refine ⟨k+1,?_,?_,GS.weaken ⟨rfl,rfl,rfl,trivial⟩ (.refl _)⟩
  . exact hlt
  omega
 refine A1 (A1 (Cd (Aa (AW.seq ?_))));refine AW.seq (AW.region (AOL.Aag (Ad (cs':=[_]) Ai rfl rfl rfl rfl rfl rfl) rfl (AOL.Aag (Af (c:=.sl _ _) Ai rfl rfl rfl) rfl ?_)));refine AOL.Aag (Av (n:=d.kids.length) Ai rfl rfl rfl (by simp)) rfl ?_;refine AOL.Aag (Ad (cs':=[_]) Ai rfl rfl rfl rfl rfl rfl) rfl (AOL.Aag (Af (c:=.sl _ _) Ai rfl rfl rfl) rfl ?_);refine AOL.Aag (Av (n:=d.kids.length) Ai rfl rfl rfl (by simp)) rfl ?_;refine AOL.Aag (B9 rfl rfl) rfl (AOL.nil (Aa (AW.cond (b:=_) rfl (fun hc5=>?_) (fun hc5=>AW.skip (Aa (AW.seq (AW.seq (AW.region (AOL.Aag (Ad (cs':=[_]) Ai rfl rfl rfl rfl rfl rfl) rfl (AOL.Aag (Af (c:=.sl _ _) Ai rfl rfl rfl) rfl ?_))))))))))
 . exact absurd hc5 (by simp)
 refine AOL.Aag (Av (n:=d.kids.length) Ai rfl rfl rfl (by simp)) rfl ?_;refine AOL.Aag (Ad (cs':=[_]) Ai rfl rfl rfl rfl rfl rfl) rfl (AOL.Aag (Af (c:=.sl _ _) Ai rfl rfl rfl) rfl ?_);refine AOL.Aag (Av (n:=d.kids.length) Ai rfl rfl rfl (by simp)) rfl ?_;refine AOL.Aag (Gy rfl rfl) rfl (AOL.nil (Aa (AW.cond (b:=_) rfl (fun hc6=>?_) (fun hc6=>AW.skip (Aa (AW.seq (AW.region (AOL.Aag (Ag (v:=.int .i64 _) rfl) rfl (AOL.nil (Aa (AW.ret ?_)))))))))))
 . exact absurd hc6 (by simp)
 refine ⟨.inr rfl,[.int .i64 _],.cons (.tmp _ _ rfl) <| .nil,.refl _,?_⟩;rfl
theorem pK (l:List Dv)(hl:l.length<=1048576)(hs:∀d∈l,M4 d<=1048576):Al Tryz.prog 8 [.sl 5 (l.map C6),.sl 5 (l.map C6)] (.bool true):=by
 refine Al.body (n:=27) Ai Tryz.func8 rfl rfl rfl fun H=>?_
 refine AW.seq (AW.region (AOL.Aag (Ag (v:=.bool _) rfl) rfl (AOL.nil (Aa (AW.seq (AW.seq (AW.region (AOL.Aag (Ae (v:=.sl _ _) rfl) rfl ?_))))))));refine AOL.Aag (Av (n:=l.length) Ai rfl rfl rfl (by simp)) rfl ?_;refine AOL.Aag (Ae (v:=.sl _ _) rfl) rfl ?_;refine AOL.Aag (Av (n:=l.length) Ai rfl rfl rfl (by simp)) rfl ?_;refine AOL.Aag (Fk rfl rfl) rfl (AOL.nil (Aa (AW.cond (b:=_) rfl (fun hc1=>?_) (fun hc1=>AW.skip (Aa (AW.seq (AW.seq (AW.region (AOL.Aag (Ag (v:=.int .i64 _) rfl) rfl (AOL.nil (Aa (AW.block ?_))))))))))))
 . exact absurd hc1 (by simp)
 refine AW.loopS (fun (k:Nat)=>(⟨[(0,.sl 5 (l.map C6)),(1,.sl 5 (l.map C6)),(5,.int .i64 (k:Int))],H,27⟩:St)) (fun k=>k<=l.length) (fun k=>l.length-k) (0) ?_ (GS.weaken ⟨rfl,rfl,rfl,trivial⟩ (.refl _)) ?_
 . exact Bn _
 rintro k hk;refine AW.seq (AW.seq (AW.region (AOL.Aag (Ae (v:=.int .i64 _) rfl) rfl (AOL.Aag (Ae (v:=.sl _ _) rfl) rfl ?_))));refine AOL.Aag (Av (n:=l.length) Ai rfl rfl rfl (by simp)) rfl ?_;refine AOL.Aag (B9 rfl rfl) rfl (AOL.nil (Aa (AW.cond (b:=_) rfl (fun hc2=>?_) (fun hc2=>AW.exit ?_))))
 .
  obtain ⟨a,ha⟩:=Dd hc2;have hlt:=Bj ha;have hm:=A0 ha;refine AW.skip (Aa (AW.seq (AW.block (AW.seq ?_))));refine AW.draw mixed (fun _=>True) trivial (by kernel_rfl) ?_;refine E5.pure _ _ 0 _ _ rfl (by kernel_rfl) (by kernel_rfl) rfl (.run rfl (Ae (v:=.sl _ _) rfl)) ?_;refine E5.pure _ _ 1 _ _ rfl (by kernel_rfl) (by kernel_rfl) rfl (.run rfl (Ae (v:=.int .i64 _) rfl)) ?_;refine E5.pure _ _ 2 _ _ rfl (by kernel_rfl) (by kernel_rfl) rfl (.run rfl (Am (c:=[.int .i64 _,.int .i64 _,.int .i64 _,.int .i64 _,_]) Ai rfl rfl rfl rfl rfl rfl (by omega) (Ko ha))) ?_;refine E5.pure _ _ 3 _ _ rfl (by kernel_rfl) (by kernel_rfl) rfl (.run rfl (Ah (l:=[.int .i64 _,.int .i64 _,.int .i64 _,.int .i64 _,_]) Ai rfl rfl rfl rfl rfl)) ?_;refine E5.pure _ _ 4 _ _ rfl (by kernel_rfl) (by kernel_rfl) rfl (.run rfl (Ae (v:=.sl _ _) rfl)) ?_;refine E5.pure _ _ 5 _ _ rfl (by kernel_rfl) (by kernel_rfl) rfl (.run rfl (Ae (v:=.int .i64 _) rfl)) ?_;refine E5.pure _ _ 6 _ _ rfl (by kernel_rfl) (by kernel_rfl) rfl (.run rfl (Am (c:=[.int .i64 _,.int .i64 _,.int .i64 _,.int .i64 _,_]) Ai rfl rfl rfl rfl rfl rfl (by omega) (Ko ha))) ?_;refine E5.pure _ _ 7 _ _ rfl (by kernel_rfl) (by kernel_rfl) rfl (.run rfl (Ah (l:=[.int .i64 _,.int .i64 _,.int .i64 _,.int .i64 _,_]) Ai rfl rfl rfl rfl rfl)) ?_;refine E5.pure _ _ 8 _ _ rfl (by kernel_rfl) (by kernel_rfl) rfl (.run rfl (Ak (by kernel_rfl) rfl rfl (uR a (hs a hm)))) ?_;refine E5.pure _ _ 9 _ _ rfl (by kernel_rfl) (by kernel_rfl) rfl (.run rfl (Fk rfl rfl)) ?_;refine E5.done _ _ (by kernel_rfl) ?_;refine Aa (AW.cond (b:=_) rfl (fun hc3=>?_) (fun hc3=>AW.skip (C9 (Aa (AW.region (AOL.Aag (Ae (v:=.int .i64 _) rfl) rfl ?_))))))
  . exact absurd hc3 (by decide)
  refine AOL.Aag (Cc rfl rfl rfl (by constructor <;> omega)) rfl ?_;refine AOL.Aag (Ag (v:=.int .i64 _) rfl) rfl (AOL.nil (Aa ?_));refine ⟨k+1,?_,?_,GS.weaken ⟨rfl,rfl,rfl,trivial⟩ (.refl _)⟩
  . exact hlt
  omega
 refine A1 (A1 (Cd (Aa ?_)));refine AW.seq (AW.region (AOL.Aag (Ag (v:=.bool _) rfl) rfl (AOL.nil (Aa (AW.ret ?_)))));refine ⟨.inr rfl,[.bool _],.cons (.tmp _ _ rfl) <| .nil,.refl _,?_⟩;rfl
open Go Go.Aw Go.Sort
theorem mX {W w':World}{g':Gh}(h:Ext (fun _=>none) W g' w'):∃q os,w'=grow (W.drewN q) os:=by
  refine ⟨w'.drawn-W.drawn,w'.heap.extract W.heap.size w'.heap.size,?_⟩;have h1:=h.size;have h2:=h.drawn
  have e1:w'.heap=W.heap++w'.heap.extract W.heap.size w'.heap.size:=by
    apply Array.ext_getElem?
    intro i;by_cases hi:i<W.heap.size
    . rw [Array.getElem?_append_left hi]
      exact (h.full i hi rfl).2
    . rw [Array.getElem?_append_right (by omega),Array.getElem?_extract]
      by_cases h3:i<w'.heap.size
      . rw [if_pos (by omega)];congr 1;omega
      rw [if_neg (by omega),Array.getElem?_eq_none (by omega)]
  have e2:W.drawn+(w'.drawn-W.drawn)=w'.drawn:=by omega
  have e3:=h.os;have e4:=h.tape;have e5:=h.output;cases w' with
  | mk hp tp dr os ou=>
    simp only at e1 e2 e3 e4 e5;unfold grow World.drewN;simp only [e2,<-e1,e3,e4,e5]
section
variable {w:World} {b m:Nat} {F cur:Array Value} {os:Array Obj} {E:TypeId} {fr:Nat×Nat}
def rU (w:World)(b m:Nat)(F:Array Value)(os:Array Obj):World:=grow (putRow id (Sort.ahead w m) b 0 F) os
theorem vH:w.heap.size<=(rU w b m F os).heap.size:=by unfold rU grow putRow mapBlock Sort.ahead;simp
theorem V9 {c:Nat}(hc:c<w.heap.size)(hb:c≠b):(rU w b m F os).heap[c]? = w.heap[c]? :=by
 unfold rU grow putRow mapBlock Sort.ahead;simp only;rw [Array.getElem?_append_left (by simpa using hc),Array.getElem?_modify,if_neg (fun e=>hb e.symm)]
theorem sw_at (h:w.heap[b]? = some (.cells cur E fr)):(rU w b m F os).heap[b]? = some (.cells (putCells id 0 F cur) E fr):=by
 have hb:b<w.heap.size:=(Array.getElem?_eq_some_iff.1 h).1;unfold rU grow putRow mapBlock Sort.ahead;simp only;rw [Array.getElem?_append_left (by simpa using hb),Array.getElem?_modify,if_pos rfl,h];rfl
theorem pI:(putCells id 0 F cur).size=cur.size:=by unfold putCells;simp
theorem put_at {k:Nat}(h:k<F.size)(hc:k<cur.size):(putCells id 0 F cur).getD k undef=F[k]! :=by
 unfold putCells;rw [Ce,Array.getElem?_mapIdx,Array.getElem?_eq_getElem hc];simp [h]
theorem qU {g g':Gh}(hg:g b=some 0)(hh:∀c,c≠b->g c=none->g' c=none)(hp:∀c n,g c=some n->∀k,g' c=some k->n<=k):Ext g w g' (rU w b m F os):=by
 refine ⟨rfl,rfl,rfl,⟨vH,Nat.le_add_right _ _⟩,fun c hc hn=>?_,fun c n hc hn=>?_⟩
 .
  have hb:c≠b:=fun e=>by rw [e,hg] at hn;cases hn
  exact ⟨hh c hb hn,V9 hc hb⟩
 refine ⟨hp c n hn,fun o ho=>?_⟩;by_cases hb:c=b
 . rw [hb,hg] at hn;cases hn;omega
 unfold World.cell?;rw [V9 hc hb]
end
structure DvR (g:Gh) (w:World) where
 d:Dv
 v:Value
 r:Rep g w v (.sl 5 (d.kids.map C6))
def Q9 {g:Gh}{w:World}(x:DvR g w):List Value:=[.int .i64 x.d.ref.t,.int .i64 x.d.ref.s,.int .i64 x.d.ref.q,.int .i64 x.d.choice,x.v]
def vY {g:Gh}{w:World}(x y:DvR g w):Int:=Kg x.d y.d
theorem sP {g:Gh}{w:World}:SWO (ltOf (vY (g:=g) (w:=w))):=by
 refine ⟨fun x=>?_,fun x y z h1 h2=>?_,fun x y z h1 h2=>?_⟩
 .
  unfold ltOf vY;rw [jP];rfl
 .
  unfold ltOf vY at *;rw [Di] at *;exact Ux _ _ _ h1 h2
 unfold ltOf vY at *;rw [Jh] at *;intro h3;rcases Int.lt_trichotomy (Kg x.d y.d) 0 with h | h | h
 . exact h1 h
 . rw [Se _ _ h] at h3;exact h2 h3
 have e:=Sd x.d y.d;exact h2 (Ux _ _ _ (by omega) h3)
theorem sR {g:Gh}{w W:World}(hG:GlobOK g w)(hx:Ext g w (fun _=>none) W)(x y:DvR g w):Calls Tryz.prog 23 (#[.agg (Q9 x).toArray,.agg (Q9 y).toArray] ++ #[]) W (fun e w'=>e = .returned (.int .i64 (vY x y))/\∃q os',w'=grow (W.drewN q) os'):=by
 have hrep:∀z:DvR g w,Rep (fun _=>none) W (.agg (Q9 z).toArray) (.agg (cD z.d)):=fun z=>by
  refine .agg _ _ rfl fun i x hi=>?_
  match i,hi with
  | 0,hi=>cases hi;exact .int _ _
  | 1,hi=>cases hi;exact .int _ _
  | 2,hi=>cases hi;exact .int _ _
  | 3,hi=>cases hi;exact .int _ _
  | 4,hi=>cases hi;exact z.r.mono hx
  | i+5,hi=>cases hi
 have key:=jT x.d y.d [] (fun _=>none) W (#[.agg (Q9 x).toArray,.agg (Q9 y).toArray] ++ #[]) (HOK.nil (hG.mono hx)) ⟨rfl,fun i z hi=>by
  match i,hi with
  | 0,hi=>cases hi;exact hrep x
  | 1,hi=>cases hi;exact hrep y
  | i+2,hi=>cases hi⟩
 refine key.mono ?_;rintro e w' ⟨v,g',r,H',rfl,k1,_,k3,rfl,_⟩;exact ⟨by rw [k1.inv_int];rfl,mX k3⟩
theorem mD {g:Gh}{w:World}[Inhabited (DvR g w)]{b:Nat}{n:Nat}(hg:g b=some 0)(hG:GlobOK g w):CmpLays Tryz.prog 23 #[] (Q9 (g:=g) (w:=w)) 5 vY b 0 n w:=
 fun m os dk _ x y=>sR hG (W:=rU w b m (flatK Q9 5 dk) os) (qU hg (fun _ _ _=>rfl) (fun _ _ _ k hk=>by cases hk)) x y
def sD (l:List Dv):Prop:=l.Pairwise fun x y=>Kg x y<=0
theorem Yc {es:List (List AV)}{z:Nat}(hz:∀e∈es,e.length=z){i j:Nat}{e:List AV}{x:AV}(h:es[i]? = some e)(hj:e[j]? = some x):es.flatten[i*z+j]? = some x:=Go.Aw.flat_at es hz i e h j x hj
theorem tP (l:List Dv)(hne:l≠[])(hl:l.length<=1048576)(v:Value)(R:List HO) :
    Cb Tryz.prog 22 (.buf v (l.map C6) 43 5::R) [.val v,.fn (.func 23) [] []] (fun r H'=>r = .tuple []/\∃l':List Dv,l'.Perm l/\sD l'/\H' = .buf v (l'.map C6) 43 5::R):=by
  intro g w vs hH hr;have hok:=hH.ok _ (Fs ..);rcases hok with ⟨_,e2⟩ | ⟨b,cap,cur,e1,hg,hcur,hcsz,hcap,hcmax,hz1,hrep⟩
  . exact absurd (List.map_eq_nil_iff.1 e2) hne
  . rw [B1] at e1 hcap
    have hb:b<w.heap.size:=(Array.getElem?_eq_some_iff.1 hcur).1
    -- the elements, with their kids' slices
    have hkid:∀i:Fin l.length,Rep g w (cur.getD (i*5+4) undef) (.sl 5 (l[i].kids.map C6)):=fun i=>by
      refine hrep (i*5+4) _ (Yc hz1 (e:=C6 l[i]) ?_ ?_)
      . rw [List.getElem?_map,List.getElem?_eq_getElem i.2];rfl
      rw [Ih];rfl
    have hint:∀(i:Fin l.length) (j:Nat) (n:Int),(cD l[i])[j]? = some (.int .i64 n)->cur.getD (i*5+j) undef = .int .i64 n:=fun i j n hj=>by
      have:=hrep (i*5+j) _ (Yc hz1 (e:=C6 l[i]) (by rw [List.getElem?_map,List.getElem?_eq_getElem i.2];rfl) (by rw [Ih];exact hj));exact this.inv_int
    obtain ⟨d,hd⟩:∃d:Array (DvR g w),d=Array.ofFn fun i:Fin l.length=>(⟨l[i],cur.getD (i*5+4) undef,hkid i⟩:DvR g w):=⟨_,rfl⟩
    have hds:d.size=l.length:=by rw [hd,Array.size_ofFn]
    have h0:0<l.length:=Iw.2 hne
    haveI:Inhabited (DvR g w):=⟨d[0]'(by omega)⟩
    have hdg:∀i:Fin l.length,d[i.1]! = (⟨l[i],cur.getD (i*5+4) undef,hkid i⟩:DvR g w):=fun i=>by
      rw [getElem!_pos d i.1 (by rw [hds];exact i.2)];subst hd;rw [Array.getElem_ofFn]
    have hfl:∀t,t<l.length*5->(flatK Q9 5 d)[t]! = cur.getD t undef:=fun t ht=>by
      rw [get_flatK _ _ _ t (by rw [hds];exact ht)];have hi:t / 5<l.length:=by omega
      rw [hdg ⟨t / 5,hi⟩];have et:t=t / 5*5+t % 5:=by omega
      have hm:t % 5=0\/t % 5=1\/t % 5=2\/t % 5=3\/t % 5=4:=by omega
      rcases hm with h | h | h | h | h
      . rw [h] at et ⊢;conv=>rhs;rw [et]
        exact (hint ⟨t / 5,hi⟩ 0 _ rfl).symm
      . rw [h] at et ⊢;conv=>rhs;rw [et]
        exact (hint ⟨t / 5,hi⟩ 1 _ rfl).symm
      . rw [h] at et ⊢;conv=>rhs;rw [et]
        exact (hint ⟨t / 5,hi⟩ 2 _ rfl).symm
      . rw [h] at et ⊢;conv=>rhs;rw [et]
        exact (hint ⟨t / 5,hi⟩ 3 _ rfl).symm
      . rw [h] at et ⊢;conv=>rhs;rw [et]
        rfl
    have hle:l.length*5<=cur.size:=by rw [hcsz];exact Fu 5 hcap
    have hHK:HoldsK Q9 5 w b 0 d:=fun j hj=>by
      rw [size_flatK,hds] at hj;refine ⟨?_,?_⟩
      . rw [Cg,Bq hcur,id,hfl j hj,Array.getElem?_eq_getElem (by omega),Ce,Array.getElem?_eq_getElem (by omega)];rfl
      . unfold World.frozen?
        simp [hcur]
    have hone:∀x:DvR g w,∀u∈Q9 x,u.oneCell'=true:=fun x u hu=>by
      unfold Q9 at hu;simp only [Cz,List.not_mem_nil,or_false] at hu;rcases hu with rfl | rfl | rfl | rfl | rfl
      . rfl
      . rfl
      . rfl
      . rfl
      . obtain ⟨a,n,c,h1,_⟩:=x.r.inv_sl
        rw [h1];rfl
    have eg:∀args w,(callFunc 23 args).run Tryz.prog w = .ok (.enter 23 args) w:=fun args w=>Km (by kernel_rfl) args w
    have hcon:=AnyQ.slices_SortFunc Tryz.sortD 5 Tryz.isAgg43 Tryz.sizeOf43 Q9 (fun _=>rfl) hone vY sP 23 #[] b 0 cap d w eg (mD hg hH.glob) hHK hb (by rw [hds];omega);change Calls Tryz.prog 22 _ _ _ at hcon
    have hvs:vs = #[.slice (some ⟨b,0,none⟩) d.size cap,.func (.func 23) #[] #[]]:=by
      have hs:=hr.1;have a0:=(hr.2 0 _ rfl).inv_val;obtain ⟨us,us2,hv,h1,h2⟩:=(hr.2 1 _ rfl).inv_fn;have hu1:us = #[]:=Array.size_eq_zero_iff.1 (by simpa using h1.1);have hu2:us2 = #[]:=Array.size_eq_zero_iff.1 (by simpa using h2.1);rw [hu1,hu2] at hv;rw [e1,<-hds] at a0
      apply Array.ext
      . exact hs
      . intro i h3 h4
        have h5:i<2:=h4
        match i,h5 with
        | 0,_=>simpa [Ce,h3] using a0
        | 1,_=>simpa [Ce,h3] using hv
    rw [hvs];refine hcon.mono ?_;rintro e w' ⟨rfl,d',m,os,hp,hs,rfl⟩;have hsz':d'.size=d.size:=hp.1
    have hperm:d'.toList.Perm d.toList:=by
      have:=hp.2.2;rw [<-hsz'] at this;have e3:(d'.extract 0 d'.size)=d':=by simp
      have e4:(d.extract 0 d'.size)=d:=by rw [hsz'];simp
      rwa [e3,e4] at this
    have hdl:d.toList.map (fun x=>x.d)=l:=by
      apply M9
      intro i;rw [List.getElem?_map];by_cases hi:i<l.length
      . rw [List.getElem?_eq_getElem hi,Array.getElem?_toList,Array.getElem?_eq_getElem (by rw [hds];exact hi)]
        subst hd;rw [Array.getElem_ofFn];rfl
      rw [List.getElem?_eq_none (by simp [hds];omega),List.getElem?_eq_none (by omega)];rfl
    have hl'len:(d'.toList.map fun x=>x.d).length=l.length:=by simp [hsz',hds]
    have hx:Ext g w g (rU w b m (flatK Q9 5 d') os):=qU hg (fun _ _ h=>h) (fun c n h k hk=>by rw [h] at hk;cases hk;exact Bi _);refine ⟨.tuple #[],g,_,.buf v ((d'.toList.map fun x=>x.d).map C6) 43 5::R,rfl,.tuple _ _ rfl (fun i x hi=>by simp at hi),?_,hx,rfl,_,?_,?_,rfl⟩
    . show HOK g (rU w b m (flatK Q9 5 d') os) _
      refine hH.set (k:=0) (o':=.buf v ((d'.toList.map fun x=>x.d).map C6) 43 5) hx rfl (fun c hc=>.inl ?_) (Or.inr ⟨b,cap,_,?_,hg,sw_at hcur,?_,?_,hcmax,?_,?_⟩) (fun c hc hne' _=>?_)
      . rw [e1] at hc ⊢;exact hc
      . rw [B1,hl'len];exact e1
      . rw [pI];exact hcsz
      . rw [B1,hl'len];exact hcap
      . intro e he
        obtain ⟨x,_,rfl⟩:=B7.1 he;exact L4 x
      . intro i x hi
        have hz2:∀e∈(d'.toList.map fun x=>x.d).map C6,e.length=5:=fun e he=>by
          obtain ⟨x,_,rfl⟩:=B7.1 he;exact L4 x
        have hil:i<((d'.toList.map fun x=>x.d).map C6).flatten.length:=(List.getElem?_eq_some_iff.1 hi).1;rw [Cm hz2,B1,hl'len] at hil;have hk:i / 5<d'.size:=by rw [hsz',hds];omega
        have hget:((d'.toList.map fun x=>x.d).map C6)[i / 5]? = some (C6 (d'[i / 5]'hk).d):=by simp [hk]
        have hm5:i % 5<5:=Nat.mod_lt _ (by omega);obtain ⟨y,hy⟩:∃y,(C6 (d'[i / 5]'hk).d)[i % 5]? = some y:=⟨_,List.getElem?_eq_getElem (by rw [L4];exact hm5)⟩
        have hxy:x=y:=by
          have:=Yc hz2 hget hy;rw [show i / 5*5+i % 5=i by omega,hi] at this;exact Option.some.inj this
        subst hxy;rw [put_at (by rw [size_flatK,hsz',hds];exact hil) (by omega),get_flatK _ _ _ i (by rw [hsz',hds];exact hil),getElem!_pos d' (i / 5) hk];rw [Ih] at hy;have hm:i % 5=0\/i % 5=1\/i % 5=2\/i % 5=3\/i % 5=4:=by omega
        rcases hm with h | h | h | h | h <;> rw [h] at hy ⊢ <;> cases hy
        . exact .int _ _
        . exact .int _ _
        . exact .int _ _
        . exact .int _ _
        exact (d'[i / 5]'hk).r.mono hx
      . have hcb:c≠b:=fun h=>hne' (by rw [h,e1];rfl)
        exact ⟨rfl,V9 hc hcb⟩
    . rw [<-hdl];exact hperm.map _
    . unfold sD
      rw [List.pairwise_iff_getElem];intro i j hi hj hij;simp only [B1,Qd] at hi hj;have h1:=hs i j (Bn _) hij (by rw [<-hsz'];exact hj);rw [getElem!_pos d' i hi,getElem!_pos d' j hj] at h1;unfold ltOf vY at h1;rw [Jh] at h1;have:=Sd (d'[i]'hi).d (d'[j]'hj).d;simp only [List.getElem_map,Array.getElem_toList];omega
section
variable {P:Program} {T:List (Nat×TD)} {d:Option Nat} {ty:TypeId} {pos:String} {aft:Array Edge} {gd:Option (Nat×Bool)} {ρ:Operand->AV} {K:List HO->Prop}
theorem We {t e z:Nat}{td te:TD}{vs:Array Value}{es:List (List AV)}(hT:G9 P T)(ht:Bp T t=some td)(hk:td.kind = .slice e)(hte:Bp T e=some te)(hz:te.size=z)
    (hb:Nat.ble (1*z) 16777216=true) (hl:Nat.beq vs.toList.length z=true) (hs:Bm (vs.toList.map AV.val)=true) (hp:Nat.blt 0 z=true) (hes:[vs.toList.map AV.val]=es):Dr P ⟨d,.buildSlice t 1 #[(0,.const (.agg vs))],ty,pos,aft,gd⟩ ρ K (.sl z es):=by
  have h:=Bw (d:=d) (ty:=ty) (pos:=pos) (aft:=aft) (gd:=gd) (K:=K) (ρ:=fun _=>.agg (vs.toList.map AV.val)) (parts:=#[(0,.const (.agg vs))]) (n:=1) (es:=es) hT ht hk hte hz rfl hb
    (by simp only [Ph,Dj,B1,Nat.beq_refl,Bo,Aq,hs,hl]) hp (by subst hes;rfl)
  intro g w a H next Q hr hH hK hn
  refine h g w a H next Q (fun y hy=>?_) hH hK hn
  simp only [Op.operands,List.map_toArray,Ba,Gv,List.mem_toArray,F3] at hy;subst hy;refine .agg vs _ (by simp) (fun i x hi=>?_);rw [List.getElem?_map] at hi;cases hv:vs.toList[i]? with
  | none=>rw [hv] at hi;cases hi
  | some u=>
    rw [hv] at hi;cases hi
    have:vs.getD i undef=u:=by
      rw [Ce];have:vs[i]? = some u:=by simpa using hv
      rw [this];rfl
    rw [this];exact .val _
end
theorem Xw {P:Program}{T:List (Nat×TD)}{d:Option Nat}{ty:TypeId}{pos:String}{aft:Array Edge}{gd:Option (Nat×Bool)}{ρ:Operand->AV}{x y:Operand}{t e k z:Nat}{td te:TD}{v:Value}{es:List (List AV)}{c:List AV}{H:List HO}(hT:G9 P T)(hx:ρ x = .val v)(hy:ρ y = .sl z [c])(ht:Bp T t=some td)(hk:td.kind = .slice e)
  (hte:Bp T e=some te) (hz:te.size=z) (hp:Nat.blt 0 z=true) (hH:H[k]? = some (.buf v es e z)) (hs:Bm c=true) (hb:(es.length+1)*te.bytes<=140737488355328) (hm:es.length+1<=maxLen) :
  Jj P ⟨d,.call ⟨.builtin .append,#[x,y],#[t,t]⟩,ty,pos,aft,gd⟩ ρ H (fun r H'=>∃b cap J,r = .val (.slice (some ⟨b,0,none⟩) (es.length+1) cap)/\(es.length+1<=cap/\cap<=maxLen/\(es.length+1)*z+J.length=cap*z/\∀e∈es ++ [c],e.length=z)/\H'=H.set k (.box b e ((es ++ [c]).flatten++J))):=by
 intro g w a next Q hr hHK hn
 refine Tg hT hx hy ht hk hte hz hp hH hs hb hm g w a next Q hr hHK ?_
 rintro g' w' u r H' ⟨v',rfl,rfl⟩ hrep hok hext;have hkl:k<H.length:=(List.getElem?_eq_some_iff.1 hH).1;have hget:(H.set k (.buf v' (es ++ [c]) e z))[k]? = some (.buf v' (es ++ [c]) e z):=by rw [List.getElem?_set,if_pos rfl,if_pos hkl]
 have h1:=hok.ok _ (A0 hget);rcases h1 with ⟨_,e2⟩ | ⟨b,cap,cur,e1,hg,hcur,hcsz,hcap,hcmax,hz1,hrp⟩
 . simp at e2
 have hfl:(es ++ [c]).flatten.length=(es ++ [c]).length*z:=Cm hz1;have hll:(es ++ [c]).length=es.length+1:=by simp
 have hle:(es ++ [c]).length*z<=cur.size:=by rw [hcsz];exact Fu z hcap
 subst e1;refine hn g' w' u _ _ ⟨b,cap,List.replicate (cur.size-(es ++ [c]).length*z) .junk,by rw [hll],⟨by rw [<-hll];exact hcap,hcmax,by rw [Jg,<-hll];omega,hz1⟩,rfl⟩ hrep ?_ hext
 have key:=hok.set (Ext.refl g' w') (k:=k) (o':=.box b e ((es ++ [c]).flatten++List.replicate (cur.size-(es ++ [c]).length*z) .junk)) hget (fun c' hc'=>.inl hc') ⟨hg,cur,hcur,by rw [Do,hfl,Jg];omega,fun i x hi=>by
  rw [List.getElem?_append] at hi;split at hi
  . exact hrp i x hi
  have:=O7 (A0 hi);rw [this];exact .junk _⟩ (fun _ _ _ _=>⟨rfl,rfl⟩)
 rwa [List.set_set] at key
theorem rr2 {β:Type}{W:β->List HO}{x:β}{l:Nat}{rec:Loop}{g1:Gh}{w1:World}{F H3:List HO}{args:List AV}{Q:β->List HO->Prop}
  (h:Dp Tryz.prog l rec (.obj l (.loop rec) :: .since g1 w1::(W x++(F++H3))) args (fun r H'=>r = .bool true/\∃y H4,H' = .obj l (.loop rec) :: .since g1 w1::(W y++(F++H4))/\Q y H4)) :
  Dp Tryz.prog l rec (F++(.obj l (.loop rec) :: .since g1 w1::(W x++H3))) args (fun r H'=>r = .bool true/\∃H2,H'=F++H2/\∃y H4,H2 = .obj l (.loop rec) :: .since g1 w1::(W y++H4)/\Q y H4):=by
 have hp:∀(y:β) (X:List HO),(F++(.obj l (.loop rec) :: .since g1 w1::(W y++X))).Perm (.obj l (.loop rec) :: .since g1 w1::(W y++(F++X))):=by
  intro y X;have e1:(.obj l (.loop rec) :: .since g1 w1::(W y++X):List HO)=(.obj l (.loop rec) :: .since g1 w1::W y)++X:=rfl;have e2:(.obj l (.loop rec) :: .since g1 w1::(W y++(F++X)):List HO)=(.obj l (.loop rec) :: .since g1 w1::W y)++(F++X):=rfl;rw [e1,e2,<-Cs,<-Cs];exact List.perm_append_comm.append_right _
 refine Dp.perm (hp x H3) (h.post ?_);rintro r _ ⟨h1,y,H4,rfl,hQ⟩;exact ⟨_,(hp y H4).symm,h1,_,rfl,y,H4,rfl,hQ⟩
theorem tZ (l:List Fnd):(l.map fun f=>C6 f.d)=(l.map fun f=>f.d).map C6:=by rw [Lw];rfl
abbrev QB:=Option (Nat×Nat×List AV)×List Fnd
def WB (b9:Nat)(q:QB):List HO:=match q.1 with
 | none=>[.buf (.slice none 0 0) [] 43 5,.box b9 35 [.val (.slice none 0 0)]]
 | some x=>[.box x.1 43 ((q.2.map fun f=>C6 f.d).flatten++x.2.2),.box b9 35 [.val (.slice (some ⟨x.1,0,none⟩) q.2.length x.2.1)]]
def Y7 (q:QB):Prop:=match q.1 with
 | none=>q.2 = []
 | some x=>0<q.2.length/\q.2.length<=x.2.1/\x.2.1<=maxLen/\q.2.length*5+x.2.2.length=x.2.1*5
theorem wb_gs {q:QB}(h:Y7 q)(b9:Nat)(sl:List (Nat×AV))(o1 o2:HO)(X:List HO)(n:Nat):∃(a:Option Addr) (c:Nat),GS ⟨sl,o1::o2::(WB b9 q++X),n⟩ ⟨sl,o1::o2 :: .buf (.slice a q.2.length c) (q.2.map fun f=>C6 f.d) 43 5 :: .box b9 35 [.val (.slice a q.2.length c)]::X,n⟩:=by
  obtain ⟨q1,q2⟩:=q;cases q1 with
  | none=>simp only [Y7] at h;subst h;exact ⟨none,0,GS.refl _⟩
  | some x=>
    simp only [Y7] at h;exact ⟨some ⟨x.1,0,none⟩,x.2.1,GS.boxBuf (z:=5) (m:=q2.length) (cap:=x.2.1) (es:=q2.map fun f=>C6 f.d) 2 rfl rfl (B1 ..).symm (fun e he=>by obtain ⟨x,_,rfl⟩:=B7.1 he;exact L4 _) h.2.2.2 h.2.1 h.2.2.1 rfl⟩
theorem rL {l:Nat}{P:Program}{code:Code}{Q:Exit->St->Prop}{q:QB}(h:Y7 q){b9:Nat}{sl:List (Nat×AV)}{o1 o2:HO}{X:List HO}{n:Nat}
  (k:∀(a:Option Addr) (c:Nat),Qi l P code Q ⟨sl,o1::o2 :: .buf (.slice a q.2.length c) (q.2.map fun f=>C6 f.d) 43 5 :: .box b9 35 [.val (.slice a q.2.length c)]::X,n⟩):Qi l P code Q ⟨sl,o1::o2::(WB b9 q++X),n⟩:=by
 obtain ⟨a,c,hgs⟩:=wb_gs h b9 sl o1 o2 X n;exact Qi.ghost hgs (k a c)
theorem rK {qe:List Fnd}{f:Fnd}{b b9 c:Nat}{J:List AV}{X:List HO}:(.box b 43 (((qe.map fun f=>C6 f.d) ++ [cD f.d]).flatten++J) :: .box b9 35 [.val (.slice (some ⟨b,0,none⟩) ((qe.map fun f=>C6 f.d).length+1) c)]::X:List HO)=WB b9 (some (b,c,J),qe ++ [f])++X:=by
 have e1:(qe ++ [f]).map (fun f=>C6 f.d)=(qe.map fun f=>C6 f.d) ++ [cD f.d]:=by rw [Cy,Ok,Ih]
 have e2:(qe.map fun f=>C6 f.d).length+1=(qe ++ [f]).length:=by simp
 rw [e2];show _=(.box b 43 (((qe ++ [f]).map fun f=>C6 f.d).flatten++J) :: .box b9 35 [.val (.slice (some ⟨b,0,none⟩) (qe ++ [f]).length c)]::X:List HO);rw [e1]
theorem uF (L:List Ev)(p:Pt):Al Tryz.prog 20 [.ptr [.sl 5 (L.map Ec),.int .i64 0],.agg (cPt p),.val (.slice none 0 0),.int .i64 0] (.fn (.func 55) [] [.ptr [.ptr [.sl 5 (L.map Ec),.int .i64 0]],.ptr (cPt p),.ptr [.sl 2 (([]:List Pr).map Ct)],.ptr [.int .i64 ((0:Nat):Int)]]):=fun H=>
 Td (args':=[.ptr [.sl 5 (L.map Ec),.int .i64 0],.agg (cPt p),.sl 2 (([]:List Pr).map Ct),.int .i64 ((0:Nat):Int)]) rfl (fun i x hi=>by
  match i,hi with
  | 0,hi=>exact ⟨_,rfl,by cases hi;exact fun _ _ _ h=>h⟩
  | 1,hi=>exact ⟨_,rfl,by cases hi;exact fun _ _ _ h=>h⟩
  | 2,hi=>exact ⟨_,rfl,by cases hi;exact Ue⟩
  | 3,hi=>exact ⟨_,rfl,by cases hi;exact fun _ _ _ h=>h⟩
  | n+4,hi=>cases hi) (Y3 L p [] 0 H)
theorem fZ {es:List (List AV)}{z c:List AV}{J:List AV}{m:Nat}(hm:es.length*5=m)(hz:∀e∈es ++ [z],e.length=5)(hc:c.length=5):E3 ((es ++ [z]).flatten++J) m c=(es ++ [c]).flatten++J:=by
 have h1:es.flatten.length=es.length*5:=Cm fun e he=>hz e (by simp [he])
 have h2:z.length=5:=hz z (by simp);unfold E3;rw [<-hm,Ol,Ol,hc];simp only [Jz,List.flatten_nil,H1,Cs];rw [List.take_left' h1,<-Cs es.flatten z J,List.drop_left' (by rw [Do,h1,h2])]
theorem Z7 {es:List (List AV)}{z J:List AV}{m:Nat}(hm:es.length*5=m)(hz:∀e∈es ++ [z],e.length=5):Nat.ble (m+5) ((es ++ [z]).flatten++J).length=true:=by
 rw [Nat.ble_eq,Do,Cm hz,<-hm,Do,Nb];omega
theorem el_at {l:List Fnd}{k:Nat}{f:Fnd}(J:List AV)(h:l[k]? = some f):(((l.map fun f=>C6 f.d).flatten++J).drop (k*5)).take 5=cD f.d:=by
 have hk:k<l.length:=(List.getElem?_eq_some_iff.1 h).1;have h1:=flat_at (c:=fun f:Fnd=>C6 f.d) (z:=5) (fun f=>L4 f.d) f J l k hk;unfold Eo at h1;rw [h1,h,K7,Ih]
theorem Yk (F:Nat):Al Tryz.prog 93 [.val (.slice none 0 0),.int .i64 0,.int .i64 0,.fn (.func F) [] []] (.tuple []):=by
 refine Al.body (n:=53) Ai Tryz.func93 rfl rfl rfl fun H=>?_
 refine AW.seq (AW.region (AOL.Aag (Ae (v:=.int .i64 _) rfl) rfl ?_));refine AOL.Aag (Cc rfl rfl rfl (by constructor <;> omega)) rfl ?_;refine AOL.Aag (Ag (v:=.int .i64 _) rfl) rfl (AOL.nil (Aa (AW.block ?_)));refine AW.loopS (fun (_:Unit)=>(⟨[(2,.int .i64 0),(8,.int .i64 1)],H,53⟩:St)) (fun _=>True) (fun _=>0) (()) ?_ (GS.weaken ⟨rfl,rfl,trivial⟩ (.refl _)) ?_
 . trivial
 rintro _ _;refine AW.seq (AW.seq (AW.region (AOL.Aag (Ae (v:=.int .i64 _) rfl) rfl (AOL.Aag (Ae (v:=.int .i64 _) rfl) rfl (AOL.Aag (B9 rfl rfl) rfl (AOL.nil (Aa (AW.cond (b:=_) rfl (fun hc1=>?_) (fun hc1=>AW.exit ?_)))))))))
 . cases hc1
 refine A1 (A1 (Cd ?_));refine ⟨.inl rfl,[],.nil,.refl _,?_⟩;rfl
theorem Yl (F:Nat)(n:Int):Al Tryz.prog 58 [.val (.slice none 0 0),.int .i64 0,.int .i64 0,.int .i64 n,.fn (.func F) [] []] (.tuple []):=by
 refine Al.body (n:=148) Ai Tryz.func58 rfl rfl rfl fun H=>?_
 refine AW.seq (AW.region (AOL.Aag (Ag (v:=.bool _) rfl) rfl (AOL.nil (Aa (AW.seq (AW.region (AOL.Aag (Ag (v:=.bool _) rfl) rfl (AOL.nil (Aa (AW.block ?_))))))))));refine AW.loopS (fun (_:Unit)=>(⟨[(0,.val (.slice none 0 0)),(1,.int .i64 0),(2,.int .i64 0),(4,.fn (.func F) [] [])],H,148⟩:St)) (fun _=>True) (fun _=>0) (()) ?_ (GS.weaken ⟨rfl,rfl,rfl,rfl,trivial⟩ (.refl _)) ?_
 . trivial
 rintro _ _;refine AW.block (AW.seq (AW.region (AOL.Aag (Ae (v:=.int .i64 _) rfl) rfl (AOL.Aag (Ae (v:=.int .i64 _) rfl) rfl ?_))));refine AOL.Aag (Gj rfl rfl rfl (by constructor <;> omega)) rfl ?_;refine AOL.Aag (Ag (v:=.int .i64 _) rfl) rfl (AOL.nil (Aa (AW.seq (AW.seq (AW.region (AOL.Aag (Ae (v:=.int .i64 _) rfl) rfl (AOL.Aag (I8 rfl rfl) rfl (AOL.nil (Aa (AW.cond (b:=_) rfl (fun hc1=>AW.seq (AW.region (AOL.Aag (Ae (v:=.val _) rfl) rfl (AOL.Aag (Ae (v:=.int .i64 _) rfl) rfl (AOL.Aag (Ae (v:=.int .i64 _) rfl) rfl (AOL.Aag (Ae (v:=.fn _ _ _) rfl) rfl ?_)))))) (fun hc1=>?_)))))))))))
 .
  refine AOL.Aag (Ak (by kernel_rfl) rfl rfl (Yk F)) rfl ?_;refine AOL.nil (Aa (AW.ret (Ap (Cn (Ap (Cn ?_))))));refine ⟨.inr rfl,[],.nil,.refl _,?_⟩;rfl
 cases hc1
theorem bA (F:Nat):Al Tryz.prog 22 [.val (.slice none 0 0),.fn (.func F) [] []] (.tuple []):=by
 refine Al.body (n:=14) Ai Tryz.func22 rfl rfl rfl fun H=>?_
 refine AW.seq (AW.region (AOL.Aag (Ae (v:=.val _) rfl) rfl (AOL.Aag (E6 Ai rfl rfl rfl) rfl (AOL.Aag (Ag (v:=.int .i64 _) rfl) rfl (AOL.nil (Aa (AW.region (AOL.Aag (Ae (v:=.val _) rfl) rfl (AOL.Aag (Ae (v:=.int .i64 _) rfl) rfl (AOL.Aag (Ae (v:=.int .i64 _) rfl) rfl (AOL.Aag (I6 (m:=((0:Nat):Int)) Ai rfl rfl rfl rfl rfl (rfl)) rfl ?_)))))))))));refine AOL.Aag (Ak (by kernel_rfl) rfl rfl (Vo 0 (by omega))) rfl ?_;refine AOL.Aag (Ae (v:=.fn _ _ _) rfl) rfl ?_;refine AOL.Aag (Ak (by kernel_rfl) rfl rfl (Yl F _)) rfl ?_;refine AOL.nil ?_;refine ⟨.inl rfl,[],.nil,.refl _,?_⟩;rfl
theorem oN (L:List Ev)(hL:L.length<=10)(p:Pt)(hq:PtS L p)(hp:medP p)(hc:Gk p=0)(hs:Fh L=0)(hsz9:∀f∈B6 L p [] 0,M4 f.d<=4096)(hen:(B6 L p [] 0).length<=4096)(H:List HO):Cb Tryz.prog 7 H [.agg (cPt p),.sl 5 (L.map Ec)] (fun r H'=>(∃l',l'.Perm ((B6 L p [] 0).map fun f=>f.d)/\sD l'/\r = .tuple [.sl 5 (l'.map C6),.int .i64 0])/\H'=H):=by
 have hL6:L.length<=1048576:=by omega
 refine Cb.bodyM (n:=55) Ai Tryz.func7 rfl rfl rfl fun N0=>?_
 refine Qh.seq ?_;refine Qh.region ?_;refine AOL.Aag (Bt (v:=.agg _) (cs:=[.int .i64 _,_,.int .i64 _,.int .i64 _,.int .i64 _,.int .i64 _,.int .i64 _,_,.int .i64 _,.int .i64 _,.int .i64 _,.int .i64 _,.int .i64 _,.str _]) rfl rfl rfl) rfl (AOL.Aag (Ag (v:=.val _) rfl) rfl (AOL.Aag (Ag (v:=.int .i64 _) rfl) rfl (AOL.nil (Aa ?_))));refine Qh.seq ?_;refine Qh.seq ?_;refine Qh.region ?_;refine AOL.Aag (Ah (l:=[.int .i64 _,_,.int .i64 _,.int .i64 _,.int .i64 _,.int .i64 _,.int .i64 _,_,.int .i64 _,.int .i64 _,.int .i64 _,.int .i64 _,.int .i64 _,.str _]) Ai rfl rfl rfl rfl rfl) rfl ?_;refine AOL.Aag (Ak (by kernel_rfl) rfl rfl (V3 p hp)) rfl ?_;refine AOL.Aag (Ag (v:=.int .i64 _) rfl) rfl (AOL.nil (Aa ?_));refine Qh.seq ?_;refine Qh.region ?_;refine AOL.Aag (Ae (v:=.int .i64 _) rfl) rfl (AOL.Aag (Fk rfl rfl) rfl (AOL.nil (Aa ?_)));refine Qh.cond (b:=_) rfl (fun hc1=>?_) (fun hc1=>?_)
 . rw [hc] at hc1;cases hc1
 refine Qh.skip ?_;refine Aa ?_;refine Qh.seq ?_;refine Qh.seq ?_;refine Qh.region ?_;refine AOL.Aag (Ae (v:=.sl _ _) rfl) rfl ?_;refine AOL.Aag (Ak (by kernel_rfl) rfl rfl (iV L)) rfl ?_;refine AOL.Aag (Ag (v:=.int .i64 _) rfl) rfl (AOL.nil (Aa ?_));refine Qh.seq ?_;refine Qh.region ?_;refine AOL.Aag (Ae (v:=.int .i64 _) rfl) rfl (AOL.Aag (Fk rfl rfl) rfl (AOL.nil (Aa ?_)));refine Qh.cond (b:=_) rfl (fun hc2=>?_) (fun hc2=>?_)
 . rw [hs] at hc2;cases hc2
 refine Qh.skip ?_;refine Aa ?_;refine Qh.seq ?_;refine Qh.region ?_;refine AOL.Aag (Ae (v:=.sl _ _) rfl) rfl (AOL.Aag (C3 (l:=[_,.int .i64 _]) Ai rfl rfl rfl) rfl (AOL.Aag (Bt (v:=.agg _) (cs:=[_,.int .i64 _]) rfl rfl rfl) rfl (AOL.Aag (Ag (v:=.ptr _) rfl) rfl (AOL.nil (Aa ?_)))));refine Qh.seq ?_;refine Qh.region ?_;refine AOL.e (Bh (l:=[.val (.slice none 0 0)]) (by kernel_rfl)) rfl ?_;rintro _ _ ⟨b9,rfl,rfl⟩;refine AOL.ghost (GS.buf 43 5) ?_;refine AOL.nil (Aa ?_);refine Qh.seq ?_;refine Qh.seq ?_;refine Qh.region ?_;refine AOL.Aag (Ae (v:=.ptr _) rfl) rfl (AOL.Aag (Ah (l:=[.int .i64 _,_,.int .i64 _,.int .i64 _,.int .i64 _,.int .i64 _,.int .i64 _,_,.int .i64 _,.int .i64 _,.int .i64 _,.int .i64 _,.int .i64 _,.str _]) Ai rfl rfl rfl rfl rfl) rfl ?_);refine AOL.Aag (Ak (by kernel_rfl) rfl rfl (uF L p)) rfl ?_;refine AOL.nil (Aa ?_);refine Qh.block ?_;refine Qh.range (fun H2=>∃(q:QB) (H3:List HO),H2=(WB b9 q++H3)/\q.2=(B6 L p [] 0)/\Y7 q/\H3=H) (fun _ _=>False) rfl (by kernel_rfl) (fun rec l g1 w1 hst hpe hps has hbo hsz htm=>?_) (fun H2 hZ=>?_) (fun _ _ h=>h.elim)
 .
  refine Cb.post (sU hL hq [] 0 ⟨cC L,.nil,fun x hx=>(by cases hx),Bn _⟩ l rec (by rw [hps];rfl) (fun pre Hx=>∃(q:QB) (H3:List HO),Hx=(.obj l (.loop rec) :: .since g1 w1::WB b9 q++H3)/\q.2=pre/\Y7 q/\H3=H) (by rintro pre _ ⟨q,H3,rfl,_⟩;exact ⟨0,rfl⟩) ?_ _ ⟨(none,[]),H,rfl,rfl,rfl,rfl⟩) ?_
  .
   rintro F pre f post _ he ⟨⟨qx,qe⟩,H3,rfl,rfl,hok,rfl⟩;have hlen:qe.length+1<=4096:=by have h8:=congrArg List.length he;simp only [Do,Eb] at h8;clear hsz htm has hbo hps;omega
   have hqe:(qe.map fun f=>C6 f.d).length=qe.length:=B1 ..;refine rr2 (W:=WB b9) (x:=(qx,qe)) (Q:=fun q H4=>q.2=qe ++ [f]/\Y7 q/\H4=H3) ?_;refine eZ has hbo hst hpe hsz (R0 hps hsz rfl ⟨1,rfl⟩ htm) ?_;clear hsz htm;refine rL hok fun qa qc=>?_
   refine Qi.region (by kernel_rfl) ?_;refine AOL.e (Bh (l:=[.int .i64 0,.int .i64 0,.int .i64 0,.int .i64 0,.sl 5 [],.sl 2 []]) (by kernel_rfl)) rfl ?_;rintro _ _ ⟨b10,rfl,rfl⟩;refine AOL.e (Ao (k:=0) (v:=.agg _) (cs':=[.int .i64 _,.int .i64 _,.int .i64 _,.int .i64 _,_,_]) (H2:=_::_::_::_::_::_) Ai rfl rfl rfl rfl (rfl) rfl rfl rfl rfl) rfl ?_;rintro _ _ ⟨rfl,rfl⟩;refine AOL.ghost (GS.Aaj (t:=10) 0 rfl rfl) ?_;refine AOL.nil ?_;refine ⟨rfl,0,rfl,?_⟩;refine Qi.block ?_;refine Qi.draw mixed (fun H'=>_∈H') (A0 (i:=3) rfl) (by kernel_rfl) ?_;refine E5.pure _ _ 0 _ _ rfl (by kernel_rfl) (by kernel_rfl) rfl (.run rfl (OpP.Aan (fun k=>Br (k:=k) (c:=.val _) Ai rfl rfl rfl rfl) (fun _ h=>h))) ?_;refine E5.pure _ _ 1 _ _ rfl (by kernel_rfl) (by kernel_rfl) rfl (.run rfl (Ad (cs':=[.int .i64 _,.int .i64 _,.int .i64 _,.int .i64 _,_,_]) Ai rfl rfl rfl rfl rfl rfl)) ?_;refine E5.pure _ _ 2 _ _ rfl (by kernel_rfl) (by kernel_rfl) rfl (.run rfl (Ah (l:=[.int .i64 _,.int .i64 _,.int .i64 _,.int .i64 _,_]) Ai rfl rfl rfl rfl rfl)) ?_;refine E5.pure _ _ 3 _ _ rfl (by kernel_rfl) (by kernel_rfl) rfl (.run rfl (E6 Ai rfl rfl rfl)) ?_;refine E5.pure _ _ 4 _ _ rfl (by kernel_rfl) (by kernel_rfl) rfl (.run rfl (We Ai rfl rfl rfl rfl rfl rfl rfl rfl rfl)) ?_;refine E5.sync (fun _=>True) _ _ 5 _ _ rfl (by kernel_rfl) rfl rfl (Xw (k:=2) Ai rfl rfl rfl rfl rfl rfl rfl rfl rfl (by rw [hqe];show (qe.length+1)*56<=_;omega) (by rw [hqe];simp [maxLen];omega)) (by kernel_rfl) (fun _ _ _=>trivial) ?_;rintro _ _ ⟨bq,capq,Jq,rfl,hq4,rfl⟩;refine E5.pure _ _ 6 _ _ rfl (by kernel_rfl) (by kernel_rfl) rfl (.run rfl (A8 (o':=qe.length*5) Ai rfl rfl rfl rfl rfl (by omega) (by show ((qe.length:Nat):Int)<(((qe.map fun f=>C6 f.d).length+1:Nat):Int);rw [hqe];omega) (by show 0+((qe.length:Nat):Int).toNat*5=_;rw [Jy,Cg]))) ?_;refine E5.two _ _ 7 8 _ _ _ _ rfl rfl (by kernel_rfl) rfl rfl rfl rfl (Ao (k:=2) (v:=.agg _) (cs':=(((qe.map fun f=>C6 f.d) ++ [cD f.d]).flatten++Jq)) (H2:=_::_::_::_::_) Ai rfl rfl rfl rfl rfl rfl (Z7 (by rw [hqe]) hq4.2.2.2) (fZ (by rw [hqe]) hq4.2.2.2 rfl) rfl) (Ao (k:=3) (v:=.val _) (cs':=[_]) (H2:=_::_::_::_::_) Ai rfl rfl rfl rfl (rfl) rfl rfl rfl rfl) (by rintro _ _ ⟨rfl,rfl⟩;trivial) (by rintro _ _ ⟨rfl,rfl⟩;trivial) ?_ ?_
   .
    rintro _ _ ⟨rfl,rfl⟩;refine E5.eff _ _ 8 _ _ rfl (by kernel_rfl) rfl rfl (Ao (k:=3) (v:=.val _) (cs':=[_]) (H2:=_::_::_::_::_) Ai rfl rfl rfl rfl (rfl) rfl rfl rfl rfl) (fun _ _ _=>trivial) ?_;rintro _ _ ⟨rfl,rfl⟩;refine E5.done _ _ (by kernel_rfl) ?_;refine C9 ?_;exact ⟨0,rfl,rfl,rfl,(some (bq,capq,Jq),qe ++ [f]),H3,congrArg (fun X:List HO=>(.obj l (.loop rec) :: .since g1 w1::X:List HO)) rK,rfl,by rw [hqe] at hq4;exact ⟨by simp,by simpa using hq4.1,hq4.2.1,by simpa using hq4.2.2.1⟩,rfl⟩
   rintro _ _ ⟨rfl,rfl⟩;refine E5.eff _ _ 7 _ _ rfl (by kernel_rfl) rfl rfl (Ao (k:=2) (v:=.agg _) (cs':=(((qe.map fun f=>C6 f.d) ++ [cD f.d]).flatten++Jq)) (H2:=_::_::_::_::_) Ai rfl rfl rfl rfl rfl rfl (Z7 (by rw [hqe]) hq4.2.2.2) (fZ (by rw [hqe]) hq4.2.2.2 rfl) rfl) (fun _ _ _=>trivial) ?_;rintro _ _ ⟨rfl,rfl⟩;refine E5.done _ _ (by kernel_rfl) ?_;refine C9 ?_;exact ⟨0,rfl,rfl,rfl,(some (bq,capq,Jq),qe ++ [f]),H3,congrArg (fun X:List HO=>(.obj l (.loop rec) :: .since g1 w1::X:List HO)) rK,rfl,by rw [hqe] at hq4;exact ⟨by simp,by simpa using hq4.1,hq4.2.1,by simpa using hq4.2.2.1⟩,rfl⟩
  rintro r K ⟨rfl,q,H3,rfl,hk⟩;exact ⟨_,.refl _,rec,_,rfl,by rw [hst];decide,Or.inl ⟨hpe,q,H3,rfl,hk⟩⟩
 obtain ⟨⟨qx,qe⟩,H3,rfl,hq2,hok,rfl⟩:=hZ;simp only at hq2;have hen2:qe.length<=4096:=by rw [hq2];exact hen
 have hsq:∀f∈qe,M4 f.d<=4096:=fun f hf=>hsz9 f (by rw [<-hq2];exact hf)
 cases qx with
 | none=>
  simp only [Y7] at hok;subst hok;refine C9 (Aa ?_);refine Qh.seq ?_;refine Qh.seq ?_;refine Qh.region ?_;refine AOL.Aag (Ae (v:=.ptr _) rfl) rfl ?_;refine AOL.Aag (B4 rfl) rfl ?_;refine AOL.Aag (Ad (cs':=[.int .i64 _]) Ai rfl rfl rfl rfl rfl rfl) rfl ?_;refine AOL.Aag (Af (c:=.int .i64 _) Ai rfl rfl rfl) rfl ?_;refine AOL.Aag (Gy rfl rfl) rfl ?_;refine AOL.nil (Aa ?_);refine Qh.cond (b:=_) rfl (fun hc3=>?_) (fun hc3=>?_)
  . cases hc3
  refine Qh.skip ?_;refine Aa ?_;refine Qh.seq ?_;refine Qh.seq ?_;refine Qh.region ?_;refine AOL.Aam (Br (k:=1) (c:=.val _) Ai rfl rfl rfl rfl) rfl rfl ?_;refine AOL.Aag (E6 Ai rfl rfl rfl) rfl ?_;refine AOL.Aag (Ae (v:=.int .i64 _) rfl) rfl ?_;refine AOL.nil (Aa ?_);refine Qh.block ?_;refine Qh.loopS (fun (_:Unit)=>(⟨[(9,.val (.pointer (some ⟨b9,0,none⟩))),(42,.val (.slice none 0 0)),(43,.int .i64 0),(44,.int .i64 0)],.buf (.slice none 0 0) [] 43 5 :: .box b9 35 [.val (.slice none 0 0)]::H3,55⟩:St)) (fun (_:Unit)=>True) (fun (_:Unit)=>0) (()) ?_ (GS.weaken ⟨rfl,rfl,rfl,rfl,trivial⟩ (.refl _)) ?_
  . trivial
  rintro _ _;refine Qh.seq ?_;refine Qh.region ?_;refine AOL.Aag (B9 rfl rfl) rfl ?_;refine AOL.nil (Aa ?_);refine Qh.seq ?_;refine Qh.cond (b:=_) rfl (fun hc4=>?_) (fun hc4=>?_)
  . cases hc4
  refine Qh.exit ?_;refine A1 (A1 (Cd (Aa ?_)));refine Qh.seq ?_;refine Qh.region ?_;refine AOL.Aam (Br (k:=1) (c:=.val _) Ai rfl rfl rfl rfl) rfl rfl ?_;refine AOL.Aag (Ak (by kernel_rfl) rfl rfl (bA 23)) rfl ?_;refine AOL.nil (Aa ?_);refine Qh.seq ?_;refine Qh.region ?_;refine AOL.Aam (Br (k:=1) (c:=.val _) Ai rfl rfl rfl rfl) rfl rfl ?_;refine AOL.ghost (GS.freezeBuf (t:=54) 0 rfl rfl) ?_;refine AOL.Aag (Ag (v:=.sl _ _) rfl) rfl ?_;refine AOL.Aag (Ag (v:=.int .i64 _) rfl) rfl ?_;refine AOL.nil (Aa ?_);refine Qh.ret ?_;refine ⟨.inr rfl,[.sl _ _,.int .i64 _],.cons (.tmp _ _ rfl) <| .cons (.tmp _ _ rfl) <| .nil,_,.cons _ (.refl _),?_⟩;exact ⟨⟨[],by rw [<-hq2];exact .refl _,.nil,rfl⟩,rfl⟩
 | some qx=>
  obtain ⟨bq,capq,Jq⟩:=qx;simp only [Y7] at hok;obtain ⟨hb0,hb1,hb2,hb4⟩:=hok;have hnil:qe≠[]:=Iw.1 hb0;have hqe:(qe.map fun f=>C6 f.d).length=qe.length:=B1 ..;refine C9 (Aa ?_);refine Qh.seq ?_;refine Qh.seq ?_;refine Qh.region ?_;refine AOL.Aag (Ae (v:=.ptr _) rfl) rfl ?_;refine AOL.Aag (B4 rfl) rfl ?_;refine AOL.Aag (Ad (cs':=[.int .i64 _]) Ai rfl rfl rfl rfl rfl rfl) rfl ?_;refine AOL.Aag (Af (c:=.int .i64 _) Ai rfl rfl rfl) rfl ?_;refine AOL.Aag (Gy rfl rfl) rfl ?_;refine AOL.nil (Aa ?_);refine Qh.cond (b:=_) rfl (fun hc5=>?_) (fun hc5=>?_)
  . cases hc5
  refine Qh.skip ?_;refine Aa ?_;refine Qh.seq ?_;refine Qh.seq ?_;refine Qh.region ?_;refine AOL.Aam (Br (k:=1) (c:=.val _) Ai rfl rfl rfl rfl) rfl rfl ?_;refine AOL.Aag (E6 Ai rfl rfl rfl) rfl ?_;refine AOL.Aag (Ae (v:=.int .i64 _) rfl) rfl ?_;refine AOL.nil (Aa ?_);refine Qh.block ?_;refine Qh.loopS (fun (k:Nat)=>(⟨[(9,.val (.pointer (some ⟨b9,0,none⟩))),(42,.val (.slice (some ⟨bq,0,none⟩) qe.length capq)),(43,.int .i64 qe.length),(44,.int .i64 (k:Int))],.box bq 43 ((qe.map fun f=>C6 f.d).flatten++Jq) :: .box b9 35 [.val (.slice (some ⟨bq,0,none⟩) qe.length capq)]::H3,55⟩:St)) (fun (k:Nat)=>k<=qe.length) (fun (k:Nat)=>qe.length-k) (0) ?_ (GS.weaken ⟨rfl,rfl,rfl,rfl,trivial⟩ (.refl _)) ?_
  . exact Bn _
  rintro k hk;refine Qh.seq ?_;refine Qh.region ?_;refine AOL.Aag (B9 rfl rfl) rfl ?_;refine AOL.nil (Aa ?_);refine Qh.seq ?_;refine Qh.cond (b:=_) rfl (fun hc6=>?_) (fun hc6=>?_)
  .
   have hkl:k<qe.length:=by have:=B2 hc6;omega
   refine (Fa (l:=qe) (k:=k) hkl).elim fun f hf=>?_
   have hlt:=Bj hf;have hfm:=A0 hf;have hz6:=hsq f hfm;refine Qh.skip ?_;refine Aa ?_;refine Qh.seq ?_;refine Qh.block ?_;refine Qh.seq ?_;refine Qh.region ?_;refine AOL.Aag (A8 (o':=k*5) Ai rfl rfl rfl rfl rfl (by omega) (by omega) (by show 0+((k:Nat):Int).toNat*5=_;rw [Jy,Cg])) rfl ?_;refine AOL.Aam (Cf (k:=0) (l:=cD f.d) Ai rfl rfl rfl (el_at Jq hf) rfl) rfl rfl ?_;refine AOL.e (Bh (l:=[.int .i64 0,.int .i64 0,.int .i64 0,.int .i64 0,.sl 5 []]) (by kernel_rfl)) rfl ?_;rintro _ _ ⟨b12,rfl,rfl⟩;refine AOL.e (Ao (k:=0) (v:=.agg _) (cs':=[.int .i64 _,.int .i64 _,.int .i64 _,.int .i64 _,_]) (H2:=_::_::_::_) Ai rfl rfl rfl rfl (rfl) rfl rfl rfl rfl) rfl ?_;rintro _ _ ⟨rfl,rfl⟩;refine AOL.ghost (GS.Aaj (t:=12) 0 rfl rfl) ?_;refine AOL.nil (Aa ?_);refine Qh.seq ?_;refine Qh.region ?_;refine AOL.Aag (Ah (l:=[.int .i64 _,.int .i64 _,.int .i64 _,.int .i64 _,_]) Ai rfl rfl rfl rfl rfl) rfl ?_;refine AOL.Aag (Ak (by kernel_rfl) rfl rfl (yC f.d (by omega))) rfl ?_;refine AOL.Aag (Gy rfl rfl) rfl ?_;refine AOL.nil (Aa ?_);refine Qh.cond (b:=_) rfl (fun hc7=>?_) (fun hc7=>?_)
   . have:=B2 hc7;omega
   refine Qh.skip ?_;refine C9 (Aa ?_);refine Qh.region ?_;refine AOL.Aag (Cc rfl rfl rfl (by constructor <;> omega)) rfl ?_;refine AOL.Aag (Ae (v:=.int .i64 _) rfl) rfl ?_;refine AOL.nil (Aa ?_);refine ⟨k+1,?_,?_,GS.weaken ⟨rfl,rfl,rfl,rfl,trivial⟩ (.refl _)⟩
   . exact hlt
   omega
  refine Qh.exit ?_;refine A1 (A1 (Cd (Aa ?_)));refine Qh.seq ?_;refine Qh.ghost (GS.trans (GS.boxBuf (H2:=_::_) (z:=5) (m:=qe.length) (cap:=capq) (es:=qe.map fun f=>C6 f.d) 0 rfl rfl hqe.symm (fun e he=>by obtain ⟨x,_,rfl⟩:=B7.1 he;exact L4 _) hb4 hb1 hb2 rfl) (GS.heapTo (H2:=_::_) (congrArg (fun es=>HO.buf (.slice (some ⟨bq,0,none⟩) qe.length capq) es 43 5::HO.box b9 35 [.val (.slice (some ⟨bq,0,none⟩) qe.length capq)]::H3) (tZ qe)))) ?_;refine Qh.region ?_;refine AOL.Aam (Br (k:=1) (c:=.val _) Ai rfl rfl rfl rfl) rfl rfl ?_;refine AOL.e (C2 (by kernel_rfl) rfl rfl ((tP (qe.map fun f=>f.d) (by simpa using hnil) (by rw [B1];omega) _ _))) rfl ?_;rintro _ _ ⟨rfl,l',hp1,hp2,rfl⟩;refine AOL.nil (Aa ?_);refine Qh.seq ?_;refine Qh.region ?_;refine AOL.Aam (Br (k:=1) (c:=.val _) Ai rfl rfl rfl rfl) rfl rfl ?_;refine AOL.ghost (GS.freezeBuf (t:=54) 0 rfl rfl) ?_;refine AOL.Aag (Ag (v:=.sl _ _) rfl) rfl ?_;refine AOL.Aag (Ag (v:=.int .i64 _) rfl) rfl ?_;refine AOL.nil (Aa ?_);refine Qh.ret ?_;refine ⟨.inr rfl,[.sl _ _,.int .i64 _],.cons (.tmp _ _ rfl) <| .cons (.tmp _ _ rfl) <| .nil,_,.cons _ (.refl _),?_⟩;exact ⟨⟨l',by rw [<-hq2];exact hp1,hp2,rfl⟩,rfl⟩
theorem Qj {P:Program}{T:List (Nat×TD)}{d:Option Nat}{ty:TypeId}{pos:String}{aft:Array Edge}{gd:Option (Nat×Bool)}{ρ:Operand->AV}{x y:Operand}{t e k z:Nat}{td te:TD}{v:Value}{es:List (List AV)}{c:List AV}{H:List HO}(hT:G9 P T)(hx:ρ x = .val v)(hy:ρ y = .sl z [c])(ht:Bp T t=some td)(hk:td.kind = .slice e)
  (hte:Bp T e=some te) (hz:te.size=z) (hp:Nat.blt 0 z=true) (hH:H[k]? = some (.buf v es e z)) (hs:Bm c=true) (hb:(es.length+1)*te.bytes<=140737488355328) (hm:es.length+1<=maxLen) :
  Jj P ⟨d,.call ⟨.builtin .append,#[x,y],#[t,t]⟩,ty,pos,aft,gd⟩ ρ H (fun r H'=>∃a cap,r = .val (.slice a (es.length+1) cap)/\H'=H.set k (.buf (.slice a (es.length+1) cap) (es ++ [c]) e z)):=by
 intro g w a next Q hr hHK hn
 refine Tg hT hx hy ht hk hte hz hp hH hs hb hm g w a next Q hr hHK ?_
 rintro g' w' u r H' ⟨v',rfl,rfl⟩ hrep hok hext;have hkl:k<H.length:=(List.getElem?_eq_some_iff.1 hH).1;have hget:(H.set k (.buf v' (es ++ [c]) e z))[k]? = some (.buf v' (es ++ [c]) e z):=by rw [List.getElem?_set,if_pos rfl,if_pos hkl]
 have hll:(es ++ [c]).length=es.length+1:=by simp
 have h1:=hok.ok _ (A0 hget);rcases h1 with ⟨_,e2⟩ | ⟨b,cap,cur,e1,_⟩
 . simp at e2
 rw [hll] at e1;subst e1;exact hn g' w' u _ _ ⟨some ⟨b,0,none⟩,cap,rfl,rfl⟩ hrep hok hext
def I1 (f:List Pr):List AV:=[.sl 2 (f.map Ct)]
abbrev QS:=(Option Addr×Nat)×List (List Pr)
def WS (b9 bm b8:Nat)(q:QS):List HO:=[.buf (.slice q.1.1 q.2.length q.1.2) (q.2.map I1) 121 1,.smap bm (T2 (q.2.map Lr)),.box b9 118 [.val (.slice q.1.1 q.2.length q.1.2)],.box b8 118 [.val (.slice none 0 0)]]
theorem ws_end {a:Option Addr}{c:Nat}{es:List (List Pr)}{f:List Pr}{b9 bm b8:Nat}{X:List HO}:(.buf (.slice a ((es.map I1).length+1) c) (es.map I1 ++ [I1 f]) 121 1 :: .smap bm (T2 (es.map Lr ++ [Lr f])) :: .box b9 118 [.val (.slice a ((es.map I1).length+1) c)] :: .box b8 118 [.val (.slice none 0 0)]::X:List HO)=WS b9 bm b8 ((a,c),es ++ [f])++X:=by
 have e1:(es ++ [f]).map I1=es.map I1 ++ [I1 f]:=by rw [Cy,Ok]
 have e2:(es.map I1).length+1=(es ++ [f]).length:=by simp
 have e3:(es ++ [f]).map Lr=es.map Lr ++ [Lr f]:=by rw [Cy,Ok]
 unfold WS;simp only [e1,e2,e3];rfl
theorem uI {en pre post:List (List Pr)}{f:List Pr}(h:(en.map Lr).Nodup)(he:en=pre++f::post):(pre.map Lr).contains (Lr f)=false:=by
 rw [he,Cy,Ba,List.nodup_append] at h;rw [Bool.eq_false_iff];intro hc;rw [List.contains_iff_mem] at hc;exact h.2.2 _ hc _ (Fs ..) rfl
theorem kZ  : Al Tryz.prog 104 [] (.agg [.fn (.func 137) [] [],.fn (.func 138) [] [],.fn (.func 139) [] [],.fn (.func 140) [] [],.fn (.func 141) [] [],.fn (.func 142) [] [],.fn (.func 142) [] [],.fn (.func 142) [] []]):=by
 refine Al.body (n:=2) Ai Tryz.func104 rfl rfl rfl fun H=>?_
 refine AW.seq (AW.region ?_);refine AOL.e (Bh (l:=[.val .nilFunc,.val .nilFunc,.val .nilFunc,.val .nilFunc,.val .nilFunc,.val .nilFunc,.val .nilFunc,.val .nilFunc]) (by kernel_rfl)) rfl ?_;rintro _ _ ⟨b0,rfl,rfl⟩;refine AOL.nil (Aa (AW.seq (AW.region (AOL.Aag (Ij (l:=[_,_,_,_,_,_,_,_]) Ai rfl rfl rfl rfl) rfl (AOL.e (Ao (k:=0) (v:=.agg _) (cs':=[_,_,_,_,_,_,_,_]) (H2:=_::_) Ai rfl rfl rfl rfl (rfl) rfl rfl rfl rfl) rfl ?_)))));rintro _ _ ⟨rfl,rfl⟩;refine AOL.nil (Aa (AW.ret ?_));refine ⟨.inr rfl,[.agg [_,_,_,_,_,_,_,_]],.cons (.box _ _ _ 0 _ _ _ _ rfl rfl rfl rfl rfl rfl) <| .nil,.cons _ (.refl _),?_⟩;rfl
theorem xC (L:List Ev)(p:Pt)(o:List Pr)(n fo ff:Nat)(caps:List AV)(en:List (List Pr))(h0:0<=p.op)(h8:p.op<8)(hop:([.fn (.func 137) [] [],.fn (.func 138) [] [],.fn (.func 139) [] [],.fn (.func 140) [] [],.fn (.func 141) [] [],.fn (.func 142) [] [],.fn (.func 142) [] [],.fn (.func 142) [] []]:List AV)[p.op.toNat]? = some (.fn (.func fo) [] []))(hfo:Pe Tryz.prog fo=true)(hff:Pe Tryz.prog ff=true)
  (hfind:Al Tryz.prog fo [.ptr [.sl 5 (L.map Ec),.bool false],.agg (cPt p),.sl 2 (o.map Ct),.int .i64 (n:Int)] (.fn (.func ff) [] caps)) (hseq:xM ff caps en) (hk:∀f∈en,eB f/\f.length<=12) (hnd:(en.map Lr).Nodup) (hen:en.length<=12) (H:List HO):Cb Tryz.prog 62 H [.ptr [.sl 5 (L.map Ec),.bool false],.agg (cPt p),.sl 2 (o.map Ct),.int .i64 (n:Int)] (fun r H'=>r = .sl 1 (en.map I1)/\H'=H):=by
 refine Cb.bodyM (n:=48) Ai Tryz.func62 rfl rfl rfl fun N0=>?_
 refine Qh.seq ?_;refine Qh.region ?_;refine AOL.Aag (Bt (v:=.ptr _) (cs:=[_]) rfl rfl rfl) rfl (AOL.Aag (Bt (v:=.agg _) (cs:=[.int .i64 _,_,.int .i64 _,.int .i64 _,.int .i64 _,.int .i64 _,.int .i64 _,_,.int .i64 _,.int .i64 _,.int .i64 _,.int .i64 _,.int .i64 _,.str _]) rfl rfl rfl) rfl ?_);refine AOL.e (Bh (l:=[.val (.slice none 0 0)]) (by kernel_rfl)) rfl ?_;rintro _ _ ⟨b8,rfl,rfl⟩;refine AOL.nil (Aa ?_);refine Qh.seq ?_;refine Qh.region ?_;refine AOL.e (Bh (l:=[.val (.slice none 0 0)]) (by kernel_rfl)) rfl ?_;rintro _ _ ⟨b9,rfl,rfl⟩;refine AOL.nil (Aa ?_);refine Qh.seq ?_;refine Qh.region ?_;refine AOL.e (dZ) rfl ?_;rintro _ _ ⟨b14,rfl,rfl⟩;refine AOL.e (Bh (l:=[.val (.map none)]) (by kernel_rfl)) rfl ?_;rintro _ _ ⟨b10,rfl,rfl⟩;refine AOL.e (Ao (k:=0) (v:=.val _) (cs':=[_]) (H2:=_::_::_::_::_) Ai rfl rfl rfl rfl (rfl) rfl rfl rfl rfl) rfl ?_;rintro _ _ ⟨rfl,rfl⟩;refine AOL.ghost (GS.Aaj (t:=10) 0 rfl rfl) ?_;refine AOL.nil (Aa ?_);refine Qh.seq ?_;refine Qh.draw mixed (fun _=>True) trivial (by kernel_rfl) ?_;refine E5.pure _ _ 0 _ _ rfl (by kernel_rfl) (by kernel_rfl) rfl (.run rfl (Ak (by kernel_rfl) rfl rfl (kZ))) ?_;refine E5.pure _ _ 1 _ _ rfl (by kernel_rfl) (by kernel_rfl) rfl (.run rfl (Ad (cs':=[.int .i64 _,_,.int .i64 _,.int .i64 _,.int .i64 _,.int .i64 _,.int .i64 _,_,.int .i64 _,.int .i64 _,.int .i64 _,.int .i64 _,.int .i64 _,.str _]) Ai rfl rfl rfl rfl rfl rfl)) ?_;refine E5.pure _ _ 2 _ _ rfl (by kernel_rfl) (by kernel_rfl) rfl (.run rfl (Af (c:=.int .i64 _) Ai rfl rfl rfl)) ?_;refine E5.pure _ _ 3 _ _ rfl (by kernel_rfl) (by kernel_rfl) rfl (.run rfl (Gz (c:=(.fn (.func fo) [] [])) Ai rfl rfl rfl rfl rfl rfl rfl (h0) (h8) (hop))) ?_;refine E5.pure _ _ 4 _ _ rfl (by kernel_rfl) (by kernel_rfl) rfl (.run rfl (Ag (v:=.fn _ _ _) rfl)) ?_;refine E5.done _ _ (by kernel_rfl) ?_;refine Aa ?_;refine Qh.seq ?_;refine Qh.seq ?_;refine Qh.region ?_;refine AOL.Aag (Ae (v:=.fn _ _ _) rfl) rfl (AOL.Aag (Af (c:=.ptr _) Ai rfl rfl rfl) rfl (AOL.Aag (Ah (l:=[.int .i64 _,_,.int .i64 _,.int .i64 _,.int .i64 _,.int .i64 _,.int .i64 _,_,.int .i64 _,.int .i64 _,.int .i64 _,.int .i64 _,.int .i64 _,.str _]) Ai rfl rfl rfl rfl rfl) rfl (AOL.Aag (Ae (v:=.sl _ _) rfl) rfl (AOL.Aag (Ae (v:=.int .i64 _) rfl) rfl (AOL.Aag (Fy hfo rfl rfl rfl hfind) rfl ?_)))));refine AOL.ghost (GS.buf 121 1) ?_;refine AOL.nil (Aa ?_);refine Qh.block ?_;refine Qh.range (fun H2=>∃(q:QS) (H3:List HO),H2=(WS b9 b14 b8 q++H3)/\q.2=en/\H3=H) (fun _ _=>False) rfl hff (fun rec l g1 w1 hst hpe hps has hbo hsz htm=>?_) (fun H2 hZ=>?_) (fun _ _ h=>h.elim)
 .
  refine Cb.post (hseq l rec (by rw [hps];rfl) (fun pre Hx=>∃(q:QS) (H3:List HO),Hx=(.obj l (.loop rec) :: .since g1 w1::WS b9 b14 b8 q++H3)/\q.2=pre/\H3=H) (by rintro pre _ ⟨q,H3,rfl,_⟩;exact ⟨0,rfl⟩) ?_ _ ⟨((none,0),[]),H,rfl,rfl,rfl⟩) ?_
  .
   rintro F pre f post _ he ⟨⟨⟨qa,qc⟩,qe⟩,H3,rfl,rfl,rfl⟩;simp only at he;have hlen:qe.length+1<=12:=by have h8:=congrArg List.length he;simp only [Do,Eb] at h8;clear hsz htm has hbo hps;omega
   have hnew:=uI hnd he;have hfm:f∈en:=by rw [he];simp
   have hql:(qe.map I1).length=qe.length:=B1 ..;refine rr2 (W:=WS b9 b14 b8) (x:=((qa,qc),qe)) (Q:=fun q H4=>q.2=qe ++ [f]/\H4=H3) ?_;refine eZ has hbo hst hpe hsz (R0 hps hsz rfl ⟨1,rfl⟩ htm) ?_;clear hsz htm;refine Qi.region (by kernel_rfl) ?_;refine AOL.Aag (Ag (v:=.sl _ _) rfl) rfl (AOL.nil ?_);refine ⟨rfl,0,rfl,?_⟩;refine Qi.block ?_;refine Qi.seq ?_;refine Qi.region (by kernel_rfl) ?_;refine AOL.Aag (Ae (v:=.sl _ _) rfl) rfl ?_;refine AOL.Aag (Ak (by kernel_rfl) rfl rfl (s_key f (hk f hfm).1 (hk f hfm).2)) rfl ?_;refine AOL.Aag (Ag (v:=.str _) rfl) rfl (AOL.nil (Aa ?_));refine Qi.seq ?_;refine Qi.seq ?_;refine Qi.region (by kernel_rfl) ?_;refine AOL.Aag (Af (c:=.val _) Ai rfl rfl rfl) rfl (AOL.Aag (Ae (v:=.str _) rfl) rfl ?_);refine AOL.Aam (jL (i:=3) (ks:=qe.map Lr) Ai rfl rfl rfl rfl rfl (by kernel_rfl) rfl rfl rfl) rfl rfl ?_;refine AOL.nil (Aa ?_);refine Qi.cond (b:=_) rfl (fun hc1=>?_) (fun hc1=>?_)
   . rw [hnew] at hc1;cases hc1
   refine Qi.skip ?_;refine Aa ?_;refine Qi.seq ?_;refine Qi.region (by kernel_rfl) ?_;refine AOL.Aag (Af (c:=.val _) Ai rfl rfl rfl) rfl (AOL.Aag (Ae (v:=.str _) rfl) rfl (AOL.e (lP (i:=3) (H2:=_::_::_::_::_::_::_) Ai rfl rfl rfl rfl rfl rfl rfl rfl (hnew) rfl) rfl ?_));rintro _ _ ⟨rfl,rfl⟩;refine AOL.nil (Aa ?_);refine Qi.seq ?_;refine Qi.seq ?_;refine Qi.region (by kernel_rfl) ?_;refine AOL.Aam (Br (k:=4) (c:=.val _) Ai rfl rfl rfl rfl) rfl rfl (AOL.Aag (Ae (v:=.sl _ _) rfl) rfl (AOL.Aag (Bw (es:=[[_]]) Ai rfl rfl rfl rfl rfl rfl rfl rfl rfl) rfl ?_));refine AOL.e (Qj (k:=2) (c:=I1 f) Ai rfl rfl rfl rfl rfl rfl rfl rfl rfl (by rw [hql];show (qe.length+1)*24<=_;omega) (by rw [hql];simp only [maxLen];omega)) rfl ?_;rintro _ _ ⟨a36,c36,rfl,rfl⟩;refine AOL.e (Ao (k:=4) (v:=.val _) (cs':=[_]) (H2:=_::_::_::_::_::_::_) Ai rfl rfl rfl rfl (rfl) rfl rfl rfl rfl) rfl ?_;rintro _ _ ⟨rfl,rfl⟩;refine AOL.nil (Aa ?_);refine Qi.seq ?_;refine Qi.region (by kernel_rfl) ?_;refine AOL.Aam (Br (k:=4) (c:=.val _) Ai rfl rfl rfl rfl) rfl rfl (AOL.Aag (E6 Ai rfl rfl rfl) rfl (AOL.Aag (Gy rfl rfl) rfl (AOL.nil (Aa ?_))));refine Qi.cond (b:=_) rfl (fun hc2=>?_) (fun hc2=>?_)
   . have h9:=B2 hc2;simp only [B1] at h9;omega
   refine Qi.skip ?_;refine Aa ?_;refine Qi.seq ?_;refine Qi.region (by kernel_rfl) ?_;refine AOL.Aag (Af (c:=.ptr _) Ai rfl rfl rfl) rfl (AOL.Aag (B4 rfl) rfl (AOL.Aag (Ad (cs':=[.bool _]) Ai rfl rfl rfl rfl rfl rfl) rfl (AOL.Aag (Af (c:=.bool _) Ai rfl rfl rfl) rfl (AOL.nil (Aa ?_)))));refine Qi.cond (b:=_) rfl (fun hc3=>?_) (fun hc3=>?_)
   . cases hc3
   refine Qi.skip ?_;refine C9 ?_;exact ⟨0,rfl,rfl,rfl,((a36,c36),qe ++ [f]),H3,congrArg (fun X:List HO=>(.obj l (.loop rec) :: .since g1 w1::X:List HO)) ws_end,rfl,rfl⟩
  rintro r K ⟨rfl,q,H3,rfl,hk⟩;exact ⟨_,.refl _,rec,_,rfl,by rw [hst];decide,Or.inl ⟨hpe,q,H3,rfl,hk⟩⟩
 obtain ⟨⟨⟨qa,qc⟩,qe⟩,H3,rfl,hq2,rfl⟩:=hZ;simp only at hq2;subst hq2;refine C9 (Aa ?_);refine Qh.seq ?_;refine Qh.region ?_;refine AOL.Aam (Br (k:=2) (c:=.val _) Ai rfl rfl rfl rfl) rfl rfl ?_;refine AOL.ghost (GS.freezeBuf (t:=47) 0 rfl rfl) ?_;refine AOL.e (Ao (k:=2) (v:=.sl _ _) (cs':=[_]) (H2:=_::_::_::_) Ai rfl rfl rfl rfl (rfl) rfl rfl rfl rfl) rfl ?_;rintro _ _ ⟨rfl,rfl⟩;refine AOL.nil (Aa ?_);refine Qh.ret ?_;refine ⟨.inr rfl,[_],.cons (.boxs _ _ _ 2 _ _ _ rfl _ rfl rfl rfl) <| .nil,_,.cons _ (.cons _ (.cons _ (.refl _))),?_⟩;exact ⟨rfl,rfl⟩
theorem Qi.regionYk {lr:Nat}{P:Program}{Q:Exit->St->Prop}{s:St}{id:Nat}{ops:Array Oper}(k:Nat){d:Nat}{cal:Operand}{args:Array Operand}{ats:Array TypeId}{ty:TypeId}{pos:String}{aft:Array Edge}
  (hops:ops.toList[k]? = some ⟨some d,.call ⟨.value cal,args,ats⟩,ty,pos,aft,none⟩) (hnd:G6 (ops.toList.take k)=true) (hnd2:G6 (ops.toList.drop (k+1))=true)
  (h:AOL P ops (fun s'=>∃l rec R,(∃i:Nat,s'.H[i]? = some (HO.obj l (Obj.loop rec)))/\Dn s'.sl cal = .val (.func (.yield l) #[] #[])/\args.size=rec.params.size/\J5 (some d) s'.n=true/\
   Dp P l rec s'.H (args.toList.map (Dn s'.sl)) R/\∀x H',R x H'->AOL P ops (Q .normal) (ops.toList.drop (k+1)) ⟨Dy (some d) x s'.sl,H',s'.n⟩) (ops.toList.take k) s):Qi lr P (.region id ops false) Q s:=by
 obtain ⟨hlt,he⟩:=List.getElem?_eq_some_iff.1 hops;have hops':ops.toList=ops.toList.take k++⟨some d,.call ⟨.value cal,args,ats⟩,ty,pos,aft,none⟩::ops.toList.drop (k+1):=by rw [<-he,List.getElem_cons_drop,Iv]
 generalize ops.toList.take k=pre at hops' hnd h;generalize ops.toList.drop (k+1)=post at hops' hnd2 h;intro n Q' g a w hG hQ;refine wpIn_region_list ?_;rw [hops'];refine Dm pre _ a w (E2 hnd) ?_;refine h.run _ g a w hG ?_;rintro g' s' a' w' hG' hx ⟨l,rec,R,⟨i,hi⟩,hcal,hlen,hd,hr,hk⟩;show wpListIn _ n P ops Q' (_::post) a' w';unfold wpListIn;rw [if_pos (Eg rfl)];refine ⟨fun _ _=>trivial,?_⟩;have hobj:(HO.obj l (.loop rec)).ok g' w':=hG'.heap.ok _ (A0 hi);have hv:a'.eval cal = .func (.yield l) #[] #[]:=(hcal▸hG'.eval cal:Rep g' w' _ _).inv_val;have hargs:Cv g' w' (args.map a'.eval) (args.toList.map (Dn s'.sl)):=Kc (ρ:=Dn s'.sl) (a:=a') (g:=g') (w:=w') (args:=args) (fun y _=>hG'.eval y) rfl
 have hrun:(execOp a'.eval ⟨some d,.call ⟨.value cal,args,ats⟩,ty,pos,aft,none⟩).run P w' = .ok (.round l rec.fn ((rec.params.zip (args.map a'.eval)).foldl (fun t (p,v)=>t.setIfInBounds p v) rec.tmps) rec.assign rec.body) w':=by
  have hy:=run_yield (P:=P) (args:=args.map a'.eval) hobj.2 (by simpa using hlen);simp only [execOp,resolve,Sem.run_bind,hv,Deferred.ofValue,Sem.run_pure,Result.andThen_ok,invoke];simpa using hy
 rw [Oper.semAt_eq _ _ _ (fun c e=>by cases e),hrun];refine ⟨fun e=>(by cases e),RoundIn.mono (hr (n-1) g' w' _ hG'.heap hargs) ?_⟩;rintro e w'' ⟨v,g'',r,H',rfl,k1,k2,k3,k4⟩;have hpost:=hk r H' k4;have:=Dm (ro:=some lr) (n:=n) (Q:=Q') post [] _ w'' (E2 hnd2) (hpost.run _ g'' _ w'' (hG'.put k3 hd k1 k2) fun g3 s3 a3 w3 h1 h2 h3=>hQ _ g3 s3 a3 w3 h1 ((hx.trans k3).trans h2) h3);simpa using this
theorem sE {P:Program}{o:Oper}{ds:List Deferred}{Q Q':Exit->Act->World->Prop}{K K':Act->World->Prop}(hQ:∀e a w,Q e a w->Q' e (Act.Aak a ds) w)(hK:∀a w,K a w->K' (Act.Aak a ds) w){a:Act}{w:World}(h:o.wp P a w K Q):o.wp P (Act.Aak a ds) w K' Q':=by
  have hL:LetsOut Q->LetsOut Q':=fun ⟨a,w,h⟩=>⟨_,w,hQ _ a w h⟩
  unfold Oper.wp at h ⊢;rw [Kv];generalize (execOp a.eval o).run P w=r at h ⊢;cases r with
  | ok x w'=>
    cases x with
    | value v=>show K' _ w';rw [Gs];exact hK _ _ h
    | skip=>show K' _ w';rw [Gs];exact hK _ _ h
    | defer d=>
      have:=hK _ _ h;rw [<-Gs] at this;exact this
    | enter f args=>
      have h':Calls P f args w' _:=h;show Calls P f args w' _;refine h'.mono ?_;intro e w'' hr;cases e with
      | returned v=>show K' _ w'';rw [Gs];exact hK _ _ hr
      | panicked c=>exact hQ _ _ _ hr
      | outgrown=>exact hL hr
    | row row args=>
      have h':Rows P row args w' _:=h;show Rows P row args w' _;exact h'.mono fun v w'' hr=>by rw [Gs];exact hK _ _ hr
    | _=>exact h.elim
  | halt e w'=>
    cases e with
    | panic v=>exact hQ _ _ _ h
    | _=>exact h.elim
theorem Qt {P:Program}{ops:Array Oper}{ds:List Deferred}{Q Q':Exit->Act->World->Prop}(hQ:∀e a w,Q e a w->Q' e (Act.Aak a ds) w):∀(l:List Oper) (a:Act) (w:World),fW P ops Q l a w->fW P ops Q' l (Act.Aak a ds) w
  | [],a,w,h=>hQ _ _ _ h
  | o::r,a,w,h=>by
    unfold fW at h ⊢;have ht:yielded ops (Act.Aak a ds).tmps=yielded ops a.tmps:=rfl;rw [ht];by_cases hw:Region.wanted o (yielded ops a.tmps)=true
    . rw [if_pos hw] at h ⊢
      exact sE hQ (fun a w h=>Qt hQ r a w h) h
    . rw [if_neg hw] at h ⊢
      rw [Gs];exact Qt hQ r _ _ h
theorem Qh.regionYg {N0:Nat}{P:Program}{Q:Exit->St->Prop}{s:St}{id:Nat}{ops:Array Oper}(k:Nat){d:Nat}{cal:Operand}{args:Array Operand}{ats:Array TypeId}{ty:TypeId}{pos:String}{aft:Array Edge}{gd:Option (Nat×Bool)}
  (hops:ops.toList[k]? = some ⟨some d,.call ⟨.value cal,args,ats⟩,ty,pos,aft,gd⟩) (hnd:G6 (ops.toList.take k)=true) (hnd2:G6 (ops.toList.drop (k+1))=true)
  (h:AOL P ops (fun s'=>∃G L,El ops ⟨some d,.call ⟨.value cal,args,ats⟩,ty,pos,aft,gd⟩ s'.sl=some G/\H9 G/\(∀p∈L,Zs G (get s'.sl p.1) p.2)/\∃l rec R,(∃i:Nat,s'.H[i]? = some (HO.obj l (Obj.loop rec)))/\Dn (L++s'.sl) cal = .val (.func (.yield l) #[] #[])/\args.size=rec.params.size/\J5 (some d) s'.n=true/\
   Dp P l rec s'.H (args.toList.map (Dn (L++s'.sl))) R/\∀x H',R x H'->AOL P ops (Q .normal) (ops.toList.drop (k+1)) ⟨Dy (some d) (.opt G x) s'.sl,H',s'.n⟩) (ops.toList.take k) s):Qh N0 P (.region id ops false) Q s:=by
 obtain ⟨hlt,he⟩:=List.getElem?_eq_some_iff.1 hops;have hops':ops.toList=ops.toList.take k++⟨some d,.call ⟨.value cal,args,ats⟩,ty,pos,aft,gd⟩::ops.toList.drop (k+1):=by rw [<-he,List.getElem_cons_drop,Iv]
 generalize ops.toList.take k=pre at hops' hnd h;generalize ops.toList.drop (k+1)=post at hops' hnd2 h;intro Q' g a w hG hQ;obtain ⟨D,a0,rfl,hG0,hD⟩:=hG;refine (wpIn_wide (n:=1)).1 ?_;rw [<-jD];refine wpIn_region_list ?_;rw [hops'];refine Dm pre _ _ w (E2 hnd) ?_;refine Qt (Q:=fun e a w=>match e with | .normal=>wpListIn { Fence.wide with round:=none } 1 P ops Q' (⟨some d,.call ⟨.value cal,args,ats⟩,ty,pos,aft,gd⟩::post) (Act.Aak a (D.map Ei)) w | e=>Q' e (Act.Aak a (D.map Ei)) w) (fun e a w h=>by cases e <;> exact h) _ _ _ (h.run _ g a0 w hG0 ?_);rintro g' s' a' w' hG' hx ⟨G,L,hgw,hg,hL,l,rec,R,⟨i,hi⟩,hcal,hlen,hd,hr,hk⟩;show wpListIn _ 1 P ops Q' (_::post) (Act.Aak a' (D.map Ei)) w';unfold wpListIn;rw [show yielded ops (Act.Aak a' (D.map Ei)).tmps=yielded ops a'.tmps from rfl,if_pos ((Hp (a:=a') hgw fun t _=>hG'.sl t).1 hg)];refine ⟨fun _ _=>trivial,?_⟩;have hobj:(HO.obj l (.loop rec)).ok g' w':=hG'.heap.ok _ (A0 hi);have hv:a'.eval cal = .func (.yield l) #[] #[]:=(hcal▸Ns hG' hg hL cal:Rep g' w' _ _).inv_val;have hargs:Cv g' w' (args.map a'.eval) (args.toList.map (Dn (L++s'.sl))):=Kc (ρ:=Dn (L++s'.sl)) (a:=a') (g:=g') (w:=w') (args:=args) (fun y _=>Ns hG' hg hL y) rfl
 have hrun:(execOp a'.eval ⟨some d,.call ⟨.value cal,args,ats⟩,ty,pos,aft,gd⟩).run P w' = .ok (.round l rec.fn ((rec.params.zip (args.map a'.eval)).foldl (fun t (p,v)=>t.setIfInBounds p v) rec.tmps) rec.assign rec.body) w':=by
  have hy:=run_yield (P:=P) (args:=args.map a'.eval) hobj.2 (by simpa using hlen);simp only [execOp,resolve,Sem.run_bind,hv,Deferred.ofValue,Sem.run_pure,Result.andThen_ok,invoke];simpa using hy
 rw [Oper.semAt_eq _ _ _ (fun c e=>by cases e),Kv,hrun];refine ⟨fun e=>(by cases e),(hr _ g' w' _ hG'.heap hargs).mono ?_⟩;rintro e w'' ⟨v,g'',r,H',rfl,k1,k2,k3,k4⟩;have hpost:=hk r H' k4;show wpListIn _ 1 P ops Q' post ((Act.Aak a' (D.map Ei)).put (some d) v) w'';rw [Gs];have:=Dm (ro:=none) (n:=1) (Q:=Q') post [] _ w'' (E2 hnd2) (Qt (ds:=D.map Ei) (Q:=fun e a w=>match e with | .normal=>wpListIn { Fence.wide with round:=none } 1 P ops Q' [] (Act.Aak a (D.map Ei)) w | e=>Q' e (Act.Aak a (D.map Ei)) w) (fun e a w h=>by cases e <;> exact h) _ _ _ (hpost.run _ g'' _ w'' (hG'.put k3 hd (.opt _ _ _ (fun _=>k1) (fun h=>absurd hg h)) k2) fun g3 s3 a3 w3 h1 h2 h3=>hQ _ g3 s3 _ w3 ⟨D,a3,rfl,h1,(hD.mono hx).mono (k3.trans h2)⟩ ((hx.trans k3).trans h2) h3));simpa using this
theorem wS:H9 [(false,false)]:=fun p hp=>by rw [F3] at hp;subst hp;rfl
theorem uM {X:HO}{H:List HO}(F:List HO)(h:∃i:Nat,H[i]? = some X):∃i:Nat,(F++H)[i]? = some X:=by
 obtain ⟨i,hi⟩:=h;exact ⟨F.length+i,by rw [List.getElem?_append_right (by omega),show F.length+i-F.length=i by omega];exact hi⟩
def fR (T:List Pr->List (List Pr))(A:List (List Pr)):List (List Pr):=A.flatMap fun s=>(T s).map (Ch s)
theorem vI {T:List Pr->List (List Pr)}{A:List (List Pr)}{i:Nat}{s:List Pr}(h:A[i]? = some s):fR T (A.take (i+1))=fR T (A.take i)++(T s).map (Ch s):=by
 rw [M6,h];unfold fR;rw [Nc];simp
theorem th_mid {T:List Pr->List (List Pr)}{A:List (List Pr)}{i j:Nat}{s t:List Pr}(h:A[i]? = some s)(ht:(T s)[j]? = some t):∃post,fR T A=(fR T (A.take i)++((T s).take j).map (Ch s))++Ch s t::post:=by
 have hi:i<A.length:=(List.getElem?_eq_some_iff.1 h).1;have hj:j<(T s).length:=(List.getElem?_eq_some_iff.1 ht).1;refine ⟨((T s).drop (j+1)).map (Ch s)++fR T (A.drop (i+1)),?_⟩
 have e1:A=A.take i++s::A.drop (i+1):=by
  conv=>lhs;rw [<-Iv i A]
  rw [R4 hi,(List.getElem?_eq_some_iff.1 h).2]
 have e2:T s=(T s).take j++t::(T s).drop (j+1):=by
  conv=>lhs;rw [<-Iv j (T s)]
  rw [R4 hj,(List.getElem?_eq_some_iff.1 ht).2]
 conv=>lhs;rw [e1]
 unfold fR;rw [Nc,G8]
 conv=>lhs;rw [e2]
 simp [Cs]
theorem vJ {T:List (List Pr)}{j:Nat}{s t:List Pr}(h:T[j]? = some t):(T.take (j+1)).map (Ch s)=(T.take j).map (Ch s) ++ [Ch s t]:=by
 rw [M6,h];simp
section
variable {l0:Nat} {rec0:Loop} {HK:List (List Pr)->List HO->Prop} {A B:List (List Pr)}
theorem pE {W F H3:List HO}{pre post:List (List Pr)}{f:List Pr}(hY:vV l0 rec0 (A++B) HK)(he:B=pre++f::post)(hk:HK (A++pre) H3):Dp Tryz.prog l0 rec0 (W++(F++H3)) [.sl 2 (f.map Ct)] (fun r H'=>r = .bool true/\∃H4,H'=W++(F++H4)/\HK (A++(pre ++ [f])) H4):=by
 have h:=hY (W++F) (A++pre) f post H3 (by rw [he,Cs]) hk;rw [Cs] at h;refine h.post ?_;rintro r K ⟨h1,H2,rfl,h2⟩;exact ⟨_,.refl _,h1,H2,by rw [Cs],by rw [<-Cs];exact h2⟩
theorem kP {i:Nat}{f:List Pr}{H3:List HO}(hY:vV l0 rec0 (A++B) HK)(hf:A[i]? = some f)(hk:HK (A.take i) H3):Dp Tryz.prog l0 rec0 H3 [.sl 2 (f.map Ct)] (fun r H'=>r = .bool true/\HK (A.take (i+1)) H'):=by
 have hi:i<A.length:=(List.getElem?_eq_some_iff.1 hf).1
 have h:=hY [] (A.take i) f (A.drop (i+1)++B) H3 (by
  rw [<-Lz,<-Cs]
  congr 1
  conv=>lhs;rw [<-Iv i A]
  rw [R4 hi,(List.getElem?_eq_some_iff.1 hf).2]) hk
 refine h.post ?_;rintro r K ⟨h1,H2,rfl,h2⟩;exact ⟨_,.refl _,h1,by rw [M6,hf];exact h2⟩
theorem qZ {T:List Pr->List (List Pr)}{i j:Nat}{s t:List Pr}{H3:List HO}(hY:vV l0 rec0 (fR T A) HK)(hs:A[i]? = some s)(ht:(T s)[j]? = some t)(hk:HK (fR T (A.take i)++((T s).take j).map (Ch s)) H3):Dp Tryz.prog l0 rec0 H3 [.sl 2 ((Ch s t).map Ct)] (fun r H'=>r = .bool true/\HK (fR T (A.take i)++((T s).take (j+1)).map (Ch s)) H'):=by
 obtain ⟨post,he⟩:=th_mid (T:=T) hs ht;refine (hY [] _ _ post H3 he hk).post ?_;rintro r K ⟨h1,H2,rfl,h2⟩;exact ⟨_,.refl _,h1,by rw [vJ ht,<-Cs];exact h2⟩
end
theorem s_plus (L:List Ev)(p:Pt)(o:List Pr)(n:Nat):Al Tryz.prog 141 [.ptr [.sl 5 (L.map Ec),.bool false],.agg (cPt p),.sl 2 (o.map Ct),.int .i64 (n:Int)] (.fn (.func 174) [] [.ptr [.ptr [.sl 5 (L.map Ec),.bool false]],.ptr (cPt p),.ptr [.sl 2 (o.map Ct)],.ptr [.int .i64 (n:Int)]]):=by
 refine Al.body (n:=10) Ai Tryz.func141 rfl rfl rfl fun H=>?_
 refine AW.seq (AW.region (AOL.Aag (Bt (v:=.ptr _) (cs:=[_]) rfl rfl rfl) rfl (AOL.Aag (Bt (v:=.agg _) (cs:=[.int .i64 _,_,.int .i64 _,.int .i64 _,.int .i64 _,.int .i64 _,.int .i64 _,_,.int .i64 _,.int .i64 _,.int .i64 _,.int .i64 _,.int .i64 _,.str _]) rfl rfl rfl) rfl (AOL.Aag (Bt (v:=.sl _ _) (cs:=[_]) rfl rfl rfl) rfl (AOL.Aag (Bt (v:=.int .i64 _) (cs:=[.int .i64 _]) rfl rfl rfl) rfl (AOL.Aag (Ag (v:=.val _) rfl) rfl (AOL.nil (Aa (AW.seq (AW.region (AOL.Aag (A3 (l:=[]) (l':=[.ptr _,.ptr _,.ptr _,.ptr _]) rfl rfl) rfl (AOL.Aag (Ag (v:=.fn _ _ _) rfl) rfl (AOL.nil (Aa (AW.ret ?_)))))))))))))));refine ⟨.inr rfl,[.fn _ _ _],.cons (.tmp _ _ rfl) <| .nil,.refl _,?_⟩;rfl
theorem s_then (L:List Ev)(p:Pt)(o:List Pr)(n:Nat)(caps:List AV):Al Tryz.prog 169 [.ptr [.sl 5 (L.map Ec),.bool false],.agg (cPt p),.sl 2 (o.map Ct),.int .i64 (n:Int),.fn (.func 175) [] caps] (.fn (.func 192) [] [.ptr [.ptr [.sl 5 (L.map Ec),.bool false]],.ptr (cPt p),.ptr [.sl 2 (o.map Ct)],.ptr [.int .i64 (n:Int)],.ptr [.fn (.func 175) [] caps]]):=by
 refine Al.body (n:=12) Ai Tryz.func169 rfl rfl rfl fun H=>?_
 refine AW.seq (AW.region (AOL.Aag (Bt (v:=.ptr _) (cs:=[_]) rfl rfl rfl) rfl (AOL.Aag (Bt (v:=.agg _) (cs:=[.int .i64 _,_,.int .i64 _,.int .i64 _,.int .i64 _,.int .i64 _,.int .i64 _,_,.int .i64 _,.int .i64 _,.int .i64 _,.int .i64 _,.int .i64 _,.str _]) rfl rfl rfl) rfl (AOL.Aag (Bt (v:=.sl _ _) (cs:=[_]) rfl rfl rfl) rfl (AOL.Aag (Bt (v:=.int .i64 _) (cs:=[.int .i64 _]) rfl rfl rfl) rfl (AOL.Aag (Bt (v:=.fn _ _ _) (cs:=[_]) rfl rfl rfl) rfl (AOL.Aag (Ag (v:=.val _) rfl) rfl (AOL.nil (Aa (AW.seq (AW.region (AOL.Aag (A3 (l:=[]) (l':=[.ptr _,.ptr _,.ptr _,.ptr _,.ptr _]) rfl rfl) rfl (AOL.Aag (Ag (v:=.fn _ _ _) rfl) rfl (AOL.nil (Aa (AW.ret ?_))))))))))))))));refine ⟨.inr rfl,[.fn _ _ _],.cons (.tmp _ _ rfl) <| .nil,.refl _,?_⟩;rfl
theorem s_rest (L:List Ev)(p:Pt)(o:List Pr)(n:Nat)(A:List (List Pr))(hsub:Al Tryz.prog 62 [.ptr [.sl 5 (L.map Ec),.bool false],.agg (cPt p),.sl 2 (o.map Ct),.int .i64 (n:Int)] (.sl 1 (A.map I1))):Al Tryz.prog 175 [.sl 2 (o.map Ct),.int .i64 (n:Int),.ptr [.ptr [.sl 5 (L.map Ec),.bool false]],.ptr (cPt p)] (.sl 1 (A.map I1)):=by
 refine Al.body (n:=12) Ai Tryz.func175 rfl rfl rfl fun H=>?_
 refine AW.seq (AW.region (AOL.Aag (Dg (z:=1) rfl) rfl (AOL.nil (Aa (AW.seq (AW.region (AOL.Aag (Af (c:=.ptr _) Ai rfl rfl rfl) rfl (AOL.Aag (Ah (l:=[.int .i64 _,_,.int .i64 _,.int .i64 _,.int .i64 _,.int .i64 _,.int .i64 _,_,.int .i64 _,.int .i64 _,.int .i64 _,.int .i64 _,.int .i64 _,.str _]) Ai rfl rfl rfl rfl rfl) rfl (AOL.Aag (Ae (v:=.sl _ _) rfl) rfl (AOL.Aag (Ae (v:=.int .i64 _) rfl) rfl ?_))))))))));refine AOL.Aag (Ak (by kernel_rfl) rfl rfl (hsub)) rfl ?_;refine AOL.Aag (Ag (v:=.sl _ _) rfl) rfl (AOL.nil (Aa (AW.ret ?_)));refine ⟨.inr rfl,[.sl _ _],.cons (.tmp _ _ rfl) <| .nil,.refl _,?_⟩;rfl
theorem uZ (L:List Ev)(p a:Pt)(ha:p.args = [a])(o:List Pr)(n:Nat)(A B:List (List Pr))(hsub:Al Tryz.prog 62 [.ptr [.sl 5 (L.map Ec),.bool false],.agg (cPt a),.sl 2 (o.map Ct),.int .i64 (n:Int)] (.sl 1 (A.map I1)))(hAl:A.length<=1048576)(hthen:xM 192 [.ptr [.ptr [.sl 5 (L.map Ec),.bool false]],.ptr (cPt a),.ptr [.sl 2 (o.map Ct)],.ptr [.int .i64 (n:Int)],.ptr [.fn (.func 175) [] [.ptr [.ptr [.sl 5 (L.map Ec),.bool false]],.ptr (cPt p)]]] B)(l0:Nat)(rec0:Loop)(hrec:rec0.params.size=1)(HK:List (List Pr)->List HO->Prop)(hobj:∀pre H,HK pre H->∃i:Nat,H[i]? = some (HO.obj l0 (Obj.loop rec0)))(hY:vV l0 rec0 (A++B) HK)(H:List HO)(h0:HK [] H):Cb Tryz.prog 174 H [.val (.func (.yield l0) #[] #[]),.ptr [.ptr [.sl 5 (L.map Ec),.bool false]],.ptr (cPt p),.ptr [.sl 2 (o.map Ct)],.ptr [.int .i64 (n:Int)]] (fun r H'=>r = .tuple []/\HK (A++B) H'):=by
 have ha0:p.args[0]? = some a:=by rw [ha];rfl
 have hal:p.args.length=1:=by rw [ha];rfl
 refine Cb.bodyM (n:=47) Ai Tryz.func174 rfl rfl rfl fun N0=>?_
 refine Qh.seq ?_;refine Qh.region ?_;refine AOL.Aag (Bt (v:=.val _) (cs:=[_]) rfl rfl rfl) rfl (AOL.nil (Aa ?_));refine Qh.seq ?_;refine Qh.seq ?_;refine Qh.draw mixed (fun _=>True) trivial (by kernel_rfl) ?_;refine E5.pure _ _ 0 _ _ rfl (by kernel_rfl) (by kernel_rfl) rfl (.run rfl (Af (c:=.ptr _) Ai rfl rfl rfl)) ?_;refine E5.pure _ _ 1 _ _ rfl (by kernel_rfl) (by kernel_rfl) rfl (.run rfl (Ad (cs':=[_,.int .i64 _,.int .i64 _,.int .i64 _,.int .i64 _,.int .i64 _,_,.int .i64 _,.int .i64 _,.int .i64 _,.int .i64 _,.int .i64 _,.str _]) Ai rfl rfl rfl rfl rfl rfl)) ?_;refine E5.pure _ _ 2 _ _ rfl (by kernel_rfl) (by kernel_rfl) rfl (.run rfl (Af (c:=.sl _ _) Ai rfl rfl rfl)) ?_;refine E5.pure _ _ 3 _ _ rfl (by kernel_rfl) (by kernel_rfl) rfl (.run rfl (Am (c:=cPt a) Ai rfl rfl rfl rfl rfl rfl (by omega) (Jo ha0))) ?_;refine E5.pure _ _ 4 _ _ rfl (by kernel_rfl) (by kernel_rfl) rfl (.run rfl (Ah (l:=[.int .i64 _,_,.int .i64 _,.int .i64 _,.int .i64 _,.int .i64 _,.int .i64 _,_,.int .i64 _,.int .i64 _,.int .i64 _,.int .i64 _,.int .i64 _,.str _]) Ai rfl rfl rfl rfl rfl)) ?_;refine E5.pure _ _ 5 _ _ rfl (by kernel_rfl) (by kernel_rfl) rfl (.run rfl (Af (c:=.sl _ _) Ai rfl rfl rfl)) ?_;refine E5.pure _ _ 6 _ _ rfl (by kernel_rfl) (by kernel_rfl) rfl (.run rfl (Af (c:=.int .i64 _) Ai rfl rfl rfl)) ?_;refine E5.pure _ _ 7 _ _ rfl (by kernel_rfl) (by kernel_rfl) rfl (.run rfl (Ak (by kernel_rfl) rfl rfl (hsub))) ?_;refine E5.pure _ _ 8 _ _ rfl (by kernel_rfl) (by kernel_rfl) rfl (.run rfl (Av (n:=A.length) Ai rfl rfl rfl (by simp))) ?_;refine E5.pure _ _ 9 _ _ rfl (by kernel_rfl) (by kernel_rfl) rfl (.run rfl (Ae (v:=.int .i64 _) rfl)) ?_;refine E5.done _ _ (by kernel_rfl) ?_;refine Aa ?_;refine Qh.block ?_;refine Qh.loopS (fun (q:Nat×List HO)=>(⟨[(1,.ptr [.ptr [.sl 5 (L.map Ec),.bool false]]),(2,.ptr (cPt p)),(3,.ptr [.sl 2 (o.map Ct)]),(4,.ptr [.int .i64 (n:Int)]),(5,.ptr [.val (.func (.yield l0) #[] #[])]),(16,.sl 1 (A.map I1)),(17,.int .i64 (A.length:Int)),(18,.int .i64 (q.1:Int))],q.2,47⟩:St)) (fun (q:Nat×List HO)=>q.1<=A.length/\HK (A.take q.1) q.2) (fun (q:Nat×List HO)=>A.length-q.1) ((0,H)) ?_ (GS.weaken ⟨rfl,rfl,rfl,rfl,rfl,rfl,rfl,rfl,trivial⟩ (.refl _)) ?_
 . exact ⟨Bn _,h0⟩
 rintro q hR;refine Qh.seq ?_;refine Qh.region ?_;refine AOL.Aag (B9 rfl rfl) rfl (AOL.nil (Aa ?_));refine Qh.seq ?_;refine Qh.cond (b:=_) rfl (fun hc1=>?_) (fun hc1=>?_)
 .
  refine (Fa (l:=A) (k:=q.1) (by have:=B2 hc1;omega)).elim fun f hf=>?_
  have hlt:=Bj hf;refine Qh.skip ?_;refine Aa ?_;refine Qh.seq ?_;refine Qh.block ?_;refine Qh.seq ?_;refine Qh.region ?_;refine AOL.Aag (Am (c:=[.sl 2 (f.map Ct)]) Ai rfl rfl rfl rfl rfl rfl (by omega) (Co hf)) rfl ?_;refine AOL.Aag (Af (c:=.sl _ _) Ai rfl rfl rfl) rfl (AOL.Aag (Ag (v:=.sl _ _) rfl) rfl (AOL.nil (Aa ?_)));refine Qh.seq ?_;refine Qh.regionYg 7 rfl (by kernel_rfl) (by kernel_rfl) ?_;refine AOL.Aag (Af (c:=.ptr _) Ai rfl rfl rfl) rfl (AOL.Aag (B4 rfl) rfl (AOL.Aag (Ad (cs':=[.bool _]) Ai rfl rfl rfl rfl rfl rfl) rfl (AOL.Aag (Af (c:=.bool _) Ai rfl rfl rfl) rfl (AOL.Aag (Ae (v:=.bool _) rfl) rfl (AOL.Aah (y:=.val _) _ [] rfl (Un.all trivial) (fun hG=>Af (c:=.val _) Ai rfl rfl rfl) rfl ?_)))));refine AOL.Aah (y:=.sl _ _) _ [] rfl (Un.all trivial) (fun hG=>Ae (v:=.sl _ _) rfl) rfl ?_;refine AOL.nil ?_;refine ⟨_,[(27,_),(28,_)],rfl,wS,Un.all ⟨Zs.self _ _,Zs.self _ _,trivial⟩,l0,rec0,_,hobj _ _ hR.2,rfl,hrec.symm,rfl,kP hY hf hR.2,?_⟩;rintro _ H4 ⟨rfl,hH4⟩;refine AOL.Aah (y:=.bool _) _ [(29,_)] rfl (Un.all ⟨Zs.self _ _,trivial⟩) (fun hG=>F6 rfl) rfl ?_;refine AOL.Aag (E7 rfl rfl rfl) rfl (AOL.nil (Aa ?_));refine Qh.cond (b:=_) rfl (fun hc2=>?_) (fun hc2=>?_)
  . simp at hc2
  refine Qh.skip ?_;refine C9 (Aa ?_);refine Qh.region ?_;refine AOL.Aag (Cc rfl rfl rfl (by constructor <;> omega)) rfl ?_;refine AOL.Aag (Ae (v:=.int .i64 _) rfl) rfl (AOL.nil (Aa ?_));refine ⟨(q.1+1,H4),?_,?_,GS.weaken ⟨rfl,rfl,rfl,rfl,rfl,rfl,rfl,rfl,trivial⟩ (.refl _)⟩
  . exact ⟨hlt,hH4⟩
  simp only;omega
 have hge:A.length<=q.1:=by have:=C7 hc1;omega
 have hka:HK (A ++ []) q.2:=by have h9:=hR.2;rw [show q.1=A.length by omega,Oj] at h9;rwa [H1]
 refine Qh.exit ?_;refine A1 (A1 (Cd (Aa ?_)));refine Qh.seq ?_;refine Qh.draw mixed (fun _=>True) trivial (by kernel_rfl) ?_;refine E5.pure _ _ 0 _ _ rfl (by kernel_rfl) (by kernel_rfl) rfl (.run rfl (Af (c:=.ptr _) Ai rfl rfl rfl)) ?_;refine E5.pure _ _ 1 _ _ rfl (by kernel_rfl) (by kernel_rfl) rfl (.run rfl (Ad (cs':=[_,.int .i64 _,.int .i64 _,.int .i64 _,.int .i64 _,.int .i64 _,_,.int .i64 _,.int .i64 _,.int .i64 _,.int .i64 _,.int .i64 _,.str _]) Ai rfl rfl rfl rfl rfl rfl)) ?_;refine E5.pure _ _ 2 _ _ rfl (by kernel_rfl) (by kernel_rfl) rfl (.run rfl (Af (c:=.sl _ _) Ai rfl rfl rfl)) ?_;refine E5.pure _ _ 3 _ _ rfl (by kernel_rfl) (by kernel_rfl) rfl (.run rfl (Am (c:=cPt a) Ai rfl rfl rfl rfl rfl rfl (by omega) (Jo ha0))) ?_;refine E5.pure _ _ 4 _ _ rfl (by kernel_rfl) (by kernel_rfl) rfl (.run rfl (Ah (l:=[.int .i64 _,_,.int .i64 _,.int .i64 _,.int .i64 _,.int .i64 _,.int .i64 _,_,.int .i64 _,.int .i64 _,.int .i64 _,.int .i64 _,.int .i64 _,.str _]) Ai rfl rfl rfl rfl rfl)) ?_;refine E5.pure _ _ 5 _ _ rfl (by kernel_rfl) (by kernel_rfl) rfl (.run rfl (Af (c:=.sl _ _) Ai rfl rfl rfl)) ?_;refine E5.pure _ _ 6 _ _ rfl (by kernel_rfl) (by kernel_rfl) rfl (.run rfl (Af (c:=.int .i64 _) Ai rfl rfl rfl)) ?_;refine E5.pure _ _ 7 _ _ rfl (by kernel_rfl) (by kernel_rfl) rfl (.run rfl (A3 (l:=[]) (l':=[.ptr _,.ptr _]) rfl rfl)) ?_;refine E5.pure _ _ 8 _ _ rfl (by kernel_rfl) (by kernel_rfl) rfl (.run rfl (Ak (by kernel_rfl) rfl rfl (s_then L a o n _))) ?_;refine E5.done _ _ (by kernel_rfl) ?_;refine Aa ?_;refine Qh.block ?_;refine Qh.range (fun H2=>∃H3:List HO,H2=([]++H3)/\HK (A++B) H3) (fun _ _=>False) rfl (by kernel_rfl) (fun rec l g1 w1 hst hpe hps has hbo hsz htm=>?_) (fun H2 hZ=>?_) (fun _ _ h=>h.elim)
 .
  refine Cb.post (hthen l rec (by rw [hps];rfl) (fun pre Hx=>∃H3:List HO,Hx=(.obj l (.loop rec) :: .since g1 w1::([]++H3))/\HK (A++pre) H3) (by rintro pre _ ⟨H3,rfl,_⟩;exact ⟨0,rfl⟩) ?_ _ ⟨_,rfl,hka⟩) ?_
  .
   rintro F pre f post _ he ⟨H3,rfl,hk⟩;refine rr (W:=[]) (Q:=HK (A++(pre ++ [f]))) ?_;refine eZ has hbo hst hpe hsz (R0 hps hsz rfl ⟨1,rfl⟩ htm) ?_;clear hsz htm;refine Qi.region (by kernel_rfl) ?_;refine AOL.Aag (Ag (v:=.sl _ _) rfl) rfl (AOL.nil ?_);refine ⟨rfl,0,rfl,?_⟩;refine Qi.block ?_;refine Qi.seq ?_;refine Qi.regionYk 2 rfl (by kernel_rfl) (by kernel_rfl) ?_;refine AOL.Aag (Af (c:=.val _) Ai rfl rfl rfl) rfl (AOL.Aag (Ae (v:=.sl _ _) rfl) rfl (AOL.nil ?_));refine ⟨l0,rec0,_,uM (_::_::F) (hobj _ _ hk),rfl,hrec.symm,rfl,pE (W:=[_,_]) hY he hk,?_⟩;rintro _ _ ⟨rfl,H5,rfl,hH5⟩;refine AOL.Aag (F6 rfl) rfl (AOL.nil (Aa ?_));refine Qi.cond (b:=_) rfl (fun hc3=>?_) (fun hc3=>?_)
   . simp at hc3
   refine Qi.skip ?_;refine C9 ?_;exact ⟨0,rfl,rfl,rfl,H5,rfl,hH5⟩
  rintro r K ⟨rfl,H3,rfl,hk⟩;exact ⟨_,.refl _,rec,_,rfl,by rw [hst];decide,Or.inl ⟨hpe,H3,rfl,hk⟩⟩
 obtain ⟨H3,rfl,hH3⟩:=hZ;refine C9 ?_;refine ⟨.inl rfl,[],.nil,_,.refl _,?_⟩;exact ⟨rfl,hH3⟩
theorem vA (L:List Ev)(p:Pt)(o:List Pr)(n:Nat)(caps:List AV)(A:List (List Pr))(T:List Pr->List (List Pr))(hAl:A.length<=1048576)(hA:∀s∈A,0<s.length/\o.length+s.length<=12/\∀t∈T s,s.length+t.length<=12)(hT:∀s∈A,(T s).length<=1048576/\lasP s<=1048576)(hsub:Al Tryz.prog 62 [.ptr [.sl 5 (L.map Ec),.bool false],.agg (cPt p),.sl 2 (o.map Ct),.int .i64 (n:Int)] (.sl 1 (A.map I1)))(hrest:∀s∈A,Al Tryz.prog 175 (.sl 2 ((Ch o s).map Ct) :: .int .i64 ((lasP s:Int)+1)::caps) (.sl 1 ((T s).map I1)))(l0:Nat)(rec0:Loop)(hrec:rec0.params.size=1)(HK:List (List Pr)->List HO->Prop)(hobj:∀pre H,HK pre H->∃i:Nat,H[i]? = some (HO.obj l0 (Obj.loop rec0)))(hY:vV l0 rec0 (fR T A) HK)(H:List HO)(h0:HK [] H):Cb Tryz.prog 192 H [.val (.func (.yield l0) #[] #[]),.ptr [.ptr [.sl 5 (L.map Ec),.bool false]],.ptr (cPt p),.ptr [.sl 2 (o.map Ct)],.ptr [.int .i64 (n:Int)],.ptr [.fn (.func 175) [] caps]] (fun r H'=>r = .tuple []/\HK (fR T A) H'):=by
 refine Cb.body (n:=48) Ai Tryz.func192 rfl rfl rfl ?_;refine AW.seq (AW.region (AOL.Aag (Af (c:=.ptr _) Ai rfl rfl rfl) rfl (AOL.Aag (Ah (l:=[.int .i64 _,_,.int .i64 _,.int .i64 _,.int .i64 _,.int .i64 _,.int .i64 _,_,.int .i64 _,.int .i64 _,.int .i64 _,.int .i64 _,.int .i64 _,.str _]) Ai rfl rfl rfl rfl rfl) rfl (AOL.Aag (Af (c:=.sl _ _) Ai rfl rfl rfl) rfl (AOL.Aag (Af (c:=.int .i64 _) Ai rfl rfl rfl) rfl ?_)))));refine AOL.Aag (Ak (by kernel_rfl) rfl rfl (hsub)) rfl ?_;refine AOL.Aag (Av (n:=A.length) Ai rfl rfl rfl (by simp)) rfl ?_;refine AOL.Aag (Ae (v:=.int .i64 _) rfl) rfl (AOL.nil (Aa (AW.block ?_)));refine AW.loopS (fun (q:Nat×List HO)=>(⟨[(0,.val (.func (.yield l0) #[] #[])),(1,.ptr [.ptr [.sl 5 (L.map Ec),.bool false]]),(3,.ptr [.sl 2 (o.map Ct)]),(5,.ptr [.fn (.func 175) [] caps]),(15,.sl 1 (A.map I1)),(16,.int .i64 (A.length:Int)),(17,.int .i64 (q.1:Int))],q.2,48⟩:St)) (fun q=>q.1<=A.length/\HK (fR T (A.take q.1)) q.2) (fun q=>A.length-q.1) ((0,H)) ?_ (GS.weaken ⟨rfl,rfl,rfl,rfl,rfl,rfl,rfl,trivial⟩ (.refl _)) ?_
 . exact ⟨Bn _,h0⟩
 rintro q hR;refine AW.seq (AW.region (AOL.Aag (B9 rfl rfl) rfl (AOL.nil (Aa (AW.seq (AW.cond (b:=_) rfl (fun hc1=>?_) (fun hc1=>?_)))))))
 .
  refine (Fa (l:=A) (k:=q.1) (by have:=B2 hc1;omega)).elim fun s ha=>?_
  have hlt:=Bj ha;have hm:=A0 ha;have hTl:=(hT s hm).1;refine AW.skip (Aa (AW.seq (AW.block (AW.seq (AW.region ?_)))));refine AOL.Aag (Am (c:=[.sl 2 (s.map Ct)]) Ai rfl rfl rfl rfl rfl rfl (by omega) (Co ha)) rfl ?_;refine AOL.Aag (Af (c:=.sl _ _) Ai rfl rfl rfl) rfl (AOL.Aag (Ag (v:=.sl _ _) rfl) rfl (AOL.nil (Aa (AW.seq ?_))));refine AW.draw mixed (fun _=>True) trivial (by kernel_rfl) ?_;refine E5.pure _ _ 0 _ _ rfl (by kernel_rfl) (by kernel_rfl) rfl (.run rfl (Af (c:=.fn _ _ _) Ai rfl rfl rfl)) ?_;refine E5.pure _ _ 1 _ _ rfl (by kernel_rfl) (by kernel_rfl) rfl (.run rfl (Af (c:=.sl _ _) Ai rfl rfl rfl)) ?_;refine E5.pure _ _ 2 _ _ rfl (by kernel_rfl) (by kernel_rfl) rfl (.run rfl (Ae (v:=.sl _ _) rfl)) ?_;refine E5.pure _ _ 3 _ _ rfl (by kernel_rfl) (by kernel_rfl) rfl (.run rfl (Ak (by kernel_rfl) rfl rfl (qG o s (hA s hm).2.1))) ?_;refine E5.pure _ _ 4 _ _ rfl (by kernel_rfl) (by kernel_rfl) rfl (.run rfl (Ae (v:=.sl _ _) rfl)) ?_;refine E5.pure _ _ 5 _ _ rfl (by kernel_rfl) (by kernel_rfl) rfl (.run rfl (Ak (by kernel_rfl) rfl rfl (s_last s (hA s hm).1 (by have:=(hA s hm).2.1;omega)))) ?_;refine E5.pure _ _ 6 _ _ rfl (by kernel_rfl) (by kernel_rfl) rfl (.run rfl (Cc rfl rfl rfl (by have:=(hT s hm).2;constructor <;> omega))) ?_;refine E5.pure _ _ 7 _ _ rfl (by kernel_rfl) (by kernel_rfl) rfl (.run rfl (Fy (by kernel_rfl) rfl rfl rfl (hrest s hm))) ?_;refine E5.pure _ _ 8 _ _ rfl (by kernel_rfl) (by kernel_rfl) rfl (.run rfl (Av (n:=(T s).length) Ai rfl rfl rfl (by simp))) ?_;refine E5.pure _ _ 9 _ _ rfl (by kernel_rfl) (by kernel_rfl) rfl (.run rfl (Ae (v:=.int .i64 _) rfl)) ?_;refine E5.done _ _ (by kernel_rfl) ?_;refine Aa (AW.block ?_);refine AW.loopS (fun (r:Nat×List HO)=>(⟨[(0,.val (.func (.yield l0) #[] #[])),(1,.ptr [.ptr [.sl 5 (L.map Ec),.bool false]]),(3,.ptr [.sl 2 (o.map Ct)]),(5,.ptr [.fn (.func 175) [] caps]),(8,.sl 2 (s.map Ct)),(15,.sl 1 (A.map I1)),(16,.int .i64 (A.length:Int)),(17,.int .i64 (q.1:Int)),(28,.sl 1 ((T s).map I1)),(29,.int .i64 ((T s).length:Int)),(30,.int .i64 (r.1:Int))],r.2,48⟩:St)) (fun r=>r.1<=(T s).length/\HK (fR T (A.take q.1)++((T s).take r.1).map (Ch s)) r.2) (fun r=>(T s).length-r.1) ((0,q.2)) ?_ (GS.weaken ⟨rfl,rfl,rfl,rfl,rfl,rfl,rfl,rfl,rfl,rfl,rfl,trivial⟩ (.refl _)) ?_
  . exact ⟨Bn _,by simpa using hR.2⟩
  rintro r hRr;refine AW.seq (AW.region (AOL.Aag (B9 rfl rfl) rfl (AOL.nil (Aa (AW.seq (AW.cond (b:=_) rfl (fun hc2=>?_) (fun hc2=>?_)))))))
  .
   refine (Fa (l:=T s) (k:=r.1) (by have:=B2 hc2;omega)).elim fun t ht=>?_
   have hltr:=Bj ht;have hmt:=A0 ht;refine AW.skip (Aa (AW.seq (AW.block (AW.seq (AW.region ?_)))));refine AOL.Aag (Am (c:=[.sl 2 (t.map Ct)]) Ai rfl rfl rfl rfl rfl rfl (by omega) (Co ht)) rfl ?_;refine AOL.Aag (Af (c:=.sl _ _) Ai rfl rfl rfl) rfl (AOL.Aag (Ag (v:=.sl _ _) rfl) rfl (AOL.nil (Aa (AW.seq ?_))));refine AW.regionYg 9 rfl (by kernel_rfl) (by kernel_rfl) ?_;refine AOL.Aag (Af (c:=.ptr _) Ai rfl rfl rfl) rfl (AOL.Aag (B4 rfl) rfl (AOL.Aag (Ad (cs':=[.bool _]) Ai rfl rfl rfl rfl rfl rfl) rfl (AOL.Aag (Af (c:=.bool _) Ai rfl rfl rfl) rfl (AOL.Aag (Ae (v:=.bool _) rfl) rfl (AOL.Aah (y:=.val _) _ [] rfl (Un.all trivial) (fun hG=>Ae (v:=.val _) rfl) rfl ?_)))));refine AOL.Aah (y:=.sl _ _) _ [] rfl (Un.all trivial) (fun hG=>Ae (v:=.sl _ _) rfl) rfl ?_;refine AOL.Aah (y:=.sl _ _) _ [] rfl (Un.all trivial) (fun hG=>Ae (v:=.sl _ _) rfl) rfl ?_;refine AOL.Aah (y:=.sl _ _) _ [(40,_),(41,_)] rfl (Un.all ⟨Zs.self _ _,Zs.self _ _,trivial⟩) (fun hG=>Ak (by kernel_rfl) rfl rfl (qG s t ((hA s hm).2.2 t hmt))) rfl ?_;refine AOL.nil ?_;refine ⟨_,[(39,_),(42,_)],rfl,wS,Un.all ⟨Zs.self _ _,Zs.self _ _,trivial⟩,l0,rec0,_,hobj _ _ hRr.2,rfl,hrec.symm,rfl,qZ hY ha ht hRr.2,?_⟩;rintro _ H4 ⟨rfl,hH4⟩;refine AOL.Aah (y:=.bool _) _ [(43,_)] rfl (Un.all ⟨Zs.self _ _,trivial⟩) (fun hG=>F6 rfl) rfl ?_;refine AOL.Aag (E7 rfl rfl rfl) rfl (AOL.nil (Aa (AW.cond (b:=_) rfl (fun hc3=>?_) (fun hc3=>AW.skip (C9 (Aa (AW.region ?_)))))))
   . simp at hc3
   refine AOL.Aag (Cc rfl rfl rfl (by constructor <;> omega)) rfl ?_;refine AOL.Aag (Ae (v:=.int .i64 _) rfl) rfl (AOL.nil (Aa ?_));refine ⟨(r.1+1,H4),?_,?_,GS.weaken ⟨rfl,rfl,rfl,rfl,rfl,rfl,rfl,rfl,rfl,rfl,rfl,trivial⟩ (.refl _)⟩
   . exact ⟨hltr,hH4⟩
   simp only;omega
  have hger:(T s).length<=r.1:=by have:=C7 hc2;omega
  refine AW.exit ?_;refine A1 (A1 (Cd (C9 (Aa (AW.region ?_)))));refine AOL.Aag (Cc rfl rfl rfl (by constructor <;> omega)) rfl ?_;refine AOL.Aag (Ae (v:=.int .i64 _) rfl) rfl (AOL.nil (Aa ?_));refine ⟨(q.1+1,r.2),?_,?_,GS.weaken ⟨rfl,rfl,rfl,rfl,rfl,rfl,rfl,trivial⟩ (.refl _)⟩
  . exact ⟨hlt,by simp only;rw [vI ha];have h9:=hRr.2;rwa [show r.1=(T s).length by omega,Oj] at h9⟩
  simp only;omega
 have hge:A.length<=q.1:=by have:=C7 hc1;omega
 refine AW.exit ?_;refine A1 (A1 (Cd ?_));refine ⟨.inl rfl,[],.nil,_,.refl _,?_⟩;exact ⟨rfl,by have h9:=hR.2;rwa [show q.1=A.length by omega,Oj] at h9⟩
end Go.Proofs.YtkdhionilabokaaGreatDoor
