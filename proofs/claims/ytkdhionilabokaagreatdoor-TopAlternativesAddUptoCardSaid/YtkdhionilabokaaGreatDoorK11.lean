/-
  Several texts in one: U34, U35, U36, U39, R13w. No condition.
-/
import Derived.Test.YtkdhionilabokaaGreatDoorK10
import Derived.KernelRfl
import Derived.Test.YtkdhionilabokaaGreatDoorK07
import Derived.Test.YtkdhionilabokaaGreatDoorK05
import Derived.Test.YtkdhionilabokaaGreatDoorK08
import Derived.Test.YtkdhionilabokaaGreatDoorK04
import Derived.Test.YtkdhionilabokaaGreatDoorK02
import Derived.Test.YtkdhionilabokaaGreatDoorK03
set_option linter.unusedVariables false
set_option linter.unusedSimpArgs false
set_option maxHeartbeats 12800000
set_option maxRecDepth 20000
namespace Go.Proofs.YtkdhionilabokaaGreatDoor
open Go Go.Aw
structure Bd where
 v:Int
 r:Rz
@[reducible] def cBd (b : Bd) : List AV := [.int .i64 b.v, .int .i64 b.r.t, .int .i64 b.r.s, .int .i64 b.r.q]
def Wl:List Bd:=[]
@[reducible] def cMt (m : List Bd) : List AV := [.sl 4 (m.map cBd)]
theorem Li (m:List Bd):(cMt m).length=1:=rfl
def pP (x y:Rz):Int:=fB [Eh x.t y.t,Eh x.s y.s,Eh x.q y.q]
def eE (x y:Bd):Int:=fB [pP x.r y.r,Eh x.v y.v]
def cmpM (x y:List Bd):Int:=Em eE x y
def oI (L:List Ev)(s:List Pr):List Bd:=s.map fun x=>⟨x.v,rf (Fx L x.a)⟩
theorem zO (x y:Rz):Al Tryz.prog 109 [.agg (vX x),.agg (vX y)] (.int .i64 (pP x y)):=by
 refine Al.body (n:=22) Ai Tryz.func109 rfl rfl rfl fun H=>?_
 refine AW.seq (AW.region (AOL.Aag (Bt (v:=.agg _) (cs:=[.int .i64 _,.int .i64 _,.int .i64 _]) rfl rfl rfl) rfl (AOL.Aag (Bt (v:=.agg _) (cs:=[.int .i64 _,.int .i64 _,.int .i64 _]) rfl rfl rfl) rfl (AOL.Aag (Ag (v:=.int .i64 _) rfl) rfl (AOL.nil (Aa (AW.seq ?_)))))));refine AW.draw mixed (fun _=>True) trivial (by kernel_rfl) ?_;refine E5.pure _ _ 0 _ _ rfl (by kernel_rfl) (by kernel_rfl) rfl (.run rfl (Ad (cs':=[.int .i64 _,.int .i64 _,.int .i64 _]) Ai rfl rfl rfl rfl rfl rfl)) ?_;refine E5.pure _ _ 1 _ _ rfl (by kernel_rfl) (by kernel_rfl) rfl (.run rfl (Af (c:=.int .i64 _) Ai rfl rfl rfl)) ?_;refine E5.pure _ _ 2 _ _ rfl (by kernel_rfl) (by kernel_rfl) rfl (.run rfl (Ad (cs':=[.int .i64 _,.int .i64 _,.int .i64 _]) Ai rfl rfl rfl rfl rfl rfl)) ?_;refine E5.pure _ _ 3 _ _ rfl (by kernel_rfl) (by kernel_rfl) rfl (.run rfl (Af (c:=.int .i64 _) Ai rfl rfl rfl)) ?_;refine E5.pure _ _ 4 _ _ rfl (by kernel_rfl) (by kernel_rfl) rfl (.run rfl (Ak (by kernel_rfl) rfl rfl (Vp _ _))) ?_;refine E5.pure _ _ 5 _ _ rfl (by kernel_rfl) (by kernel_rfl) rfl (.run rfl (Ad (cs':=[.int .i64 _,.int .i64 _]) Ai rfl rfl rfl rfl rfl rfl)) ?_;refine E5.pure _ _ 6 _ _ rfl (by kernel_rfl) (by kernel_rfl) rfl (.run rfl (Af (c:=.int .i64 _) Ai rfl rfl rfl)) ?_;refine E5.pure _ _ 7 _ _ rfl (by kernel_rfl) (by kernel_rfl) rfl (.run rfl (Ad (cs':=[.int .i64 _,.int .i64 _]) Ai rfl rfl rfl rfl rfl rfl)) ?_;refine E5.pure _ _ 8 _ _ rfl (by kernel_rfl) (by kernel_rfl) rfl (.run rfl (Af (c:=.int .i64 _) Ai rfl rfl rfl)) ?_;refine E5.pure _ _ 9 _ _ rfl (by kernel_rfl) (by kernel_rfl) rfl (.run rfl (Ak (by kernel_rfl) rfl rfl (Vp _ _))) ?_;refine E5.pure _ _ 10 _ _ rfl (by kernel_rfl) (by kernel_rfl) rfl (.run rfl (Ad (cs':=[.int .i64 _]) Ai rfl rfl rfl rfl rfl rfl)) ?_;refine E5.pure _ _ 11 _ _ rfl (by kernel_rfl) (by kernel_rfl) rfl (.run rfl (Af (c:=.int .i64 _) Ai rfl rfl rfl)) ?_;refine E5.pure _ _ 12 _ _ rfl (by kernel_rfl) (by kernel_rfl) rfl (.run rfl (Ad (cs':=[.int .i64 _]) Ai rfl rfl rfl rfl rfl rfl)) ?_;refine E5.pure _ _ 13 _ _ rfl (by kernel_rfl) (by kernel_rfl) rfl (.run rfl (Af (c:=.int .i64 _) Ai rfl rfl rfl)) ?_;refine E5.pure _ _ 14 _ _ rfl (by kernel_rfl) (by kernel_rfl) rfl (.run rfl (Ak (by kernel_rfl) rfl rfl (Vp _ _))) ?_;refine E5.pure _ _ 15 _ _ rfl (by kernel_rfl) (by kernel_rfl) rfl (.run rfl (Bw (es:=[[.int .i64 _],[.int .i64 _],[.int .i64 _]]) Ai rfl rfl rfl rfl rfl rfl rfl rfl rfl)) ?_;refine E5.pure _ _ 16 _ _ rfl (by kernel_rfl) (by kernel_rfl) rfl (.run rfl (Ak (by kernel_rfl) rfl rfl (zH [Eh x.t y.t,Eh x.s y.s,Eh x.q y.q]))) ?_;refine E5.pure _ _ 17 _ _ rfl (by kernel_rfl) (by kernel_rfl) rfl (.run rfl (Ag (v:=.int .i64 _) rfl)) ?_;refine E5.done _ _ (by kernel_rfl) ?_;refine Aa (AW.ret ?_);refine ⟨.inr rfl,[.int .i64 _],.cons (.tmp _ _ rfl) <| .nil,.refl _,?_⟩
 rfl
theorem m_c1 (x y:Bd):Al Tryz.prog 108 [.agg (cBd x),.agg (cBd y)] (.int .i64 (eE x y)):=by
 refine Al.body (n:=17) Ai Tryz.func108 rfl rfl rfl fun H=>?_
 refine AW.seq (AW.region (AOL.Aag (Bt (v:=.agg _) (cs:=[.int .i64 _,.int .i64 _,.int .i64 _,.int .i64 _]) rfl rfl rfl) rfl (AOL.Aag (Bt (v:=.agg _) (cs:=[.int .i64 _,.int .i64 _,.int .i64 _,.int .i64 _]) rfl rfl rfl) rfl (AOL.Aag (Ag (v:=.int .i64 _) rfl) rfl (AOL.nil (Aa (AW.seq ?_)))))));refine AW.draw mixed (fun _=>True) trivial (by kernel_rfl) ?_;refine E5.pure _ _ 0 _ _ rfl (by kernel_rfl) (by kernel_rfl) rfl (.run rfl (Ad (cs':=[.int .i64 _,.int .i64 _,.int .i64 _]) Ai rfl rfl rfl rfl rfl rfl)) ?_;refine E5.pure _ _ 1 _ _ rfl (by kernel_rfl) (by kernel_rfl) rfl (.run rfl (Ah (l:=[.int .i64 _,.int .i64 _,.int .i64 _]) Ai rfl rfl rfl rfl rfl)) ?_;refine E5.pure _ _ 2 _ _ rfl (by kernel_rfl) (by kernel_rfl) rfl (.run rfl (Ad (cs':=[.int .i64 _,.int .i64 _,.int .i64 _]) Ai rfl rfl rfl rfl rfl rfl)) ?_;refine E5.pure _ _ 3 _ _ rfl (by kernel_rfl) (by kernel_rfl) rfl (.run rfl (Ah (l:=[.int .i64 _,.int .i64 _,.int .i64 _]) Ai rfl rfl rfl rfl rfl)) ?_;refine E5.pure _ _ 4 _ _ rfl (by kernel_rfl) (by kernel_rfl) rfl (.run rfl (Ak (by kernel_rfl) rfl rfl (zO x.r y.r))) ?_;refine E5.pure _ _ 5 _ _ rfl (by kernel_rfl) (by kernel_rfl) rfl (.run rfl (Ad (cs':=[.int .i64 _,.int .i64 _,.int .i64 _,.int .i64 _]) Ai rfl rfl rfl rfl rfl rfl)) ?_;refine E5.pure _ _ 6 _ _ rfl (by kernel_rfl) (by kernel_rfl) rfl (.run rfl (Af (c:=.int .i64 _) Ai rfl rfl rfl)) ?_;refine E5.pure _ _ 7 _ _ rfl (by kernel_rfl) (by kernel_rfl) rfl (.run rfl (Ad (cs':=[.int .i64 _,.int .i64 _,.int .i64 _,.int .i64 _]) Ai rfl rfl rfl rfl rfl rfl)) ?_;refine E5.pure _ _ 8 _ _ rfl (by kernel_rfl) (by kernel_rfl) rfl (.run rfl (Af (c:=.int .i64 _) Ai rfl rfl rfl)) ?_;refine E5.pure _ _ 9 _ _ rfl (by kernel_rfl) (by kernel_rfl) rfl (.run rfl (Ak (by kernel_rfl) rfl rfl (Vp _ _))) ?_;refine E5.pure _ _ 10 _ _ rfl (by kernel_rfl) (by kernel_rfl) rfl (.run rfl (Bw (es:=[[.int .i64 _],[.int .i64 _]]) Ai rfl rfl rfl rfl rfl rfl rfl rfl rfl)) ?_;refine E5.pure _ _ 11 _ _ rfl (by kernel_rfl) (by kernel_rfl) rfl (.run rfl (Ak (by kernel_rfl) rfl rfl (zH [pP x.r y.r,Eh x.v y.v]))) ?_;refine E5.pure _ _ 12 _ _ rfl (by kernel_rfl) (by kernel_rfl) rfl (.run rfl (Ag (v:=.int .i64 _) rfl)) ?_;refine E5.done _ _ (by kernel_rfl) ?_;refine Aa (AW.ret ?_);refine ⟨.inr rfl,[.int .i64 _],.cons (.tmp _ _ rfl) <| .nil,.refl _,?_⟩;rfl
theorem zN (l m:List Bd):Al Tryz.prog 107 [.sl 4 (l.map cBd),.sl 4 (m.map cBd),.fn (.func 108) [] []] (.int .i64 (Em eE l m)):=by
 refine Al.body (n:=39) Ai Tryz.func107 rfl rfl rfl fun H=>?_
 refine AW.seq (AW.region (AOL.Aag (Ag (v:=.int .i64 _) rfl) rfl (AOL.nil (Aa (AW.seq (AW.seq (AW.region (AOL.Aag (Ae (v:=.sl _ _) rfl) rfl ?_))))))));refine AOL.Aag (Av (n:=l.length) Ai rfl rfl rfl (by simp)) rfl ?_;refine AOL.Aag (Ae (v:=.int .i64 _) rfl) rfl (AOL.nil (Aa (AW.block (AW.sllen 11 rfl fun hlen=>?_))));simp only [B1,maxLen] at hlen;refine AW.loopS (fun (k:Nat)=>(⟨[(0,.sl 4 (l.map cBd)),(1,.sl 4 (m.map cBd)),(2,.fn (.func 108) [] []),(11,.sl 4 (l.map cBd)),(12,.int .i64 l.length),(13,.int .i64 (k:Int))],H,39⟩:St)) (fun k=>k<=l.length/\k<=m.length/\Em eE l m=Em eE (l.drop k) (m.drop k)) (fun k=>l.length-k) (0) ?_ (GS.weaken ⟨rfl,rfl,rfl,rfl,rfl,rfl,trivial⟩ (.refl _)) ?_
 . exact ⟨Bn _,Bn _,rfl⟩
 rintro k hR;refine AW.seq (AW.region (AOL.Aag (B9 rfl rfl) rfl (AOL.nil (Aa (AW.seq (AW.cond (b:=_) rfl (fun hc1=>?_) (fun hc1=>?_)))))))
 .
  obtain ⟨a,ha⟩:=Dd hc1;have hlt:=Bj ha;have hm:=A0 ha;refine AW.skip (Aa (AW.seq (AW.block (AW.seq (AW.region (AOL.Aag (Ae (v:=.int .i64 _) rfl) rfl ?_))))));refine AOL.Aag (Am (c:=cBd a) Ai rfl rfl rfl rfl rfl rfl (by omega) (Co ha)) rfl ?_;refine AOL.Aag (Ah (l:=[.int .i64 _,.int .i64 _,.int .i64 _,.int .i64 _]) Ai rfl rfl rfl rfl rfl) rfl ?_;refine AOL.e (Bh (l:=[.int .i64 0,.int .i64 0,.int .i64 0,.int .i64 0]) (by kernel_rfl)) rfl ?_;rintro _ _ ⟨b8,rfl,rfl⟩;refine AOL.Aag (Ag (v:=.int .i64 _) rfl) rfl (AOL.e (Ao (k:=0) (v:=.agg _) (cs':=[.int .i64 _,.int .i64 _,.int .i64 _,.int .i64 _]) (H2:=_::_) Ai rfl rfl rfl rfl (rfl) rfl rfl rfl rfl) rfl ?_);rintro _ _ ⟨rfl,rfl⟩;refine AOL.ghost (GS.Aaj (t:=8) 0 rfl rfl) ?_;refine AOL.nil (Aa (AW.seq (AW.seq (AW.region (AOL.Aag (Ae (v:=.int .i64 _) rfl) rfl (AOL.Aag (Ae (v:=.sl _ _) rfl) rfl ?_))))));refine AOL.Aag (Av (n:=m.length) Ai rfl rfl rfl (by simp)) rfl ?_;refine AOL.Aag (I7 rfl rfl) rfl (AOL.nil (Aa (AW.cond (b:=_) rfl (fun hc2=>?_) (fun hc2=>?_))))
  .
   have hmk:m.length<=k:=by have:=B2 hc2;omega
   refine AW.seq (AW.region (AOL.Aag (Ag (v:=.int .i64 _) rfl) rfl (AOL.nil (Aa (AW.ret (Ap (Cn (Ap (Ap (Cn (Ap ?_)))))))))));refine ⟨.inr rfl,[.int .i64 _],.cons (.tmp _ _ rfl) <| .nil,.refl _,?_⟩;exact Eq.trans rfl (congrArg (fun q:Int=>AV.int .i64 q) (hR.2.2.trans (aE ha hmk))).symm
  refine (Fa (l:=m) (k:=k) (by have:=C7 hc2;omega)).elim fun y hy=>?_
  have hlty:=Bj hy;refine AW.skip (Aa (AW.seq (AW.region (AOL.Aag (Ae (v:=.sl _ _) rfl) rfl (AOL.Aag (Ae (v:=.int .i64 _) rfl) rfl ?_)))));refine AOL.Aag (Am (c:=cBd y) Ai rfl rfl rfl rfl rfl rfl (by omega) (Co hy)) rfl ?_;refine AOL.Aag (Ah (l:=[.int .i64 _,.int .i64 _,.int .i64 _,.int .i64 _]) Ai rfl rfl rfl rfl rfl) rfl ?_;refine AOL.e (Bh (l:=[.int .i64 0,.int .i64 0,.int .i64 0,.int .i64 0]) (by kernel_rfl)) rfl ?_;rintro _ _ ⟨b9,rfl,rfl⟩;refine AOL.e (Ao (k:=0) (v:=.agg _) (cs':=[.int .i64 _,.int .i64 _,.int .i64 _,.int .i64 _]) (H2:=_::_) Ai rfl rfl rfl rfl (rfl) rfl rfl rfl rfl) rfl ?_;rintro _ _ ⟨rfl,rfl⟩;refine AOL.ghost (GS.Aaj (t:=9) 0 rfl rfl) ?_;refine AOL.nil (Aa (AW.seq (AW.region (AOL.Aag (Ae (v:=.fn _ _ _) rfl) rfl (AOL.Aag (Ah (l:=[.int .i64 _,.int .i64 _,.int .i64 _,.int .i64 _]) Ai rfl rfl rfl rfl rfl) rfl (AOL.Aag (Ah (l:=[.int .i64 _,.int .i64 _,.int .i64 _,.int .i64 _]) Ai rfl rfl rfl rfl rfl) rfl ?_))))));refine AOL.Aag (Fy (by kernel_rfl) rfl rfl rfl (m_c1 a y)) rfl ?_;refine AOL.Aag (Ag (v:=.int .i64 _) rfl) rfl (AOL.nil (Aa (AW.seq (AW.region (AOL.Aag (Ae (v:=.int .i64 _) rfl) rfl (AOL.Aag (Fk rfl rfl) rfl (AOL.nil (Aa (AW.cond (b:=_) rfl (fun hc3=>AW.seq (AW.region (AOL.Aag (Ae (v:=.int .i64 _) rfl) rfl (AOL.Aag (Ag (v:=.int .i64 _) rfl) rfl (AOL.nil (Aa (AW.ret (Cn (Ap (Ap (Cn (Ap ?_)))))))))))) (fun hc3=>AW.skip (C9 (Aa (AW.region ?_)))))))))))))
  .
   refine ⟨.inr rfl,[.int .i64 _],.cons (.tmp _ _ rfl) <| .nil,.refl _,?_⟩;exact Eq.trans rfl (congrArg (fun q:Int=>AV.int .i64 q) (hR.2.2.trans (aD ha hy hc3))).symm
  refine AOL.Aag (Cc rfl rfl rfl (by constructor <;> omega)) rfl ?_;refine AOL.Aag (Ae (v:=.int .i64 _) rfl) rfl (AOL.nil (Aa ?_));refine ⟨k+1,?_,?_,GS.weaken ⟨rfl,rfl,rfl,rfl,rfl,rfl,trivial⟩ (.refl _)⟩
  . exact ⟨hlt,hlty,hR.2.2.trans (gH ha hy hc3)⟩
  omega
 have hkl:k=l.length:=by have:=C7 hc1;omega
 refine AW.exit ?_;refine A1 (A1 (Cd (Aa (AW.seq ?_))));refine AW.seq (AW.region (AOL.Aag (Ae (v:=.sl _ _) rfl) rfl ?_));refine AOL.Aag (Av (n:=l.length) Ai rfl rfl rfl (by simp)) rfl ?_;refine AOL.Aag (Ae (v:=.sl _ _) rfl) rfl ?_;refine AOL.Aag (Av (n:=m.length) Ai rfl rfl rfl (by simp)) rfl ?_;refine AOL.Aag (B9 rfl rfl) rfl (AOL.nil (Aa (AW.cond (b:=_) rfl (fun hc4=>AW.seq (AW.region (AOL.Aag (Ag (v:=.int .i64 _) rfl) rfl (AOL.nil (Aa (AW.ret (Ap ?_))))))) (fun hc4=>AW.skip (Aa (AW.seq (AW.region (AOL.Aag (Ag (v:=.int .i64 _) rfl) rfl (AOL.nil (Aa (AW.ret ?_)))))))))))
 .
  refine ⟨.inr rfl,[.int .i64 _],.cons (.tmp _ _ rfl) <| .nil,.refl _,?_⟩;exact Eq.trans rfl (congrArg (fun q:Int=>AV.int .i64 q) ((hR.2.2.trans ((Q0 (by omega) hR.2.1).trans (if_pos (G7 (by have:=B2 hc4;omega)))):Em eE l m = -1))).symm
 refine ⟨.inr rfl,[.int .i64 _],.cons (.tmp _ _ rfl) <| .nil,.refl _,?_⟩;exact Eq.trans rfl (congrArg (fun q:Int=>AV.int .i64 q) ((hR.2.2.trans ((Q0 (by omega) hR.2.1).trans (if_neg (by have:=C7 hc4;simp;omega))):Em eE l m=0))).symm
theorem kL (x y:List Bd):Al Tryz.prog 65 [.agg (cMt x),.agg (cMt y)] (.int .i64 (cmpM x y)):=by
 refine Al.body (n:=10) Ai Tryz.func65 rfl rfl rfl fun H=>?_
 refine AW.seq (AW.region (AOL.Aag (Bt (v:=.agg _) (cs:=[_]) rfl rfl rfl) rfl (AOL.Aag (Bt (v:=.agg _) (cs:=[_]) rfl rfl rfl) rfl (AOL.Aag (Ag (v:=.int .i64 _) rfl) rfl (AOL.nil (Aa (AW.seq (AW.region (AOL.Aag (Ad (cs':=[_]) Ai rfl rfl rfl rfl rfl rfl) rfl (AOL.Aag (Af (c:=.sl _ _) Ai rfl rfl rfl) rfl (AOL.Aag (Ad (cs':=[_]) Ai rfl rfl rfl rfl rfl rfl) rfl (AOL.Aag (Af (c:=.sl _ _) Ai rfl rfl rfl) rfl ?_))))))))))));refine AOL.Aag (Ak (by kernel_rfl) rfl rfl (zN x y)) rfl ?_;refine AOL.Aag (Ag (v:=.int .i64 _) rfl) rfl (AOL.nil (Aa (AW.ret ?_)));refine ⟨.inr rfl,[.int .i64 _],.cons (.tmp _ _ rfl) <| .nil,.refl _,?_⟩;rfl
theorem bC (bo cap:Nat)(J:List AV)(F:Nat)(hfn:Pe Tryz.prog F=true)(cmp:(List Bd)->(List Bd)->Int)(hf:∀x y:(List Bd),Al Tryz.prog F [.agg (cMt x),.agg (cMt y)] (.int .i64 (cmp x y)))(l:List (List Bd))(hl:l.length<=12):Lp Tryz.prog 144 bo 124 (Eo cMt l++J) (Eo cMt (Gt Wl (fun x y=>decide (cmp x y<0)) l)++J) [.val (.slice (some ⟨bo,0,none⟩) l.length cap),.int .i64 0,.int .i64 l.length,.fn (.func F) [] []] (.tuple []):=by
 intro H;refine Cb.body (n:=53) Ai Tryz.func144 rfl rfl rfl ?_;refine AW.ghostPost (AW.seq (AW.region (AOL.Aag (Ae (v:=.int .i64 _) rfl) rfl ?_)));refine AOL.Aag (Cc rfl rfl rfl (by constructor <;> omega)) rfl ?_;refine AOL.Aag (Ag (v:=.int .i64 _) rfl) rfl (AOL.nil (Aa (AW.block ?_)));refine AW.loopS (fun (p:Nat×List (List Bd))=>(⟨[(0,.val (.slice (some ⟨bo,0,none⟩) l.length cap)),(1,.int .i64 0),(2,.int .i64 l.length),(3,.fn (.func F) [] []),(8,.int .i64 (p.1:Int))],.box bo 124 (Eo cMt p.2++J)::H,53⟩:St)) (fun p=>1<=p.1/\p.2.length=l.length/\Jc Wl (fun x y=>decide (cmp x y<0)) (l.length-p.1) p.1 p.2=Gt Wl (fun x y=>decide (cmp x y<0)) l) (fun p=>l.length-p.1) ((1,l)) ?_ (GS.weaken ⟨rfl,rfl,rfl,rfl,rfl,trivial⟩ (.refl _)) ?_
 . exact ⟨Bi _,rfl,rfl⟩
 rintro p hR;refine AW.seq (AW.seq (AW.region (AOL.Aag (Ae (v:=.int .i64 _) rfl) rfl (AOL.Aag (Ae (v:=.int .i64 _) rfl) rfl (AOL.Aag (B9 rfl rfl) rfl (AOL.nil (Aa (AW.cond (b:=_) rfl (fun hc1=>?_) (fun hc1=>?_)))))))))
 .
  have hpi:=B2 hc1;refine AW.skip (Aa (AW.seq (AW.block (AW.seq (AW.region (AOL.Aag (Ae (v:=.int .i64 _) rfl) rfl (AOL.Aag (Ag (v:=.int .i64 _) rfl) rfl (AOL.nil (Aa (AW.block ?_))))))))));refine AW.loopS (fun (q:Nat×List (List Bd))=>(⟨[(0,.val (.slice (some ⟨bo,0,none⟩) l.length cap)),(1,.int .i64 0),(2,.int .i64 l.length),(3,.fn (.func F) [] []),(8,.int .i64 (p.1:Int)),(9,.int .i64 (q.1:Int))],.box bo 124 (Eo cMt q.2++J)::H,53⟩:St)) (fun q=>q.2.length=l.length/\q.1<l.length/\Gf Wl (fun x y=>decide (cmp x y<0)) q.1 q.2=Gf Wl (fun x y=>decide (cmp x y<0)) p.1 p.2) (fun q=>q.1) ((p.1,p.2)) ?_ (GS.weaken ⟨rfl,rfl,rfl,rfl,rfl,rfl,trivial⟩ (.refl _)) ?_
  . exact ⟨hR.2.1,by simp only;omega,rfl⟩
  rintro q hQ;have hql:=hQ.1;refine AW.seq (AW.seq ?_);refine AW.draw mixed (fun H'=>_∈H') (A0 (i:=0) rfl) (by kernel_rfl) ?_;refine E5.pure _ _ 0 _ _ rfl (by kernel_rfl) (by kernel_rfl) rfl (.run rfl (Ae (v:=.int .i64 _) rfl)) ?_;refine E5.pure _ _ 1 _ _ rfl (by kernel_rfl) (by kernel_rfl) rfl (.run rfl (Ae (v:=.int .i64 _) rfl)) ?_;refine E5.pure _ _ 2 _ _ rfl (by kernel_rfl) (by kernel_rfl) rfl (.run rfl (Gy rfl rfl)) ?_;refine E5.pure _ _ 3 _ _ rfl (by kernel_rfl) (by kernel_rfl) rfl (.run rfl (Ae (v:=.bool _) rfl)) ?_;refine E5.pure _ _ 4 _ _ rfl (by kernel_rfl) (by kernel_rfl) rfl (.opt _ (.fn _ _ _) [] rfl (Un.all trivial) (fun hG=>Ae (v:=.fn _ _ _) rfl) rfl) ?_;refine E5.pure _ _ 5 _ _ rfl (by kernel_rfl) (by kernel_rfl) rfl (.opt _ (.val _) [] rfl (Un.all trivial) (fun hG=>Ae (v:=.val _) rfl) rfl) ?_;refine E5.pure _ _ 6 _ _ rfl (by kernel_rfl) (by kernel_rfl) rfl (.opt _ (.int .i64 _) [] rfl (Un.all trivial) (fun hG=>Ae (v:=.int .i64 _) rfl) rfl) ?_;refine E5.pure _ _ 7 _ _ rfl (by kernel_rfl) (by kernel_rfl) rfl (.opt _ (.val _) [(23,_),(24,_)] rfl (Un.all ⟨Zs.self _ _,Zs.self _ _,trivial⟩) (fun hG=>A8 (o':=q.1*1) Ai rfl rfl rfl rfl rfl (by omega) (by omega) (by show 0+(q.1:Int).toNat*1=(q.1)*1;rw [show (q.1:Int).toNat=q.1 from by omega,Cg])) rfl) ?_;refine E5.pure _ _ 8 _ _ rfl (by kernel_rfl) (by kernel_rfl) rfl (.opt _ (.agg _) [(25,_)] rfl (Un.all ⟨Zs.self _ _,trivial⟩) (fun hG=>OpP.Aan (fun k=>Cf (k:=k) (l:=cMt ((q.2[q.1]?).getD Wl)) Ai rfl rfl rfl (flat_at (c:=cMt) (z:=1) Li Wl J q.2 (q.1) (by omega)) rfl) (fun _ h=>h)) rfl) ?_;refine E5.pure _ _ 9 _ _ rfl (by kernel_rfl) (by kernel_rfl) rfl (.opt _ (.val _) [] rfl (Un.all trivial) (fun hG=>Ae (v:=.val _) rfl) rfl) ?_;refine E5.pure _ _ 10 _ _ rfl (by kernel_rfl) (by kernel_rfl) rfl (.opt _ (.int .i64 _) [] rfl (Un.all trivial) (fun hG=>Ae (v:=.int .i64 _) rfl) rfl) ?_;refine E5.pure _ _ 11 _ _ rfl (by kernel_rfl) (by kernel_rfl) rfl (.opt _ (.int .i64 _) [(28,_)] rfl (Un.all ⟨Zs.self _ _,trivial⟩) (fun hG=>Gj rfl rfl rfl (by constructor <;> omega)) rfl) ?_;refine E5.pure _ _ 12 _ _ rfl (by kernel_rfl) (by kernel_rfl) rfl (.opt _ (.val _) [(27,_),(29,_)] rfl (Un.all ⟨Zs.self _ _,Zs.self _ _,trivial⟩) (fun hG=>A8 (o':=(q.1-1)*1) Ai rfl rfl rfl rfl rfl (by have h9:=B2 (Ed hG);omega) (by have h9:=B2 (Ed hG);omega) (by have h9:=B2 (Ed hG);show 0+((q.1:Int)-1).toNat*1=(q.1-1)*1;rw [show ((q.1:Int)-1).toNat=q.1-1 from by omega,Cg])) rfl) ?_;refine E5.pure _ _ 13 _ _ rfl (by kernel_rfl) (by kernel_rfl) rfl (.opt _ (.agg _) [(30,_)] rfl (Un.all ⟨Zs.self _ _,trivial⟩) (fun hG=>OpP.Aan (fun k=>Cf (k:=k) (l:=cMt ((q.2[q.1-1]?).getD Wl)) Ai rfl rfl rfl (flat_at (c:=cMt) (z:=1) Li Wl J q.2 (q.1-1) (by omega)) rfl) (fun _ h=>h)) rfl) ?_
  refine E5.pure _ _ 14 _ _ rfl (by kernel_rfl) (by kernel_rfl) rfl (.opt _ (.int .i64 _) [(26,_),(31,_),(22,_)] rfl (Un.all ⟨Zs.self _ _,Zs.self _ _,Zs.self _ _,trivial⟩) (fun hG=>Fy hfn rfl rfl rfl (hf _ _)) rfl) ?_;refine E5.pure _ _ 15 _ _ rfl (by kernel_rfl) (by kernel_rfl) rfl (.opt _ (.bool _) [(32,_)] rfl (Un.all ⟨Zs.self _ _,trivial⟩) (fun hG=>B9 rfl rfl) rfl) ?_;refine E5.pure _ _ 16 _ _ rfl (by kernel_rfl) (by kernel_rfl) rfl (.run rfl (Bc rfl rfl rfl)) ?_;refine E5.done _ _ (by kernel_rfl) ?_;refine Aa (AW.cond (b:=_) rfl (fun hc2=>?_) (fun hc2=>?_))
  .
   have hj0:0<q.1:=by rw [Cq] at hc2;have:=B2 hc2.1;omega
   have hlt:(fun x y=>decide (cmp x y<0)) ((q.2[q.1]?).getD Wl) ((q.2[q.1-1]?).getD Wl)=true:=by rw [Cq] at hc2;exact hc2.2
   refine AW.skip (Aa (AW.seq (AW.block ?_)));refine AW.drawI mixed (fun j H'=>(j==9||j==13)=true->_∈H') (fun _ _=>(A0 (i:=0) rfl)) (by kernel_rfl) ?_;refine CanonI.pure _ _ 0 _ _ rfl (by kernel_rfl) (by kernel_rfl) rfl (.run rfl (Ae (v:=.val _) rfl)) ?_;refine CanonI.pure _ _ 1 _ _ rfl (by kernel_rfl) (by kernel_rfl) rfl (.run rfl (Ae (v:=.int .i64 _) rfl)) ?_;refine CanonI.pure _ _ 2 _ _ rfl (by kernel_rfl) (by kernel_rfl) rfl (.run rfl (Ae (v:=.val _) rfl)) ?_;refine CanonI.pure _ _ 3 _ _ rfl (by kernel_rfl) (by kernel_rfl) rfl (.run rfl (Ae (v:=.int .i64 _) rfl)) ?_;refine CanonI.pure _ _ 4 _ _ rfl (by kernel_rfl) (by kernel_rfl) rfl (.run rfl (Gj rfl rfl rfl (by constructor <;> omega))) ?_;refine CanonI.pure _ _ 5 _ _ rfl (by kernel_rfl) (by kernel_rfl) rfl (.run rfl (Ae (v:=.val _) rfl)) ?_;refine CanonI.pure _ _ 6 _ _ rfl (by kernel_rfl) (by kernel_rfl) rfl (.run rfl (Ae (v:=.int .i64 _) rfl)) ?_;refine CanonI.pure _ _ 7 _ _ rfl (by kernel_rfl) (by kernel_rfl) rfl (.run rfl (Gj rfl rfl rfl (by constructor <;> omega))) ?_;refine CanonI.pure _ _ 8 _ _ rfl (by kernel_rfl) (by kernel_rfl) rfl (.run rfl (A8 (o':=(q.1-1)*1) Ai rfl rfl rfl rfl rfl (by omega) (by omega) (by show 0+((q.1:Int)-1).toNat*1=(q.1-1)*1;rw [show ((q.1:Int)-1).toNat=q.1-1 from by omega,Cg]))) ?_;refine CanonI.pure _ _ 9 _ _ rfl (by kernel_rfl) (by kernel_rfl) rfl (.run rfl (OpP.Aan (fun k=>Cf (k:=k) (l:=cMt ((q.2[q.1-1]?).getD Wl)) Ai rfl rfl rfl (flat_at (c:=cMt) (z:=1) Li Wl J q.2 (q.1-1) (by omega)) rfl) (fun _ h=>h rfl))) ?_;refine CanonI.pure _ _ 10 _ _ rfl (by kernel_rfl) (by kernel_rfl) rfl (.run rfl (Ae (v:=.val _) rfl)) ?_;refine CanonI.pure _ _ 11 _ _ rfl (by kernel_rfl) (by kernel_rfl) rfl (.run rfl (Ae (v:=.int .i64 _) rfl)) ?_;refine CanonI.pure _ _ 12 _ _ rfl (by kernel_rfl) (by kernel_rfl) rfl (.run rfl (A8 (o':=q.1*1) Ai rfl rfl rfl rfl rfl (by omega) (by omega) (by show 0+(q.1:Int).toNat*1=(q.1)*1;rw [show (q.1:Int).toNat=q.1 from by omega,Cg]))) ?_;refine CanonI.pure _ _ 13 _ _ rfl (by kernel_rfl) (by kernel_rfl) rfl (.run rfl (OpP.Aan (fun k=>Cf (k:=k) (l:=cMt ((q.2[q.1]?).getD Wl)) Ai rfl rfl rfl (flat_at (c:=cMt) (z:=1) Li Wl J q.2 (q.1) (by omega)) rfl) (fun _ h=>h rfl))) ?_;refine CanonI.pure _ _ 14 _ _ rfl (by kernel_rfl) (by kernel_rfl) rfl (.run rfl (A8 (o':=q.1*1) Ai rfl rfl rfl rfl rfl (by omega) (by omega) (by show 0+(q.1:Int).toNat*1=(q.1)*1;rw [show (q.1:Int).toNat=q.1 from by omega,Cg]))) ?_;refine CanonI.phase (fun _ _=>True) _ _ 15 _ _ rfl (by kernel_rfl) rfl rfl (Ao (k:=0) (v:=.agg _) (cs':=_) (H2:=_::_) Ai rfl rfl rfl rfl rfl rfl (Kz (c:=cMt) (z:=1) Li J (by first | omega | (simp only [Hr];omega))) (G2 (c:=cMt) (z:=1) Li J _ _ (q.1) (by first | omega | (simp only [Hr];omega))) rfl) (fun j _ _ hr _ _ hj=>?_) (fun _ _ _ _=>trivial) ?_
   .
    rcases (by simpa only [Ek,beq_iff_eq,or_assoc] using hj:j=9\/j=13) with rfl | rfl
    . exact Bool.noConfusion ((show Hk _ 7 _ 9=true by kernel_rfl).symm.trans hr)
    exact Bool.noConfusion ((show Hk _ 7 _ 13=true by kernel_rfl).symm.trans hr)
   rintro _ _ ⟨rfl,rfl⟩;refine CanonI.pure _ _ 16 _ _ rfl (by kernel_rfl) (by kernel_rfl) rfl (.run rfl (A8 (o':=(q.1-1)*1) Ai rfl rfl rfl rfl rfl (by omega) (by omega) (by show 0+((q.1:Int)-1).toNat*1=(q.1-1)*1;rw [show ((q.1:Int)-1).toNat=q.1-1 from by omega,Cg]))) ?_;refine CanonI.eff _ _ 17 _ _ rfl (by kernel_rfl) rfl rfl (Ao (k:=0) (v:=.agg _) (cs':=_) (H2:=_::_) Ai rfl rfl rfl rfl rfl rfl (Kz (c:=cMt) (z:=1) Li J (by first | omega | (simp only [Hr];omega))) (G2 (c:=cMt) (z:=1) Li J _ _ (q.1-1) (by first | omega | (simp only [Hr];omega))) rfl) (fun _ _ _ _=>trivial) ?_;rintro _ _ ⟨rfl,rfl⟩;refine CanonI.done _ _ (by kernel_rfl) ?_;refine C9 (Aa (AW.region (AOL.Aag (Ae (v:=.int .i64 _) rfl) rfl ?_)));refine AOL.Aag (Gj rfl rfl rfl (by constructor <;> omega)) rfl ?_;refine AOL.Aag (Ag (v:=.int .i64 _) rfl) rfl (AOL.nil (Aa ?_));refine ⟨(q.1-1,vG Wl q.2 q.1),?_,?_,GS.trans (GS.cellsTo (H2:=_::_) 0 rfl ((by first | rfl | exact congrArg (fun x=>Eo cMt x++J) (List.set_comm _ _ (by omega)))) rfl) (GS.weaken ⟨rfl,rfl,rfl,rfl,rfl,congrArg (AV.int .i64) (by simp only;omega),trivial⟩ (.refl _))⟩
   . exact ⟨by rw [Zp];exact hQ.1,by simp only;omega,by rw [<-hQ.2.2,Pu hj0 hlt]⟩
   simp only;omega
  have hin:Gf Wl (fun x y=>decide (cmp x y<0)) q.1 q.2=q.2:=Pv fun h0=>by rw [M7] at hc2;exact hc2.resolve_left (by rw [G7 (by omega)];decide)
  refine AW.exit ?_;refine A1 (A1 (Cd (C9 (Aa (AW.region ?_)))));refine AOL.Aag (Ae (v:=.int .i64 _) rfl) rfl ?_;refine AOL.Aag (Cc rfl rfl rfl (by constructor <;> omega)) rfl ?_;refine AOL.Aag (Ag (v:=.int .i64 _) rfl) rfl (AOL.nil (Aa ?_));refine ⟨(p.1+1,q.2),?_,?_,GS.weaken ⟨rfl,rfl,rfl,rfl,rfl,trivial⟩ (.refl _)⟩
  . exact ⟨by simp only;omega,hQ.1,by simp only;rw [<-hR.2.2];rw [Pz (l:=p.2) (i:=p.1) (by omega),<-hQ.2.2,hin]⟩
  simp only;omega
 have hpi:=C7 hc1;have hend:=hR.2.2;rw [P0 (by omega)] at hend;refine AW.exit ?_;refine A1 (A1 (Cd ?_));refine ⟨_,GS.cellsTo (H2:=_::_) 0 rfl ((congrArg (fun x=>Eo cMt x++J) hend)) rfl,.inl rfl,[],.nil,_,.refl _,?_⟩;exact ⟨rfl,rfl⟩
theorem bE (bo cap:Nat)(J:List AV)(F:Nat)(hfn:Pe Tryz.prog F=true)(cmp:(List Bd)->(List Bd)->Int)(hf:∀x y:(List Bd),Al Tryz.prog F [.agg (cMt x),.agg (cMt y)] (.int .i64 (cmp x y)))(l:List (List Bd))(hl:l.length<=12)(n:Int):Lp Tryz.prog 106 bo 124 (Eo cMt l++J) (Eo cMt (Gt Wl (fun x y=>decide (cmp x y<0)) l)++J) [.val (.slice (some ⟨bo,0,none⟩) l.length cap),.int .i64 0,.int .i64 l.length,.int .i64 n,.fn (.func F) [] []] (.tuple []):=by
 intro H;refine Cb.body (n:=148) Ai Tryz.func106 rfl rfl rfl ?_;refine AW.seq (AW.region (AOL.Aag (Ag (v:=.bool _) rfl) rfl (AOL.nil (Aa (AW.seq (AW.region (AOL.Aag (Ag (v:=.bool _) rfl) rfl (AOL.nil (Aa (AW.block ?_))))))))));refine AW.loopS (fun (_:Unit)=>(⟨[(0,.val (.slice (some ⟨bo,0,none⟩) l.length cap)),(1,.int .i64 0),(2,.int .i64 l.length),(4,.fn (.func F) [] [])],.box bo 124 (Eo cMt l++J)::H,148⟩:St)) (fun _=>True) (fun _=>0) (()) ?_ (GS.weaken ⟨rfl,rfl,rfl,rfl,trivial⟩ (.refl _)) ?_
 . trivial
 rintro _ _;refine AW.block (AW.seq (AW.region (AOL.Aag (Ae (v:=.int .i64 _) rfl) rfl (AOL.Aag (Ae (v:=.int .i64 _) rfl) rfl ?_))));refine AOL.Aag (Gj rfl rfl rfl (by constructor <;> omega)) rfl ?_;refine AOL.Aag (Ag (v:=.int .i64 _) rfl) rfl (AOL.nil (Aa (AW.seq (AW.seq (AW.region (AOL.Aag (Ae (v:=.int .i64 _) rfl) rfl (AOL.Aag (I8 rfl rfl) rfl (AOL.nil (Aa (AW.cond (b:=_) rfl (fun hc1=>AW.seq (AW.region (AOL.Aag (Ae (v:=.val _) rfl) rfl (AOL.Aag (Ae (v:=.int .i64 _) rfl) rfl (AOL.Aag (Ae (v:=.int .i64 _) rfl) rfl (AOL.Aag (Ae (v:=.fn _ _ _) rfl) rfl ?_)))))) (fun hc1=>?_)))))))))))
 .
  refine AOL.e (C2 (by kernel_rfl) rfl rfl ((bC bo cap J F hfn cmp hf l hl).at (k:=0) (H2:=_::_) rfl rfl)) rfl ?_;rintro _ _ ⟨rfl,rfl⟩;refine AOL.nil (Aa (AW.ret (Ap (Cn (Ap (Cn ?_))))));refine ⟨.inr rfl,[],.nil,_,.refl _,?_⟩;exact ⟨rfl,rfl⟩
 have:=C7 hc1;omega
theorem bB (bo cap:Nat)(J:List AV)(F:Nat)(hfn:Pe Tryz.prog F=true)(cmp:(List Bd)->(List Bd)->Int)(hf:∀x y:(List Bd),Al Tryz.prog F [.agg (cMt x),.agg (cMt y)] (.int .i64 (cmp x y)))(l:List (List Bd))(hl:l.length<=12):Lp Tryz.prog 64 bo 124 (Eo cMt l++J) (Eo cMt (Gt Wl (fun x y=>decide (cmp x y<0)) l)++J) [.val (.slice (some ⟨bo,0,none⟩) l.length cap),.fn (.func F) [] []] (.tuple []):=by
 intro H;refine Cb.body (n:=14) Ai Tryz.func64 rfl rfl rfl ?_;refine AW.seq (AW.region (AOL.Aag (Ae (v:=.val _) rfl) rfl (AOL.Aag (E6 Ai rfl rfl rfl) rfl (AOL.Aag (Ag (v:=.int .i64 _) rfl) rfl (AOL.nil (Aa (AW.region (AOL.Aag (Ae (v:=.val _) rfl) rfl (AOL.Aag (Ae (v:=.int .i64 _) rfl) rfl (AOL.Aag (Ae (v:=.int .i64 _) rfl) rfl ?_))))))))));refine AOL.Aag (I6 (m:=(l.length:Int)) Ai rfl rfl rfl rfl rfl (by rcases oE hl with h | h | h | h | h | h | h | h | h | h | h | h | h <;> (rw [h];rfl))) rfl ?_;refine AOL.Aag (Ak (by kernel_rfl) rfl rfl (Vo l.length hl)) rfl ?_;refine AOL.Aag (Ae (v:=.fn _ _ _) rfl) rfl ?_;refine AOL.e (C2 (by kernel_rfl) rfl rfl ((bE bo cap J F hfn cmp hf l hl _).at (k:=0) (H2:=_::_) rfl rfl)) rfl ?_;rintro _ _ ⟨rfl,rfl⟩;refine AOL.nil ?_;refine ⟨.inl rfl,[],.nil,_,.refl _,?_⟩;exact ⟨rfl,rfl⟩
theorem Ym (F:Nat):Al Tryz.prog 144 [.val (.slice none 0 0),.int .i64 0,.int .i64 0,.fn (.func F) [] []] (.tuple []):=by
 refine Al.body (n:=53) Ai Tryz.func144 rfl rfl rfl fun H=>?_
 refine AW.seq (AW.region (AOL.Aag (Ae (v:=.int .i64 _) rfl) rfl ?_));refine AOL.Aag (Cc rfl rfl rfl (by constructor <;> omega)) rfl ?_;refine AOL.Aag (Ag (v:=.int .i64 _) rfl) rfl (AOL.nil (Aa (AW.block ?_)));refine AW.loopS (fun (_:Unit)=>(⟨[(2,.int .i64 0),(8,.int .i64 1)],H,53⟩:St)) (fun _=>True) (fun _=>0) (()) ?_ (GS.weaken ⟨rfl,rfl,trivial⟩ (.refl _)) ?_
 . trivial
 rintro _ _;refine AW.seq (AW.seq (AW.region (AOL.Aag (Ae (v:=.int .i64 _) rfl) rfl (AOL.Aag (Ae (v:=.int .i64 _) rfl) rfl (AOL.Aag (B9 rfl rfl) rfl (AOL.nil (Aa (AW.cond (b:=_) rfl (fun hc1=>?_) (fun hc1=>AW.exit ?_)))))))))
 . cases hc1
 refine A1 (A1 (Cd ?_));refine ⟨.inl rfl,[],.nil,.refl _,?_⟩;rfl
theorem Yn (F:Nat)(n:Int):Al Tryz.prog 106 [.val (.slice none 0 0),.int .i64 0,.int .i64 0,.int .i64 n,.fn (.func F) [] []] (.tuple []):=by
 refine Al.body (n:=148) Ai Tryz.func106 rfl rfl rfl fun H=>?_
 refine AW.seq (AW.region (AOL.Aag (Ag (v:=.bool _) rfl) rfl (AOL.nil (Aa (AW.seq (AW.region (AOL.Aag (Ag (v:=.bool _) rfl) rfl (AOL.nil (Aa (AW.block ?_))))))))));refine AW.loopS (fun (_:Unit)=>(⟨[(0,.val (.slice none 0 0)),(1,.int .i64 0),(2,.int .i64 0),(4,.fn (.func F) [] [])],H,148⟩:St)) (fun _=>True) (fun _=>0) (()) ?_ (GS.weaken ⟨rfl,rfl,rfl,rfl,trivial⟩ (.refl _)) ?_
 . trivial
 rintro _ _;refine AW.block (AW.seq (AW.region (AOL.Aag (Ae (v:=.int .i64 _) rfl) rfl (AOL.Aag (Ae (v:=.int .i64 _) rfl) rfl ?_))));refine AOL.Aag (Gj rfl rfl rfl (by constructor <;> omega)) rfl ?_;refine AOL.Aag (Ag (v:=.int .i64 _) rfl) rfl (AOL.nil (Aa (AW.seq (AW.seq (AW.region (AOL.Aag (Ae (v:=.int .i64 _) rfl) rfl (AOL.Aag (I8 rfl rfl) rfl (AOL.nil (Aa (AW.cond (b:=_) rfl (fun hc1=>AW.seq (AW.region (AOL.Aag (Ae (v:=.val _) rfl) rfl (AOL.Aag (Ae (v:=.int .i64 _) rfl) rfl (AOL.Aag (Ae (v:=.int .i64 _) rfl) rfl (AOL.Aag (Ae (v:=.fn _ _ _) rfl) rfl ?_)))))) (fun hc1=>?_)))))))))))
 .
  refine AOL.Aag (Ak (by kernel_rfl) rfl rfl (Ym F)) rfl ?_;refine AOL.nil (Aa (AW.ret (Ap (Cn (Ap (Cn ?_))))));refine ⟨.inr rfl,[],.nil,.refl _,?_⟩;rfl
 cases hc1
theorem bD (F:Nat):Al Tryz.prog 64 [.val (.slice none 0 0),.fn (.func F) [] []] (.tuple []):=by
 refine Al.body (n:=14) Ai Tryz.func64 rfl rfl rfl fun H=>?_
 refine AW.seq (AW.region (AOL.Aag (Ae (v:=.val _) rfl) rfl (AOL.Aag (E6 Ai rfl rfl rfl) rfl (AOL.Aag (Ag (v:=.int .i64 _) rfl) rfl (AOL.nil (Aa (AW.region (AOL.Aag (Ae (v:=.val _) rfl) rfl (AOL.Aag (Ae (v:=.int .i64 _) rfl) rfl (AOL.Aag (Ae (v:=.int .i64 _) rfl) rfl (AOL.Aag (I6 (m:=((0:Nat):Int)) Ai rfl rfl rfl rfl rfl (rfl)) rfl ?_)))))))))));refine AOL.Aag (Ak (by kernel_rfl) rfl rfl (Vo 0 (by omega))) rfl ?_;refine AOL.Aag (Ae (v:=.fn _ _ _) rfl) rfl ?_;refine AOL.Aag (Ak (by kernel_rfl) rfl rfl (Yn F _)) rfl ?_;refine AOL.nil ?_;refine ⟨.inl rfl,[],.nil,.refl _,?_⟩;rfl
theorem tQ (F:Nat)(hfn:Pe Tryz.prog F=true)(cmp:(List Bd)->(List Bd)->Int)(hf:∀x y:(List Bd),Al Tryz.prog F [.agg (cMt x),.agg (cMt y)] (.int .i64 (cmp x y)))(l:List (List Bd))(hl:l.length<=12)(v:Value)(H:List HO) :
  Cb Tryz.prog 64 (.buf v (l.map cMt) 124 1::H) [.val v,.fn (.func F) [] []] (fun r H'=>r = .tuple []/\H' = .buf v ((Gt Wl (fun x y=>decide (cmp x y<0)) l).map cMt) 124 1::H):=by
 refine Cb.buf ?_ ?_
 .
  rintro rfl he;have hl0:l = []:=by simpa using he
  subst hl0;exact Cb.ofPure' (bD F) ⟨rfl,rfl⟩
 rintro b cap J rfl hc;rw [B1];refine ((bB b cap J F hfn cmp hf l hl) H).mono' ?_;rintro r H' ⟨rfl,rfl⟩;refine ⟨(Gt Wl (fun x y=>decide (cmp x y<0)) l).map cMt,rfl,?_,?_,rfl,rfl⟩
 . rw [B1,Rw]
 intro e he;obtain ⟨x,_,rfl⟩:=B7.1 he;rfl
theorem Qk {P:Program}{T:List (Nat×TD)}{d:Option Nat}{ty:TypeId}{pos:String}{aft:Array Edge}{gd:Option (Nat×Bool)}{ρ:Operand->AV}{x y:Operand}{t e k z:Nat}{td te:TD}{v:Value}{es:List (List AV)}{c:List AV}{H:List HO}(hT:G9 P T)(hx:ρ x = .val v)(hy:ρ y = .sl z [c])(ht:Bp T t=some td)(hk:td.kind = .slice e)
  (hte:Bp T e=some te) (hz:te.size=z) (hp:Nat.blt 0 z=true) (hH:H[k]? = some (.buf v es e z)) (hs:Bm c=true) (hb:(es.length+1)*te.bytes<=140737488355328) (hm:es.length+1<=maxLen) :
  Jj P ⟨d,.call ⟨.builtin .append,#[x,y],#[t,t]⟩,ty,pos,aft,gd⟩ ρ H (fun r H'=>∃a m cap,r = .val (.slice a m cap)/\H'=H.set k (.buf (.slice a m cap) (es ++ [c]) e z)):=by
 intro g w a next Q hr hHK hn
 refine Qj hT hx hy ht hk hte hz hp hH hs hb hm g w a next Q hr hHK ?_
 rintro g' w' u r H' ⟨a',cap,rfl,rfl⟩ hrep hok hext;exact hn g' w' u _ _ ⟨a',_,cap,rfl,rfl⟩ hrep hok hext
abbrev SlV:=Option Addr×Nat×Nat
abbrev svV (q:SlV):Value:=.slice q.1 q.2.1 q.2.2
theorem uA {L:List Ev}{s:List Pr}{k:Nat}{x:Pr}(h:s[k]? = some x):(oI L (s.take (k+1))).map cBd=(oI L (s.take k)).map cBd ++ [cBd ⟨x.v,rf (Fx L x.a)⟩]:=by
 rw [M6,h];unfold oI;simp
theorem uC {L:List Ev}{A:List (List Pr)}{k:Nat}{s:List Pr}(h:A[k]? = some s):((A.take (k+1)).map (oI L)).map cMt=((A.take k).map (oI L)).map cMt ++ [cMt (oI L s)]:=by
 rw [M6,h];simp
theorem zQ (L:List Ev)(s:List Pr):(oI L s).length=s.length:=B1 ..
theorem lA (L:List Ev)(hL:L.length<=10)(p:Pt)(hmed:medP p)(hc:Gk p=0)(hs:Fh L=0)(A:List (List Pr))(hA:A.length<=12)(hl:∀s∈A,s.length<=12/\PrOK L s)(hsub:Al Tryz.prog 62 [.ptr [.sl 5 (L.map Ec),.bool false],.agg (cPt p),.val (.slice none 0 0),.int .i64 0] (.sl 1 (A.map I1)))(H:List HO):Cb Tryz.prog 25 H [.agg (cPt p),.sl 5 (L.map Ec)] (fun r H'=>(∃l:List (List Bd),l.length=A.length/\r = .tuple [.sl 1 (l.map cMt),.int .i64 0])/\H'=H):=by
 refine Cb.body (n:=71) Ai Tryz.func25 rfl rfl rfl ?_;refine AW.seq (AW.region (AOL.Aag (Bt (v:=.agg _) (cs:=[.int .i64 _,_,.int .i64 _,.int .i64 _,.int .i64 _,.int .i64 _,.int .i64 _,_,.int .i64 _,.int .i64 _,.int .i64 _,.int .i64 _,.int .i64 _,.str _]) rfl rfl rfl) rfl (AOL.Aag (Dg (z:=1) rfl) rfl (AOL.Aag (Ag (v:=.int .i64 _) rfl) rfl (AOL.nil (Aa (AW.seq (AW.seq (AW.region (AOL.Aag (Ah (l:=[.int .i64 _,_,.int .i64 _,.int .i64 _,.int .i64 _,.int .i64 _,.int .i64 _,_,.int .i64 _,.int .i64 _,.int .i64 _,.int .i64 _,.int .i64 _,.str _]) Ai rfl rfl rfl rfl rfl) rfl ?_))))))))));refine AOL.Aag (Ak (by kernel_rfl) rfl rfl (V3 p hmed)) rfl ?_;refine AOL.Aag (Ag (v:=.int .i64 _) rfl) rfl (AOL.nil (Aa (AW.seq (AW.region (AOL.Aag (Ae (v:=.int .i64 _) rfl) rfl (AOL.Aag (Fk rfl rfl) rfl (AOL.nil (Aa (AW.cond (b:=_) rfl (fun hc1=>?_) (fun hc1=>AW.skip (Aa (AW.seq (AW.seq (AW.region (AOL.Aag (Ae (v:=.sl _ _) rfl) rfl ?_)))))))))))))))
 . rw [hc] at hc1;cases hc1
 refine AOL.Aag (Ak (by kernel_rfl) rfl rfl (iV L)) rfl ?_;refine AOL.Aag (Ag (v:=.int .i64 _) rfl) rfl (AOL.nil (Aa (AW.seq (AW.region (AOL.Aag (Ae (v:=.int .i64 _) rfl) rfl (AOL.Aag (Fk rfl rfl) rfl (AOL.nil (Aa (AW.cond (b:=_) rfl (fun hc2=>?_) (fun hc2=>AW.skip (Aa (AW.seq (AW.region (AOL.Aag (Ae (v:=.sl _ _) rfl) rfl (AOL.Aag (C3 (l:=[_,.bool _]) Ai rfl rfl rfl) rfl (AOL.Aag (Bt (v:=.agg _) (cs:=[_,.bool _]) rfl rfl rfl) rfl (AOL.Aag (Ag (v:=.ptr _) rfl) rfl (AOL.nil (Aa (AW.seq (AW.region (AOL.Aag (Ae (v:=.ptr _) rfl) rfl (AOL.Aag (Ah (l:=[.int .i64 _,_,.int .i64 _,.int .i64 _,.int .i64 _,.int .i64 _,.int .i64 _,_,.int .i64 _,.int .i64 _,.int .i64 _,.int .i64 _,.int .i64 _,.str _]) Ai rfl rfl rfl rfl rfl) rfl ?_)))))))))))))))))))))))
 . rw [hs] at hc2;cases hc2
 refine AOL.Aag (Ak (by kernel_rfl) rfl rfl (hsub)) rfl ?_;refine AOL.Aag (Ag (v:=.sl _ _) rfl) rfl (AOL.nil (Aa (AW.seq (AW.seq (AW.region (AOL.Aag (Ae (v:=.ptr _) rfl) rfl (AOL.Aag (B4 rfl) rfl (AOL.Aag (Ad (cs':=[.bool _]) Ai rfl rfl rfl rfl rfl rfl) rfl (AOL.Aag (Af (c:=.bool _) Ai rfl rfl rfl) rfl (AOL.nil (Aa (AW.cond (b:=_) rfl (fun hc3=>?_) (fun hc3=>AW.skip (Aa (AW.seq (AW.region (AOL.Aag (Ag (v:=.val _) rfl) rfl ?_)))))))))))))))))
 . cases hc3
 refine AOL.ghost (GS.buf 124 1) ?_;refine AOL.nil (Aa (AW.seq (AW.seq (AW.region (AOL.Aag (Ae (v:=.sl _ _) rfl) rfl ?_)))));refine AOL.Aag (Av (n:=A.length) Ai rfl rfl rfl (by simp)) rfl ?_;refine AOL.Aag (Ae (v:=.int .i64 _) rfl) rfl (AOL.nil (Aa (AW.block ?_)));refine AW.loopS (fun (q:Nat×SlV×List (List AV))=>(⟨[(1,.sl 5 (L.map Ec)),(9,.sl 1 (A.map I1)),(36,.sl 1 (A.map I1)),(37,.int .i64 (A.length:Int)),(38,.int .i64 (q.1:Int)),(10,.val (svV q.2.1))],.buf (svV q.2.1) q.2.2 124 1::H,71⟩:St)) (fun q=>q.1<=A.length/\q.2.2=((A.take q.1).map (oI L)).map cMt) (fun q=>A.length-q.1) ((0,(none,0,0),[])) ?_ (GS.weaken ⟨rfl,rfl,rfl,rfl,rfl,rfl,trivial⟩ (.refl _)) ?_
 . exact ⟨Bn _,rfl⟩
 rintro q hR;refine AW.seq (AW.region (AOL.Aag (B9 rfl rfl) rfl (AOL.nil (Aa (AW.seq (AW.cond (b:=_) rfl (fun hc4=>?_) (fun hc4=>?_)))))))
 .
  refine (Fa (l:=A) (k:=q.1) (by have:=B2 hc4;omega)).elim fun s ha=>?_
  have hlt:=Bj ha;have hm:=A0 ha;have hsl:=(hl s hm).1;have hsp:=(hl s hm).2;have hql:q.2.2.length=q.1:=by rw [hR.2,B1,B1,Fr];omega
  refine AW.skip (Aa (AW.seq (AW.block (AW.seq (AW.region ?_)))));refine AOL.Aag (Am (c:=[.sl 2 (s.map Ct)]) Ai rfl rfl rfl rfl rfl rfl (by omega) (Co ha)) rfl ?_;refine AOL.Aag (Af (c:=.sl _ _) Ai rfl rfl rfl) rfl (AOL.Aag (Ag (v:=.sl _ _) rfl) rfl (AOL.nil (Aa (AW.seq (AW.region ?_)))));refine AOL.e (Bh (l:=[.val (.slice none 0 0)]) (by kernel_rfl)) rfl ?_;rintro _ _ ⟨b13,rfl,rfl⟩;refine AOL.ghost (GS.buf 128 4) ?_;refine AOL.nil (Aa (AW.seq (AW.seq (AW.region (AOL.Aag (Ae (v:=.sl _ _) rfl) rfl ?_)))));refine AOL.Aag (Av (n:=s.length) Ai rfl rfl rfl (by simp)) rfl ?_;refine AOL.Aag (Ae (v:=.int .i64 _) rfl) rfl (AOL.nil (Aa (AW.block ?_)));refine AW.loopS (fun (r:Nat×SlV×List (List AV))=>(⟨[(1,.sl 5 (L.map Ec)),(9,.sl 1 (A.map I1)),(36,.sl 1 (A.map I1)),(37,.int .i64 (A.length:Int)),(38,.int .i64 (q.1:Int)),(10,.val (svV q.2.1)),(12,.sl 2 (s.map Ct)),(13,.val (.pointer (some ⟨b13,0,none⟩))),(42,.sl 2 (s.map Ct)),(43,.int .i64 (s.length:Int)),(44,.int .i64 (r.1:Int))],.buf (svV r.2.1) r.2.2 128 4 :: .box b13 124 [.val (svV r.2.1)] :: .buf (svV q.2.1) q.2.2 124 1::H,71⟩:St)) (fun r=>r.1<=s.length/\r.2.2=(oI L (s.take r.1)).map cBd) (fun r=>s.length-r.1) ((0,(none,0,0),[])) ?_ (GS.weaken ⟨rfl,rfl,rfl,rfl,rfl,rfl,rfl,rfl,rfl,rfl,rfl,trivial⟩ (.refl _)) ?_
  . exact ⟨Bn _,rfl⟩
  rintro r hRr;refine AW.seq (AW.region (AOL.Aag (B9 rfl rfl) rfl (AOL.nil (Aa (AW.seq (AW.cond (b:=_) rfl (fun hc5=>?_) (fun hc5=>?_)))))))
  .
   refine (Fa (l:=s) (k:=r.1) (by have:=B2 hc5;omega)).elim fun x hx=>?_
   have hltr:=Bj hx;have hxa:=hsp.at' x (A0 hx);have hla:L[x.a]? = some (Fx L x.a):=Hu Hg hxa;have hrl:r.2.2.length=r.1:=by rw [hRr.2,B1,zQ,Fr];omega
   refine AW.skip (Aa (AW.seq (AW.block (AW.seq (AW.region ?_)))));refine AOL.Aag (Am (c:=Ct x) Ai rfl rfl rfl rfl rfl rfl (by omega) (Co hx)) rfl ?_;refine AOL.Aag (Ah (l:=[.int .i64 _,.int .i64 _]) Ai rfl rfl rfl rfl rfl) rfl ?_;refine AOL.e (Bh (l:=[.int .i64 0,.int .i64 0]) (by kernel_rfl)) rfl ?_;rintro _ _ ⟨b15,rfl,rfl⟩;refine AOL.e (Ao (k:=0) (v:=.agg _) (cs':=[.int .i64 _,.int .i64 _]) (H2:=_::_::_::_::_) Ai rfl rfl rfl rfl (rfl) rfl rfl rfl rfl) rfl ?_;rintro _ _ ⟨rfl,rfl⟩;refine AOL.ghost (GS.Aaj (t:=15) 0 rfl rfl) ?_;refine AOL.nil (Aa ?_);refine AW.draw mixed (fun H'=>_∈H') (A0 (i:=1) rfl) (by kernel_rfl) ?_;refine E5.pure _ _ 0 _ _ rfl (by kernel_rfl) (by kernel_rfl) rfl (.run rfl (Cj Ai rfl rfl rfl rfl rfl rfl)) ?_;refine E5.pure _ _ 1 _ _ rfl (by kernel_rfl) (by kernel_rfl) rfl (.run rfl (OpP.Aan (fun k=>Br (k:=k) (c:=.val _) Ai rfl rfl rfl rfl) (fun _ h=>h))) ?_;refine E5.pure _ _ 2 _ _ rfl (by kernel_rfl) (by kernel_rfl) rfl (.run rfl (Ad (cs':=[.int .i64 _,.int .i64 _]) Ai rfl rfl rfl rfl rfl rfl)) ?_;refine E5.pure _ _ 3 _ _ rfl (by kernel_rfl) (by kernel_rfl) rfl (.run rfl (Af (c:=.int .i64 _) Ai rfl rfl rfl)) ?_;refine E5.pure _ _ 4 _ _ rfl (by kernel_rfl) (by kernel_rfl) rfl (.run rfl (Ae (v:=.sl _ _) rfl)) ?_;refine E5.pure _ _ 5 _ _ rfl (by kernel_rfl) (by kernel_rfl) rfl (.run rfl (Ad (cs':=[.int .i64 _]) Ai rfl rfl rfl rfl rfl rfl)) ?_;refine E5.pure _ _ 6 _ _ rfl (by kernel_rfl) (by kernel_rfl) rfl (.run rfl (Af (c:=.int .i64 _) Ai rfl rfl rfl)) ?_;refine E5.pure _ _ 7 _ _ rfl (by kernel_rfl) (by kernel_rfl) rfl (.run rfl (Am (c:=Ec (Fx L x.a)) Ai rfl rfl rfl rfl rfl rfl (by omega) (Co hla))) ?_;refine E5.pure _ _ 8 _ _ rfl (by kernel_rfl) (by kernel_rfl) rfl (.run rfl (Ah (l:=[.int .i64 _,.int .i64 _,.int .i64 _,.int .i64 _,_]) Ai rfl rfl rfl rfl rfl)) ?_;refine E5.pure _ _ 9 _ _ rfl (by kernel_rfl) (by kernel_rfl) rfl (.run rfl (Ak (by kernel_rfl) rfl rfl (gK _))) ?_;refine E5.pure _ _ 10 _ _ rfl (by kernel_rfl) (by kernel_rfl) rfl (.run rfl (C3 (l:=[.int .i64 _,.int .i64 _,.int .i64 _,.int .i64 _]) Ai rfl rfl rfl)) ?_;refine E5.pure _ _ 11 _ _ rfl (by kernel_rfl) (by kernel_rfl) rfl (.run rfl (Bw (es:=[[.int .i64 _,.int .i64 _,.int .i64 _,.int .i64 _]]) Ai rfl rfl rfl rfl rfl rfl rfl rfl rfl)) ?_;refine E5.eff _ _ 12 _ _ rfl (by kernel_rfl) rfl rfl (Qk (k:=0) (c:=cBd ⟨x.v,rf (Fx L x.a)⟩) Ai rfl rfl rfl rfl rfl rfl rfl rfl rfl (by rw [hrl];show (_+1)*32<=_;omega) (by rw [hrl];simp only [maxLen];omega)) (by rintro _ _ ⟨a60,m60,c60,rfl,rfl⟩;simp) ?_;rintro _ _ ⟨a60,m60,c60,rfl,rfl⟩;refine E5.pure _ _ 13 _ _ rfl (by kernel_rfl) (by kernel_rfl) rfl (.run rfl (Cj Ai rfl rfl rfl rfl rfl rfl)) ?_;refine E5.last _ _ 14 _ _ rfl (by kernel_rfl) rfl rfl (Ao (k:=1) (v:=.val _) (cs':=[_]) (H2:=_::_::_::_) Ai rfl rfl rfl rfl (rfl) rfl rfl rfl rfl) (by kernel_rfl) ?_
   rintro _ _ ⟨rfl,rfl⟩;refine C9 (Aa (AW.region ?_));refine AOL.Aag (Cc rfl rfl rfl (by constructor <;> omega)) rfl ?_;refine AOL.Aag (Ae (v:=.int .i64 _) rfl) rfl (AOL.nil (Aa ?_));refine ⟨(r.1+1,(a60,m60,c60),_),?_,?_,GS.weaken ⟨rfl,rfl,rfl,rfl,rfl,rfl,rfl,rfl,rfl,rfl,rfl,trivial⟩ (.refl _)⟩
   . exact ⟨hltr,by simp only;rw [uA hx,hRr.2]⟩
   simp only;omega
  have hger:r.1=s.length:=by have:=C7 hc5;have:=hRr.1;omega
  refine AW.exit ?_;refine A1 (A1 (Cd (Aa ?_)));refine AW.ghost (GS.freezeBufCell (H2:=_::_::_) 0 0 0 rfl rfl rfl rfl rfl) ?_;refine AW.region (AOL.Aag (Ae (v:=.val _) rfl) rfl (AOL.Aam (Cf (k:=0) (l:=[_]) Ai rfl rfl rfl rfl rfl) rfl rfl (AOL.Aag (Bw (es:=[[_]]) Ai rfl rfl rfl rfl rfl rfl rfl rfl rfl) rfl ?_)));refine AOL.e (Qk (k:=1) (c:=[.sl 4 r.2.2]) Ai rfl rfl rfl rfl rfl rfl rfl rfl rfl (by rw [hql];show (_+1)*24<=_;omega) (by rw [hql];simp only [maxLen];omega)) rfl ?_;rintro _ _ ⟨a66,m66,c66,rfl,rfl⟩;refine AOL.Aag (Ag (v:=.val _) rfl) rfl (AOL.nil (C9 (Aa (AW.region ?_))));refine AOL.Aag (Cc rfl rfl rfl (by constructor <;> omega)) rfl ?_;refine AOL.Aag (Ae (v:=.int .i64 _) rfl) rfl (AOL.nil (Aa ?_));refine ⟨(q.1+1,(a66,m66,c66),_),?_,?_,GS.weaken ⟨rfl,rfl,rfl,rfl,rfl,rfl,trivial⟩ (.cons _ (.refl _))⟩
  . exact ⟨hlt,by simp only;rw [uC ha,hR.2,hRr.2,hger,Oj]⟩
  simp only;omega
 have hge:q.1=A.length:=by have:=C7 hc4;have:=hR.1;omega
 have hes:q.2.2=(A.map (oI L)).map cMt:=by rw [hR.2,hge,Oj]
 refine AW.exit ?_;refine A1 (A1 (Cd (Aa (AW.seq ?_))));refine AW.ghost (GS.heapTo (H2:=_::_) (congrArg (fun l:List (List AV)=>HO.buf (svV q.2.1) l 124 1::H) hes)) ?_;refine AW.region (AOL.Aag (Ae (v:=.val _) rfl) rfl ?_);refine AOL.e (C2 (by kernel_rfl) rfl rfl ((tQ 65 (by kernel_rfl) cmpM kL (A.map (oI L)) (by rw [B1];exact hA) _ _))) rfl ?_;rintro _ _ ⟨rfl,rfl⟩;refine AOL.nil (Aa (AW.seq (AW.region (AOL.Aag (Ae (v:=.val _) rfl) rfl ?_))));refine AOL.ghost (GS.freezeBuf (t:=70) 0 rfl rfl) ?_;refine AOL.Aag (Ag (v:=.sl _ _) rfl) rfl (AOL.Aag (Ag (v:=.int .i64 _) rfl) rfl (AOL.nil (Aa (AW.ret ?_))));refine ⟨.inr rfl,[.sl _ _,.int .i64 _],.cons (.tmp _ _ rfl) <| .cons (.tmp _ _ rfl) <| .nil,_,.refl _,?_⟩;exact ⟨⟨_,by rw [Rw,B1],rfl⟩,rfl⟩
theorem uX (L:List Ev)(hL:L.length<=10)(p:Pt)(hmed:medP p)(hc:Gk p=0)(hs:Fh L=0)(A:List (List Pr))(hA:A.length<=12)(hl:∀s∈A,s.length<=12/\PrOK L s)(hsub:Al Tryz.prog 62 [.ptr [.sl 5 (L.map Ec),.bool false],.agg (cPt p),.val (.slice none 0 0),.int .i64 0] (.sl 1 (A.map I1)))(H:List HO):Cb Tryz.prog 10 H [.agg (cPt p),.sl 5 (L.map Ec)] (fun r H'=>r = .tuple [.int .i64 (A.length:Int),.int .i64 0]/\H'=H):=by
 refine Cb.body (n:=17) Ai Tryz.func10 rfl rfl rfl ?_;refine AW.seq (AW.region (AOL.Aag (Bt (v:=.agg _) (cs:=[.int .i64 _,_,.int .i64 _,.int .i64 _,.int .i64 _,.int .i64 _,.int .i64 _,_,.int .i64 _,.int .i64 _,.int .i64 _,.int .i64 _,.int .i64 _,.str _]) rfl rfl rfl) rfl (AOL.Aag (Ag (v:=.int .i64 _) rfl) rfl (AOL.Aag (Ag (v:=.int .i64 _) rfl) rfl (AOL.nil (Aa (AW.seq (AW.region (AOL.Aag (Ah (l:=[.int .i64 _,_,.int .i64 _,.int .i64 _,.int .i64 _,.int .i64 _,.int .i64 _,_,.int .i64 _,.int .i64 _,.int .i64 _,.int .i64 _,.int .i64 _,.str _]) Ai rfl rfl rfl rfl rfl) rfl (AOL.Aag (Ae (v:=.sl _ _) rfl) rfl ?_))))))))));refine AOL.e (C2 (by kernel_rfl) rfl rfl ((lA L hL p hmed hc hs A hA hl hsub _))) rfl ?_;rintro _ _ ⟨⟨lq,hlq,rfl⟩,rfl⟩;refine AOL.Aag (Ae (v:=.tuple _) rfl) rfl (AOL.Aag (A4 (v:=.sl _ _) rfl rfl) rfl (AOL.Aag (A4 (v:=.int .i64 _) rfl rfl) rfl (AOL.Aag (Ag (v:=.sl _ _) rfl) rfl (AOL.Aag (Ag (v:=.int .i64 _) rfl) rfl (AOL.nil (Aa (AW.seq (AW.region (AOL.Aag (Ae (v:=.sl _ _) rfl) rfl ?_)))))))));refine AOL.Aag (Av (n:=A.length) Ai rfl rfl rfl (by rw [B1];first | exact hlq | exact hlq.symm)) rfl ?_;refine AOL.Aag (Ae (v:=.int .i64 _) rfl) rfl (AOL.Aag (Ag (v:=.int .i64 _) rfl) rfl (AOL.Aag (Ag (v:=.int .i64 _) rfl) rfl (AOL.nil (Aa (AW.ret ?_)))));refine ⟨.inr rfl,[.int .i64 _,.int .i64 _],.cons (.tmp _ _ rfl) <| .cons (.tmp _ _ rfl) <| .nil,_,.refl _,?_⟩;exact ⟨rfl,rfl⟩
def yesX:Ex:=⟨0,[],0,0,0,⟨1,1,[]⟩⟩
def wY:Pt:=⟨0,[],0,0,0,0,yesX⟩
def cH:Pt:=⟨4,[wY],0,0,0,0,kB⟩
def Ub:List Ev:=[⟨0,0,0,1,[]⟩,⟨0,1,0,2,[]⟩]
theorem Wq:Gk cH=0:=by kernel_rfl
theorem vU:Fh Ub=0:=by kernel_rfl
theorem L_sm:lN cH Ub=true:=by kernel_rfl
theorem L_en:(B6 Ub cH [] 0).length=3:=by kernel_rfl
theorem L_sz:((B6 Ub cH [] 0).map fun f=>M4 f.d) = [2,3,2]:=by kernel_rfl
theorem vT:medP cH:=⟨by decide,by decide⟩
theorem L_pts:PtS Ub cH:=⟨(Mr Wq).1,by decide,(Mr Wq).2,by decide,mO (Mr Wq).1 (Mr Wq).2 L_sm,by decide⟩
theorem L_all (H:List HO):Cb Tryz.prog 7 H [.agg (cPt cH),.sl 5 (Ub.map Ec)] (fun r H'=>(∃l':List Dv,l'.length=3/\r = .tuple [.sl 5 (l'.map C6),.int .i64 0])/\H'=H):=
 (oN Ub (by decide) cH L_pts vT Wq vU (fun f hf=>by
  have h:=List.mem_map_of_mem (f:=fun f=>M4 f.d) hf;rw [L_sz] at h;simp only [Cz,List.not_mem_nil,or_false] at h;omega) (by rw [L_en];decide) H).mono' (by
  rintro r K ⟨⟨l',h1,_,rfl⟩,rfl⟩;exact ⟨⟨l',by rw [h1.length_eq,B1,L_en],rfl⟩,rfl⟩)
def jV:Nat->List (List Pr)
 | 0=>[[⟨0,0⟩],[⟨0,1⟩]]
 | 1=>[[⟨0,1⟩]]
 | _=>[]
def aI:Nat->List (List Pr)
 | 0=>[[⟨0,0⟩],[⟨0,1⟩],[⟨0,0⟩,⟨0,1⟩]]
 | 1=>[[⟨0,1⟩]]
 | _=>[]
theorem rY (o:List Pr):∀a,a<2->Fi Ub wY o a=true:=by
 intro a ha
 match a,ha with
 | 0,_=>rfl
 | 1,_=>rfl
theorem esE (o:List Pr):∀n,n<=2->wI Ub wY o n=jV n:=by
 intro n hn;unfold wI Jm
 rw [List.filter_eq_self.2 fun a ha=>rY o a (by
  have:=List.mem_range'.1 ha;obtain ⟨i,hi,rfl⟩:=this;have:Ub.length=2:=rfl;omega)]
 match n,hn with
 | 0,_=>rfl
 | 1,_=>rfl
 | 2,_=>rfl
theorem mM:∀n,n<=2->((jV n).map Lr).Nodup
 | 0,_=>by decide
 | 1,_=>by decide
 | 2,_=>by decide
theorem mN:∀n,n<=2->((aI n).map Lr).Nodup
 | 0,_=>by decide
 | 1,_=>by decide
 | 2,_=>by decide
theorem Uj {f:List Pr}(h:f∈aI 0):eB f/\f.length<=12/\PrOK Ub f:=by
 have h':f = [⟨0,0⟩]\/f = [⟨0,1⟩]\/f = [⟨0,0⟩,⟨0,1⟩]:=by simpa [aI] using h
 rcases h' with rfl | rfl | rfl
 . exact ⟨fun x hx=>by simp at hx;subst hx;decide,by decide,⟨by simp,by simp,by simp [Ub]⟩⟩
 . exact ⟨fun x hx=>by simp at hx;subst hx;decide,by decide,⟨by simp,by simp,by simp [Ub]⟩⟩
 exact ⟨fun x hx=>by simp at hx;rcases hx with rfl | rfl <;> decide,by decide,⟨by simp,by simp,by simp [Ub]⟩⟩
theorem T8:∀n,n<=2->∀f∈jV n,f∈aI 0/\f.length=1/\n<=lasP f/\lasP f<2
  | 0,_,f,h=>by
    have h':f = [⟨0,0⟩]\/f = [⟨0,1⟩]:=by simpa [jV] using h
    rcases h' with rfl | rfl <;> decide
  | 1,_,f,h=>by
    have h':f = [⟨0,1⟩]:=by simpa [jV] using h
    subst h';decide
  | 2,_,f,h=>by simp [jV] at h
theorem gN:∀n,n<=2->∀f∈aI n,f∈aI 0
  | 0,_,f,h=>h
  | 1,_,f,h=>by
    have h':f = [⟨0,1⟩]:=by simpa [aI] using h
    subst h';decide
  | 2,_,f,h=>by simp [aI] at h
theorem yF:∀n,n<=2->aI n=jV n++fR (fun s=>aI (lasP s+1)) (jV n)
 | 0,_=>by decide
 | 1,_=>by decide
 | 2,_=>by decide
theorem subE (o:List Pr)(ho:PrOK Ub o)(hol:o.length<=1048576)(n:Nat)(hn:n<=2):Al Tryz.prog 62 [.ptr [.sl 5 (Ub.map Ec),.bool false],.agg (cPt wY),.sl 2 (o.map Ct),.int .i64 (n:Int)] (.sl 1 ((jV n).map I1)):=fun H=>
 xC Ub wY o n 137 166 _ (jV n) (by decide) (by decide) rfl (by kernel_rfl) (by kernel_rfl) (uY Ub wY o n) (esE o n hn▸lB (by decide) (by decide) ho hol (by simpa [Ub] using hn)) (fun f hf=>by have h:=Uj (T8 n hn f hf).1;exact ⟨h.1,h.2.1⟩) (mM n hn) (by match n,hn with | 0,_=>decide | 1,_=>decide | 2,_=>decide) H
theorem subL:∀k n,n+k=2->∀o,PrOK Ub o->o.length<=n->Al Tryz.prog 62 [.ptr [.sl 5 (Ub.map Ec),.bool false],.agg (cPt cH),.sl 2 (o.map Ct),.int .i64 (n:Int)] (.sl 1 ((aI n).map I1)):=by
  intro k
  induction k using Nat.strongRecOn with
  | _ k ih=>
    intro n hnk o ho hol H;have hn:n<=2:=by omega
    have hE:=subE o ho (by omega) n hn;have hel:(jV n).length<=12:=by match n,hn with | 0,_=>decide | 1,_=>decide | 2,_=>decide
    have hll:(aI n).length<=12:=by match n,hn with | 0,_=>decide | 1,_=>decide | 2,_=>decide
    refine xC Ub cH o n 141 174 _ (aI n) (by decide) (by decide) rfl (by kernel_rfl) (by kernel_rfl) (s_plus Ub cH o n) ?_ (fun f hf=>by have h:=Uj (gN n hn f hf);exact ⟨h.1,h.2.1⟩) (mN n hn) hll H;rw [yF n hn];refine fun l0 rec0 hrec HK hobj hY H h0=>uZ Ub cH wY rfl o n (jV n) _ hE (by omega) ?_ l0 rec0 hrec HK hobj hY H h0
    refine fun l0 rec0 hrec HK hobj hY H h0=>vA Ub wY o n _ (jV n) (fun s=>aI (lasP s+1)) (by omega) (fun s hs=>?_) (fun s hs=>?_) hE (fun s hs=>?_) l0 rec0 hrec HK hobj hY H h0
    . have h1:=T8 n hn s hs
      refine ⟨by omega,by omega,fun t ht=>?_⟩
      have h2:t.length<=2:=by
        have h':t = [⟨0,0⟩]\/t = [⟨0,1⟩]\/t = [⟨0,0⟩,⟨0,1⟩]:=by simpa [aI] using gN _ (by omega) t ht
        rcases h' with rfl | rfl | rfl <;> decide
      omega
    . have h1:=T8 n hn s hs
      refine ⟨?_,by omega⟩;have:lasP s+1=1\/lasP s+1=2:=by omega
      rcases this with e | e <;> rw [e] <;> decide
    . have h1:=T8 n hn s hs
      have h2:=Uj h1.1;have:=ih (2-(lasP s+1)) (by omega) (lasP s+1) (by omega) (Ch o s) (Ny ho h2.2.2) (by rw [Mc];omega);exact s_rest Ub cH (Ch o s) (lasP s+1) _ this
theorem L_nil:PrOK Ub []:=⟨fun x hx=>(by cases hx),fun x hx=>(by cases hx),fun x hx=>(by cases hx)⟩
theorem subN:Al Tryz.prog 62 [.ptr [.sl 5 (Ub.map Ec),.bool false],.agg (cPt cH),.val (.slice none 0 0),.int .i64 0] (.sl 1 ((aI 0).map I1)):=fun H=>
 Td (args':=[.ptr [.sl 5 (Ub.map Ec),.bool false],.agg (cPt cH),.sl 2 (([]:List Pr).map Ct),.int .i64 ((0:Nat):Int)]) rfl (fun i x hi=>by
  match i,hi with
  | 0,hi=>exact ⟨_,rfl,by cases hi;exact fun _ _ _ h=>h⟩
  | 1,hi=>exact ⟨_,rfl,by cases hi;exact fun _ _ _ h=>h⟩
  | 2,hi=>exact ⟨_,rfl,by cases hi;exact Ue⟩
  | 3,hi=>exact ⟨_,rfl,by cases hi;exact fun _ _ _ h=>h⟩
  | n+4,hi=>cases hi) (subL 2 0 rfl [] L_nil (Bi _) H)
theorem rX:Al Tryz.prog 10 [.agg (cPt cH),.sl 5 (Ub.map Ec)] (.tuple [.int .i64 3,.int .i64 0]):=fun H=>
 uX Ub (by decide) cH vT Wq vU (aI 0) (by decide) (fun s hs=>by have h:=Uj hs;exact ⟨h.2.1,h.2.2⟩) subN H
def fD (p:Pt)(L:List Ev):Bool:=((lN p L&&eL L)&&Gk p==0)&&Fh L==0
structure Place (p:Pt) (L:List Ev):Prop where
 sm:lN p L=true
 chk:Gk p=0
 str:Fh L=0
theorem Vy {p:Pt}{L:List Ev}(h:fD p L=true):Place p L:=by
 unfold fD at h;simp only [Cq,beq_iff_eq] at h;exact ⟨h.1.1.1,h.1.2,h.2⟩
theorem Place.len {p:Pt}{L:List Ev}(h:Place p L):L.length<=10/\Lm p<=2:=by
 have h1:=h.sm;unfold lN at h1;split at h1
 . cases h1
 rename_i h2;simp only [Ek,not_or,Bu,Bool.not_eq_false,Di] at h2;refine ⟨?_,by omega⟩;have h3:=h2.1;unfold lD at h3;split at h3
 . cases h3
 rename_i h4;simp only [Ek,not_or,Di] at h4;omega
theorem Place.pts {p:Pt}{L:List Ev}(h:Place p L)(hp:medP p):PtS L p:=by
 have hw:=Mr h.chk;refine ⟨hw.1,h.len.2,hw.2,hp.cond,mO hw.1 hw.2 h.sm,fun q hq=>?_⟩;have h1:=eV p q hq;have h2:=Jx q;have h3:=(Sc h.chk).1;omega
theorem Place.size {p:Pt}{L:List Ev}(h:Place p L):∀f∈B6 L p [] 0,M4 f.d<=4096:=by
 intro f hf;have hw:=Mr h.chk;have hl:=h.len;have h1:=(eJ (L:=L) (by omega) p hw.1 hl.2 hw.2).ok [] 0 (Bn _) f hf;have h2:=(nF (L:=L) (by omega) hw.1 hl.2 hw.2 (o:=[]) (n:=0) (Bn _) f hf).len;have h3:Pn p<=12:=(qC (p:=p) (by rw [X1 h.chk];rfl)).2.1;have h4:=h1.sz;have h5:Pn p*f.s.length<=12*10:=Nat.mul_le_mul h3 (by omega);omega
structure AllIs (L:List Ev) (p:Pt) (l:List Dv):Prop where
 perm:l.Perm ((B6 L p [] 0).map fun f=>f.d)
 srt:sD l
 len:l.length<=4096
 size:∀d∈l,M4 d<=4096
theorem Place.all {p:Pt}{L:List Ev}(h:Place p L)(hp:medP p)(H:List HO):Cb Tryz.prog 7 H [.agg (cPt p),.sl 5 (L.map Ec)] (fun r H'=>(∃l:List Dv,AllIs L p l/\r = .tuple [.sl 5 (l.map C6),.int .i64 0])/\H'=H):=by
 have hpt:=h.pts hp;have hen:=hpt.few p (Gr p) [] 0 (Bn _);refine (oN L h.len.1 p hpt hp h.chk h.str h.size hen H).mono' ?_;rintro r K ⟨⟨l,h1,h2,rfl⟩,rfl⟩;refine ⟨⟨l,⟨h1,h2,by rw [h1.length_eq,B1];exact hen,fun d hd=>?_⟩,rfl⟩,rfl⟩;obtain ⟨f,hf,rfl⟩:=B7.1 (h1.mem_iff.1 hd);exact h.size f hf
def dv0:Dv:=⟨fJ,0,[]⟩
def K4 (i:Int)(d:Dv):Bool:=d.choice==i&&((d.kids.length:Int)==1)
def I3 (i:Int)(l:List Dv):List Dv:=(l.filter (K4 i)).map fun d=>(d.kids[0]?).getD dv0
theorem zJ {i:Int}{l:List Dv}{k:Nat}{d x:Dv}(h:l[k]? = some d)(hp:K4 i d=true)(hx:d.kids[0]? = some x):I3 i (l.take (k+1))=I3 i (l.take k) ++ [x]:=by
 rw [Cr h];unfold I3;rw [Gi,Fq,if_pos hp,Cy];simp [hx]
theorem tU {i:Int}{l:List Dv}{k:Nat}{d:Dv}(h:l[k]? = some d)(hp:K4 i d=false):I3 i (l.take (k+1))=I3 i (l.take k):=by
 rw [Cr h];unfold I3;rw [Gi,Fq,if_neg (by simp [hp])];simp
theorem zI (i:Int)(l:List Dv):(I3 i l).length<=l.length:=by unfold I3;rw [B1];exact Om ..
theorem Vr (i:Int):∀A:List Dv,I3 i (A.map (eS i))=A
  | []=>rfl
  | a::r=>by
    have ih:=Vr i r;unfold I3 at ih ⊢;rw [Ba,Fq,if_pos (by simp [K4,eS]),Ba,ih];rfl
theorem Vq {i j:Int}(h:j≠i):∀A:List Dv,I3 i (A.map (eS j)) = []
  | []=>rfl
  | a::r=>by
    have ih:=Vq h r;unfold I3 at ih ⊢;rw [Ba,Fq,if_neg (by simp [K4,eS,h]),ih]
theorem iG (i:Int)(l m:List Dv):I3 i (l++m)=I3 i l++I3 i m:=by unfold I3;rw [Gi,Cy]
theorem bL (i:Int){l m:List Dv}(h:l.Perm m):(I3 i l).Perm (I3 i m):=(h.filter _).map _
theorem zP (i:Int)(x y:Dv):Kg (eS i x) (eS i y)=Kg x y:=by
 rw [Ms];show (if (Ic fJ fJ != 0)=true then _ else if decide (i<i)=true then _ else if decide (i<i)=true then _ else Em Kg [x] [y])=_;rw [Sf,if_neg (by decide),if_neg (by simp),if_neg (by simp),Em,Em];by_cases h:(Kg x y != 0)=true
 . rw [if_pos h]
 rw [if_neg h];simpa using (by simpa using h:Kg x y=0).symm
theorem qT {l m:List Dv}(hl:sD l)(hm:sD m)(h:l.Perm m):l=m:=
 List.Perm.eq_of_pairwise (fun a b _ _ h1 h2=>Se a b (by have:=Sd a b;omega)) hl hm h
theorem iH {i:Int}{l A B:List Dv}{j:Int}(hl:sD l)(hm:∀d∈l,(∃x,d=eS i x)\/∃x,d=eS j x)(hij:j≠i):sD (I3 i l):=by
 unfold sD I3;rw [List.pairwise_map];refine (hl.filter (K4 i)).imp_of_mem ?_;intro x y hx hy h;rw [F1] at hx hy
 have key:∀d,d∈l->K4 i d=true->∃x,d=eS i x:=fun d hd hp=>by
  rcases hm d hd with h | ⟨x,rfl⟩
  . exact h
  simp [K4,eS,hij] at hp
 obtain ⟨a,rfl⟩:=key x hx.1 hx.2;obtain ⟨b,rfl⟩:=key y hy.1 hy.2;rw [zP] at h;exact h
theorem nX {L:List Ev}{p q:Pt}{n k:Nat}{l a b:List Dv}(h:Pair p q n k)(hn:N7 (n+k) (Js p (D0 (Lc n k) q))=0)(hl:AllIs L (aH p q n k) l)(ha:AllIs L p a)(hb:AllIs L q b) :
  I3 0 l=a/\I3 1 l=b/\l.length=a.length+b.length:=by
 have hp:=hl.perm;rw [sV h hn] at hp
 have hm:∀d∈l,(∃x,d=eS 0 x)\/∃x,d=eS 1 x:=fun d hd=>by
  rcases Da.1 (hp.mem_iff.1 hd) with h | h
  . obtain ⟨x,_,rfl⟩:=B7.1 h;exact .inl ⟨x,rfl⟩
  obtain ⟨x,_,rfl⟩:=B7.1 h;exact .inr ⟨x,rfl⟩
 refine ⟨qT (iH (A:=[]) (B:=[]) hl.srt hm (by decide)) ha.srt ?_,qT (iH (A:=[]) (B:=[]) hl.srt (fun d hd=>(hm d hd).symm) (by decide)) hb.srt ?_,?_⟩
 .
  have h1:=bL 0 hp;rw [iG,Vr,Vq (by decide),H1] at h1;exact h1.trans ha.perm.symm
 .
  have h1:=bL 1 hp;rw [iG,Vr,Vq (by decide),H6] at h1;exact h1.trans hb.perm.symm
 rw [hp.length_eq,ha.perm.length_eq,hb.perm.length_eq];simp only [Do,B1]
theorem lV {α:Type}{l:List α}{k:Nat}{a:α}{p:α->Bool}(h:(l.take k).all p=true)(ha:l[k]? = some a)(hp:p a=true):(l.take (k+1)).all p=true:=by
 rw [M6,ha];simp [h,hp]
theorem xO {α:Type}{l:List α}{k:Nat}{a:α}{p:α->Bool}(ha:l[k]? = some a)(hp:p a=false):l.all p=false:=by
 rw [Bool.eq_false_iff];intro h;rw [List.all_eq_true.1 h a (A0 ha)] at hp;cases hp
theorem tY {l:List Pt}{k:Nat}{a:Pt}(h:l[k]? = some a):(l.map Ew)[k]? = some (cPt a):=Jo h
theorem Aae {l:List Pt}{k:Nat}{a:Pt}(h:l[k]? = some a)(hp:decide (8<=a.op)=true):cF l=false:=by
 unfold cF;rw [show l.any (fun q=>decide (8<=q.op))=true from Oi.2 ⟨a,A0 h,hp⟩];rfl
theorem oM (L:Nat)(p:Pt)(hp:Fm p<=1048576):Al Tryz.prog 71 [.agg (cPt p),.int .i64 (L:Int)] (.int .i64 (Le L p:Nat)):=by
 induction p using Pt.ind
 rename_i p ih;have hal:=Jx p;refine F8 29 Tryz.func71 rfl fun H=>?_
 refine Bv (Qp (Ji Fe) (Qp Bk (Gw (Qp Bk (Dt (F7 (Qp Bk (Dt (AW.block ?_)))))))));refine AW.loopS (fun (q:Nat×Nat)=>(⟨[(1,.int .i64 (L:Int)),(2,.ptr (cPt p)),(5,.int .i64 (q.2:Int)),(6,.int .i64 (q.1:Int))],H,29⟩:St)) (fun q=>q.1<=p.args.length/\Le L p=Kf L (p.args.drop q.1) q.2/\q.2+((p.args.drop q.1).map Fm).sum<=Fm p) (fun q=>p.args.length-q.1) ((0,1)) ?_ Kx ?_
 . exact ⟨Bn _,iZ L p,by rw [List.drop_zero,H0];omega⟩
 rintro q hR;refine F7 (Qp Ca (Qp (Qf Xd) (Qp J7 ?_)));refine Qp (Ki p.args.length rfl rfl (by simp)) ?_;refine Qp Fw (Qp Cp (Qg [] Qw Ca (Qg [] Qw Ca (Qg [(13,_),(14,_)] Yw Z0 (Qp Iz (Ef (fun hc1=>?_) fun hc1=>AW.exit ?_))))))
 .
  simp only [Cq] at hc1;obtain ⟨a,ha⟩:=Dd hc1.1;have hlt:=Bj ha;have hm:=A0 ha;have hsa:=Kh hm;have hle:q.2<=L:=by have:=B2 hc1.2;omega
  have h1:=cK q.2 ha;have h2:=dI L a;have h3:=hR.2.1;rw [Bf ha,Kf,if_pos hle] at h3;have h4:=hR.2.2;refine Dw (AW.seq (AW.block (AW.region (Qp Ca (Qp (Qf Xd) (Qp J7 (Qp Ca ?_)))))));refine Qp (Lq Fe rfl rfl (by omega) (Jo ha)) ?_;refine Qp (Ee Fe) (Qp Ca ?_);refine Qp (Qc rfl (ih a hm (by omega))) ?_;refine Qp Mm (Qp Bk (Rk (AW.region (Qp Ca (Qp Mm (Qp Bk (Dt ?_)))))));refine ⟨(q.1+1,q.2+Le L a),?_,?_,Kx⟩
  . exact ⟨hlt,h3,by simp only;omega⟩
  simp only;omega
 refine A1 (Ri (Bv (Qp Ca (Qp Bk (Rb ?_)))));refine Qr (Iq _) ?_
 have hx:q.2=Le L p:=by
  rw [hR.2.1];simp only [M7] at hc1;rcases hc1 with hc1 | hc1
  . rw [Gb hc1,Kf]
  exact (fS (by have:=C7 hc1;omega)).symm
 exact Eq.trans rfl (congrArg (fun q:Nat=>AV.int .i64 (q:Int)) hx)
theorem oL (p:Pt)(hp:Fm p<=1048576):Al Tryz.prog 72 [.agg (cPt p)] (.int .i64 (Pn p:Nat)):=by
 induction p using Pt.ind
 rename_i p ih;have hal:=Jx p;refine F8 22 Tryz.func72 rfl fun H=>?_
 refine Bv (Qp (Ji Fe) (Qp Bk (Gw (Qp Bk (Dt (F7 (Qp Bk (Dt (AW.block ?_)))))))));refine AW.loopS (fun (q:Nat×Nat)=>(⟨[(1,.ptr (cPt p)),(3,.int .i64 (q.2:Int)),(4,.int .i64 (q.1:Int))],H,22⟩:St)) (fun q=>q.1<=p.args.length/\q.2=Mt (p.args.take q.1)) (fun q=>p.args.length-q.1) ((0,0)) ?_ Kx ?_
 . exact ⟨Bn _,by rw [List.take_zero,Mt]⟩
 rintro q hR;refine F7 (Qp Ca (Qp (Qf Xd) (Qp J7 ?_)));refine Qp (Ki p.args.length rfl rfl (by simp)) ?_;refine Qp Fw (Ef (fun hc1=>?_) fun hc1=>?_)
 .
  obtain ⟨a,ha⟩:=Dd hc1;have hlt:=Bj ha;have hm:=A0 ha;have hsa:=Kh hm;refine Dw (AW.seq (AW.block (AW.region (Qp Ca (Qp (Qf Xd) (Qp J7 (Qp Ca ?_)))))));refine Qp (Lq Fe rfl rfl (by omega) (Jo ha)) ?_;refine Qp (Ee Fe) ?_;refine Qp (Qc rfl (ih a hm (by omega))) ?_;refine Qp (Ws rfl rfl) (Qp Bk (Rk (AW.region (Qp Ca (Qp Mm (Qp Bk (Dt ?_)))))));refine ⟨(q.1+1,max q.2 (Pn a)),?_,?_,GS.weaken ⟨rfl,congrArg (AV.int .i64) (Vu q.2 (Pn a)),rfl,trivial⟩ (.refl _)⟩
  . exact ⟨hlt,by simp only;rw [Cr ha,Sh,hR.2]⟩
  simp only;omega
 have hte:=D3 hc1;have hde:=hR.2;rw [hte] at hde;refine AW.exit ?_;refine A1 (Ri (Bv (Qp Ca ?_)));refine Qp (Cc rfl rfl rfl (by have:=wD p;rw [Po,<-hde] at this;constructor <;> omega)) ?_;refine Qp Bk (Rb (Qr (Iq _) ?_));exact Eq.trans rfl (congrArg (fun q:Nat=>AV.int .i64 (q:Int)) (show q.2+1=Pn p by rw [Po,hde]))
theorem eT (p:Pt)(hp:Fm p<=1048576):Al Tryz.prog 31 [.agg (cPt p)] (.sl 14 ((Cw p).map Ew)):=by
 induction p using Pt.ind
 rename_i p ih;have hal:=Jx p;refine F8 23 Tryz.func31 rfl fun H=>?_
 refine Bv (Qp (Ji Fe) (Qp (Dg (z:=14) rfl) (Gw (Qp (Ee Fe) (Qe (Ql (es:=[Fe]) Ai rfl rfl rfl rfl rfl rfl rfl rfl rfl) ?_)))));rintro _ _ ⟨v6,rfl,rfl⟩;refine Qp (Ag (v:=.row _ _ _) rfl) (Dt (F7 (Qp Bk (Dt (AW.block ?_)))));refine AW.loopS (fun (q:Nat×List (List AV)×Value)=>(⟨[(1,.ptr (cPt p)),(3,.row q.2.2 14 q.2.1),(4,.int .i64 (q.1:Int))],.row q.2.2 q.2.1.length 29 14::H,23⟩:St)) (fun q=>q.1<=p.args.length/\q.2.1=(p::(p.args.take q.1).flatMap Cw).map Ew/\q.2.1.length=1+((p.args.take q.1).map Fm).sum) (fun q=>p.args.length-q.1) ((0,[cPt p],v6)) ?_ Kx ?_
 . exact ⟨Bn _,by simp [Kp],rfl⟩
 rintro q hR;refine F7 (Qp Ca (Qp (Qf Xd) (Qp J7 ?_)));refine Qp (Ki p.args.length rfl rfl (by simp)) ?_;refine Qp Fw (Ef (fun hc1=>?_) fun hc1=>?_)
 .
  obtain ⟨a,ha⟩:=Dd hc1;have hlt:=Bj ha;have hm:=A0 ha;have hsa:=Kh hm;have hsc:∀c∈q.2.1,Bm c=true:=by rw [hR.2.1];exact scPt _
  have hz:=iY (p:=p) ha;have hz2:=hR.2.2;have hz3:=Jw a;refine Dw (AW.seq (AW.block (AW.region (Qp (Ae (v:=.row _ _ _) rfl) (Qp (Qf Xd) (Qp J7 (Qp Ca ?_)))))));refine Qp (Lq Fe rfl rfl (by omega) (Jo ha)) ?_;refine Qp (Ee Fe) ?_;refine Qp (Qc rfl (ih a hm (by omega))) ?_;refine Qe (Yad 0 rfl (scPt _) (hsc) (by simp;omega) (by simp [maxLen];omega)) ?_;rintro _ _ ⟨v21,rfl,rfl⟩;refine Qp (Ag (v:=.row _ _ _) rfl) (Rk (AW.region (Qp Ca (Qp Mm (Qp Bk (Dt ?_))))));refine ⟨(q.1+1,q.2.1++(Cw a).map Ew,v21),?_,?_,Kx⟩
  . exact ⟨hlt,by simp only;rw [Cr ha,hR.2.1];simp,by simp only;rw [Cr ha,Do,hR.2.2];simp;omega⟩
  simp only;omega
 have hte:=D3 hc1;have hde:=hR.2.1;rw [hte] at hde;refine AW.exit ?_;refine A1 (Ri (Bv ?_));refine Qp (Ae (v:=.row _ _ _) rfl) ?_;refine AOL.ghost (GS.unrow 22 rfl) ?_;refine Qp xL (Rb ?_);refine Yx [.sl _ _] Ze S1 ?_;exact Eq.trans rfl (congrArg (AV.sl 14) (hde.trans (congrArg (List.map Ew) (In p).symm)))
theorem Y2 (p:Pt):Al Tryz.prog 34 [.agg (cPt p)] (.bool (Px p)):=by
 refine F8 11 Tryz.func34 rfl fun H=>?_
 refine Bv (Qp (Ji Fe) (Qp C5 (Gw (Qp (Qf Fe) (Qp C0 (Qp Cl (Qp Cp (Qg [] Qw (Qf Fe) (Qg [(7,_)] Qw C0 (Qg [(8,_)] Qw Cl (Qp Fz (Qp C5 (Rb (Qr (.bool _) ?_))))))))))))));rfl
theorem Sq (p:Pt):Al Tryz.prog 35 [.agg (cPt p)] (.bool (Oe p)):=by
 refine F8 11 Tryz.func35 rfl fun H=>?_
 refine Bv (Qp (Ji Fe) (Qp C5 (Gw (Qp (Qf Fe) (Qp C0 (Qp Cl (Qp Cp (Qg [] Qw (Qf Fe) (Qg [(7,_)] Qw C0 (Qg [(8,_)] Qw Cl (Qp Fz (Qp C5 (Rb (Qr (.bool _) ?_))))))))))))));rfl
theorem eU (p:Pt):Al Tryz.prog 33 [.agg (cPt p)] (.bool (Og p)):=by
 refine F8 10 Tryz.func33 rfl fun H=>?_
 refine Bv (Qp (Ji Fe) (Qp C5 (Gw (Qp (Qf Fe) (Qp C0 (Qp Cl (Qp Cp (Qg [] Qw (Ee Fe) (Qg [(7,_)] Qw (Qc rfl (Y2 _)) (Qp Fz (Qp C5 (Rb (Qr (.bool _) ?_)))))))))))));rfl
theorem zT (p:Pt):Al Tryz.prog 112 [.agg (cPt p)] (.bool (eG p)):=by
 refine F8 10 Tryz.func112 rfl fun H=>?_
 refine Bv (Qp (Ji Fe) (Qp C5 (Gw (Qp (Ee Fe) (Qp (Qc rfl (eU _)) (Qp Cp (Qg [] Qw (Qf Fe) (Qg [(6,_)] Qw C0 (Qg [(7,_)] Qw Cl (Qp Fz (Qp C5 (Rb (Qr (.bool _) ?_)))))))))))));rfl
theorem zS (p:Pt)(hl:p.args.length<=1048576):Al Tryz.prog 111 [.agg (cPt p)] (.bool (Nl p)):=by
 refine F8 29 Tryz.func111 rfl fun H=>?_
 refine Bv (Qp (Ji Fe) (Qp C5 (Dt (F7 (Qp (Qf Fe) (Qp C0 (Dt (AW.block (Bv (Qp Cl (Qp C5 (Ef (fun hc1=>Bv (Qp (Qf Xd) (Qp J7 ?_))) fun hc1=>?_))))))))))))
 .
  refine Qp (Ki p.args.length rfl rfl (by simp)) ?_;refine Qp Cl (Qp C5 (Ra (Qr (.bool _) ?_)))
  first
   | (simp only [Aj,Nl,hc1,A5,A6,Bl,A7,↓reduceIte,A2,L3];done)
   | (exfalso;clear hl;simp_all;done)
   | (exfalso;simp_all)
 refine F7 (Qp Cl (Qp C5 (Ef (fun hc2=>Dw (Gd (fun hc3=>Bv (Qp (Qf Xd) (Qp J7 ?_))) fun hc3=>Bv (Qp Cl (Qp C5 (Ef (fun hc4=>Bv (Qp (Qf Xd) (Qp J7 ?_))) fun hc4=>Rf (Bv (Qp (Qf Xd) (Qp J7 ?_)))))))) fun hc2=>?_)))
 .
  refine Qp (Ki p.args.length rfl rfl (by simp)) ?_;refine Qp Nj (Qp C5 (Ra (Qr (.bool _) ?_)))
  first
   | (simp only [Aj,Nl,hc1,hc2,hc3,A5,A6,Bl,A7,↓reduceIte,A2,L3];done)
   | (exfalso;clear hl;simp_all;done)
   | (exfalso;simp_all)
 .
  refine Qp (Ki p.args.length rfl rfl (by simp)) ?_;refine Qp Cl (Qp C5 (Ra (Qr (.bool _) ?_)))
  first
   | (simp only [Aj,Nl,hc1,hc2,hc3,hc4,A5,A6,Bl,A7,↓reduceIte,A2,L3];done)
   | (exfalso;clear hl;simp_all;done)
   | (exfalso;simp_all)
 .
  refine Qp (Ki p.args.length rfl rfl (by simp)) ?_;refine Qp Cl (Qp C5 (Rb (Qr (.bool _) ?_)))
  first
   | (simp only [Aj,Nl,hc1,hc2,hc3,hc4,A5,A6,Bl,A7,↓reduceIte,A2,L3];done)
   | (exfalso;clear hl;simp_all;done)
   | (exfalso;simp_all)
 refine Bv (Qp Cl (Qp C5 (Ef (fun hc5=>Dw (Gd (fun hc6=>Bv (Qp (Qf Xd) (Qp J7 ?_))) fun hc6=>Bv (Qp Cl (Qp C5 (Ef (fun hc7=>Bv (Qp (Qf Xd) (Qp J7 ?_))) fun hc7=>Rf (Bv (Qp (Qf Xd) (Qp J7 ?_)))))))) fun hc5=>?_)))
 .
  refine Qp (Ki p.args.length rfl rfl (by simp)) ?_;refine Qp Nj (Qp C5 (Ra (Qr (.bool _) ?_)))
  first
   | (simp only [Aj,Nl,hc1,hc2,hc5,hc6,A5,A6,Bl,A7,↓reduceIte,A2,L3];done)
   | (exfalso;clear hl;simp_all;done)
   | (exfalso;simp_all)
 .
  refine Qp (Ki p.args.length rfl rfl (by simp)) ?_;refine Qp Cl (Qp C5 (Ra (Qr (.bool _) ?_)))
  first
   | (simp only [Aj,Nl,hc1,hc2,hc5,hc6,hc7,A5,A6,Bl,A7,↓reduceIte,A2,L3];done)
   | (exfalso;clear hl;simp_all;done)
   | (exfalso;simp_all)
 .
  refine Qp (Ki p.args.length rfl rfl (by simp)) ?_;refine Qp Cl (Qp C5 (Rb (Qr (.bool _) ?_)))
  first
   | (simp only [Aj,Nl,hc1,hc2,hc5,hc6,hc7,A5,A6,Bl,A7,↓reduceIte,A2,L3];done)
   | (exfalso;clear hl;simp_all;done)
   | (exfalso;simp_all)
 refine AW.region (Qp Cl (Qp C5 (Ef (fun hc8=>Bv (Qp (Qf Xd) (Qp J7 ?_))) fun hc8=>Bv (Qp Cl (Qp C5 (Ef (fun hc9=>Bv (Qp (Qf Xd) (Qp J7 ?_))) fun hc9=>Rf (Bv (Qp (Qf Xd) (Qp J7 ?_)))))))))
 .
  refine Qp (Ki p.args.length rfl rfl (by simp)) ?_;refine Qp Nj (Qp C5 (Ra (Qr (.bool _) ?_)))
  first
   | (simp only [Aj,Nl,hc1,hc2,hc5,hc8,A5,A6,Bl,A7,↓reduceIte,A2,L3];done)
   | (exfalso;clear hl;simp_all;done)
   | (exfalso;simp_all)
 .
  refine Qp (Ki p.args.length rfl rfl (by simp)) ?_;refine Qp Cl (Qp C5 (Ra (Qr (.bool _) ?_)))
  first
   | (simp only [Aj,Nl,hc1,hc2,hc5,hc8,hc9,A5,A6,Bl,A7,↓reduceIte,A2,L3];done)
   | (exfalso;clear hl;simp_all;done)
   | (exfalso;simp_all)
 refine Qp (Ki p.args.length rfl rfl (by simp)) ?_;refine Qp Cl (Qp C5 (Rb (Qr (.bool _) ?_)))
 first
  | (simp only [Aj,Nl,hc1,hc2,hc5,hc8,hc9,A5,A6,Bl,A7,↓reduceIte,A2,L3];done)
  | (exfalso;clear hl;simp_all;done)
  | (exfalso;simp_all)
theorem Y1 (u:Bool)(n m:Int):Al Tryz.prog 113 [.bool u,.int .i64 n,.int .i64 m] (.bool (eD u n m)):=by
 refine F8 17 Tryz.func113 rfl fun H=>?_
 refine Bv (Qp C5 (Gw (Qp Cp (Qp Cp (Qg [] Qw Ca (Qg [(9,_)] Qw Fw (Qg [(10,_)] Qw Cp (Qg [] Qw Ca (Qg [] Qw Ca (Qg [(12,_),(13,_)] Yw Kl (Qg [(11,_),(14,_)] Qw Fz (Qp Iz (Qp C5 (Rb (Qr (.bool _) ?_)))))))))))))));rfl
theorem uD (p:Pt)(hc:B3 p.cond<=1048576)(hl:p.args.length<=1048576):Al Tryz.prog 73 [.agg (cPt p)] (.int .i64 (oP p)):=by
 refine F8 100 Tryz.func73 rfl fun H=>?_
 refine Bv (Qp (Ji Fe) (Qp Bk (Dt (F7 (Qp (Qf Fe) (Qp C0 (Qp Fw (Qp Cp ?_))))))));refine Qg [] Qw (Qf Fe) (Qg [(11,_)] Qw C0 (Qg [(12,_)] Qw Kl (Qp Fz (Ef (fun hc1=>Bv (Qp Bk (Rc (Qr (Iq _) ?_)))) fun hc1=>Dw (F7 (Qp (Ee Fe) (Qp (Qc rfl (zS p hl)) (Qp Ik (Ef (fun hc2=>Bv (Qp Bk (Rc (Qr (Iq _) ?_)))) fun hc2=>Dw (AW.seq ?_))))))))))
 . exact Ye (AV.int .i64) (nd_1 hc1)
 . exact Ye (AV.int .i64) (nd_2 hc1 hc2)
 refine lT ?_;refine Qn 0 rfl (Ee Fe) (Qn 1 rfl (Qc rfl (eU _)) (Qn 2 rfl (Ee Fe) (Qn 3 rfl (Qc rfl (Y2 _)) (Qn 4 rfl Cp (Qo 5 rfl [] Qw (Ee Fe) (Qo 6 rfl [(23,_)] Qw (Qc rfl (Sq _)) (Qn 7 rfl Fz (Qn 8 rfl (Ee Fe) (Qn 9 rfl (Qc rfl (zT _)) (Qn 10 rfl C5 (Qn 11 rfl C5 (Qn 12 rfl C5 ?_))))))))))));refine lK ?_;refine Aa (AW.seq (AW.seq ?_));refine lT ?_;refine Qn 0 rfl Cp (Qn 1 rfl (Qf gex) (Qn 2 rfl C0 (Qn 3 rfl (Qc rfl (Y1 _ _ _)) (Qn 4 rfl Cp (Qo 5 rfl [] Qw Cp (Qo 6 rfl [] Qw (Qf wO) (Qo 7 rfl [(34,_)] Qw C0 ?_)))))));refine Qo 8 rfl [(33,_),(35,_)] Yw (Qc rfl (Y1 _ _ _)) (Qn 9 rfl Fz (Qn 10 rfl Cp (Qo 11 rfl [] Qw Cp (Qo 12 rfl [] Qw (Qf rT) (Qo 13 rfl [(40,_)] Qw C0 (Qo 14 rfl [(39,_),(41,_)] Yw (Qc rfl (Y1 _ _ _)) (Qn 15 rfl Fz (Qn 16 rfl Cp (Qo 17 rfl [] Qw (Ee Fe) (Qo 18 rfl [(45,_)] Qw (Qc rfl (Sq _)) (Qo 19 rfl [] Qw (Qf gey) (Qo 20 rfl [(47,_)] Qw C0 (Qo 21 rfl [(46,_),(48,_)] Yw (Qc rfl (Y1 _ _ _)) (Qn 22 rfl Fz ?_))))))))))))));refine lK ?_;refine Aa (Gd (fun hc3=>Bv (Qp Bk (Rc (Qr (Iq _) ?_)))) fun hc3=>Dw (F7 (Qp Cp (Ef (fun hc4=>Bv (Qp R5 (Qp Ld ?_))) fun hc4=>Dw (F7 (Qp Cp (Qp Ik (Qp Cp (Qg [] Qw (Qf gex) (Qg [(61,_)] Qw C0 (Qg [(62,_)] Qw Dl (Qg [(63,_)] Qw Cp ?_))))))))))))
 . exact Ye (AV.int .i64) (nd_3 hc1 hc2 hc3)
 .
  refine Qp (Qc rfl (e8c25 p.cond hc)) (Qp Bk (Gw (Qp Ca (Qp Dl (Ef (fun hc5=>Bv (Qp Ca (Qp Bk (Rc (Qr (Iq _) ?_))))) fun hc5=>Dw (F7 (Qp Cp (Qp Ik (Qp Cp (Qg [] Qw (Qf gex) (Qg [(61,_)] Qw C0 (Qg [(62,_)] Qw Dl (Qg [(63,_)] Qw Cp ?_)))))))))))))
  . exact Ye (AV.int .i64) (nd_4 hc1 hc2 hc3 hc4 hc5)
  refine Qg [] Qw (Qf wO) (Qg [(65,_)] Qw C0 (Qg [(66,_)] Qw Dl (Qg [(64,_),(67,_)] Qw Fz (Qp Iz (Qp Cp (Qg [] Qw Cp (Qg [(71,_)] Qw Ik (Qg [(72,_)] Qw Cp (Qg [] Qw (Qf rT) ?_)))))))));refine Qg [(74,_)] Qw C0 (Qg [(75,_)] Qw Dl (Qg [(73,_),(76,_)] Qw Iz (Qp Fz (Qp Cp (Qg [] Qw (Ee Fe) ?_)))));refine Qg [(80,_)] Qw (Qc rfl (Sq _)) (Qg [(81,_)] Qw Ik (Qg [(82,_)] Qw Cp (Qg [] Qw (Qf gey) (Qg [(84,_)] Qw C0 (Qg [(85,_)] Qw Dl (Qg [(83,_),(86,_)] Qw Iz (Qp Fz (Qp Cp (Qg [] Qw Cp (Qg [(90,_)] Qw Ik ?_))))))))));refine Qg [(91,_)] Qw Cp (Qg [] Qw R5 (Qg [(93,_)] Qw Ld (Qg [] Qw (Lg Ll) (Qg [(94,_),(95,_)] Yw (Qc rfl (wE p.cond kB hc)) (Qg [(96,_)] Qw Ik (Qg [(92,_),(97,_)] Qw Iz (Qp Fz (Ef (fun hc6=>Bv (Qp Bk (Rc (Qr (Iq _) ?_)))) fun hc6=>Dw (Bv (Qp Bk (Rb (Qr (Iq _) ?_))))))))))))
  . exact Ye (AV.int .i64) ((uG hc1 hc2 hc3 (by rw [hc5];simp)).trans (if_pos hc6))
  exact Ye (AV.int .i64) ((uG hc1 hc2 hc3 (by rw [hc5];simp)).trans (Ep hc6))
 refine Qg [] Qw (Qf wO) (Qg [(65,_)] Qw C0 (Qg [(66,_)] Qw Dl (Qg [(64,_),(67,_)] Qw Fz (Qp Iz (Qp Cp (Qg [] Qw Cp (Qg [(71,_)] Qw Ik (Qg [(72,_)] Qw Cp (Qg [] Qw (Qf rT) ?_)))))))));refine Qg [(74,_)] Qw C0 (Qg [(75,_)] Qw Dl (Qg [(73,_),(76,_)] Qw Iz (Qp Fz (Qp Cp (Qg [] Qw (Ee Fe) ?_)))));refine Qg [(80,_)] Qw (Qc rfl (Sq _)) (Qg [(81,_)] Qw Ik (Qg [(82,_)] Qw Cp (Qg [] Qw (Qf gey) (Qg [(84,_)] Qw C0 (Qg [(85,_)] Qw Dl (Qg [(83,_),(86,_)] Qw Iz (Qp Fz (Qp Cp (Qg [] Qw Cp (Qg [(90,_)] Qw Ik ?_))))))))));refine Qg [(91,_)] Qw Cp (Qg [] Qw R5 (Qg [(93,_)] Qw Ld (Qg [] Qw (Lg Ll) (Qg [(94,_),(95,_)] Yw (Qc rfl (wE p.cond kB hc)) (Qg [(96,_)] Qw Ik (Qg [(92,_),(97,_)] Qw Iz (Qp Fz (Ef (fun hc7=>Bv (Qp Bk (Rc (Qr (Iq _) ?_)))) fun hc7=>Dw (Bv (Qp Bk (Rb (Qr (Iq _) ?_))))))))))))
 . exact Ye (AV.int .i64) ((uG hc1 hc2 hc3 (by rw [hc4];rfl)).trans (if_pos hc7))
 exact Ye (AV.int .i64) ((uG hc1 hc2 hc3 (by rw [hc4];rfl)).trans (Ep hc7))
theorem uE (p:Pt)(hp:medP p):Al Tryz.prog 30 [.agg (cPt p)] (.int .i64 (T1 p)):=by
 have hnl:(Cw p).length<=1048576:=by rw [Jw];exact hp.n
 refine F8 28 Tryz.func30 rfl fun H=>?_
 refine Bv (Qp (Ji Fe) (Qp Bk (Dt (F7 (Qp (Ee Fe) ?_)))));refine Qp (Qc rfl (oM 64 p hp.n)) (Qp Kl (Ef (fun hc1=>Bv (Qp Bk (Rc (Qr (Iq _) ?_)))) fun hc1=>Dw (F7 (Qp (Ee Fe) (Qp (Qc rfl (oL p hp.n)) (Qp Kl (Ef (fun hc2=>Bv (Qp Bk (Rc (Qr (Iq _) ?_)))) fun hc2=>Dw (Bv (Qp (Ee Fe) (Qp (Qc rfl (eT p hp.n)) (Qp xL (Dt (F7 (Qp Bk (Dt (AW.block ?_))))))))))))))))
 . exact Ye (AV.int .i64) (rr_1 hc1)
 . exact Ye (AV.int .i64) (rr_2 hc1 hc2)
 refine AW.loopS (fun (k:Nat)=>(⟨[(3,.sl 14 ((Cw p).map Ew)),(4,.int .i64 (k:Int))],H,28⟩:St)) (fun k=>k<=(Cw p).length/\((Cw p).take k).any (fun q=>oP q != 0)=false) (fun k=>(Cw p).length-k) (0) ?_ Kx ?_
 . exact ⟨Bn _,by simp⟩
 rintro k hR;refine F7 (Qp Ca (Qp Oq ?_));refine Qp (Ki ((Cw p).length) rfl rfl (by simp)) ?_;refine Qp Fw (Ef (fun hc3=>?_) fun hc3=>?_)
 .
  obtain ⟨a,ha⟩:=Dd hc3;have hlt:=Bj ha;have hm:=A0 ha;refine Dw (AW.seq (AW.block (Bv (Qp Oq (Qp Ca ?_)))));refine Qp (Lq Fe rfl rfl (by omega) (Pj ha)) ?_;refine Qp (Ee Fe) (Qp (Qc rfl (uD a (hp.len a hm).1 (hp.len a hm).2)) (Qp Bk (Gw (Qp Ca (Qp Dl (Ef (fun hc4=>Bv (Qp Ca (Qp Bk (Ra (Ap (Cn (Ap (Qr (Iq _) ?_)))))))) fun hc4=>Rf (AW.region (Qp Ca (Qp Mm (Qp Bk (Dt ?_)))))))))))
  . exact Ye (AV.int .i64) ((rr_3 hc1 hc2).trans (Xa ha hR.2 hc4))
  refine ⟨k+1,?_,?_,Kx⟩
  . exact ⟨hlt,P2 hR.2 ha hc4⟩
  omega
 have hte:=D3 hc3;have hall:=hR.2;rw [hte] at hall;refine AW.exit ?_;refine A1 (Ri (Bv (Qp Bk (Rb ?_))));refine Qr (Iq _) ?_;exact Ye (AV.int .i64) ((rr_3 hc1 hc2).trans (Vk hall))
theorem zU (l:List Pt)(hl:l.length<=1048576):Al Tryz.prog 32 [.sl 14 (l.map Ew)] (.bool (cF l)):=by
 refine F8 16 Tryz.func32 rfl fun H=>?_
 refine Bv (Qp C5 (Dt (F7 (Qp Bk (Dt (AW.block ?_))))));refine AW.loopS (fun (k:Nat)=>(⟨[(0,.sl 14 (l.map Ew)),(3,.int .i64 (k:Int))],H,16⟩:St)) (fun k=>k<=l.length/\(l.take k).any (fun q=>decide (8<=q.op))=false) (fun k=>l.length-k) (0) ?_ Kx ?_
 . exact ⟨Bn _,by simp⟩
 rintro k hR;refine F7 (Qp Ca (Qp Oq ?_));refine Qp (Ki l.length rfl rfl (by simp)) ?_;refine Qp Fw (Ef (fun hc1=>?_) fun hc1=>?_)
 .
  obtain ⟨a,ha⟩:=Dd hc1;have hlt:=Bj ha;have hm:=A0 ha;refine Dw (AW.seq (AW.block (Bv (Qp Oq (Qp Ca ?_)))));refine Qp (Lq Fe rfl rfl (by omega) (tY ha)) ?_;refine Qp (Qf Fe) (Qp C0 (Qp Nj (Ef (fun hc2=>Bv (Qp C5 (Ra (Ap (Cn (Ap (Qr (.bool _) ?_))))))) fun hc2=>Rf (AW.region (Qp Ca (Qp Mm (Qp Bk (Dt ?_))))))))
  . exact Ye AV.bool (Aae ha hc2)
  refine ⟨k+1,?_,?_,Kx⟩
  . exact ⟨hlt,P2 hR.2 ha hc2⟩
  omega
 have hte:=D3 hc1;have hall:=hR.2;rw [hte] at hall;refine AW.exit ?_;refine A1 (Ri (Bv (Qp C5 (Rb ?_))));refine Qr (.bool _) ?_;exact Eq.trans rfl (congrArg (fun q:Bool=>AV.bool q) ((congrArg not hall:cF l=true))).symm
theorem oK (p:Pt)(hp:medP p):Al Tryz.prog 13 [.agg (cPt p)] (.int .i64 (jO p)):=by
 have hnl:(Cw p).length<=1048576:=by rw [Jw];exact hp.n
 refine F8 59 Tryz.func13 rfl fun H=>?_
 refine Bv (Qp (Ji Fe) (Qp Bk (Dt (F7 (Qp (Ee Fe) (Qp (Qc rfl (uE p hp)) (Qp Bk (Gw (Qp Ca (Qp Dl (Ef (fun hc1=>Bv (Qp Ca (Qp Bk (Rc (Qr (Iq _) ?_))))) fun hc1=>?_)))))))))))
 . exact Ye (AV.int .i64) (cr_1 hc1)
 refine Dw (Bv (Qp (Ee Fe) (Qp (Qc rfl (eT p hp.n)) (Qp xL (Dt (F7 (Qp Oq (Qp (Qc rfl (zU (Cw p) hnl)) (Qp Ik (Ef (fun hc2=>Bv (Qp Bk (Rc (Qr (Iq _) ?_)))) fun hc2=>Dw (Bv (Qp Bk (Qp Bk (Dt (F7 (Qp Bk (Dt (AW.block ?_))))))))))))))))))
 . exact Ye (AV.int .i64) (cr_2 hc1 hc2)
 refine AW.loopS (fun (q:Nat×Int×Int)=>(⟨[(4,.sl 14 ((Cw p).map Ew)),(5,.int .i64 q.2.1),(6,.int .i64 q.2.2),(7,.int .i64 (q.1:Int))],H,59⟩:St)) (fun q=>q.1<=(Cw p).length/\Ud 0 0 (Cw p)=Ud q.2.1 q.2.2 ((Cw p).drop q.1)/\0<=q.2.1/\q.2.1<=q.1/\0<=q.2.2/\q.2.2<=q.1) (fun q=>(Cw p).length-q.1) ((0,0,0)) ?_ Kx ?_
 . exact ⟨Bn _,rfl,Lx _,Lx _,Lx _,Lx _⟩
 rintro q hR;refine F7 (Qp Ca (Qp Oq ?_));refine Qp (Ki ((Cw p).length) rfl rfl (by simp)) ?_;refine Qp Fw (Ef (fun hc3=>?_) fun hc3=>?_)
 .
  obtain ⟨a,ha⟩:=Dd hc3;have hlt:=Bj ha;have hm:=A0 ha;obtain ⟨hb0,hb1,hb2,hb3⟩:=hR.2.2;refine Dw (AW.seq (AW.block (F7 (Qp Oq (Qp Ca ?_)))));refine Qp (Lq Fe rfl rfl (by omega) (Pj ha)) ?_;refine Qp (Ee Fe) (Qp (Qc rfl (eU _)) (Ef (fun hc4=>F7 (Qp Oq (Qp Ca ?_))) fun hc4=>Dw (Bv (Qp Oq (Qp Ca ?_)))))
  .
   refine Qp (Lq Fe rfl rfl (by omega) (Pj ha)) ?_;refine Qp (Qf wO) (Qp C0 (Qp Ca (Qp Dl (Ef (fun hc5=>Bv (Qp Bk (Rc (Ap (Rj (Ap (Qr (Iq _) ?_))))))) fun hc5=>Dw (AW.region (Qp Ca (Qp Mm (Qp Bk (Gw (Qp Oq (Qp Ca ?_)))))))))))
   . exact Ye (AV.int .i64) ((sS hc1 hc2).trans (hR.2.1.trans (goC_1 ha hc4 hc5)))
   refine Qp (Lq Fe rfl rfl (by omega) (Pj ha)) ?_;refine Qp (Ee Fe) (Qp (Qc rfl (Y2 _)) (Qp Cp (Qg [] Qw Oq (Qg [] Qw Ca ?_))));refine Yh [(44,_),(45,_)] (Yv rfl Es Es) (fun hG=>Lq Fe rfl rfl (by omega) (Pj ha)) ?_;refine Qg [(46,_)] Qw (Ee Fe) (Qg [(47,_)] Qw (Qc rfl (Sq _)) (Qp Fz (Ef (fun hc6=>F7 (Qp Oq (Qp Ca ?_))) fun hc6=>Rf (AW.region (Qp Ca (Qp Mm (Qp Bk (Dt ?_))))))))
   .
    refine Qp (Lq Fe rfl rfl (by omega) (Pj ha)) ?_;refine Qp (Qf rT) (Qp C0 (Qp Ca (Qp Dl (Ef (fun hc7=>Bv (Qp Bk (Rc (Rj (Ap (Qr (Iq _) ?_)))))) fun hc7=>Dw (AW.region (Qp Ca (Qp Mm (Qp Bk (Rk (AW.region (Qp Ca (Qp Mm (Qp Bk (Dt ?_))))))))))))))
    . exact Ye (AV.int .i64) ((sS hc1 hc2).trans (hR.2.1.trans (wQ ha (by rw [hc5,A9]) hc6 hc7)))
    refine ⟨(q.1+1,q.2.1+1,q.2.2+1),?_,?_,Kx⟩
    . exact ⟨hlt,hR.2.1.trans (yW ha hc4 hc5 hc6 hc7),by simp only;omega⟩
    simp only;omega
   refine ⟨(q.1+1,q.2.1+1,q.2.2),?_,?_,Kx⟩
   . exact ⟨hlt,hR.2.1.trans (yV ha hc4 hc5 hc6),by simp only;omega⟩
   simp only;omega
  refine Qp (Lq Fe rfl rfl (by omega) (Pj ha)) ?_;refine Qp (Ee Fe) (Qp (Qc rfl (Y2 _)) (Qp Cp (Qg [] Qw Oq (Qg [] Qw Ca ?_))));refine Yh [(44,_),(45,_)] (Yv rfl Es Es) (fun hG=>Lq Fe rfl rfl (by omega) (Pj ha)) ?_;refine Qg [(46,_)] Qw (Ee Fe) (Qg [(47,_)] Qw (Qc rfl (Sq _)) (Qp Fz (Ef (fun hc8=>F7 (Qp Oq (Qp Ca ?_))) fun hc8=>Rf (AW.region (Qp Ca (Qp Mm (Qp Bk (Dt ?_))))))))
  .
   refine Qp (Lq Fe rfl rfl (by omega) (Pj ha)) ?_;refine Qp (Qf rT) (Qp C0 (Qp Ca (Qp Dl (Ef (fun hc9=>Bv (Qp Bk (Rc (Rj (Ap (Qr (Iq _) ?_)))))) fun hc9=>Dw (AW.region (Qp Ca (Qp Mm (Qp Bk (Rk (AW.region (Qp Ca (Qp Mm (Qp Bk (Dt ?_))))))))))))))
   . exact Ye (AV.int .i64) ((sS hc1 hc2).trans (hR.2.1.trans (wQ ha (by rw [hc4];rfl) hc8 hc9)))
   refine ⟨(q.1+1,q.2.1,q.2.2+1),?_,?_,Kx⟩
   . exact ⟨hlt,hR.2.1.trans (yU ha hc4 hc8 hc9),by simp only;omega⟩
   simp only;omega
  refine ⟨(q.1+1,q.2.1,q.2.2),?_,?_,Kx⟩
  . exact ⟨hlt,hR.2.1.trans (yT ha hc4 hc8),by simp only;omega⟩
  simp only;omega
 have hde:=Gb hc3;have hall:=hR.2.1;rw [hde,Ud] at hall;refine AW.exit ?_;refine A1 (Ri (Bv (Qp Bk (Rb ?_))));refine Qr (Iq _) ?_;exact Ye (AV.int .i64) ((sS hc1 hc2).trans hall)
theorem zR (p:Pt)(hp:medP p):Al Tryz.prog 66 [.agg (cPt p)] (.bool (Tx p)):=by
 have hnl:(Cw p).length<=1048576:=by rw [Jw];exact hp.n
 refine F8 28 Tryz.func66 rfl fun H=>?_
 refine Bv (Qp (Ji Fe) (Qp C5 (Dt (F7 (Qp (Ee Fe) ?_)))));refine Qp (Qc rfl (oM 150 p hp.n)) (Qp Kl (Qp Cp (Qg [] Qw (Ee Fe) (Qg [(9,_)] Qw (Qc rfl (oL p hp.n)) (Qg [(10,_)] Qw Kl (Qp Fz (Ef (fun hc1=>Bv (Qp C5 (Rc (Qr (.bool _) ?_)))) fun hc1=>Dw (Bv (Qp (Ee Fe) (Qp (Qc rfl (eT p hp.n)) (Qp xL (Dt (F7 (Qp Bk (Dt (AW.block ?_))))))))))))))))
 . exact Ye AV.bool ((if_pos hc1:Tx p=false))
 refine AW.loopS (fun (k:Nat)=>(⟨[(3,.sl 14 ((Cw p).map Ew)),(4,.int .i64 (k:Int))],H,28⟩:St)) (fun k=>k<=(Cw p).length/\((Cw p).take k).all (fun q=>tD q.cond)=true) (fun k=>(Cw p).length-k) (0) ?_ Kx ?_
 . exact ⟨Bn _,by simp⟩
 rintro k hR;refine F7 (Qp Ca (Qp Oq ?_));refine Qp (Ki ((Cw p).length) rfl rfl (by simp)) ?_;refine Qp Fw (Ef (fun hc2=>?_) fun hc2=>?_)
 .
  obtain ⟨a,ha⟩:=Dd hc2;have hlt:=Bj ha;have hm:=A0 ha;refine Dw (AW.seq (AW.block (Bv (Qp Oq (Qp Ca ?_)))));refine Qp (Lq Fe rfl rfl (by omega) (Pj ha)) ?_;refine Qp R5 (Qp Ld (Qp (Qc rfl (c34 a.cond (hp.cond a hm))) (Qp Ik (Ef (fun hc3=>Bv (Qp C5 (Ra (Ap (Cn (Ap (Qr (.bool _) ?_))))))) fun hc3=>Rf (AW.region (Qp Ca (Qp Mm (Qp Bk (Dt ?_)))))))))
  . exact Ye AV.bool (((Ep hc1).trans (xO ha (by unfold tD;simpa only [Bool.not_eq_eq_eq_not,Bz] using hc3)):Tx p=false))
  refine ⟨k+1,?_,?_,Kx⟩
  . exact ⟨hlt,lV hR.2 ha (by simpa [tD] using hc3)⟩
  omega
 have hte:=D3 hc2;have hall:=hR.2;rw [hte] at hall;refine AW.exit ?_;refine A1 (Ri (Bv (Qp C5 (Rb ?_))));refine Qr (.bool _) ?_;exact Ye AV.bool (((Ep hc1).trans hall:Tx p=true))
end Go.Proofs.YtkdhionilabokaaGreatDoor
