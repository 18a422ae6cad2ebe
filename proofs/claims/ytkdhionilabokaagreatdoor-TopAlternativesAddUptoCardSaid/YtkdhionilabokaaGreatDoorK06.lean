/-
  Several texts in one: U7, U9, U15, Arm, An, Arn. No condition.
-/
import Derived.Test.YtkdhionilabokaaGreatDoorK04
import Derived.Test.YtkdhionilabokaaGreatDoorK05
import Derived.KernelRfl
import Derived.Test.YtkdhionilabokaaGreatDoorK03
import Derived.Test.YtkdhionilabokaaGreatDoorK02
import Derived.Test.YtkdhionilabokaaGreatDoorAx
import Derived.OrdersIn
set_option linter.unusedVariables false
set_option linter.unusedSimpArgs false
set_option maxHeartbeats 6400000
set_option maxRecDepth 20000
namespace Go.Proofs.YtkdhionilabokaaGreatDoor
open Go Go.Aw
theorem tM (n:Nat)(hn:n<=12):Al Tryz.prog 102 [.int .u64 (n:Int)] (.int .i64 ((l8 n).toNat:Int)):=by
 refine Al.body (n:=25) Ai Tryz.func102 rfl rfl rfl fun H=>?_
 refine AW.seq (AW.region (AOL.Aag (Ag (v:=.int .i64 _) rfl) rfl (AOL.nil (Aa (AW.seq (AW.seq (AW.region (AOL.Aag (Ae (v:=.int .u64 _) rfl) rfl (AOL.Aag (I7 rfl rfl) rfl (AOL.nil (Aa (AW.cond (b:=_) rfl (fun hc1=>?_) (fun hc1=>AW.skip (Aa (AW.seq (AW.seq (AW.region (AOL.Aag (Ae (v:=.int .u64 _) rfl) rfl (AOL.Aag (I7 rfl rfl) rfl (AOL.nil (Aa (AW.cond (b:=_) rfl (fun hc2=>?_) (fun hc2=>AW.skip (Aa (AW.seq (AW.seq (AW.region (AOL.Aag (Ae (v:=.int .u64 _) rfl) rfl (AOL.Aag (I7 rfl rfl) rfl (AOL.nil (Aa (AW.cond (b:=_) rfl (fun hc3=>?_) (fun hc3=>AW.skip (Aa (AW.seq (AW.region (AOL.Aag (Ae (v:=.int .i64 _) rfl) rfl (AOL.Aag (Ae (v:=.int .u64 _) rfl) rfl ?_))))))))))))))))))))))))))))))))))))))
 . have:=B2 hc1;omega
 . have:=B2 hc2;omega
 . have:=B2 hc3;omega
 refine AOL.Aag (I6 (m:=(n:Int)) Ai rfl rfl rfl rfl rfl (by rcases oE hn with rfl | rfl | rfl | rfl | rfl | rfl | rfl | rfl | rfl | rfl | rfl | rfl | rfl <;> rfl)) rfl ?_;refine AOL.Aag (Zx (b:=l8 n) Ai rfl rfl rfl rfl (by omega) (by rcases oE hn with rfl | rfl | rfl | rfl | rfl | rfl | rfl | rfl | rfl | rfl | rfl | rfl | rfl <;> rfl)) rfl ?_;refine AOL.Aag (I6 (m:=((l8 n).toNat:Int)) Ai rfl rfl rfl rfl rfl (by rw [IntKind.wrap_i64];have:=wT n;omega)) rfl ?_;refine AOL.Aag (Cc rfl rfl rfl (by have:=wT n;constructor <;> omega)) rfl ?_;refine AOL.Aag (Ag (v:=.int .i64 _) rfl) rfl (AOL.nil (Aa (AW.ret ?_)));refine ⟨.inr rfl,[.int .i64 _],.cons (.tmp _ _ rfl) <| .nil,.refl _,?_⟩;exact congrArg (AV.int .i64) (by omega)
theorem Vo (n:Nat)(hn:n<=12):Al Tryz.prog 59 [.int .u64 (n:Int)] (.int .i64 ((l8 n).toNat:Int)):=by
 refine Al.body (n:=8) Ai Tryz.func59 rfl rfl rfl fun H=>?_
 refine AW.seq (AW.region (AOL.Aag (Ag (v:=.int .i64 _) rfl) rfl (AOL.nil (Aa (AW.seq (AW.cond (b:=_) rfl (fun hc1=>?_) (fun hc1=>AW.skip (Aa (AW.seq (AW.region (AOL.Aag (Ae (v:=.int .u64 _) rfl) rfl ?_)))))))))))
 . cases hc1
 refine AOL.Aag (Ak (by kernel_rfl) rfl rfl (tM n hn)) rfl ?_;refine AOL.Aag (Ag (v:=.int .i64 _) rfl) rfl (AOL.nil (Aa (AW.ret ?_)));refine ⟨.inr rfl,[.int .i64 _],.cons (.tmp _ _ rfl) <| .nil,.refl _,?_⟩;rfl
theorem kF (x y:Pr):Al Tryz.prog 161 [.agg (Ct x),.agg (Ct y)] (.int .i64 (jR x y)):=by
 refine Al.body (n:=10) Ai Tryz.func161 rfl rfl rfl fun H=>?_
 refine AW.seq (AW.region (AOL.Aag (Bt (v:=.agg _) (cs:=[.int .i64 _,.int .i64 _]) rfl rfl rfl) rfl (AOL.Aag (Bt (v:=.agg _) (cs:=[.int .i64 _,.int .i64 _]) rfl rfl rfl) rfl (AOL.Aag (Ag (v:=.int .i64 _) rfl) rfl (AOL.nil (Aa (AW.seq (AW.region (AOL.Aag (Ad (cs':=[.int .i64 _]) Ai rfl rfl rfl rfl rfl rfl) rfl (AOL.Aag (Af (c:=.int .i64 _) Ai rfl rfl rfl) rfl (AOL.Aag (Ad (cs':=[.int .i64 _]) Ai rfl rfl rfl rfl rfl rfl) rfl (AOL.Aag (Af (c:=.int .i64 _) Ai rfl rfl rfl) rfl (AOL.Aag (Up rfl rfl) rfl (AOL.Aag (Ag (v:=.int .i64 _) rfl) rfl (AOL.nil (Aa (AW.ret ?_)))))))))))))))));refine ⟨.inr rfl,[.int .i64 _],.cons (.tmp _ _ rfl) <| .nil,.refl _,?_⟩;rfl
theorem bG (bo cap:Nat)(J:List AV)(F:Nat)(hfn:Pe Tryz.prog F=true)(cmp:Pr->Pr->Int)(hf:∀x y:Pr,Al Tryz.prog F [.agg (Ct x),.agg (Ct y)] (.int .i64 (cmp x y)))(l:List Pr)(hl:l.length<=12):Lp Tryz.prog 214 bo 152 (Eo Ct l++J) (Eo Ct (Gt Jn (fun x y=>decide (cmp x y<0)) l)++J) [.val (.slice (some ⟨bo,0,none⟩) l.length cap),.int .i64 0,.int .i64 l.length,.fn (.func F) [] []] (.tuple []):=by
 intro H;refine Cb.body (n:=53) Ai Tryz.func214 rfl rfl rfl ?_;refine AW.ghostPost (AW.seq (AW.region (AOL.Aag (Ae (v:=.int .i64 _) rfl) rfl ?_)));refine AOL.Aag (Cc rfl rfl rfl (by constructor <;> omega)) rfl ?_;refine AOL.Aag (Ag (v:=.int .i64 _) rfl) rfl (AOL.nil (Aa (AW.block ?_)));refine AW.loopS (fun (p:Nat×List Pr)=>(⟨[(0,.val (.slice (some ⟨bo,0,none⟩) l.length cap)),(1,.int .i64 0),(2,.int .i64 l.length),(3,.fn (.func F) [] []),(8,.int .i64 (p.1:Int))],.box bo 152 (Eo Ct p.2++J)::H,53⟩:St)) (fun p=>1<=p.1/\p.2.length=l.length/\Jc Jn (fun x y=>decide (cmp x y<0)) (l.length-p.1) p.1 p.2=Gt Jn (fun x y=>decide (cmp x y<0)) l) (fun p=>l.length-p.1) ((1,l)) ?_ (GS.weaken ⟨rfl,rfl,rfl,rfl,rfl,trivial⟩ (.refl _)) ?_
 . exact ⟨Bi _,rfl,rfl⟩
 rintro p hR;refine AW.seq (AW.seq (AW.region (AOL.Aag (Ae (v:=.int .i64 _) rfl) rfl (AOL.Aag (Ae (v:=.int .i64 _) rfl) rfl (AOL.Aag (B9 rfl rfl) rfl (AOL.nil (Aa (AW.cond (b:=_) rfl (fun hc1=>?_) (fun hc1=>?_)))))))))
 .
  have hpi:=B2 hc1;refine AW.skip (Aa (AW.seq (AW.block (AW.seq (AW.region (AOL.Aag (Ae (v:=.int .i64 _) rfl) rfl (AOL.Aag (Ag (v:=.int .i64 _) rfl) rfl (AOL.nil (Aa (AW.block ?_))))))))));refine AW.loopS (fun (q:Nat×List Pr)=>(⟨[(0,.val (.slice (some ⟨bo,0,none⟩) l.length cap)),(1,.int .i64 0),(2,.int .i64 l.length),(3,.fn (.func F) [] []),(8,.int .i64 (p.1:Int)),(9,.int .i64 (q.1:Int))],.box bo 152 (Eo Ct q.2++J)::H,53⟩:St)) (fun q=>q.2.length=l.length/\q.1<l.length/\Gf Jn (fun x y=>decide (cmp x y<0)) q.1 q.2=Gf Jn (fun x y=>decide (cmp x y<0)) p.1 p.2) (fun q=>q.1) ((p.1,p.2)) ?_ (GS.weaken ⟨rfl,rfl,rfl,rfl,rfl,rfl,trivial⟩ (.refl _)) ?_
  . exact ⟨hR.2.1,by simp only;omega,rfl⟩
  rintro q hQ;have hql:=hQ.1;refine AW.seq (AW.seq ?_);refine AW.draw mixed (fun H'=>_∈H') (A0 (i:=0) rfl) (by kernel_rfl) ?_;refine E5.pure _ _ 0 _ _ rfl (by kernel_rfl) (by kernel_rfl) rfl (.run rfl (Ae (v:=.int .i64 _) rfl)) ?_;refine E5.pure _ _ 1 _ _ rfl (by kernel_rfl) (by kernel_rfl) rfl (.run rfl (Ae (v:=.int .i64 _) rfl)) ?_;refine E5.pure _ _ 2 _ _ rfl (by kernel_rfl) (by kernel_rfl) rfl (.run rfl (Gy rfl rfl)) ?_;refine E5.pure _ _ 3 _ _ rfl (by kernel_rfl) (by kernel_rfl) rfl (.run rfl (Ae (v:=.bool _) rfl)) ?_;refine E5.pure _ _ 4 _ _ rfl (by kernel_rfl) (by kernel_rfl) rfl (.opt _ (.fn _ _ _) [] rfl (Un.all trivial) (fun hG=>Ae (v:=.fn _ _ _) rfl) rfl) ?_;refine E5.pure _ _ 5 _ _ rfl (by kernel_rfl) (by kernel_rfl) rfl (.opt _ (.val _) [] rfl (Un.all trivial) (fun hG=>Ae (v:=.val _) rfl) rfl) ?_;refine E5.pure _ _ 6 _ _ rfl (by kernel_rfl) (by kernel_rfl) rfl (.opt _ (.int .i64 _) [] rfl (Un.all trivial) (fun hG=>Ae (v:=.int .i64 _) rfl) rfl) ?_;refine E5.pure _ _ 7 _ _ rfl (by kernel_rfl) (by kernel_rfl) rfl (.opt _ (.val _) [(23,_),(24,_)] rfl (Un.all ⟨Zs.self _ _,Zs.self _ _,trivial⟩) (fun hG=>A8 (o':=q.1*2) Ai rfl rfl rfl rfl rfl (by omega) (by omega) (by show 0+(q.1:Int).toNat*2=(q.1)*2;rw [show (q.1:Int).toNat=q.1 from by omega,Cg])) rfl) ?_;refine E5.pure _ _ 8 _ _ rfl (by kernel_rfl) (by kernel_rfl) rfl (.opt _ (.agg _) [(25,_)] rfl (Un.all ⟨Zs.self _ _,trivial⟩) (fun hG=>OpP.Aan (fun k=>Cf (k:=k) (l:=Ct ((q.2[q.1]?).getD Jn)) Ai rfl rfl rfl (flat_at (c:=Ct) (z:=2) Gp Jn J q.2 (q.1) (by omega)) rfl) (fun _ h=>h)) rfl) ?_;refine E5.pure _ _ 9 _ _ rfl (by kernel_rfl) (by kernel_rfl) rfl (.opt _ (.val _) [] rfl (Un.all trivial) (fun hG=>Ae (v:=.val _) rfl) rfl) ?_;refine E5.pure _ _ 10 _ _ rfl (by kernel_rfl) (by kernel_rfl) rfl (.opt _ (.int .i64 _) [] rfl (Un.all trivial) (fun hG=>Ae (v:=.int .i64 _) rfl) rfl) ?_;refine E5.pure _ _ 11 _ _ rfl (by kernel_rfl) (by kernel_rfl) rfl (.opt _ (.int .i64 _) [(28,_)] rfl (Un.all ⟨Zs.self _ _,trivial⟩) (fun hG=>Gj rfl rfl rfl (by constructor <;> omega)) rfl) ?_;refine E5.pure _ _ 12 _ _ rfl (by kernel_rfl) (by kernel_rfl) rfl (.opt _ (.val _) [(27,_),(29,_)] rfl (Un.all ⟨Zs.self _ _,Zs.self _ _,trivial⟩) (fun hG=>A8 (o':=(q.1-1)*2) Ai rfl rfl rfl rfl rfl (by have h9:=B2 (Ed hG);omega) (by have h9:=B2 (Ed hG);omega) (by have h9:=B2 (Ed hG);show 0+((q.1:Int)-1).toNat*2=(q.1-1)*2;rw [show ((q.1:Int)-1).toNat=q.1-1 from by omega,Cg])) rfl) ?_;refine E5.pure _ _ 13 _ _ rfl (by kernel_rfl) (by kernel_rfl) rfl (.opt _ (.agg _) [(30,_)] rfl (Un.all ⟨Zs.self _ _,trivial⟩) (fun hG=>OpP.Aan (fun k=>Cf (k:=k) (l:=Ct ((q.2[q.1-1]?).getD Jn)) Ai rfl rfl rfl (flat_at (c:=Ct) (z:=2) Gp Jn J q.2 (q.1-1) (by omega)) rfl) (fun _ h=>h)) rfl) ?_
  refine E5.pure _ _ 14 _ _ rfl (by kernel_rfl) (by kernel_rfl) rfl (.opt _ (.int .i64 _) [(26,_),(31,_),(22,_)] rfl (Un.all ⟨Zs.self _ _,Zs.self _ _,Zs.self _ _,trivial⟩) (fun hG=>Fy hfn rfl rfl rfl (hf _ _)) rfl) ?_;refine E5.pure _ _ 15 _ _ rfl (by kernel_rfl) (by kernel_rfl) rfl (.opt _ (.bool _) [(32,_)] rfl (Un.all ⟨Zs.self _ _,trivial⟩) (fun hG=>B9 rfl rfl) rfl) ?_;refine E5.pure _ _ 16 _ _ rfl (by kernel_rfl) (by kernel_rfl) rfl (.run rfl (Bc rfl rfl rfl)) ?_;refine E5.done _ _ (by kernel_rfl) ?_;refine Aa (AW.cond (b:=_) rfl (fun hc2=>?_) (fun hc2=>?_))
  .
   have hj0:0<q.1:=by rw [Cq] at hc2;have:=B2 hc2.1;omega
   have hlt:(fun x y=>decide (cmp x y<0)) ((q.2[q.1]?).getD Jn) ((q.2[q.1-1]?).getD Jn)=true:=by rw [Cq] at hc2;exact hc2.2
   refine AW.skip (Aa (AW.seq (AW.block ?_)));refine AW.drawI mixed (fun j H'=>(j==9||j==13)=true->_∈H') (fun _ _=>(A0 (i:=0) rfl)) (by kernel_rfl) ?_;refine CanonI.pure _ _ 0 _ _ rfl (by kernel_rfl) (by kernel_rfl) rfl (.run rfl (Ae (v:=.val _) rfl)) ?_;refine CanonI.pure _ _ 1 _ _ rfl (by kernel_rfl) (by kernel_rfl) rfl (.run rfl (Ae (v:=.int .i64 _) rfl)) ?_;refine CanonI.pure _ _ 2 _ _ rfl (by kernel_rfl) (by kernel_rfl) rfl (.run rfl (Ae (v:=.val _) rfl)) ?_;refine CanonI.pure _ _ 3 _ _ rfl (by kernel_rfl) (by kernel_rfl) rfl (.run rfl (Ae (v:=.int .i64 _) rfl)) ?_;refine CanonI.pure _ _ 4 _ _ rfl (by kernel_rfl) (by kernel_rfl) rfl (.run rfl (Gj rfl rfl rfl (by constructor <;> omega))) ?_;refine CanonI.pure _ _ 5 _ _ rfl (by kernel_rfl) (by kernel_rfl) rfl (.run rfl (Ae (v:=.val _) rfl)) ?_;refine CanonI.pure _ _ 6 _ _ rfl (by kernel_rfl) (by kernel_rfl) rfl (.run rfl (Ae (v:=.int .i64 _) rfl)) ?_;refine CanonI.pure _ _ 7 _ _ rfl (by kernel_rfl) (by kernel_rfl) rfl (.run rfl (Gj rfl rfl rfl (by constructor <;> omega))) ?_;refine CanonI.pure _ _ 8 _ _ rfl (by kernel_rfl) (by kernel_rfl) rfl (.run rfl (A8 (o':=(q.1-1)*2) Ai rfl rfl rfl rfl rfl (by omega) (by omega) (by show 0+((q.1:Int)-1).toNat*2=(q.1-1)*2;rw [show ((q.1:Int)-1).toNat=q.1-1 from by omega,Cg]))) ?_;refine CanonI.pure _ _ 9 _ _ rfl (by kernel_rfl) (by kernel_rfl) rfl (.run rfl (OpP.Aan (fun k=>Cf (k:=k) (l:=Ct ((q.2[q.1-1]?).getD Jn)) Ai rfl rfl rfl (flat_at (c:=Ct) (z:=2) Gp Jn J q.2 (q.1-1) (by omega)) rfl) (fun _ h=>h rfl))) ?_;refine CanonI.pure _ _ 10 _ _ rfl (by kernel_rfl) (by kernel_rfl) rfl (.run rfl (Ae (v:=.val _) rfl)) ?_;refine CanonI.pure _ _ 11 _ _ rfl (by kernel_rfl) (by kernel_rfl) rfl (.run rfl (Ae (v:=.int .i64 _) rfl)) ?_;refine CanonI.pure _ _ 12 _ _ rfl (by kernel_rfl) (by kernel_rfl) rfl (.run rfl (A8 (o':=q.1*2) Ai rfl rfl rfl rfl rfl (by omega) (by omega) (by show 0+(q.1:Int).toNat*2=(q.1)*2;rw [show (q.1:Int).toNat=q.1 from by omega,Cg]))) ?_;refine CanonI.pure _ _ 13 _ _ rfl (by kernel_rfl) (by kernel_rfl) rfl (.run rfl (OpP.Aan (fun k=>Cf (k:=k) (l:=Ct ((q.2[q.1]?).getD Jn)) Ai rfl rfl rfl (flat_at (c:=Ct) (z:=2) Gp Jn J q.2 (q.1) (by omega)) rfl) (fun _ h=>h rfl))) ?_;refine CanonI.pure _ _ 14 _ _ rfl (by kernel_rfl) (by kernel_rfl) rfl (.run rfl (A8 (o':=q.1*2) Ai rfl rfl rfl rfl rfl (by omega) (by omega) (by show 0+(q.1:Int).toNat*2=(q.1)*2;rw [show (q.1:Int).toNat=q.1 from by omega,Cg]))) ?_;refine CanonI.phase (fun _ _=>True) _ _ 15 _ _ rfl (by kernel_rfl) rfl rfl (Ao (k:=0) (v:=.agg _) (cs':=_) (H2:=_::_) Ai rfl rfl rfl rfl rfl rfl (Kz (c:=Ct) (z:=2) Gp J (by first | omega | (simp only [Hr];omega))) (G2 (c:=Ct) (z:=2) Gp J _ _ (q.1) (by first | omega | (simp only [Hr];omega))) rfl) (fun j _ _ hr _ _ hj=>?_) (fun _ _ _ _=>trivial) ?_
   .
    rcases (by simpa only [Ek,beq_iff_eq,or_assoc] using hj:j=9\/j=13) with rfl | rfl
    . exact Bool.noConfusion ((show Hk _ 7 _ 9=true by kernel_rfl).symm.trans hr)
    exact Bool.noConfusion ((show Hk _ 7 _ 13=true by kernel_rfl).symm.trans hr)
   rintro _ _ ⟨rfl,rfl⟩;refine CanonI.pure _ _ 16 _ _ rfl (by kernel_rfl) (by kernel_rfl) rfl (.run rfl (A8 (o':=(q.1-1)*2) Ai rfl rfl rfl rfl rfl (by omega) (by omega) (by show 0+((q.1:Int)-1).toNat*2=(q.1-1)*2;rw [show ((q.1:Int)-1).toNat=q.1-1 from by omega,Cg]))) ?_;refine CanonI.eff _ _ 17 _ _ rfl (by kernel_rfl) rfl rfl (Ao (k:=0) (v:=.agg _) (cs':=_) (H2:=_::_) Ai rfl rfl rfl rfl rfl rfl (Kz (c:=Ct) (z:=2) Gp J (by first | omega | (simp only [Hr];omega))) (G2 (c:=Ct) (z:=2) Gp J _ _ (q.1-1) (by first | omega | (simp only [Hr];omega))) rfl) (fun _ _ _ _=>trivial) ?_;rintro _ _ ⟨rfl,rfl⟩;refine CanonI.done _ _ (by kernel_rfl) ?_;refine C9 (Aa (AW.region (AOL.Aag (Ae (v:=.int .i64 _) rfl) rfl ?_)));refine AOL.Aag (Gj rfl rfl rfl (by constructor <;> omega)) rfl ?_;refine AOL.Aag (Ag (v:=.int .i64 _) rfl) rfl (AOL.nil (Aa ?_));refine ⟨(q.1-1,vG Jn q.2 q.1),?_,?_,GS.trans (GS.cellsTo (H2:=_::_) 0 rfl ((by first | rfl | exact congrArg (fun x=>Eo Ct x++J) (List.set_comm _ _ (by omega)))) rfl) (GS.weaken ⟨rfl,rfl,rfl,rfl,rfl,congrArg (AV.int .i64) (by simp only;omega),trivial⟩ (.refl _))⟩
   . exact ⟨by rw [Zp];exact hQ.1,by simp only;omega,by rw [<-hQ.2.2,Pu hj0 hlt]⟩
   simp only;omega
  have hin:Gf Jn (fun x y=>decide (cmp x y<0)) q.1 q.2=q.2:=Pv fun h0=>by rw [M7] at hc2;exact hc2.resolve_left (by rw [G7 (by omega)];decide)
  refine AW.exit ?_;refine A1 (A1 (Cd (C9 (Aa (AW.region ?_)))));refine AOL.Aag (Ae (v:=.int .i64 _) rfl) rfl ?_;refine AOL.Aag (Cc rfl rfl rfl (by constructor <;> omega)) rfl ?_;refine AOL.Aag (Ag (v:=.int .i64 _) rfl) rfl (AOL.nil (Aa ?_));refine ⟨(p.1+1,q.2),?_,?_,GS.weaken ⟨rfl,rfl,rfl,rfl,rfl,trivial⟩ (.refl _)⟩
  . exact ⟨by simp only;omega,hQ.1,by simp only;rw [<-hR.2.2];rw [Pz (l:=p.2) (i:=p.1) (by omega),<-hQ.2.2,hin]⟩
  simp only;omega
 have hpi:=C7 hc1;have hend:=hR.2.2;rw [P0 (by omega)] at hend;refine AW.exit ?_;refine A1 (A1 (Cd ?_));refine ⟨_,GS.cellsTo (H2:=_::_) 0 rfl ((congrArg (fun x=>Eo Ct x++J) hend)) rfl,.inl rfl,[],.nil,_,.refl _,?_⟩;exact ⟨rfl,rfl⟩
theorem bJ (bo cap:Nat)(J:List AV)(F:Nat)(hfn:Pe Tryz.prog F=true)(cmp:Pr->Pr->Int)(hf:∀x y:Pr,Al Tryz.prog F [.agg (Ct x),.agg (Ct y)] (.int .i64 (cmp x y)))(l:List Pr)(hl:l.length<=12)(n:Int):Lp Tryz.prog 189 bo 152 (Eo Ct l++J) (Eo Ct (Gt Jn (fun x y=>decide (cmp x y<0)) l)++J) [.val (.slice (some ⟨bo,0,none⟩) l.length cap),.int .i64 0,.int .i64 l.length,.int .i64 n,.fn (.func F) [] []] (.tuple []):=by
 intro H;refine Cb.body (n:=148) Ai Tryz.func189 rfl rfl rfl ?_;refine AW.seq (AW.region (AOL.Aag (Ag (v:=.bool _) rfl) rfl (AOL.nil (Aa (AW.seq (AW.region (AOL.Aag (Ag (v:=.bool _) rfl) rfl (AOL.nil (Aa (AW.block ?_))))))))));refine AW.loopS (fun (_:Unit)=>(⟨[(0,.val (.slice (some ⟨bo,0,none⟩) l.length cap)),(1,.int .i64 0),(2,.int .i64 l.length),(4,.fn (.func F) [] [])],.box bo 152 (Eo Ct l++J)::H,148⟩:St)) (fun _=>True) (fun _=>0) (()) ?_ (GS.weaken ⟨rfl,rfl,rfl,rfl,trivial⟩ (.refl _)) ?_
 . trivial
 rintro _ _;refine AW.block (AW.seq (AW.region (AOL.Aag (Ae (v:=.int .i64 _) rfl) rfl (AOL.Aag (Ae (v:=.int .i64 _) rfl) rfl ?_))));refine AOL.Aag (Gj rfl rfl rfl (by constructor <;> omega)) rfl ?_;refine AOL.Aag (Ag (v:=.int .i64 _) rfl) rfl (AOL.nil (Aa (AW.seq (AW.seq (AW.region (AOL.Aag (Ae (v:=.int .i64 _) rfl) rfl (AOL.Aag (I8 rfl rfl) rfl (AOL.nil (Aa (AW.cond (b:=_) rfl (fun hc1=>AW.seq (AW.region (AOL.Aag (Ae (v:=.val _) rfl) rfl (AOL.Aag (Ae (v:=.int .i64 _) rfl) rfl (AOL.Aag (Ae (v:=.int .i64 _) rfl) rfl (AOL.Aag (Ae (v:=.fn _ _ _) rfl) rfl ?_)))))) (fun hc1=>?_)))))))))))
 .
  refine AOL.e (C2 (by kernel_rfl) rfl rfl ((bG bo cap J F hfn cmp hf l hl).at (k:=0) (H2:=_::_) rfl rfl)) rfl ?_;rintro _ _ ⟨rfl,rfl⟩;refine AOL.nil (Aa (AW.ret (Ap (Cn (Ap (Cn ?_))))));refine ⟨.inr rfl,[],.nil,_,.refl _,?_⟩;exact ⟨rfl,rfl⟩
 have:=C7 hc1;omega
theorem bF (bo cap:Nat)(J:List AV)(F:Nat)(hfn:Pe Tryz.prog F=true)(cmp:Pr->Pr->Int)(hf:∀x y:Pr,Al Tryz.prog F [.agg (Ct x),.agg (Ct y)] (.int .i64 (cmp x y)))(l:List Pr)(hl:l.length<=12):Lp Tryz.prog 160 bo 152 (Eo Ct l++J) (Eo Ct (Gt Jn (fun x y=>decide (cmp x y<0)) l)++J) [.val (.slice (some ⟨bo,0,none⟩) l.length cap),.fn (.func F) [] []] (.tuple []):=by
 intro H;refine Cb.body (n:=14) Ai Tryz.func160 rfl rfl rfl ?_;refine AW.seq (AW.region (AOL.Aag (Ae (v:=.val _) rfl) rfl (AOL.Aag (E6 Ai rfl rfl rfl) rfl (AOL.Aag (Ag (v:=.int .i64 _) rfl) rfl (AOL.nil (Aa (AW.region (AOL.Aag (Ae (v:=.val _) rfl) rfl (AOL.Aag (Ae (v:=.int .i64 _) rfl) rfl (AOL.Aag (Ae (v:=.int .i64 _) rfl) rfl ?_))))))))));refine AOL.Aag (I6 (m:=(l.length:Int)) Ai rfl rfl rfl rfl rfl (by rcases oE hl with h | h | h | h | h | h | h | h | h | h | h | h | h <;> (rw [h];rfl))) rfl ?_;refine AOL.Aag (Ak (by kernel_rfl) rfl rfl (Vo l.length hl)) rfl ?_;refine AOL.Aag (Ae (v:=.fn _ _ _) rfl) rfl ?_;refine AOL.e (C2 (by kernel_rfl) rfl rfl ((bJ bo cap J F hfn cmp hf l hl _).at (k:=0) (H2:=_::_) rfl rfl)) rfl ?_;rintro _ _ ⟨rfl,rfl⟩;refine AOL.nil ?_;refine ⟨.inl rfl,[],.nil,_,.refl _,?_⟩;exact ⟨rfl,rfl⟩
theorem Cb.ofPure' {f:FuncId}{args:List AV}{r:AV}{H:List HO}{Q:AV->List HO->Prop}(h:Al Tryz.prog f args r)(hq:Q r H):Cb Tryz.prog f H args Q:=by
 intro g w vs hH hA;refine (h H g w vs hH hA).mono ?_;rintro e w' ⟨v,g',x,H',rfl,k1,k2,k3,rfl,rfl⟩;exact ⟨v,g',_,_,rfl,k1,k2,k3,hq⟩
theorem Yp (F:Nat):Al Tryz.prog 214 [.val (.slice none 0 0),.int .i64 0,.int .i64 0,.fn (.func F) [] []] (.tuple []):=by
 refine Al.body (n:=53) Ai Tryz.func214 rfl rfl rfl fun H=>?_
 refine AW.seq (AW.region (AOL.Aag (Ae (v:=.int .i64 _) rfl) rfl ?_));refine AOL.Aag (Cc rfl rfl rfl (by constructor <;> omega)) rfl ?_;refine AOL.Aag (Ag (v:=.int .i64 _) rfl) rfl (AOL.nil (Aa (AW.block ?_)));refine AW.loopS (fun (_:Unit)=>(⟨[(2,.int .i64 0),(8,.int .i64 1)],H,53⟩:St)) (fun _=>True) (fun _=>0) (()) ?_ (GS.weaken ⟨rfl,rfl,trivial⟩ (.refl _)) ?_
 . trivial
 rintro _ _;refine AW.seq (AW.seq (AW.region (AOL.Aag (Ae (v:=.int .i64 _) rfl) rfl (AOL.Aag (Ae (v:=.int .i64 _) rfl) rfl (AOL.Aag (B9 rfl rfl) rfl (AOL.nil (Aa (AW.cond (b:=_) rfl (fun hc1=>?_) (fun hc1=>AW.exit ?_)))))))))
 . cases hc1
 refine A1 (A1 (Cd ?_));refine ⟨.inl rfl,[],.nil,.refl _,?_⟩;rfl
theorem Yq (F:Nat)(n:Int):Al Tryz.prog 189 [.val (.slice none 0 0),.int .i64 0,.int .i64 0,.int .i64 n,.fn (.func F) [] []] (.tuple []):=by
 refine Al.body (n:=148) Ai Tryz.func189 rfl rfl rfl fun H=>?_
 refine AW.seq (AW.region (AOL.Aag (Ag (v:=.bool _) rfl) rfl (AOL.nil (Aa (AW.seq (AW.region (AOL.Aag (Ag (v:=.bool _) rfl) rfl (AOL.nil (Aa (AW.block ?_))))))))));refine AW.loopS (fun (_:Unit)=>(⟨[(0,.val (.slice none 0 0)),(1,.int .i64 0),(2,.int .i64 0),(4,.fn (.func F) [] [])],H,148⟩:St)) (fun _=>True) (fun _=>0) (()) ?_ (GS.weaken ⟨rfl,rfl,rfl,rfl,trivial⟩ (.refl _)) ?_
 . trivial
 rintro _ _;refine AW.block (AW.seq (AW.region (AOL.Aag (Ae (v:=.int .i64 _) rfl) rfl (AOL.Aag (Ae (v:=.int .i64 _) rfl) rfl ?_))));refine AOL.Aag (Gj rfl rfl rfl (by constructor <;> omega)) rfl ?_;refine AOL.Aag (Ag (v:=.int .i64 _) rfl) rfl (AOL.nil (Aa (AW.seq (AW.seq (AW.region (AOL.Aag (Ae (v:=.int .i64 _) rfl) rfl (AOL.Aag (I8 rfl rfl) rfl (AOL.nil (Aa (AW.cond (b:=_) rfl (fun hc1=>AW.seq (AW.region (AOL.Aag (Ae (v:=.val _) rfl) rfl (AOL.Aag (Ae (v:=.int .i64 _) rfl) rfl (AOL.Aag (Ae (v:=.int .i64 _) rfl) rfl (AOL.Aag (Ae (v:=.fn _ _ _) rfl) rfl ?_)))))) (fun hc1=>?_)))))))))))
 .
  refine AOL.Aag (Ak (by kernel_rfl) rfl rfl (Yp F)) rfl ?_;refine AOL.nil (Aa (AW.ret (Ap (Cn (Ap (Cn ?_))))));refine ⟨.inr rfl,[],.nil,.refl _,?_⟩;rfl
 cases hc1
theorem bH (F:Nat):Al Tryz.prog 160 [.val (.slice none 0 0),.fn (.func F) [] []] (.tuple []):=by
 refine Al.body (n:=14) Ai Tryz.func160 rfl rfl rfl fun H=>?_
 refine AW.seq (AW.region (AOL.Aag (Ae (v:=.val _) rfl) rfl (AOL.Aag (E6 Ai rfl rfl rfl) rfl (AOL.Aag (Ag (v:=.int .i64 _) rfl) rfl (AOL.nil (Aa (AW.region (AOL.Aag (Ae (v:=.val _) rfl) rfl (AOL.Aag (Ae (v:=.int .i64 _) rfl) rfl (AOL.Aag (Ae (v:=.int .i64 _) rfl) rfl (AOL.Aag (I6 (m:=((0:Nat):Int)) Ai rfl rfl rfl rfl rfl (rfl)) rfl ?_)))))))))));refine AOL.Aag (Ak (by kernel_rfl) rfl rfl (Vo 0 (by omega))) rfl ?_;refine AOL.Aag (Ae (v:=.fn _ _ _) rfl) rfl ?_;refine AOL.Aag (Ak (by kernel_rfl) rfl rfl (Yq F _)) rfl ?_;refine AOL.nil ?_;refine ⟨.inl rfl,[],.nil,.refl _,?_⟩;rfl
theorem tR (F:Nat)(hfn:Pe Tryz.prog F=true)(cmp:Pr->Pr->Int)(hf:∀x y:Pr,Al Tryz.prog F [.agg (Ct x),.agg (Ct y)] (.int .i64 (cmp x y)))(l:List Pr)(hl:l.length<=12)(v:Value)(H:List HO) :
  Cb Tryz.prog 160 (.buf v (l.map Ct) 152 2::H) [.val v,.fn (.func F) [] []] (fun r H'=>r = .tuple []/\H' = .buf v ((Gt Jn (fun x y=>decide (cmp x y<0)) l).map Ct) 152 2::H):=by
 refine Cb.buf ?_ ?_
 .
  rintro rfl he;have hl0:l = []:=by simpa using he
  subst hl0;exact Cb.ofPure' (bH F) ⟨rfl,rfl⟩
 rintro b cap J rfl hc;rw [B1];refine ((bF b cap J F hfn cmp hf l hl) H).mono' ?_;rintro r H' ⟨rfl,rfl⟩;refine ⟨(Gt Jn (fun x y=>decide (cmp x y<0)) l).map Ct,rfl,?_,?_,rfl,rfl⟩
 . rw [B1,Rw]
 intro e he;obtain ⟨x,_,rfl⟩:=B7.1 he;rfl
theorem nsub (n:Nat):AV.int .i64 ((n:Int)-(0-0)) = .int .i64 (n:Int):=by
 have:(n:Int)-(0-0)=(n:Int):=by omega
 rw [this]
theorem zC (n:Nat)(hn:n<=1048576)(H:List HO):Cb Tryz.prog 188 H [.val (.slice none 0 0),.int .i64 (n:Int)] (fun r H'=>∃v,r = .val v/\H' = .buf v [] 152 2::H):=by
 refine Cb.body (n:=27) Ai Tryz.func188 rfl rfl rfl ?_;refine AW.ghostPost (AW.seq (AW.region (AOL.Aag (Dg (z:=2) rfl) rfl (AOL.nil (Aa (AW.seq (AW.seq (AW.region (AOL.Aag (Ae (v:=.int .i64 _) rfl) rfl (AOL.Aag (B9 rfl rfl) rfl (AOL.nil (Aa (AW.cond (b:=_) rfl (fun hc1=>?_) (fun hc1=>AW.skip (Aa (AW.seq (AW.seq (AW.region (AOL.Aag (Ae (v:=.int .i64 _) rfl) rfl (AOL.Aag (Ae (v:=.val _) rfl) rfl (AOL.Aag (Wr Ai rfl rfl rfl) rfl (AOL.Aag (Ae (v:=.val _) rfl) rfl (AOL.Aag (E6 Ai rfl rfl rfl) rfl ?_)))))))))))))))))))))))
 . have:=B2 hc1;omega
 refine AOL.Aag (Gj rfl rfl rfl (by constructor <;> omega)) rfl ?_;refine AOL.Aag (Gj rfl rfl rfl (by constructor <;> omega)) rfl ?_;refine AOL.Aag (Ag (v:=.int .i64 _) rfl) rfl (AOL.nil (Aa (AW.seq (AW.region (AOL.Aag (Ae (v:=.int .i64 _) rfl) rfl (AOL.Aag (Gy rfl rfl) rfl (AOL.nil (Aa (AW.cond (b:=_) rfl (fun hc2=>?_) (fun hc2=>AW.skip (Aa (AW.seq (AW.region (AOL.Aag (Ae (v:=.val _) rfl) rfl (AOL.Aag (Ag (v:=.val _) rfl) rfl (AOL.nil (Aa (AW.ret ?_))))))))))))))))))
 .
  have hn0:0<n:=by have:=B2 hc2;omega
  refine AW.region (AOL.Aag (Ae (v:=.val _) rfl) rfl (AOL.Aag (Ae (v:=.val _) rfl) rfl (AOL.Aag (Wr Ai rfl rfl rfl) rfl (AOL.Aag (Zy Ai rfl rfl rfl rfl rfl) rfl (AOL.Aag (Ae (v:=.int .i64 _) rfl) rfl ?_)))));refine AOL.e (Xy (n:=n) Ai rfl (nsub n) rfl rfl Tryz.underlying3 rfl rfl rfl hn0 hn (by show n*16<=_;omega)) rfl ?_;rintro _ _ ⟨bm,cm,hcm,rfl,rfl⟩;refine AOL.Aag (Ae (v:=.val _) rfl) rfl (AOL.Aag (E6 Ai rfl rfl rfl) rfl ?_);refine AOL.Aag (Nq (l:=0) (h:=0) (o':=0) Ai rfl rfl rfl rfl rfl rfl ⟨_,rfl⟩ (by omega) (by omega) hcm (by omega) rfl) rfl ?_;refine AOL.Aag (Ag (v:=.val _) rfl) rfl (AOL.nil (Aa (AW.seq (AW.region (AOL.Aag (Ae (v:=.val _) rfl) rfl (AOL.Aag (Ag (v:=.val _) rfl) rfl (AOL.nil (Aa (AW.ret ?_)))))))));refine ⟨_,GS.rowBuf0 (H2:=_::_) 0 rfl rfl,.inr rfl,[.val _],.cons (.tmp _ _ rfl) <| .nil,_,.refl _,?_⟩;exact ⟨_,rfl,rfl⟩
 refine ⟨_,GS.buf 152 2,.inr rfl,[.val _],.cons (.tmp _ _ rfl) <| .nil,_,.refl _,?_⟩;exact ⟨_,rfl,rfl⟩
theorem nW (ls:List (List Pr))(hs:(ls.map List.length).sum<=1048576)(H:List HO):Cb Tryz.prog 159 H [.sl 1 (ls.map cLp)] (fun r H'=>∃v,r = .val v/\H' = .buf v (ls.flatten.map Ct) 152 2::H):=by
 refine Cb.body (n:=36) Ai Tryz.func159 rfl rfl rfl ?_;refine AW.seq (AW.region (AOL.Aag (Dg (z:=2) rfl) rfl (AOL.nil (Aa (AW.seq (AW.region (AOL.Aag (Ag (v:=.int .i64 _) rfl) rfl (AOL.nil (Aa (AW.seq (AW.seq (AW.region (AOL.Aag (Ae (v:=.sl _ _) rfl) rfl ?_)))))))))))));refine AOL.Aag (Av (n:=ls.length) Ai rfl rfl rfl (by simp)) rfl ?_;refine AOL.Aag (Ae (v:=.int .i64 _) rfl) rfl (AOL.nil (Aa (AW.block (AW.sllen 9 rfl fun hlen=>?_))));simp only [B1,maxLen] at hlen;refine AW.loopS (fun (k:Nat)=>(⟨[(0,.sl 1 (ls.map cLp)),(3,.int .i64 ((((ls.take k).map List.length).sum:Nat):Int)),(9,.sl 1 (ls.map cLp)),(10,.int .i64 ls.length),(11,.int .i64 (k:Int))],H,36⟩:St)) (fun k=>k<=ls.length) (fun k=>ls.length-k) (0) ?_ (GS.weaken ⟨rfl,rfl,rfl,rfl,rfl,trivial⟩ (.refl _)) ?_
 . exact Bn _
 rintro k hk;refine AW.seq (AW.region (AOL.Aag (B9 rfl rfl) rfl (AOL.nil (Aa (AW.seq (AW.cond (b:=_) rfl (fun hc1=>?_) (fun hc1=>?_)))))))
 .
  obtain ⟨a,ha⟩:=Dd hc1;have hlt:=Bj ha;have hm:=A0 ha;have hst:=dA ha;have hsl:=Zo (ls:=ls) (k+1);refine AW.skip (Aa (AW.seq (AW.block (AW.seq (AW.region ?_)))));refine AOL.Aag (Am (c:=[_]) Ai rfl rfl rfl rfl rfl rfl (by omega) (Co ha)) rfl ?_;refine AOL.Aag (Af (c:=.sl _ _) Ai rfl rfl rfl) rfl (AOL.Aag (Ag (v:=.sl _ _) rfl) rfl (AOL.nil (Aa (AW.seq (AW.region (AOL.Aag (Ae (v:=.int .i64 _) rfl) rfl (AOL.Aag (Ae (v:=.sl _ _) rfl) rfl ?_)))))));refine AOL.Aag (Av (n:=a.length) Ai rfl rfl rfl (by simp)) rfl ?_;refine AOL.Aag (Cc rfl rfl rfl (by constructor <;> omega)) rfl ?_;refine AOL.Aag (Ag (v:=.int .i64 _) rfl) rfl (AOL.nil (Aa (AW.seq (AW.region (AOL.Aag (Ae (v:=.int .i64 _) rfl) rfl (AOL.Aag (B9 rfl rfl) rfl (AOL.nil (Aa (AW.cond (b:=_) rfl (fun hc2=>?_) (fun hc2=>AW.skip (C9 (Aa (AW.region ?_)))))))))))))
  . have:=B2 hc2;omega
  refine AOL.Aag (Cc rfl rfl rfl (by constructor <;> omega)) rfl ?_;refine AOL.Aag (Ae (v:=.int .i64 _) rfl) rfl (AOL.nil (Aa ?_));refine ⟨k+1,?_,?_,GS.weaken ⟨rfl,congrArg (AV.int .i64) (by rw [hst];rfl),rfl,rfl,rfl,trivial⟩ (.refl _)⟩
  . exact hlt
  omega
 have hsl:=Zo (ls:=ls) k;refine AW.exit ?_;refine A1 (A1 (Cd (Aa ?_)));refine AW.seq (AW.region (AOL.Aag (Ae (v:=.int .i64 _) rfl) rfl ?_));refine AOL.e (C2 (by kernel_rfl) rfl rfl (zC ((ls.take k).map List.length).sum (by omega) _)) rfl ?_;rintro _ _ ⟨v9,rfl,rfl⟩;refine AOL.Aag (Ag (v:=.val _) rfl) rfl (AOL.nil (Aa (AW.seq (AW.seq (AW.region (AOL.Aag (Ae (v:=.sl _ _) rfl) rfl ?_))))));refine AOL.Aag (Av (n:=ls.length) Ai rfl rfl rfl (by simp)) rfl ?_;refine AOL.Aag (Ae (v:=.int .i64 _) rfl) rfl (AOL.nil (Aa (AW.block (AW.sllen 25 rfl fun hlen=>?_))));simp only [B1,maxLen] at hlen;refine AW.loopS (fun (p:Nat×List (List AV)×Value)=>(⟨[(6,.val p.2.2),(25,.sl 1 (ls.map cLp)),(26,.int .i64 ls.length),(27,.int .i64 (p.1:Int))],.buf p.2.2 p.2.1 152 2::H,36⟩:St)) (fun p=>p.1<=ls.length/\p.2.1=((ls.take p.1).flatten).map Ct) (fun p=>ls.length-p.1) ((0,[],v9)) ?_ (GS.weaken ⟨rfl,rfl,rfl,rfl,trivial⟩ (.refl _)) ?_
 . exact ⟨Bn _,rfl⟩
 rintro p hR;have hel:p.2.1.length=((ls.take p.1).map List.length).sum:=by rw [hR.2,B1,List.length_flatten]
 have hsl0:=Zo (ls:=ls) p.1;refine AW.seq (AW.region (AOL.Aag (B9 rfl rfl) rfl (AOL.nil (Aa (AW.seq (AW.cond (b:=_) rfl (fun hc3=>?_) (fun hc3=>?_)))))))
 .
  obtain ⟨a,ha⟩:=Dd hc3;have hlt:=Bj ha;have hm:=A0 ha;have hst:=dA ha;have hsl:=Zo (ls:=ls) (p.1+1);refine AW.skip (Aa (AW.seq (AW.block (AW.seq (AW.region ?_)))));refine AOL.Aag (Am (c:=[_]) Ai rfl rfl rfl rfl rfl rfl (by omega) (Co ha)) rfl ?_;refine AOL.Aag (Af (c:=.sl _ _) Ai rfl rfl rfl) rfl (AOL.Aag (Ag (v:=.sl _ _) rfl) rfl (AOL.nil (Aa (AW.region (AOL.Aag (Ae (v:=.val _) rfl) rfl (AOL.Aag (Ae (v:=.sl _ _) rfl) rfl ?_))))));refine AOL.e (Lo (k:=0) Ai rfl rfl rfl rfl rfl rfl rfl rfl (scPr _) (by simp;omega) (by simp [maxLen];omega)) rfl ?_;rintro _ _ ⟨v33,rfl,rfl⟩;refine AOL.Aag (Ag (v:=.val _) rfl) rfl (AOL.nil (C9 (Aa (AW.region ?_))));refine AOL.Aag (Cc rfl rfl rfl (by constructor <;> omega)) rfl ?_;refine AOL.Aag (Ae (v:=.int .i64 _) rfl) rfl (AOL.nil (Aa ?_));refine ⟨(p.1+1,p.2.1++a.map Ct,v33),?_,?_,GS.weaken ⟨rfl,rfl,rfl,rfl,trivial⟩ (.refl _)⟩
  . exact ⟨hlt,by simp only;rw [kD ha,Cy,hR.2]⟩
  simp only;omega
 have hd:ls.take p.1=ls:=D3 hc3;refine AW.exit ?_;refine A1 (A1 (Cd (Aa ?_)));refine AW.seq (AW.region (AOL.Aag (Ae (v:=.val _) rfl) rfl (AOL.Aag (Ag (v:=.val _) rfl) rfl (AOL.nil (Aa (AW.ret ?_))))));refine ⟨.inr rfl,[.val _],.cons (.tmp _ _ rfl) <| .nil,_,.refl _,?_⟩;rw [hd] at hR;exact ⟨_,rfl,congrArg (fun x=>HO.buf _ x 152 2::H) hR.2⟩
theorem kE (a b:List Pr)(h:a.length+b.length<=1048576)(H:List HO):Cb Tryz.prog 159 H [.sl 1 [[.sl 2 (a.map Ct)],[.sl 2 (b.map Ct)]]] (fun r H'=>∃v,r = .val v/\H' = .buf v ((a++b).map Ct) 152 2::H):=by
 have:=nW [a,b] (by simpa using h) H;have e:[a,b].flatten=a++b:=by simp
 rw [e] at this;exact this
theorem Q4 (s t:List Pr)(hl:s.length+t.length<=12):Al Tryz.prog 127 [.sl 2 (s.map Ct),.sl 2 (t.map Ct)] (.sl 2 ((Ch s t).map Ct)):=by
 refine Al.body (n:=13) Ai Tryz.func127 rfl rfl rfl fun H=>?_
 refine AW.seq (AW.region (AOL.Aag (Dg (z:=2) rfl) rfl (AOL.nil (Aa (AW.seq (AW.region (AOL.Aag (Ae (v:=.sl _ _) rfl) rfl (AOL.Aag (Ae (v:=.sl _ _) rfl) rfl (AOL.Aag (Bw (es:=[[_],[_]]) Ai rfl rfl rfl rfl rfl rfl rfl rfl rfl) rfl ?_)))))))));refine AOL.e (C2 (by kernel_rfl) rfl rfl (kE s t (by omega) _)) rfl ?_;rintro _ _ ⟨v9,rfl,rfl⟩;refine AOL.Aag (Ag (v:=.val _) rfl) rfl (AOL.nil (Aa (AW.seq (AW.region (AOL.Aag (Ae (v:=.val _) rfl) rfl ?_)))));refine AOL.e (C2 (by kernel_rfl) rfl rfl (tR 161 (by kernel_rfl) jR kF (s++t) (by rw [Do];omega) _ _)) rfl ?_;rintro _ _ ⟨rfl,rfl⟩;refine AOL.nil (Aa (AW.seq (AW.region ?_)));refine AOL.ghost (GS.freezeBuf (t:=5) 0 rfl rfl) ?_;refine AOL.Aag (Ae (v:=.sl _ _) rfl) rfl (AOL.Aag (Ag (v:=.sl _ _) rfl) rfl (AOL.nil (Aa (AW.ret ?_))));refine ⟨.inr rfl,[.sl _ _],.cons (.tmp _ _ rfl) <| .nil,.refl _,?_⟩;rfl
theorem mI (s:List Pr)(h0:0<s.length)(h1:s.length<=1048576)(hs:lasP s<=1048576):Al Tryz.prog 128 [.sl 2 (s.map Ct)] (.int .i64 ((lasP s+1:Nat):Int)):=by
 refine Al.body (n:=11) Ai Tryz.func128 rfl rfl rfl fun H=>?_
 refine AW.seq (AW.region (AOL.Aag (Ag (v:=.int .i64 _) rfl) rfl (AOL.nil (Aa (AW.seq (AW.region (AOL.Aag (Ae (v:=.sl _ _) rfl) rfl (AOL.Aag (Ae (v:=.sl _ _) rfl) rfl ?_))))))));refine AOL.Aag (Av (n:=s.length) Ai rfl rfl rfl (by simp)) rfl ?_;refine AOL.Aag (Gj rfl rfl rfl (by constructor <;> omega)) rfl ?_;refine AOL.Aag (Am (c:=Ct ((s[s.length-1]?).getD Jn)) Ai rfl rfl rfl rfl rfl rfl (by omega) (Yu h0)) rfl ?_;refine AOL.Aag (Ad (cs':=[.int .i64 _]) Ai rfl rfl rfl rfl rfl rfl) rfl (AOL.Aag (Af (c:=.int .i64 _) Ai rfl rfl rfl) rfl ?_);refine AOL.Aag (Cc rfl rfl rfl (by constructor <;> (unfold lasP at hs;omega))) rfl ?_;refine AOL.Aag (Ag (v:=.int .i64 _) rfl) rfl (AOL.nil (Aa (AW.ret ?_)));refine ⟨.inr rfl,[.int .i64 _],.cons (.tmp _ _ rfl) <| .nil,.refl _,?_⟩;rfl
theorem d_idx (F:Nat)(hfn:Pe Tryz.prog F=true)(cap:List AV)(f:Pr->Bool)(l:List Pr)(hf:∀x∈l,Al Tryz.prog F (.agg (Ct x)::cap) (.bool (f x))):Al Tryz.prog 164 [.sl 2 (l.map Ct),.fn (.func F) [] cap] (.int .i64 (Pf f l)):=by
 refine Al.body (n:=19) Ai Tryz.func164 rfl rfl rfl fun H=>?_
 refine AW.seq (AW.region (AOL.Aag (Ag (v:=.int .i64 _) rfl) rfl (AOL.nil (Aa (AW.seq (AW.seq (AW.region (AOL.Aag (Ae (v:=.sl _ _) rfl) rfl ?_))))))));refine AOL.Aag (Av (n:=l.length) Ai rfl rfl rfl (by simp)) rfl ?_;refine AOL.Aag (Ae (v:=.int .i64 _) rfl) rfl (AOL.nil (Aa (AW.block (AW.sllen 0 rfl fun hlen=>?_))));simp only [B1,maxLen] at hlen;refine AW.loopS (fun (k:Nat)=>(⟨[(0,.sl 2 (l.map Ct)),(1,.fn (.func F) [] cap),(7,.int .i64 l.length),(8,.int .i64 (k:Int))],H,19⟩:St)) (fun k=>k<=l.length/\(l.take k).any f=false) (fun k=>l.length-k) (0) ?_ (GS.weaken ⟨rfl,rfl,rfl,rfl,trivial⟩ (.refl _)) ?_
 . exact ⟨Bn _,rfl⟩
 rintro k hR;refine AW.seq (AW.region (AOL.Aag (B9 rfl rfl) rfl (AOL.nil (Aa (AW.seq (AW.cond (b:=_) rfl (fun hc1=>?_) (fun hc1=>?_)))))))
 .
  obtain ⟨x,hx⟩:=Fa (l:=l) (k:=k) (by have:=B2 hc1;omega);have hlt:=Bj hx;have hxm:=A0 hx;refine AW.skip (Aa (AW.seq (AW.block (AW.seq (AW.region (AOL.Aag (Ae (v:=.int .i64 _) rfl) rfl (AOL.Aag (Ag (v:=.int .i64 _) rfl) rfl (AOL.nil (Aa (AW.seq (AW.region (AOL.Aag (Ae (v:=.fn _ _ _) rfl) rfl (AOL.Aag (Ae (v:=.sl _ _) rfl) rfl (AOL.Aag (Ae (v:=.int .i64 _) rfl) rfl ?_))))))))))))));refine AOL.Aag (Am (c:=[.int .i64 _,.int .i64 _]) Ai rfl rfl rfl rfl rfl rfl (by omega) (Co hx)) rfl ?_;refine AOL.Aag (Ah (l:=[.int .i64 _,.int .i64 _]) Ai rfl rfl rfl rfl rfl) rfl (AOL.Aag (Fy hfn rfl rfl rfl (hf x hxm)) rfl (AOL.nil (Aa (AW.cond (b:=_) rfl (fun hc2=>AW.seq (AW.region (AOL.Aag (Ae (v:=.int .i64 _) rfl) rfl (AOL.Aag (Ag (v:=.int .i64 _) rfl) rfl (AOL.nil (Aa (AW.ret (Cn (Ap (Ap (Cn (Ap ?_)))))))))))) (fun hc2=>AW.skip (C9 (Aa (AW.region ?_))))))))
  .
   refine ⟨.inr rfl,[.int .i64 _],.cons (.tmp _ _ rfl) <| .nil,.refl _,?_⟩;exact congrArg (AV.int .i64) (Rn hR.2 hx hc2).symm
  refine AOL.Aag (Cc rfl rfl rfl (by constructor <;> omega)) rfl ?_;refine AOL.Aag (Ae (v:=.int .i64 _) rfl) rfl (AOL.nil (Aa ?_));refine ⟨k+1,?_,?_,GS.weaken ⟨rfl,rfl,rfl,rfl,trivial⟩ (.refl _)⟩
  . exact ⟨hlt,by rw [Ky f hx,hR.2,hc2];rfl⟩
  omega
 have hk:l.length<=k:=by have:=C7 hc1;omega
 refine AW.exit ?_;refine A1 (A1 (Cd (Aa ?_)));refine AW.seq (AW.region (AOL.Aag (Ag (v:=.int .i64 _) rfl) rfl (AOL.nil (Aa (AW.ret ?_)))));refine ⟨.inr rfl,[.int .i64 _],.cons (.tmp _ _ rfl) <| .nil,.refl _,?_⟩;rw [It hk] at hR;exact congrArg (AV.int .i64) (Oy hR.2).symm
theorem mH (F:Nat)(hfn:Pe Tryz.prog F=true)(cap:List AV)(f:Pr->Bool)(l:List Pr)(hf:∀x∈l,Al Tryz.prog F (.agg (Ct x)::cap) (.bool (f x))):Al Tryz.prog 130 [.sl 2 (l.map Ct),.fn (.func F) [] cap] (.bool (l.any f)):=by
 refine Al.body (n:=9) Ai Tryz.func130 rfl rfl rfl fun H=>?_
 refine AW.seq (AW.region (AOL.Aag (Ag (v:=.bool _) rfl) rfl (AOL.nil (Aa (AW.seq (AW.region (AOL.Aag (Ae (v:=.sl _ _) rfl) rfl (AOL.Aag (Ae (v:=.fn _ _ _) rfl) rfl ?_))))))));refine AOL.Aag (Ak (by kernel_rfl) rfl rfl (d_idx F hfn cap f l hf)) rfl ?_;refine AOL.Aag (I7 rfl rfl) rfl (AOL.Aag (Ag (v:=.bool _) rfl) rfl (AOL.nil (Aa (AW.ret ?_))));refine ⟨.inr rfl,[.bool _],.cons (.tmp _ _ rfl) <| .nil,.refl _,?_⟩;exact congrArg AV.bool (Rm f l)
theorem yE (y z:Pr):Al Tryz.prog 163 [.agg (Ct z),.ptr (Ct y)] (.bool ((y.a:Int)==(z.a:Int))):=by
 refine Al.body (n:=9) Ai Tryz.func163 rfl rfl rfl fun H=>?_
 refine AW.seq (AW.region (AOL.Aag (Bt (v:=.agg _) (cs:=[.int .i64 _,.int .i64 _]) rfl rfl rfl) rfl (AOL.Aag (Ag (v:=.bool _) rfl) rfl (AOL.nil (Aa (AW.seq (AW.region (AOL.Aag (Ad (cs':=[.int .i64 _]) Ai rfl rfl rfl rfl rfl rfl) rfl (AOL.Aag (Af (c:=.int .i64 _) Ai rfl rfl rfl) rfl (AOL.Aag (Ad (cs':=[.int .i64 _]) Ai rfl rfl rfl rfl rfl rfl) rfl (AOL.Aag (Af (c:=.int .i64 _) Ai rfl rfl rfl) rfl (AOL.Aag (Ez rfl rfl) rfl (AOL.Aag (Ag (v:=.bool _) rfl) rfl (AOL.nil (Aa (AW.ret ?_))))))))))))))));refine ⟨.inr rfl,[.bool _],.cons (.tmp _ _ rfl) <| .nil,.refl _,?_⟩;rfl
theorem yD (y:Pr)(t:List Pr):Al Tryz.prog 162 [.agg (Ct y),.ptr [.sl 2 (t.map Ct)]] (.bool (Yf y t)):=by
 refine Al.body (n:=7) Ai Tryz.func162 rfl rfl rfl fun H=>?_
 refine AW.seq (AW.region (AOL.Aag (Bt (v:=.agg _) (cs:=[.int .i64 _,.int .i64 _]) rfl rfl rfl) rfl (AOL.Aag (Ag (v:=.bool _) rfl) rfl (AOL.nil (Aa (AW.seq (AW.region (AOL.Aag (Af (c:=.sl _ _) Ai rfl rfl rfl) rfl (AOL.Aag (A3 (l:=[]) (l':=[.ptr _]) rfl rfl) rfl ?_)))))))));refine AOL.Aag (Ak (by kernel_rfl) rfl rfl (mH 163 (by kernel_rfl) [.ptr (Ct y)] (fun z=>(y.a:Int)==(z.a:Int)) t (fun z _=>yE y z))) rfl ?_;refine AOL.Aag (Ag (v:=.bool _) rfl) rfl (AOL.nil (Aa (AW.ret ?_)));refine ⟨.inr rfl,[.bool _],.cons (.tmp _ _ rfl) <| .nil,.refl _,?_⟩;rfl
theorem wB (s t:List Pr):Al Tryz.prog 129 [.sl 2 (s.map Ct),.sl 2 (t.map Ct)] (.bool (Hz s t)):=by
 refine Al.body (n:=9) Ai Tryz.func129 rfl rfl rfl fun H=>?_
 refine AW.seq (AW.region (AOL.Aag (Bt (v:=.sl _ _) (cs:=[_]) rfl rfl rfl) rfl (AOL.Aag (Ag (v:=.bool _) rfl) rfl (AOL.nil (Aa (AW.seq (AW.region (AOL.Aag (Ae (v:=.sl _ _) rfl) rfl (AOL.Aag (A3 (l:=[]) (l':=[.ptr _]) rfl rfl) rfl ?_)))))))));refine AOL.Aag (Ak (by kernel_rfl) rfl rfl (mH 162 (by kernel_rfl) [.ptr [.sl 2 (t.map Ct)]] (fun y=>Yf y t) s (fun y _=>yD y t))) rfl ?_;refine AOL.Aag (F6 rfl) rfl (AOL.Aag (Ag (v:=.bool _) rfl) rfl (AOL.nil (Aa (AW.ret ?_))));refine ⟨.inr rfl,[.bool _],.cons (.tmp _ _ rfl) <| .nil,.refl _,?_⟩;rfl
theorem lU {b m c z:Nat}{es:List (List AV)}:∀g w u,Rep g w (.slice (some ⟨b,0,none⟩) m c) (.sl z es)->Rep g w u (.agg [.val (.slice (some ⟨b,0,none⟩) m c)])->Rep g w u (.agg [.sl z es]):=fun g w u h h'=>by
  obtain ⟨vs,rfl,h1,h2⟩:=h'.inv_agg;refine .agg vs _ h1 fun i x hi=>?_
  match i,hi with
  | 0,hi=>
    cases hi
    rw [(h2 0 _ rfl).inv_val];exact h
  | i+1,hi=>cases hi
theorem gQ {L:List Ev}{s:List Pr}{n k j:Nat}{ps:List GR}{r:GR}(h:gL ps=Ie L (s.take k) n)(hr:ps[j]? = some r):r.2.length<=s.length:=by
 have h1:r.2∈gL ps:=B7.2 ⟨r,A0 hr,rfl⟩;rw [h] at h1;have h2:=Ow _ h1;rw [Fr] at h2;omega
theorem wC (L:List Ev)(s:List Pr)(n:Nat)(hs:PrOK L s)(hl:s.length<=1048576):Al Tryz.prog 125 [.ptr [.sl 5 (L.map Ec),.int .i64 0],.sl 2 (s.map Ct),.int .i64 (n:Int)] (.agg (sN (Ie L s n))):=by
 refine Al.body (n:=45) Ai Tryz.func125 rfl rfl rfl fun H=>?_
 refine AW.seq (AW.region ?_);refine AOL.e (Bh (l:=[.sl 1 []]) (by kernel_rfl)) rfl ?_;rintro _ _ ⟨b6,rfl,rfl⟩;refine AOL.nil (Aa (AW.seq (AW.region ?_)));refine AOL.e (Um (E:=49) (z:=5) (n:=16) Ai rfl rfl rfl rfl rfl rfl (by decide) (by decide) (by kernel_rfl)) rfl ?_;rintro _ _ ⟨b10,rfl,rfl⟩;refine AOL.Aag (C3 (l:=[_]) Ai rfl rfl rfl) rfl ?_;refine AOL.e (Bh (l:=[.sl 1 []]) (by kernel_rfl)) rfl ?_;rintro _ _ ⟨b7,rfl,rfl⟩;refine AOL.e (Ao (k:=0) (v:=.agg _) (cs':=[_]) (H2:=_::_::_) Ai rfl rfl rfl rfl (rfl) rfl rfl rfl rfl) rfl ?_;rintro _ _ ⟨rfl,rfl⟩;refine AOL.ghost (GS.Aaj (t:=7) 0 rfl rfl) ?_;refine AOL.ghost (GS.perm (H2:=.box b10 30 (gC g0) :: .box b6 191 [.sl 1 []]::(gO g0 49++H)) (List.perm_middle.cons _)) ?_;refine AOL.nil (Aa (AW.seq (AW.seq (AW.region (AOL.Aag (Ae (v:=.sl _ _) rfl) rfl ?_)))));refine AOL.Aag (Av (n:=s.length) Ai rfl rfl rfl (by simp)) rfl ?_;refine AOL.Aag (Ae (v:=.int .i64 _) rfl) rfl (AOL.nil (Aa (AW.block (AW.sllen 12 rfl fun hlen=>?_))));simp only [B1,maxLen] at hlen;refine AW.loopS (fun (q:Nat×List GR)=>(⟨[(0,.ptr [.sl 5 (L.map Ec),.int .i64 0]),(2,.int .i64 (n:Int)),(6,.val (.pointer (some ⟨b6,0,none⟩))),(7,.ptr [.val (.slice (some ⟨b10,0,none⟩) 16 16)]),(12,.sl 2 (s.map Ct)),(13,.int .i64 s.length),(14,.int .i64 (q.1:Int))],.box b10 30 (gC q.2) :: .box b6 191 [.sl 1 []]::(gO q.2 49++H),45⟩:St)) (fun q=>q.1<=s.length/\q.2.length=16/\gL q.2=Ie L (s.take q.1) n) (fun q=>s.length-q.1) ((0,g0)) ?_ (GS.weaken ⟨rfl,rfl,rfl,rfl,rfl,rfl,rfl,trivial⟩ (.refl _)) ?_
 . exact ⟨Bn _,rfl,rfl⟩
 rintro q hR;refine AW.seq (AW.region (AOL.Aag (B9 rfl rfl) rfl (AOL.nil (Aa (AW.seq (AW.cond (b:=_) rfl (fun hc1=>?_) (fun hc1=>?_)))))))
 .
  obtain ⟨a,ha⟩:=Dd hc1;have hlt:=Bj ha;have hm:=A0 ha;have h0:=hs.lo a hm;have h1:=hs.hi a hm;have hal:=hs.at' a hm;have hla:L[a.a]? = some (Fx L a.a):=Hu Hg hal;have hj:a.v.toNat<q.2.length:=by rw [hR.2.1];omega
  refine (Fa hj).elim fun r hr=>?_
  have hrl:r.2.length<=s.length:=gQ hR.2.2 hr;refine AW.skip (Aa (AW.seq (AW.block (AW.seq (AW.region ?_)))));refine AOL.Aag (Am (c:=[.int .i64 _,.int .i64 _]) Ai rfl rfl rfl rfl rfl rfl (by omega) (Co ha)) rfl ?_;refine AOL.Aag (Ah (l:=[.int .i64 _,.int .i64 _]) Ai rfl rfl rfl rfl rfl) rfl ?_;refine AOL.e (Bh (l:=[.int .i64 0,.int .i64 0]) (by kernel_rfl)) rfl ?_;rintro _ _ ⟨b9,rfl,rfl⟩;refine AOL.e (Ao (k:=0) (v:=.agg _) (cs':=[.int .i64 _,.int .i64 _]) (H2:=_::_::_::_) Ai rfl rfl rfl rfl (rfl) rfl rfl rfl rfl) rfl ?_;rintro _ _ ⟨rfl,rfl⟩;refine AOL.ghost (GS.Aaj (t:=9) 0 rfl rfl) ?_;refine AOL.nil (Aa (AW.seq (AW.region (AOL.Aag (Ad (cs':=[.int .i64 _]) Ai rfl rfl rfl rfl rfl rfl) rfl (AOL.Aag (Af (c:=.int .i64 _) Ai rfl rfl rfl) rfl (AOL.Aag (Ae (v:=.int .i64 _) rfl) rfl (AOL.Aag (B9 rfl rfl) rfl (AOL.nil (Aa (AW.cond (b:=_) rfl (fun hc2=>?_) (fun hc2=>?_)))))))))))
  .
   have hna:a.a<n:=by have:=B2 hc2;omega
   refine AW.draw mixed (fun H'=>_∈H') (A0 (i:=0) rfl) (by kernel_rfl) ?_;refine E5.pure _ _ 0 _ _ rfl (by kernel_rfl) (by kernel_rfl) rfl (.run rfl (Ad (cs':=[_]) Ai rfl rfl rfl rfl rfl rfl)) ?_;refine E5.pure _ _ 1 _ _ rfl (by kernel_rfl) (by kernel_rfl) rfl (.run rfl (Af (c:=.val _) Ai rfl rfl rfl)) ?_;refine E5.pure _ _ 2 _ _ rfl (by kernel_rfl) (by kernel_rfl) rfl (.run rfl (Ad (cs':=[.int .i64 _,.int .i64 _]) Ai rfl rfl rfl rfl rfl rfl)) ?_;refine E5.pure _ _ 3 _ _ rfl (by kernel_rfl) (by kernel_rfl) rfl (.run rfl (Af (c:=.int .i64 _) Ai rfl rfl rfl)) ?_;refine E5.pure _ _ 4 _ _ rfl (by kernel_rfl) (by kernel_rfl) rfl (.run rfl (Ad (cs':=[_]) Ai rfl rfl rfl rfl rfl rfl)) ?_;refine E5.pure _ _ 5 _ _ rfl (by kernel_rfl) (by kernel_rfl) rfl (.run rfl (Af (c:=.val _) Ai rfl rfl rfl)) ?_;refine E5.pure _ _ 6 _ _ rfl (by kernel_rfl) (by kernel_rfl) rfl (.run rfl (Ad (cs':=[.int .i64 _,.int .i64 _]) Ai rfl rfl rfl rfl rfl rfl)) ?_;refine E5.pure _ _ 7 _ _ rfl (by kernel_rfl) (by kernel_rfl) rfl (.run rfl (Af (c:=.int .i64 _) Ai rfl rfl rfl)) ?_;refine E5.pure _ _ 8 _ _ rfl (by kernel_rfl) (by kernel_rfl) rfl (.run rfl (A8 (o':=a.v.toNat) Ai rfl rfl rfl rfl rfl (h0) (by omega) (uN _))) ?_;refine E5.pure _ _ 9 _ _ rfl (by kernel_rfl) (by kernel_rfl) rfl (.run rfl (OpP.Aan (fun k=>Br (k:=k) (c:=.row r.1 5 (r.2.map Ec)) Ai rfl rfl rfl (wL hr)) (fun _ h=>h))) ?_;refine E5.pure _ _ 10 _ _ rfl (by kernel_rfl) (by kernel_rfl) rfl (.run rfl (Ae (v:=.ptr _) rfl)) ?_;refine E5.pure _ _ 11 _ _ rfl (by kernel_rfl) (by kernel_rfl) rfl (.run rfl (B4 rfl)) ?_;refine E5.pure _ _ 12 _ _ rfl (by kernel_rfl) (by kernel_rfl) rfl (.run rfl (Ad (cs':=[_,.int .i64 _]) Ai rfl rfl rfl rfl rfl rfl)) ?_;refine E5.pure _ _ 13 _ _ rfl (by kernel_rfl) (by kernel_rfl) rfl (.run rfl (Af (c:=.sl _ _) Ai rfl rfl rfl)) ?_;refine E5.pure _ _ 14 _ _ rfl (by kernel_rfl) (by kernel_rfl) rfl (.run rfl (Ad (cs':=[.int .i64 _]) Ai rfl rfl rfl rfl rfl rfl)) ?_;refine E5.pure _ _ 15 _ _ rfl (by kernel_rfl) (by kernel_rfl) rfl (.run rfl (Af (c:=.int .i64 _) Ai rfl rfl rfl)) ?_;refine E5.pure _ _ 16 _ _ rfl (by kernel_rfl) (by kernel_rfl) rfl (.run rfl (Am (c:=Ec (Fx L a.a)) Ai rfl rfl rfl rfl rfl rfl (by omega) (Co hla))) ?_;refine E5.pure _ _ 17 _ _ rfl (by kernel_rfl) (by kernel_rfl) rfl (.run rfl (Ah (l:=[.int .i64 _,.int .i64 _,.int .i64 _,.int .i64 _,_]) Ai rfl rfl rfl rfl rfl)) ?_;refine E5.pure _ _ 18 _ _ rfl (by kernel_rfl) (by kernel_rfl) rfl (.run rfl (Bw (es:=[[.int .i64 _,.int .i64 _,.int .i64 _,.int .i64 _,_]]) Ai rfl rfl rfl rfl rfl rfl rfl rfl rfl)) ?_;refine E5.eff _ _ 19 _ _ rfl (by kernel_rfl) rfl rfl (I5 (k:=a.v.toNat+2) Ai rfl rfl rfl rfl rfl rfl rfl (wN hr) (Hn rfl) (M3 fun _=>rfl) (by rw [B1];show (r.2.length+1)*56<=_;omega) (by rw [B1];simp [maxLen];omega)) (by rintro _ _ ⟨v41,rfl,rfl⟩;simp) ?_
   rintro _ _ ⟨v41,rfl,rfl⟩;refine E5.pure _ _ 20 _ _ rfl (by kernel_rfl) (by kernel_rfl) rfl (.run rfl (A8 (o':=a.v.toNat) Ai rfl rfl rfl rfl rfl (h0) (by omega) (uN _))) ?_;refine E5.last _ _ 21 _ _ rfl (by kernel_rfl) rfl rfl (Ao (k:=0) (v:=.row _ _ _) (cs':=gC (q.2.set a.v.toNat (v41,r.2 ++ [Fx L a.a]))) (H2:=_::_::_) Ai rfl rfl rfl rfl rfl rfl (gV hj) (nJ v41 (Fx L a.a) hr) rfl) (by kernel_rfl) ?_;rintro _ _ ⟨rfl,rfl⟩;refine C9 (Aa (AW.region ?_));refine AOL.Aag (Cc rfl rfl rfl (by constructor <;> omega)) rfl ?_;refine AOL.Aag (Ae (v:=.int .i64 _) rfl) rfl (AOL.nil (Aa ?_));refine ⟨(q.1+1,q.2.set a.v.toNat (v41,r.2 ++ [Fx L a.a])),?_,?_,GS.trans (GS.heapTo (H2:=_::_::_) (congrArg (fun x=>HO.box b10 30 (gC (q.2.set a.v.toNat (v41,r.2 ++ [Fx L a.a])))::HO.box b6 191 [.sl 1 []]::x) (nM v41 (Fx L a.a) H hr))) (GS.weaken ⟨rfl,rfl,rfl,rfl,rfl,rfl,rfl,trivial⟩ (.refl _))⟩
   . exact ⟨hlt,by simp only;rw [Hr];exact hR.2.1,by simp only;rw [nL,hR.2.2,mR ha h0 h1 hna,<-hR.2.2,wM hr]⟩
   simp only;omega
  have hna:¬a.a<n:=by have:=C7 hc2;omega
  refine AW.skip (C9 (Aa (AW.region ?_)));refine AOL.Aag (Cc rfl rfl rfl (by constructor <;> omega)) rfl ?_;refine AOL.Aag (Ae (v:=.int .i64 _) rfl) rfl (AOL.nil (Aa ?_));refine ⟨(q.1+1,q.2),?_,?_,GS.trans (GS.refl _) (GS.weaken ⟨rfl,rfl,rfl,rfl,rfl,rfl,rfl,trivial⟩ (.refl _))⟩
  . exact ⟨hlt,hR.2.1,hR.2.2.trans (aN ha hna).symm⟩
  simp only;omega
 have hte:=D3 hc1;have hde:=hR.2.2;rw [hte] at hde;refine AW.exit ?_;refine A1 (A1 (Cd (Aa ?_)));refine AW.seq (AW.region (AOL.Aag (Ah (l:=[_]) Ai rfl rfl rfl rfl rfl) rfl ?_));refine AOL.ghost (GS.trans (GS.cellsW (H2:=_::_::_) 0 rfl (nI q.2) (gW q.2) rfl) (GS.freezeSl (t:=44) (z:=1) (es:=(gL q.2).map Tu) (x:=.agg [.val (.slice (some ⟨b10,0,none⟩) 16 16)]) (y:=.agg [.sl 1 ((gL q.2).map Tu)]) 0 rfl rfl rfl (by rw [B1,nK,hR.2.1]) (Bi _) (by decide) (bY (fun _=>rfl) _) lU)) ?_;refine AOL.e (Ao (k:=0) (v:=.agg _) (cs':=[_]) (H2:=_::_) Ai rfl rfl rfl rfl (rfl) rfl rfl rfl rfl) rfl ?_;rintro _ _ ⟨rfl,rfl⟩;refine AOL.nil (Aa (AW.ret ?_));refine ⟨.inr rfl,[.agg [_]],.cons (.box _ _ _ 0 _ _ _ _ rfl rfl rfl rfl rfl rfl) <| .nil,.cons _ ((List.sublist_append_right _ _)),?_⟩;exact congrArg (fun l:List (List Ev)=>AV.agg [.sl 1 (l.map Tu)]) hde
theorem gI (L:List Ev)(p:Pt)(hc:B3 p.cond<=1048576)(s:List Pr)(hs:PrOK L s)(hl:s.length<=1048576)(a:Nat)(ha:a<L.length):Al Tryz.prog 90 [.ptr [.sl 5 (L.map Ec),.int .i64 0],.agg (cPt p),.sl 2 (s.map Ct),.int .i64 (a:Int)] (.bool (Fi L p s a)):=by
 have hla:L[a]? = some (Fx L a):=Hu Hg ha;refine Al.body (n:=34) Ai Tryz.func90 rfl rfl rfl fun H=>?_
 refine AW.seq (AW.region (AOL.Aag (Bt (v:=.agg _) (cs:=[.int .i64 _,_,.int .i64 _,.int .i64 _,.int .i64 _,.int .i64 _,.int .i64 _,_,.int .i64 _,.int .i64 _,.int .i64 _,.int .i64 _,.int .i64 _,.str _]) rfl rfl rfl) rfl (AOL.Aag (Ag (v:=.bool _) rfl) rfl (AOL.nil (Aa (AW.seq (AW.region (AOL.Aag (Ae (v:=.ptr _) rfl) rfl (AOL.Aag (B4 rfl) rfl (AOL.Aag (Ad (cs':=[_,.int .i64 _]) Ai rfl rfl rfl rfl rfl rfl) rfl (AOL.Aag (Af (c:=.sl _ _) Ai rfl rfl rfl) rfl (AOL.Aag (Ae (v:=.int .i64 _) rfl) rfl ?_))))))))))));refine AOL.Aag (Am (c:=Ec (Fx L a)) Ai rfl rfl rfl rfl rfl rfl (by omega) (Co hla)) rfl ?_;refine AOL.Aag (Ah (l:=[.int .i64 _,.int .i64 _,.int .i64 _,.int .i64 _,_]) Ai rfl rfl rfl rfl rfl) rfl ?_;refine AOL.e (Bh (l:=[.int .i64 0,.int .i64 0,.int .i64 0,.int .i64 0,.sl 3 []]) (by kernel_rfl)) rfl ?_;rintro _ _ ⟨b9,rfl,rfl⟩;refine AOL.e (Ao (k:=0) (v:=.agg _) (cs':=[.int .i64 _,.int .i64 _,.int .i64 _,.int .i64 _,_]) (H2:=_::_) Ai rfl rfl rfl rfl (rfl) rfl rfl rfl rfl) rfl ?_;rintro _ _ ⟨rfl,rfl⟩;refine AOL.ghost (GS.Aaj (t:=9) 0 rfl rfl) ?_;refine AOL.nil (Aa (AW.seq ?_));refine AW.draw mixed (fun _=>True) trivial (by kernel_rfl) ?_;refine E5.pure _ _ 0 _ _ rfl (by kernel_rfl) (by kernel_rfl) rfl (.run rfl (Ad (cs':=[.int .i64 _,.int .i64 _,_]) Ai rfl rfl rfl rfl rfl rfl)) ?_;refine E5.pure _ _ 1 _ _ rfl (by kernel_rfl) (by kernel_rfl) rfl (.run rfl (Af (c:=.int .i64 _) Ai rfl rfl rfl)) ?_;refine E5.pure _ _ 2 _ _ rfl (by kernel_rfl) (by kernel_rfl) rfl (.run rfl (Ad (cs':=[.int .i64 _,.int .i64 _,.int .i64 _,.int .i64 _,.int .i64 _,_,.int .i64 _,.int .i64 _,.int .i64 _,.int .i64 _,.int .i64 _,.str _]) Ai rfl rfl rfl rfl rfl rfl)) ?_;refine E5.pure _ _ 3 _ _ rfl (by kernel_rfl) (by kernel_rfl) rfl (.run rfl (Af (c:=.int .i64 _) Ai rfl rfl rfl)) ?_;refine E5.pure _ _ 4 _ _ rfl (by kernel_rfl) (by kernel_rfl) rfl (.run rfl (Ez rfl rfl)) ?_;refine E5.pure _ _ 5 _ _ rfl (by kernel_rfl) (by kernel_rfl) rfl (.run rfl (Ae (v:=.bool _) rfl)) ?_;refine E5.pure _ _ 6 _ _ rfl (by kernel_rfl) (by kernel_rfl) rfl (.opt _ (.ptr _) [] rfl (Un.all trivial) (fun hG=>Ad (cs':=[.int .i64 _,_,.int .i64 _,.int .i64 _,.int .i64 _,.int .i64 _,.int .i64 _,.str _]) Ai rfl rfl rfl rfl rfl rfl) rfl) ?_;refine E5.pure _ _ 7 _ _ rfl (by kernel_rfl) (by kernel_rfl) rfl (.opt _ (.agg _) [(23,_)] rfl (Un.all ⟨Zs.self _ _,trivial⟩) (fun hG=>Ah (l:=[.int .i64 _,_,.int .i64 _,.int .i64 _,.int .i64 _,.int .i64 _,.int .i64 _,.str _]) Ai rfl rfl rfl rfl rfl) rfl) ?_;refine E5.pure _ _ 8 _ _ rfl (by kernel_rfl) (by kernel_rfl) rfl (.opt _ (.ptr _) [] rfl (Un.all trivial) (fun hG=>Ae (v:=.ptr _) rfl) rfl) ?_;refine E5.pure _ _ 9 _ _ rfl (by kernel_rfl) (by kernel_rfl) rfl (.opt _ (.sl _ _) [] rfl (Un.all trivial) (fun hG=>Ae (v:=.sl _ _) rfl) rfl) ?_;refine E5.pure _ _ 10 _ _ rfl (by kernel_rfl) (by kernel_rfl) rfl (.opt _ (.int .i64 _) [] rfl (Un.all trivial) (fun hG=>Ae (v:=.int .i64 _) rfl) rfl) ?_
 refine E5.pure _ _ 11 _ _ rfl (by kernel_rfl) (by kernel_rfl) rfl (.opt _ (.agg _) [(25,_),(26,_),(27,_)] rfl (Un.all ⟨Zs.self _ _,Zs.self _ _,Zs.self _ _,trivial⟩) (fun hG=>Ak (by kernel_rfl) rfl rfl (wC L s a hs hl)) rfl) ?_;refine E5.pure _ _ 12 _ _ rfl (by kernel_rfl) (by kernel_rfl) rfl (.opt _ (.ptr _) [] rfl (Un.all trivial) (fun hG=>Ad (cs':=[.int .i64 _,.int .i64 _,.int .i64 _,.int .i64 _,_,.int .i64 _,.int .i64 _,.int .i64 _,.int .i64 _,.int .i64 _,.str _]) Ai rfl rfl rfl rfl rfl rfl) rfl) ?_;refine E5.pure _ _ 13 _ _ rfl (by kernel_rfl) (by kernel_rfl) rfl (.opt _ (.int .i64 _) [(29,_)] rfl (Un.all ⟨Zs.self _ _,trivial⟩) (fun hG=>Af (c:=.int .i64 _) Ai rfl rfl rfl) rfl) ?_;refine E5.pure _ _ 14 _ _ rfl (by kernel_rfl) (by kernel_rfl) rfl (.opt _ (.agg _) [] rfl (Un.all trivial) (fun hG=>Ah (l:=[.int .i64 _,.int .i64 _,.int .i64 _,.int .i64 _,_]) Ai rfl rfl rfl rfl rfl) rfl) ?_;refine E5.pure _ _ 15 _ _ rfl (by kernel_rfl) (by kernel_rfl) rfl (.opt _ (.bool _) [(24,_),(28,_),(30,_),(31,_)] rfl (Un.all ⟨Zs.self _ _,Zs.self _ _,Zs.self _ _,Zs.self _ _,trivial⟩) (fun hG=>Ak (by kernel_rfl) rfl rfl (c16 (Ie L s a) p.var (Fx L a) (fun l h=>Fp (Ow l h) hl) p.cond hc)) rfl) ?_;refine E5.pure _ _ 16 _ _ rfl (by kernel_rfl) (by kernel_rfl) rfl (.run rfl (Bc rfl rfl rfl)) ?_;refine E5.pure _ _ 17 _ _ rfl (by kernel_rfl) (by kernel_rfl) rfl (.run rfl (Ag (v:=.bool _) rfl)) ?_;refine E5.done _ _ (by kernel_rfl) ?_;refine Aa (AW.ret ?_);refine ⟨.inr rfl,[.bool _],.cons (.tmp _ _ rfl) <| .nil,.refl _,?_⟩;rfl
theorem tG {L:List Ev}{s:List Pr}(hs:PrOK L s)(h:0<s.length):L6 s<L.length:=by
 obtain ⟨x,hx,e⟩:=nC (Iw.1 h);rw [<-e];exact hs.at' x hx
theorem tW {L:List Ev}{s:List Pr}(hs:PrOK L s)(h:0<s.length):lasP s<L.length:=by
 obtain ⟨x,hx,e⟩:=N2 (Iw.1 h);rw [<-e];exact hs.at' x hx
section
variable {L:List Ev} {p:Pt} {o s:List Pr}
theorem al_6 (h:(p.op==6)=true):He L p o s=decide (IntKind.wrap .i64 ((Fx L (lasP s)).time-(Fx L (L6 s)).time)<=p.span):=if_pos h
theorem al_7 (h6:(p.op==6)=false)(h:(p.op==7)=true):He L p o s=Mn ⟨Ie L (Ch o s) L.length,-1,Hg⟩ p.cond:=(Ep h6).trans (if_pos h)
theorem al_5 (h6:(p.op==6)=false)(h:(p.op==7)=false):He L p o s=Nz (Tn L p (Ch o s) s) (lasP s-(L6 s+1)) (L6 s+1):=(Ep h6).trans (Ep h)
end
theorem d_al1 (y:Pr)(a:Nat):Al Tryz.prog 131 [.agg (Ct y),.ptr [.int .i64 (a:Int)]] (.bool ((y.a:Int)==(a:Int))):=by
 refine Al.body (n:=8) Ai Tryz.func131 rfl rfl rfl fun H=>?_
 refine AW.seq (AW.region (AOL.Aag (Bt (v:=.agg _) (cs:=[.int .i64 _,.int .i64 _]) rfl rfl rfl) rfl (AOL.Aag (Ag (v:=.bool _) rfl) rfl (AOL.nil (Aa (AW.seq (AW.region (AOL.Aag (Ad (cs':=[.int .i64 _]) Ai rfl rfl rfl rfl rfl rfl) rfl (AOL.Aag (Af (c:=.int .i64 _) Ai rfl rfl rfl) rfl (AOL.Aag (Af (c:=.int .i64 _) Ai rfl rfl rfl) rfl (AOL.Aag (Ez rfl rfl) rfl (AOL.Aag (Ag (v:=.bool _) rfl) rfl (AOL.nil (Aa (AW.ret ?_)))))))))))))));refine ⟨.inr rfl,[.bool _],.cons (.tmp _ _ rfl) <| .nil,.refl _,?_⟩;rfl
theorem d_has (s:List Pr)(a:Nat):Al Tryz.prog 130 [.sl 2 (s.map Ct),.fn (.func 131) [] [.ptr [.int .i64 (a:Int)]]] (.bool (nS s a)):=mH 131 (by kernel_rfl) [.ptr [.int .i64 (a:Int)]] (fun y=>(y.a:Int)==(a:Int)) s (fun y _=>d_al1 y a)
theorem mG (L:List Ev)(hL:L.length<=1048576)(p:Pt)(hc:B3 p.cond<=1048576)(o s:List Pr)(ho:PrOK L o)(hs:PrOK L s)(hl:o.length+s.length<=12)(h0:0<s.length):Al Tryz.prog 92 [.ptr [.sl 5 (L.map Ec),.int .i64 0],.agg (cPt p),.sl 2 (o.map Ct),.sl 2 (s.map Ct)] (.bool (He L p o s)):=by
 have hf:=tG hs h0;have hg:=tW hs h0;have hfa:L[L6 s]? = some (Fx L (L6 s)):=Hu Hg hf;have hga:L[lasP s]? = some (Fx L (lasP s)):=Hu Hg hg;have hj:=Ny ho hs;have hjl:(Ch o s).length<=1048576:=by rw [Mc];omega
 refine Al.body (n:=84) Ai Tryz.func92 rfl rfl rfl fun H=>?_
 refine AW.seq (AW.region (AOL.Aag (Bt (v:=.agg _) (cs:=[.int .i64 _,_,.int .i64 _,.int .i64 _,.int .i64 _,.int .i64 _,.int .i64 _,_,.int .i64 _,.int .i64 _,.int .i64 _,.int .i64 _,.int .i64 _,.str _]) rfl rfl rfl) rfl (AOL.Aag (Ag (v:=.bool _) rfl) rfl (AOL.nil (Aa (AW.seq ?_))))));refine AW.draw mixed (fun _=>True) trivial (by kernel_rfl) ?_;refine E5.pure _ _ 0 _ _ rfl (by kernel_rfl) (by kernel_rfl) rfl (.run rfl (Ae (v:=.sl _ _) rfl)) ?_;refine E5.pure _ _ 1 _ _ rfl (by kernel_rfl) (by kernel_rfl) rfl (.run rfl (Am (c:=Ct ((s[0]?).getD Jn)) Ai rfl rfl rfl rfl rfl rfl (by omega) (tF h0))) ?_;refine E5.pure _ _ 2 _ _ rfl (by kernel_rfl) (by kernel_rfl) rfl (.run rfl (Ad (cs':=[.int .i64 _]) Ai rfl rfl rfl rfl rfl rfl)) ?_;refine E5.pure _ _ 3 _ _ rfl (by kernel_rfl) (by kernel_rfl) rfl (.run rfl (Af (c:=.int .i64 _) Ai rfl rfl rfl)) ?_;refine E5.pure _ _ 4 _ _ rfl (by kernel_rfl) (by kernel_rfl) rfl (.run rfl (Ae (v:=.sl _ _) rfl)) ?_;refine E5.pure _ _ 5 _ _ rfl (by kernel_rfl) (by kernel_rfl) rfl (.run rfl (Ae (v:=.sl _ _) rfl)) ?_;refine E5.pure _ _ 6 _ _ rfl (by kernel_rfl) (by kernel_rfl) rfl (.run rfl (Av (n:=s.length) Ai rfl rfl rfl (by simp))) ?_;refine E5.pure _ _ 7 _ _ rfl (by kernel_rfl) (by kernel_rfl) rfl (.run rfl (Gj rfl rfl rfl (by constructor <;> omega))) ?_;refine E5.pure _ _ 8 _ _ rfl (by kernel_rfl) (by kernel_rfl) rfl (.run rfl (Am (c:=Ct ((s[s.length-1]?).getD Jn)) Ai rfl rfl rfl rfl rfl rfl (by omega) (Yu h0))) ?_;refine E5.pure _ _ 9 _ _ rfl (by kernel_rfl) (by kernel_rfl) rfl (.run rfl (Ad (cs':=[.int .i64 _]) Ai rfl rfl rfl rfl rfl rfl)) ?_;refine E5.pure _ _ 10 _ _ rfl (by kernel_rfl) (by kernel_rfl) rfl (.run rfl (Af (c:=.int .i64 _) Ai rfl rfl rfl)) ?_;refine E5.pure _ _ 11 _ _ rfl (by kernel_rfl) (by kernel_rfl) rfl (.run rfl (Ag (v:=.int .i64 _) rfl)) ?_;refine E5.pure _ _ 12 _ _ rfl (by kernel_rfl) (by kernel_rfl) rfl (.run rfl (Ag (v:=.int .i64 _) rfl)) ?_;refine E5.done _ _ (by kernel_rfl) ?_;refine Aa (AW.seq (AW.region (AOL.Aag (Ae (v:=.sl _ _) rfl) rfl (AOL.Aag (Ae (v:=.sl _ _) rfl) rfl ?_))));refine AOL.Aag (Ak (by kernel_rfl) rfl rfl (Q4 o s hl)) rfl ?_;refine AOL.Aag (Ag (v:=.sl _ _) rfl) rfl (AOL.nil (Aa (AW.seq (AW.seq (AW.region (AOL.Aag (Ad (cs':=[.int .i64 _,_,.int .i64 _,.int .i64 _,.int .i64 _,.int .i64 _,.int .i64 _,_,.int .i64 _,.int .i64 _,.int .i64 _,.int .i64 _,.int .i64 _,.str _]) Ai rfl rfl rfl rfl rfl rfl) rfl (AOL.Aag (Af (c:=.int .i64 _) Ai rfl rfl rfl) rfl (AOL.nil (Aa (AW.block (AW.seq (AW.region (AOL.Aag (Ez rfl rfl) rfl (AOL.Aag (Ag (v:=.bool _) rfl) rfl (AOL.nil (Aa (AW.cond (b:=_) rfl (fun hc1=>AW.seq ?_) (fun hc1=>?_))))))))))))))))))
 .
  refine AW.draw mixed (fun _=>True) trivial (by kernel_rfl) ?_;refine E5.pure _ _ 0 _ _ rfl (by kernel_rfl) (by kernel_rfl) rfl (.run rfl (Ae (v:=.ptr _) rfl)) ?_;refine E5.pure _ _ 1 _ _ rfl (by kernel_rfl) (by kernel_rfl) rfl (.run rfl (B4 rfl)) ?_;refine E5.pure _ _ 2 _ _ rfl (by kernel_rfl) (by kernel_rfl) rfl (.run rfl (Ad (cs':=[_,.int .i64 _]) Ai rfl rfl rfl rfl rfl rfl)) ?_;refine E5.pure _ _ 3 _ _ rfl (by kernel_rfl) (by kernel_rfl) rfl (.run rfl (Af (c:=.sl _ _) Ai rfl rfl rfl)) ?_;refine E5.pure _ _ 4 _ _ rfl (by kernel_rfl) (by kernel_rfl) rfl (.run rfl (Ae (v:=.int .i64 _) rfl)) ?_;refine E5.pure _ _ 5 _ _ rfl (by kernel_rfl) (by kernel_rfl) rfl (.run rfl (Am (c:=Ec (Fx L (lasP s))) Ai rfl rfl rfl rfl rfl rfl (by omega) (Co hga))) ?_;refine E5.pure _ _ 6 _ _ rfl (by kernel_rfl) (by kernel_rfl) rfl (.run rfl (Ad (cs':=[.int .i64 _,_]) Ai rfl rfl rfl rfl rfl rfl)) ?_;refine E5.pure _ _ 7 _ _ rfl (by kernel_rfl) (by kernel_rfl) rfl (.run rfl (Af (c:=.int .i64 _) Ai rfl rfl rfl)) ?_;refine E5.pure _ _ 8 _ _ rfl (by kernel_rfl) (by kernel_rfl) rfl (.run rfl (Ae (v:=.ptr _) rfl)) ?_;refine E5.pure _ _ 9 _ _ rfl (by kernel_rfl) (by kernel_rfl) rfl (.run rfl (B4 rfl)) ?_;refine E5.pure _ _ 10 _ _ rfl (by kernel_rfl) (by kernel_rfl) rfl (.run rfl (Ad (cs':=[_,.int .i64 _]) Ai rfl rfl rfl rfl rfl rfl)) ?_;refine E5.pure _ _ 11 _ _ rfl (by kernel_rfl) (by kernel_rfl) rfl (.run rfl (Af (c:=.sl _ _) Ai rfl rfl rfl)) ?_;refine E5.pure _ _ 12 _ _ rfl (by kernel_rfl) (by kernel_rfl) rfl (.run rfl (Ae (v:=.int .i64 _) rfl)) ?_;refine E5.pure _ _ 13 _ _ rfl (by kernel_rfl) (by kernel_rfl) rfl (.run rfl (Am (c:=Ec (Fx L (L6 s))) Ai rfl rfl rfl rfl rfl rfl (by omega) (Co hfa))) ?_;refine E5.pure _ _ 14 _ _ rfl (by kernel_rfl) (by kernel_rfl) rfl (.run rfl (Ad (cs':=[.int .i64 _,_]) Ai rfl rfl rfl rfl rfl rfl)) ?_;refine E5.pure _ _ 15 _ _ rfl (by kernel_rfl) (by kernel_rfl) rfl (.run rfl (Af (c:=.int .i64 _) Ai rfl rfl rfl)) ?_;refine E5.pure _ _ 16 _ _ rfl (by kernel_rfl) (by kernel_rfl) rfl (.run rfl (Up rfl rfl)) ?_;refine E5.pure _ _ 17 _ _ rfl (by kernel_rfl) (by kernel_rfl) rfl (.run rfl (Ad (cs':=[.int .i64 _,.int .i64 _,_,.int .i64 _,.int .i64 _,.int .i64 _,.int .i64 _,.int .i64 _,.str _]) Ai rfl rfl rfl rfl rfl rfl)) ?_;refine E5.pure _ _ 18 _ _ rfl (by kernel_rfl) (by kernel_rfl) rfl (.run rfl (Af (c:=.int .i64 _) Ai rfl rfl rfl)) ?_;refine E5.pure _ _ 19 _ _ rfl (by kernel_rfl) (by kernel_rfl) rfl (.run rfl (I8 rfl rfl)) ?_;refine E5.pure _ _ 20 _ _ rfl (by kernel_rfl) (by kernel_rfl) rfl (.run rfl (Ag (v:=.bool _) rfl)) ?_;refine E5.done _ _ (by kernel_rfl) ?_;refine Aa (AW.ret (Cn (Ap ?_)));refine ⟨.inr rfl,[.bool _],.cons (.tmp _ _ rfl) <| .nil,.refl _,?_⟩;exact congrArg AV.bool (al_6 hc1).symm
 have h6:=hc1;refine AW.seq (AW.region (AOL.Aag (Ez rfl rfl) rfl (AOL.Aag (Ag (v:=.bool _) rfl) rfl (AOL.nil (Aa (AW.cond (b:=_) rfl (fun hc2=>AW.seq ?_) (fun hc2=>AW.skip (C9 (Aa (AW.seq (AW.seq (AW.region (AOL.Aag (Ae (v:=.int .i64 _) rfl) rfl ?_)))))))))))))
 .
  refine AW.draw mixed (fun _=>True) trivial (by kernel_rfl) ?_;refine E5.pure _ _ 0 _ _ rfl (by kernel_rfl) (by kernel_rfl) rfl (.run rfl (Ad (cs':=[.int .i64 _,_,.int .i64 _,.int .i64 _,.int .i64 _,.int .i64 _,.int .i64 _,.str _]) Ai rfl rfl rfl rfl rfl rfl)) ?_;refine E5.pure _ _ 1 _ _ rfl (by kernel_rfl) (by kernel_rfl) rfl (.run rfl (Ah (l:=[.int .i64 _,_,.int .i64 _,.int .i64 _,.int .i64 _,.int .i64 _,.int .i64 _,.str _]) Ai rfl rfl rfl rfl rfl)) ?_;refine E5.pure _ _ 2 _ _ rfl (by kernel_rfl) (by kernel_rfl) rfl (.run rfl (Ae (v:=.ptr _) rfl)) ?_;refine E5.pure _ _ 3 _ _ rfl (by kernel_rfl) (by kernel_rfl) rfl (.run rfl (Ae (v:=.sl _ _) rfl)) ?_;refine E5.pure _ _ 4 _ _ rfl (by kernel_rfl) (by kernel_rfl) rfl (.run rfl (Ae (v:=.ptr _) rfl)) ?_;refine E5.pure _ _ 5 _ _ rfl (by kernel_rfl) (by kernel_rfl) rfl (.run rfl (B4 rfl)) ?_;refine E5.pure _ _ 6 _ _ rfl (by kernel_rfl) (by kernel_rfl) rfl (.run rfl (Ad (cs':=[_,.int .i64 _]) Ai rfl rfl rfl rfl rfl rfl)) ?_;refine E5.pure _ _ 7 _ _ rfl (by kernel_rfl) (by kernel_rfl) rfl (.run rfl (Af (c:=.sl _ _) Ai rfl rfl rfl)) ?_;refine E5.pure _ _ 8 _ _ rfl (by kernel_rfl) (by kernel_rfl) rfl (.run rfl (Av (n:=L.length) Ai rfl rfl rfl (by simp))) ?_;refine E5.pure _ _ 9 _ _ rfl (by kernel_rfl) (by kernel_rfl) rfl (.run rfl (Ak (by kernel_rfl) rfl rfl (wC L (Ch o s) L.length hj hjl))) ?_;refine E5.pure _ _ 10 _ _ rfl (by kernel_rfl) (by kernel_rfl) rfl (.run rfl (C3 (l:=[.int .i64 _,.int .i64 _,.int .i64 _,.int .i64 _,_]) Ai rfl rfl rfl)) ?_;refine E5.pure _ _ 11 _ _ rfl (by kernel_rfl) (by kernel_rfl) rfl (.run rfl (Ak (by kernel_rfl) rfl rfl (c16 (Ie L (Ch o s) L.length) (-1) Hg (fun l h=>Fp (Ow l h) hjl) p.cond hc))) ?_;refine E5.pure _ _ 12 _ _ rfl (by kernel_rfl) (by kernel_rfl) rfl (.run rfl (Ag (v:=.bool _) rfl)) ?_;refine E5.done _ _ (by kernel_rfl) ?_;refine Aa (AW.ret (Cn (Ap ?_)));refine ⟨.inr rfl,[.bool _],.cons (.tmp _ _ rfl) <| .nil,.refl _,?_⟩;exact congrArg AV.bool (al_7 h6 hc2).symm
 refine AOL.Aag (Cc rfl rfl rfl (by have:=hf;unfold L6 at this;constructor <;> omega)) rfl ?_;refine AOL.e (Bh (l:=[.int .i64 0]) (by kernel_rfl)) rfl ?_;rintro _ _ ⟨b12,rfl,rfl⟩;refine AOL.e (Ao (k:=0) (v:=.int .i64 _) (cs':=[.int .i64 _]) (H2:=_::_) Ai rfl rfl rfl rfl (rfl) rfl rfl rfl rfl) rfl ?_;rintro _ _ ⟨rfl,rfl⟩;refine AOL.nil (Aa (AW.block ?_));refine AW.loopS (fun (q:Nat×Nat)=>(⟨[(0,.ptr [.sl 5 (L.map Ec),.int .i64 0]),(2,.sl 2 (o.map Ct)),(3,.sl 2 (s.map Ct)),(5,.ptr (cPt p)),(9,.int .i64 ((L6 s:Nat):Int)),(10,.int .i64 ((lasP s:Nat):Int)),(11,.sl 2 ((Ch o s).map Ct)),(12,.val (.pointer (some ⟨q.2,0,none⟩)))],.box q.2 3 [.int .i64 (q.1:Int)]::H,84⟩:St)) (fun q=>Nz (Tn L p (Ch o s) s) (lasP s-(L6 s+1)) (L6 s+1)=Nz (Tn L p (Ch o s) s) (lasP s-q.1) q.1) (fun q=>lasP s-q.1) ((L6 s+1,b12)) ?_ (GS.weaken ⟨rfl,rfl,rfl,rfl,rfl,rfl,rfl,rfl,trivial⟩ (.refl _)) ?_
 . rfl
 rintro q hR;refine AW.seq (AW.seq ?_);refine AW.ghost (GS.Aaj (t:=12) 0 rfl rfl) ?_;refine AW.region (AOL.Aag (Af (c:=.int .i64 _) Ai rfl rfl rfl) rfl (AOL.Aag (Ae (v:=.int .i64 _) rfl) rfl (AOL.Aag (B9 rfl rfl) rfl (AOL.nil (Aa (AW.cond (b:=_) rfl (fun hc3=>?_) (fun hc3=>?_)))))))
 .
  have hlt:q.1<lasP s:=by have:=B2 hc3;omega
  refine AW.skip (Aa (AW.seq (AW.block (AW.seq (AW.region (AOL.Aag (Ae (v:=.sl _ _) rfl) rfl (AOL.Aag (A3 (l:=[]) (l':=[.ptr _]) rfl rfl) rfl ?_)))))));refine AOL.Aag (Ak (by kernel_rfl) rfl rfl (d_has s q.1)) rfl ?_;refine AOL.Aag (F6 rfl) rfl (AOL.Aag (Ae (v:=.bool _) rfl) rfl (AOL.Aah (y:=.ptr _) _ [] rfl (Un.all trivial) (fun hG=>Ae (v:=.ptr _) rfl) rfl ?_));refine AOL.Aah (y:=.agg _) _ [] rfl (Un.all trivial) (fun hG=>Ah (l:=[.int .i64 _,_,.int .i64 _,.int .i64 _,.int .i64 _,.int .i64 _,.int .i64 _,_,.int .i64 _,.int .i64 _,.int .i64 _,.int .i64 _,.int .i64 _,.str _]) Ai rfl rfl rfl rfl rfl) rfl ?_;refine AOL.Aah (y:=.sl _ _) _ [] rfl (Un.all trivial) (fun hG=>Ae (v:=.sl _ _) rfl) rfl ?_;refine AOL.Aah (y:=.int .i64 _) _ [] rfl (Un.all trivial) (fun hG=>Af (c:=.int .i64 _) Ai rfl rfl rfl) rfl ?_;refine AOL.Aah (y:=.bool _) _ [(77,_),(78,_),(79,_),(80,_)] rfl (Un.all ⟨Zs.self _ _,Zs.self _ _,Zs.self _ _,Zs.self _ _,trivial⟩) (fun hG=>Ak (by kernel_rfl) rfl rfl (gI L p hc (Ch o s) hj hjl q.1 (by omega))) rfl ?_;refine AOL.Aag (Bc rfl rfl rfl) rfl (AOL.nil (Aa (AW.cond (b:=_) rfl (fun hc4=>AW.seq (AW.region (AOL.Aag (Ag (v:=.bool _) rfl) rfl (AOL.nil (Aa (AW.ret (Cn (Ap (Ap (Cn (Ap ?_))))))))))) (fun hc4=>AW.skip (C9 (Aa (AW.seq (AW.seq (AW.region (AOL.Aag (Af (c:=.int .i64 _) Ai rfl rfl rfl) rfl (AOL.nil (Aa (AW.region ?_)))))))))))))
  .
   refine ⟨.inr rfl,[.bool _],.cons (.tmp _ _ rfl) <| .nil,.refl _,?_⟩;exact congrArg AV.bool ((al_5 h6 hc2).trans (hR.trans (oB hlt hc4))).symm
  refine AOL.e (Bh (l:=[.int .i64 0]) (by kernel_rfl)) rfl ?_;rintro _ _ ⟨b12,rfl,rfl⟩;refine AOL.e (Ao (k:=0) (v:=.int .i64 _) (cs':=[.int .i64 _]) (H2:=_::_) Ai rfl rfl rfl rfl (rfl) rfl rfl rfl rfl) rfl ?_;rintro _ _ ⟨rfl,rfl⟩;refine AOL.nil (Aa (AW.region (AOL.Aam (Br (k:=0) (c:=.int .i64 _) Ai rfl rfl rfl rfl) rfl rfl ?_)));refine AOL.Aag (Cc rfl rfl rfl (by constructor <;> omega)) rfl ?_;refine AOL.e (Ao (k:=0) (v:=.int .i64 _) (cs':=[.int .i64 _]) (H2:=_::_) Ai rfl rfl rfl rfl (rfl) rfl rfl rfl rfl) rfl ?_;rintro _ _ ⟨rfl,rfl⟩;refine AOL.nil (Aa ?_);refine ⟨(q.1+1,b12),?_,?_,GS.weaken ⟨rfl,rfl,rfl,rfl,rfl,rfl,rfl,rfl,trivial⟩ (.refl _)⟩
  . exact hR.trans (kH hlt (by unfold Tn;exact hc4))
  simp only;omega
 have hge:lasP s<=q.1:=by have:=C7 hc3;omega
 refine AW.exit ?_;refine A1 (A1 (Cd (Aa ?_)));refine AW.seq (AW.region (AOL.Aag (Ag (v:=.bool _) rfl) rfl (AOL.nil (Aa (AW.ret ?_)))));refine ⟨.inr rfl,[.bool _],.cons (.tmp _ _ rfl) <| .nil,.refl _,?_⟩;exact congrArg AV.bool ((al_5 h6 hc2).trans (hR.trans (kI hge rfl))).symm
end Go.Proofs.YtkdhionilabokaaGreatDoor
namespace Go.Aw
open Go
structure Marks (N0:Nat) (g:Gh) (w:World) (D:List Nat):Prop where
 nodup:D.Nodup
 size:N0<=w.heap.size
 ok:∀d∈D,N0<=d/\g d=none/\w.heap[d]? = some (.deferred (some []))
theorem Marks.mono {N0:Nat}{g g':Gh}{w w':World}{D:List Nat}(h:Marks N0 g w D)(hx:Ext g w g' w'):Marks N0 g' w' D:=
 ⟨h.nodup,Fp h.size hx.size,fun d hd=>by
  obtain ⟨h1,h2,h3⟩:=h.ok d hd;obtain ⟨k1,k2⟩:=hx.full d (Array.getElem?_eq_some_iff.1 h3).1 h2;exact ⟨h1,k1,k2.trans h3⟩⟩
def GmM (N0:Nat)(g:Gh)(s:St)(a:Act)(w:World):Prop:=∃D a0,a=Act.Aak a0 (D.map Ei)/\Gm g s a0 w/\Marks N0 g w D
def Qh (N0:Nat)(P:Program)(c:Code)(Q:Exit->St->Prop)(s:St):Prop:=
 ∀(Q':Exit->Act->World->Prop) (g:Gh) (a:Act) (w:World),GmM N0 g s a w->(∀e g' s' a' w',GmM N0 g' s' a' w'->Ext g w g' w'->Q e s'->Q' e a' w')->c.wp P Q' a w
section
variable {N0:Nat} {P:Program} {Q:Exit->St->Prop} {s:St}
theorem Qh.skip (h:Q .normal s):Qh N0 P .skip Q s:=fun _ g a w hG hQ=>wp_skip (hQ _ g s a w hG (Ext.refl g w) h)
theorem Qh.exit {id:Nat}(h:Q (.exit id) s):Qh N0 P (.exit id) Q s:=fun _ g a w hG hQ=>wp_exit (hQ _ g s a w hG (Ext.refl g w) h)
theorem Qh.ret (h:Q .ret s):Qh N0 P .ret Q s:=fun _ g a w hG hQ=>wp_ret (hQ _ g s a w hG (Ext.refl g w) h)
theorem Qh.seq {x y:Code}(h:Qh N0 P x (Ea (Qh N0 P y Q) Q) s):Qh N0 P (.seq x y) Q s:=by
 intro Q' g a w hG hQ;refine wp_seq (h _ g a w hG fun e g' s' a' w' hG' hx hq=>?_);cases e with
 | normal=>exact hq Q' g' a' w' hG' fun e g'' s'' a'' w'' h1 h2 h3=>hQ e g'' s'' a'' w'' h1 (hx.trans h2) h3
 | _=>exact hQ _ g' s' a' w' hG' hx hq
theorem Qh.cond {c:Operand}{x y:Code}{b:Bool}(hb:Dn s.sl c = .bool b)(ht:b=true->Qh N0 P x Q s)(hf:b=false->Qh N0 P y Q s):Qh N0 P (.cond c x y) Q s:=by
 intro Q' g a w hG hQ;obtain ⟨D,a0,rfl,hG0,hD⟩:=hG;have hr:=hG0.eval c;rw [hb] at hr;exact wp_cond_split (by rw [Kv];exact hr.inv_bool) (fun h=>ht h Q' g _ w ⟨D,a0,rfl,hG0,hD⟩ hQ) (fun h=>hf h Q' g _ w ⟨D,a0,rfl,hG0,hD⟩ hQ)
theorem Qh.block {id:Nat}{c:Code}(h:Qh N0 P c (Im id Q) s):Qh N0 P (.block id c) Q s:=by
  intro Q' g a w hG hQ;refine wp_block (h _ g a w hG fun e g' s' a' w' hG' hx hq=>?_);cases e with
  | exit j=>
    simp only [Im] at hq;simp only [Exit.inBlock];by_cases e:j=id
    . subst e;simp at hq;simp;exact hQ _ g' s' a' w' hG' hx hq
    . simp only [e,if_false]
      have:Nat.beq j id=false:=by
        cases hq':Nat.beq j id with
        | false=>rfl
        | true=>exact absurd (Ey hq') e
      simp only [this,cond_false] at hq;exact hQ _ g' s' a' w' hG' hx hq
  | _=>exact hQ _ g' s' a' w' hG' hx hq
theorem Qh.region {id:Nat}{ops:Array Oper}(h:AOL P ops (Q .normal) ops.toList s):Qh N0 P (.region id ops false) Q s:=by
 intro Q' g a w hG hQ;obtain ⟨D,a0,rfl,hG0,hD⟩:=hG;have key:=Je (P:=P) (ops:=ops) ops.toList 0 a0 w (by simp) (h.run (fun e a' w'=>match e with | .normal=>Q' .normal (Act.Aak a' (D.map Ei)) w' | _=>False) g a0 w hG0 fun g' s' a' w' h1 h2 h3=>hQ .normal g' s' _ w' ⟨D,a',rfl,h1,hD.mono h2⟩ h2 h3);rw [<-List.range_eq_range'] at key;have key2:=P9 (ds:=D.map Ei) _ _ _ key;refine wp_mono (wp_region (by simpa using key2)) ?_;rintro e a' w' ⟨a1,rfl,hq⟩;cases e with
 | normal=>exact hq
 | _=>exact hq.elim
theorem Qh.drawI (hm:P.follows .mixedOrders=true){id:Nat}{ops:Array Oper}(K:Nat->List HO->Prop)(hK:∀j,K j s.H)(hdd:De ops=true)
  (h:CanonI P ops K (Q .normal) (Array.replicate ops.size false) s):Qh N0 P (.region id ops true) Q s:=by
 intro Q' g a w hG hQ;obtain ⟨D,a0,rfl,hG0,hD⟩:=hG;have hx:=Ext.drew g w;have hG':Gm g s a0 w.drew:=⟨hG0.size,hG0.defers,fun i=>(hG0.sl i).mono hx,hG0.heap.drew⟩
 have key:=CanonI.any hdd h ops.size [] (Array.replicate ops.size false) s.sl g a0 w.drew (fun e a' w'=>match e with | .normal=>Q' .normal (Act.Aak a' (D.map Ei)) w' | _=>False)
  ⟨by simp,by simp,by simp,by simp,fun t _=>rfl,by simp,by simp,by simp,by simp,by simp,by simp,by simp,by simp,fun j o hj hl=>by
   have hlt:j<ops.size:=(Array.getElem?_eq_some_iff.1 hj).1;simp [hlt] at hl⟩ hG' (fun j=>hK j) (by
   unfold Xs;have:=Om (fun j=>!(Array.replicate ops.size false).getD j true) (List.range ops.size);simpa using this) fun g' s' a' w' k1 k2 k3=>hQ .normal g' s' _ w' ⟨D,a',rfl,k1,hD.mono (hx.trans k2)⟩ (hx.trans k2) k3
 have key2:=P8 (ds:=D.map Ei) _ _ _ _ key;refine wp_mono (wp_region_any hm key2) ?_;rintro e a' w' ⟨a1,rfl,hq⟩;cases e with
 | normal=>exact hq
 | _=>exact hq.elim
theorem Qh.draw (hm:P.follows .mixedOrders=true){id:Nat}{ops:Array Oper}(K:List HO->Prop)(hK:K s.H)(hdd:De ops=true)
 (h:E5 P ops K (Q .normal) (Array.replicate ops.size false) s):Qh N0 P (.region id ops true) Q s:=Qh.drawI hm (fun _=>K) (fun _=>hK) hdd h
theorem Qh.loop {c:Code}(I:Nat->St->Prop)(n:Nat)(h0:I n s)(round:∀n s,I n s->Qh N0 P c (Ea (fun s'=>∃m,m<n/\I m s') Q) s):Qh N0 P (.loop c) Q s:=by
  intro Q' g a w hG hQ b k cs
  have key:∀n g' s' a' w',I n s'->GmM N0 g' s' a' w'->Ext g w g' w'->
      ∃e a'' w'',Q' e a'' w''/\Arrives P (lone (b.at a' (.code c :: .inLoop c::k)) cs w') b k cs e a'' w'':=by
    intro n
    induction n using Nat.strongRecOn with
    | _ n ih=>
      intro g' s' a' w' hI hG' hx
      obtain ⟨e,a₁,w₁,hq,harr⟩:=round n s' hI (fun e a₁ w₁=>∃g₁ s₁,GmM N0 g₁ s₁ a₁ w₁/\Ext g w g₁ w₁/\Ea (fun s'=>∃m,m<n/\I m s') Q e s₁) g' a' w' hG'
        (fun e g₁ s₁ a₁ w₁ h1 h2 h3=>⟨g₁,s₁,h1,hx.trans h2,h3⟩) b (.inLoop c::k) cs
      obtain ⟨g₁,s₁,hG₁,hx₁,hT⟩:=hq;cases e with
      | normal=>
        obtain ⟨m,hm,hI₁⟩:=hT;obtain ⟨e₂,a₂,w₂,hq₂,harr₂⟩:=ih m hm g₁ s₁ a₁ w₁ hI₁ hG₁ hx₁;exact ⟨e₂,a₂,w₂,hq₂,.of_steps (Steps.trans harr (.one step_inLoop)) harr₂⟩
      | exit id=>exact ⟨_,a₁,w₁,hQ _ g₁ s₁ a₁ w₁ hG₁ hx₁ hT,.pass (x:=.inLoop c) rfl (fun _ _=>.inl (by simp)) harr⟩
      | goto l=>exact ⟨_,a₁,w₁,hQ _ g₁ s₁ a₁ w₁ hG₁ hx₁ hT,.pass (x:=.inLoop c) rfl (fun _ _=>.inl (by simp)) harr⟩
      | ret=>exact ⟨_,a₁,w₁,hQ _ g₁ s₁ a₁ w₁ hG₁ hx₁ hT,.pass (x:=.inLoop c) rfl (fun _ _=>.inl (by simp)) harr⟩
      | panic ch=>exact ⟨_,a₁,w₁,hQ _ g₁ s₁ a₁ w₁ hG₁ hx₁ hT,.pass (x:=.inLoop c) rfl (fun _ _=>.inl (by simp)) harr⟩
      | outgrown=>exact ⟨_,a₁,w₁,hQ _ g₁ s₁ a₁ w₁ hG₁ hx₁ hT,.pass (x:=.inLoop c) rfl (fun _ _=>.inl (by simp)) harr⟩
  obtain ⟨e,a',w',hq,harr⟩:=key n g s a w h0 hG (Ext.refl g w);exact ⟨e,a',w',hq,.of_steps (.one step_loop) harr⟩
theorem Qh.mono {c:Code}{Q':Exit->St->Prop}(h:Qh N0 P c Q' s)(hq:∀e s,Q' e s->Q e s):Qh N0 P c Q s:=
 fun Q₁ g a w hG hQ=>h Q₁ g a w hG fun e g' s' a' w' h1 h2 h3=>hQ e g' s' a' w' h1 h2 (hq e s' h3)
theorem Qh.ghost {c:Code}{s':St}(h:GS s s')(k:Qh N0 P c Q s'):Qh N0 P c Q s:=by
 intro Q' g a w hG hQ;obtain ⟨D,a0,rfl,hG0,hD⟩:=hG;obtain ⟨g',hG',hx⟩:=h g a0 w hG0;exact k Q' g' _ w ⟨D,a0,rfl,hG',hD.mono hx⟩ fun e g'' s'' a'' w'' h1 h2 h3=>hQ e g'' s'' a'' w'' h1 (hx.trans h2) h3
theorem Qh.loopS {c:Code}{ι:Type}(S:ι->St)(R:ι->Prop)(μ:ι->Nat)(i:ι)(h0:R i)(g0:GS s (S i))(round:∀i,R i->Qh N0 P c (Ea (fun s'=>∃j,R j/\μ j<μ i/\GS s' (S j)) Q) (S i)):Qh N0 P (.loop c) Q s:=by
 refine Qh.loop (fun n s=>∃i,R i/\μ i=n/\GS s (S i)) (μ i) ⟨i,h0,rfl,g0⟩ ?_;rintro n s ⟨i,hR,rfl,hg⟩;refine Qh.ghost hg ((round i hR).mono fun e s' hq=>?_);cases e with
 | normal=>obtain ⟨j,h1,h2,h3⟩:=hq;exact ⟨μ j,h2,j,h1,rfl,h3⟩
 | _=>exact hq
theorem Qh.cut {x y:Code}{ι:Type}(S:ι->St)(R:ι->Prop)(h:Qh N0 P x (Ea (fun s'=>∃i,R i/\GS s' (S i)) Q) s)(k:∀i,R i->Qh N0 P y Q (S i)):Qh N0 P (.seq x y) Q s:=
 Qh.seq (h.mono fun e s' hq=>by
  cases e with
  | normal=>obtain ⟨i,hr,hg⟩:=hq;exact Qh.ghost hg (k i hr)
  | _=>exact hq)
end
section
variable {g:Gh} {w:World} {d:Nat} {q:Option (List Deferred)}
theorem Ti (hd:w.heap[d]? = some (.deferred q)){b o:Nat}{v:Value}(o':Obj)(h:w.cell? ⟨b,o,none⟩=some v):(w.putObj d o').cell? ⟨b,o,none⟩=some v:=by
 have hne:b≠d:=by
  rintro rfl;unfold World.cell? at h;simp [hd] at h
 unfold World.cell? at h ⊢;rw [World.putObj_heap_other hne];exact h
theorem Rep.unmark (hd:w.heap[d]? = some (.deferred q))(o':Obj){v:Value}{x:AV}(r:Rep g w v x):Rep g (w.putObj d o') v x:=by
  induction r with
  | junk v=>exact .junk v
  | bool b=>exact .bool b
  | int k n=>exact .int k n
  | str b s e hm=>exact .str b s e hm
  | agg vs cs e _ ih=>exact .agg vs cs e ih
  | tuple vs cs e _ ih=>exact .tuple vs cs e ih
  | sl0 a cap z hm=>exact .sl0 a cap z hm
  | sl b o n cap z es hn hc hm hz f hs _ ih=>exact .sl b o n cap z es hn hc hm hz f (fun i e hi j x hj=>⟨(hs i e hi j x hj).1,Ti hd o' (hs i e hi j x hj).2⟩) ih
  | row v z es _ ih=>exact .row v z es ih
  | ptr b o cs f hs _ ih=>exact .ptr b o cs f (fun j x hj=>⟨(hs j x hj).1,Ti hd o' (hs j x hj).2⟩) ih
  | val v=>exact .val v
  | fn f vs us cs ds e _ e' _ ih ih'=>exact .fn f vs us cs ds e ih e' ih'
  | mapv b ms clock es hg hb hh hl hk _ ih=>
    have hne:b≠d:=by rintro rfl;rw [hd] at hh;cases hh
    exact .mapv b ms clock es hg (by simpa using hb) (by rw [World.putObj_heap_other hne];exact hh) hl hk ih
  | smapv b ms clock es hg hb hh hl hk _ ih=>
    have hne:b≠d:=by rintro rfl;rw [hd] at hh;cases hh
    exact .smapv b ms clock es hg (by simpa using hb) (by rw [World.putObj_heap_other hne];exact hh) hl hk ih
  | opt v G x _ h' ih=>exact .opt v G x ih h'
theorem Cv.unmark (hd:w.heap[d]? = some (.deferred q))(o':Obj){vs:Array Value}{cs:List AV}(r:Cv g w vs cs):Cv g (w.putObj d o') vs cs:=⟨r.1,fun i x hi=>(r.2 i x hi).unmark hd o'⟩
theorem G1 (hd:w.heap[d]? = some (.deferred q))(hg:g d=none)(o':Obj){b n:Nat}(hb:g b=some n):(w.putObj d o').heap[b]? = w.heap[b]? :=
 World.putObj_heap_other (by rintro rfl;rw [hg] at hb;cases hb)
theorem HO.ok_unmark (hd:w.heap[d]? = some (.deferred q))(hg:g d=none)(o':Obj){o:HO}(h:o.ok g w):o.ok g (w.putObj d o'):=by
  cases o with
  | box b T cs=>
    obtain ⟨h1,vs,h2,h3⟩:=h;exact ⟨h1,vs,(G1 hd hg o' h1).trans h2,h3.unmark hd o'⟩
  | row v n E z=>
    rcases h with h | ⟨b,cap,cur,rfl,h1,h2,h3⟩
    . exact .inl h
    exact .inr ⟨b,cap,cur,rfl,h1,(G1 hd hg o' h1).trans h2,h3⟩
  | mapo b es=>
    obtain ⟨h1,ms,c,h2,h3,h4,h5⟩:=h;exact ⟨h1,ms,c,(G1 hd hg o' h1).trans h2,h3,h4,fun i k x hi=>(h5 i k x hi).unmark hd o'⟩
  | smap b es=>
    obtain ⟨h1,ms,c,h2,h3,h4,h5⟩:=h;exact ⟨h1,ms,c,(G1 hd hg o' h1).trans h2,h3,h4,fun i k x hi=>(h5 i k x hi).unmark hd o'⟩
  | kmap b es=>
    obtain ⟨h1,ms,c,h2,h3,h6,h4,h5⟩:=h
    exact ⟨h1,ms,c,(G1 hd hg o' h1).trans h2,h3,h6,fun i k x hi=>by
      obtain ⟨us,k1,k2⟩:=h4 i k x hi;exact ⟨us,k1,k2.unmark hd o'⟩,fun i k x hi=>(h5 i k x hi).unmark hd o'⟩
  | app b m cap es E z=>
    obtain ⟨h1,cur,h2,h3,h4,h5,h6,h7⟩:=h;exact ⟨h1,cur,(G1 hd hg o' h1).trans h2,h3,h4,h5,h6,h7.unmark hd o'⟩
  | buf v es E z=>
    rcases h with h | ⟨b,cap,cur,rfl,h1,h2,h3,h4,h5,h6,h7⟩
    . exact .inl h
    exact .inr ⟨b,cap,cur,rfl,h1,(G1 hd hg o' h1).trans h2,h3,h4,h5,h6,fun i x hi=>(h7 i x hi).unmark hd o'⟩
  | obj b x=>exact ⟨h.1,(G1 hd hg o' h.1).trans h.2⟩
  | since g0 w0=>exact fun v x r=>(h v x r).unmark hd o'
theorem HOK.unmark (hd:w.heap[d]? = some (.deferred q))(hg:g d=none){q':Option (List Deferred)}{H:List HO}(h:HOK g w H):HOK g (w.putObj d (.deferred q')) H:=
 ⟨h.nodup,fun o ho=>HO.ok_unmark hd hg _ (h.ok o ho),fun p hp=>by
  obtain ⟨cs,h1,h2⟩:=h.glob.vars p hp;exact ⟨cs,h1,h2.unmark hd _⟩,fun p hp=>by
  obtain ⟨h1,T,fr,h2⟩:=h.glob.tabs p hp;refine ⟨h1,T,fr,?_⟩;rw [World.putObj_heap_other (by rintro rfl;rw [hd] at h2;cases h2)];exact h2⟩
end
theorem Gm.unmark {g:Gh}{s:St}{a:Act}{w:World}{d:Nat}{q q':Option (List Deferred)}(hd:w.heap[d]? = some (.deferred q))(hg:g d=none)(h:Gm g s a w):Gm g s a (w.putObj d (.deferred q')):=
 ⟨h.size,h.defers,fun i=>(h.sl i).unmark hd _,h.heap.unmark hd hg⟩
theorem Ro {P:Program}{fn:Func}{T:List (Nat×TD)}(hT:G9 P T){Rf:AV->List HO->Prop}{N0:Nat}{g0 g:Gh}{w0:World}{s:St}{a:Act}{H':List HO}{xs:List AV}(hN:w0.heap.size<=N0)
    (hr:ResL P T s fn.results.toList xs) (hs:H'.Sublist s.H) (hq:Rf (Aj xs) H'):∀(D:List Nat) (w:World),Marks N0 g w D->Gm g s a w->Ext g0 w0 g w->
      LeavesInM Fence.wide 1 P fn a.tmps (fun e w'=>∃v g' r H',e = .returned v/\Rep g' w' v r/\HOK g' w' H'/\Ext g0 w0 g' w'/\Rf r H') (D.map Ei) .returning w
  | [],w,_,hG,hx=>by
    obtain ⟨v,h1,h2⟩:=Ln hT hr hG;exact ⟨v,h1,v,g,_,H',rfl,h2,hG.heap.sub hs,hx,hq⟩
  | d::D,w,hm,hG,hx=>by
    obtain ⟨h1,h2,h3⟩:=hm.ok d (Fs ..);have hnd:=H8.1 hm.nodup;refine ⟨by simp,.inl ⟨d,_,rfl,run_takeDeferred h3,Ro hT hN hr hs hq D _ ⟨hnd.2,by simpa using hm.size,fun d' hd'=>?_⟩ (hG.unmark h3 h2) ?_⟩⟩
    . obtain ⟨k1,k2,k3⟩:=hm.ok d' (Ft _ hd')
      refine ⟨k1,k2,?_⟩;rw [World.putObj_heap_other (by rintro rfl;exact hnd.1 hd')];exact k3
    . have hne:∀b,b<w0.heap.size->b≠d:=fun b hb e=>by omega
      refine ⟨hx.os,hx.tape,hx.output,⟨by simpa using hx.size,hx.drawn⟩,fun b hb hg=>?_,fun b n hb hg=>?_⟩
      . obtain ⟨k1,k2⟩:=hx.full b hb hg
        exact ⟨k1,(World.putObj_heap_other (hne b hb)).trans k2⟩
      . obtain ⟨k1,k2⟩:=hx.part b n hb hg
        refine ⟨k1,fun o ho=>?_⟩;rw [<-k2 o ho];unfold World.cell?;rw [World.putObj_heap_other (hne b hb)]
theorem Cb.bodyM {P:Program}{fn:Func}{R:AV->List HO->Prop}{T:List (Nat×TD)}(hT:G9 P T){f:FuncId}{c:Code}{args:List AV}{H:List HO}(hf:P.funcs[f]? = some fn)(hb:fn.body=some c){n:Nat}(hn:fn.ntmps=n)(hle:Nat.ble args.length n=true)
    (h:∀N0,Qh N0 P c (fun e s=>(e = .normal\/e = .ret)/\∃xs,ResL P T s fn.results.toList xs/\∃H',H'.Sublist s.H/\R (Aj xs) H') ⟨F9 0 args,H,n⟩):Cb P f H args R:=by
  intro g w vs hH hr;have hle':=J0 hle;refine (callsIn_wide (n:=1)).1 (callsIn_of_wp_marks hf hb trivial ?_);refine wpIn_wide.2 ?_;refine h w.heap.size _ g _ w ⟨[],{ tmps:=vs++Array.replicate (fn.ntmps-vs.size) undef,defers:=[] },rfl,⟨?_,rfl,?_,hH⟩,List.nodup_nil,Bi _,fun d hd=>by cases hd⟩ ?_
  . simp only [H7,Array.size_replicate,hn,hr.1];omega
  . intro i
    show Rep g w _ (get (F9 0 args) i);rw [Mv];simp only [Bn,if_true,Nat.sub_zero];cases hi:args[i]? with
    | none=>exact .junk _
    | some x=>
      have hlt:i<vs.size:=by rw [hr.1];exact (List.getElem?_eq_some_iff.1 hi).1
      have:=hr.2 i x hi;simp only [Ce,Array.getElem?_append,hlt,if_true] at this ⊢;exact this
  . rintro e g' s' a' w' ⟨D,a0,rfl,hG',hD⟩ hx ⟨he,xs,hr',H',hs,hq⟩
    have key:LeavesInM Fence.wide 1 P fn (Act.Aak a0 (D.map Ei)).tmps (fun e w'=>∃v g' r H',e = .returned v/\Rep g' w' v r/\HOK g' w' H'/\Ext g w g' w'/\R r H') (Act.Aak a0 (D.map Ei)).defers .returning w':=by
      have e1:(Act.Aak a0 (D.map Ei)).defers=D.map Ei:=by unfold Act.Aak;rw [hG'.defers];rfl
      rw [e1];exact Ro (a:=a0) hT (Bi _) hr' hs hq D w' hD hG' hx
    rcases he with rfl | rfl <;> exact key
theorem Qi.exit {l:Nat}{P:Program}{Q:Exit->St->Prop}{s:St}{id:Nat}(h:Q (.exit id) s):Qi l P (.exit id) Q s:=fun n Q' g a w hG hQ=>wpIn_exit (hQ _ g s a w hG (Ext.refl g w) h)
theorem Dp.ofS {P:Program}{l:Nat}{rec:Loop}{H:List HO}{args:List AV}{R:AV->List HO->Prop}{sl:List (Nat×AV)}{n0:Nat}(hst:rec.state = .ready)(hpe:rec.pending=none)
    (hsz:rec.tmps.size=n0) (hsl:∀g w vs,HOK g w H->Cv g w vs args->∀j,Rep g w (((rec.params.zip vs).foldl (fun t (p,v)=>t.setIfInBounds p v) rec.tmps).getD j undef) (get sl j))
    (h:Qi l P rec.assign (fun e s1=>e = .normal/\∃i:Nat,s1.H[i]? = some (HO.obj l (Obj.loop rec))/\Qi l P rec.body (fun e s2=>∃j:Nat,s2.H[j]? = some (HO.obj l (Obj.loop { rec with state:=.busy }))/\
      ((e = .normal/\R (.bool true) (s2.H.set j (.obj l (.loop rec))))\/(e = .ret/\R (.bool false) (s2.H.set j (.obj l (.loop { rec with state:=.done,pending:=some .ret }))))\/
        (∃id,e = .exit id/\R (.bool false) (s2.H.set j (.obj l (.loop { rec with state:=.done,pending:=some (.exit id) })))))) ⟨s1.sl,s1.H.set i (.obj l (.loop { rec with state:=.busy })),s1.n⟩) ⟨sl,H,n0⟩):Dp P l rec H args R:=by
  intro n g w vs hH hr;refine roundIn_of_wpIn trivial ?_
  have hfs:∀(L:List (Tmp×Value)) (t:Array Value),(L.foldl (fun t (p,v)=>t.setIfInBounds p v) t).size=t.size:=by
    intro L;induction L with
    | nil=>intro t;rfl
    | cons p r ih=>intro t;rw [Jf,ih];simp
  have hG:Gm g ⟨sl,H,n0⟩ { tmps:=(rec.params.zip vs).foldl (fun t (p,v)=>t.setIfInBounds p v) rec.tmps,defers:=[] } w:=
    ⟨by rw [<-O8];exact (hfs _ _).trans hsz,rfl,fun j=>hsl g w vs hH hr j,hH⟩
  refine h n _ g _ w hG ?_;rintro e g1 s1 a1 w1 hG1 hx1 ⟨rfl,i,hi,hb⟩;have hob:(HO.obj l (.loop rec)).ok g1 w1:=hG1.heap.ok _ (A0 hi);refine ⟨_,run_beginRound hob.2 hst,?_⟩;obtain ⟨hG2,hx2⟩:=hG1.putObj (.loop { rec with state:=.busy }) hi;refine hb n _ g1 a1 _ hG2 ?_;rintro e g3 s3 a3 w3 hG3 hx3 ⟨j,hj,hR⟩;have hob3:(HO.obj l (.loop { rec with state:=.busy })).ok g3 w3:=hG3.heap.ok _ (A0 hj);rcases hR with ⟨rfl,hR⟩ | ⟨rfl,hR⟩ | ⟨id,rfl,hR⟩
  . obtain ⟨hG4,hx4⟩:=hG3.putObj (.loop rec) hj
    refine ⟨_,_,run_endRound none hob3.2,_,g3,.bool true,_,rfl,.bool _,?_,?_,hR⟩
    . have:({ ({ rec with state:=.busy }:Loop) with state:=if (none:Option Code).isNone then .ready else .done,pending:=none }:Loop)=rec:=by
        cases rec;simp only at hst hpe;subst hst;subst hpe;rfl
      rw [this];exact hG4.heap
    . have:({ ({ rec with state:=.busy }:Loop) with state:=if (none:Option Code).isNone then .ready else .done,pending:=none }:Loop)=rec:=by
        cases rec;simp only at hst hpe;subst hst;subst hpe;rfl
      rw [this];exact ((hx1.trans hx2).trans hx3).trans hx4
  . obtain ⟨hG4,hx4⟩:=hG3.putObj (.loop { rec with state:=.done,pending:=some .ret }) hj
    exact ⟨_,_,run_endRound (some .ret) hob3.2,_,g3,.bool false,_,rfl,.bool _,hG4.heap,((hx1.trans hx2).trans hx3).trans hx4,hR⟩
  . obtain ⟨hG4,hx4⟩:=hG3.putObj (.loop { rec with state:=.done,pending:=some (.exit id) }) hj
    exact ⟨_,_,run_endRound (some (.exit id)) hob3.2,_,g3,.bool false,_,rfl,.bool _,hG4.heap,((hx1.trans hx2).trans hx3).trans hx4,hR⟩
theorem Qh.range {N0:Nat}{P:Program}{Q:Exit->St->Prop}{s:St}{go:Operand}{ps:Array Tmp}{assign body:Code}{gf:Nat}{lb:List AV}(Z:List HO->Prop)(Y:Code->List HO->Prop)
  (hg:Dn s.sl go = .fn (.func gf) [] lb) (hf:Pe P gf=true)
  (hit:∀(rec:Loop) (l:Nat) (g1:Gh) (w1:World),rec.state = .ready->rec.pending=none->rec.params=ps->rec.assign=assign->rec.body=body->rec.tmps.size=s.n->(∀t,Rep g1 w1 (rec.tmps.getD t undef) (get s.sl t))->
   Cb P gf (.obj l (.loop rec) :: .since g1 w1::s.H) (.val (.func (.yield l) #[] #[])::lb)
    (fun r H'=>∃rec' H2,H' = .obj l (.loop rec') :: .since g1 w1::H2/\rec'.state≠.busy/\((rec'.pending=none/\Z H2)\/(∃c,rec'.pending=some c/\Y c H2))))
  (hz:∀H2,Z H2->Q .normal ⟨s.sl,H2,s.n⟩) (hy:∀c H2,Y c H2->Qh N0 P c Q ⟨s.sl,H2,s.n⟩) (hN:True:=trivial):Qh N0 P (.rangeFunc go ps assign body) Q s:=by
 intro Q' g0 a w hG hQ;obtain ⟨D,a0,rfl,hG,hD⟩:=hG;refine (wpIn_wide (n:=1)).1 (wpIn_rangeFunc ?_);intro f0 _;obtain ⟨vs0,us,hv,h1,h2⟩:=(hg▸hG.eval go:Rep g0 w _ _).inv_fn;have hvs0:vs0 = #[]:=Array.size_eq_zero_iff.1 (by simpa using h1.1);subst hvs0;obtain ⟨rec,hrec⟩:∃rec:Loop,rec=⟨.ready,none,f0,a0.tmps,ps,assign,body,w.heap.size⟩:=⟨_,rfl⟩;obtain ⟨W1,hW1⟩:∃W1,(w.alloc (.deferred (some []))).alloc (.loop rec)=W1:=⟨_,rfl⟩;have hs1:(w.alloc (.deferred (some []))).heap.size=w.heap.size+1:=World.size_alloc ..;have hx1:=Ext.alloc g0 w (.deferred (some [])) none;have hH1:HOK (g0.put w.heap.size none) (w.alloc (.deferred (some []))) s.H:=hG.heap.alloc (.deferred (some [])) none;have hx2:=Ext.alloc (g0.put w.heap.size none) (w.alloc (.deferred (some []))) (.loop rec) (some 0);have hx12:=hx1.trans hx2
 have hH2:=(((hH1.alloc (.loop rec) (some 0)).cons (o:=.since _ _) (fun v x r=>r) (fun b hb=>by cases hb))).cons (o:=.obj (w.alloc (.deferred (some []))).heap.size (.loop rec)) ⟨Gh.Aai ..,Ci ..⟩ fun b hb x hx e=>by
   cases hb
   rcases Cz.1 hx with rfl | hx
   . cases e
   exact absurd (HO.ok_lt (hH1.ok x hx) e).1 (Nat.lt_irrefl _)
 rw [hs1] at hH2 hx2 hx12;rw [hW1] at hH2 hx2 hx12
 have hmk:(W1.heap[w.heap.size]? = some (.deferred (some [])))/\((g0.put w.heap.size none).put (w.heap.size+1) (some 0)) w.heap.size=none:=by
  refine ⟨?_,by rw [Gh.Aal _ _ (by omega),Gh.Aai]⟩;rw [<-hW1,F4 _ _ (by rw [hs1];omega),Ci]
 refine ⟨w.heap.size+1,[Ei w.heap.size],W1,{ target:=.fn (.func gf) us,args:=#[.func (.yield (w.heap.size+1)) #[] #[]] },W1,gf,#[.func (.yield (w.heap.size+1)) #[] #[]]++us,W1,?_,?_,fun _ _=>trivial,?_,fun e=>(by cases e),?_⟩
 . rw [<-hW1,hrec];exact run_enterLoop_outer _ _ _ _ _
 .
  simp only [resolve,Kv,hv];simp [go_sem]
 . simp [invoke,go_sem,Km hf]
 have hit':=hit rec (w.heap.size+1) _ W1 (by rw [hrec]) (by rw [hrec]) (by rw [hrec]) (by rw [hrec]) (by rw [hrec]) (by rw [hrec];exact hG.size) (by rw [hrec];exact fun t=>(hG.sl t).mono hx12) _ W1 _ hH2 (by
  have h2':=h2.mono hx12;show Cv _ W1 (#[.func (.yield (w.heap.size+1)) #[] #[]]++us) _
  exact Cv.append (xs:=[.val (.func (.yield (w.heap.size+1)) #[] #[])]) ⟨rfl,fun i x hi=>by
   cases i with
   | zero=>simp at hi;subst hi;exact .val _
   | succ i=>simp at hi⟩ h2')
 refine callsIn_wide.2 (hit'.mono ?_);rintro e w3 ⟨v,g3,r,H',rfl,hr3,hH3,hx3,rec',H2,rfl,hnb,hz'⟩;have hob:(HO.obj (w.heap.size+1) (.loop rec')).ok g3 w3:=hH3.ok _ (Fs ..);obtain ⟨hH4,hx4⟩:=Oa hH3 (i:=0) (.loop { rec' with state:=.exhausted }) rfl;refine ⟨rec'.pending,_,run_endLoop hob.2 hnb,?_⟩;obtain ⟨st',pe',f',t',p',as',bo',de'⟩:=rec';have hxa:=(hx12.trans hx3).trans hx4
 have hD':Marks N0 g3 (w3.putObj (w.heap.size+1) (.loop ⟨.exhausted,pe',f',t',p',as',bo',de'⟩)) (w.heap.size::D):=by
  have hlt:∀d∈D,d<w.heap.size:=fun d hd=>(Array.getElem?_eq_some_iff.1 (hD.ok d hd).2.2).1
  refine ⟨H8.2 ⟨fun hm=>absurd (hlt _ hm) (Nat.lt_irrefl _),hD.nodup⟩,Fp hD.size hxa.size,fun d hd=>?_⟩;rcases Cz.1 hd with rfl | hd
  .
   have hlt':w.heap.size<W1.heap.size:=(Array.getElem?_eq_some_iff.1 hmk.1).1;obtain ⟨k1,k2⟩:=(hx3.trans hx4).full _ hlt' hmk.2;exact ⟨hD.size,k1,k2.trans hmk.1⟩
  exact (hD.mono hxa).ok d hd
 have hG4:GmM N0 g3 ⟨s.sl,H2,s.n⟩ { Act.Aak a0 (D.map Ei) with defers:=[Ei w.heap.size]++(Act.Aak a0 (D.map Ei)).defers } (w3.putObj (w.heap.size+1) (.loop ⟨.exhausted,pe',f',t',p',as',bo',de'⟩)):=by
  refine ⟨w.heap.size::D,a0,?_,⟨hG.size,hG.defers,fun i=>(hG.sl i).mono hxa,hH4.sub ((List.sublist_cons_self ..).cons _)⟩,hD'⟩;unfold Act.Aak;rw [hG.defers];rfl
 rcases hz' with ⟨hp,hz'⟩ | ⟨c,hp,hz'⟩
 .
  obtain rfl:pe'=none:=hp;exact hQ _ g3 _ _ _ hG4 hxa (hz H2 hz')
 obtain rfl:pe'=some c:=hp;exact wpIn_wide.2 (hy c H2 hz' Q' g3 _ _ hG4 fun e g5 s5 a5 w5 k1 k2 k3=>hQ e g5 s5 a5 w5 k1 (hxa.trans k2) k3)
theorem R0 {g1:Gh}{w1:World}{tmps:Array Value}{n0 k:Nat}{x:AV}{sl:List (Nat×AV)}{H:List HO}{ps:Array Tmp}(hps:ps = #[k])(hsz:tmps.size=n0)(hk:Nat.blt k n0=true)(hin:∃i:Nat,H[i]? = some (.since g1 w1))(hR:∀t,Rep g1 w1 (tmps.getD t undef) (get sl t)) :
  ∀g w vs,HOK g w H->Cv g w vs [x]->∀j,Rep g w (((ps.zip vs).foldl (fun t (p,v)=>t.setIfInBounds p v) tmps).getD j undef) (get ((k,x)::sl) j):=by
 subst hps;intro g w vs hH hr j;obtain ⟨i,hi⟩:=hin;have hs:(HO.since g1 w1).ok g w:=hH.ok _ (A0 hi);have h0:=hr.2 0 _ rfl;have hsv:vs.size=1:=hr.1
 obtain ⟨u,rfl⟩:∃u,vs = #[u]:=⟨vs[0],by
  apply Array.ext
  . simp [hsv]
  intro i h1 h2;have:i=0:=by omega
  subst this;rfl⟩
 have hlt:k<tmps.size:=by have:=J0 hk;omega
 rw [<-O8,Array.toList_zip];show Rep g w ((tmps.setIfInBounds k u).getD j undef) _;rw [Fo];by_cases e:k=j
 .
  subst e;rw [if_pos rfl];simp only [Ce,Array.getElem?_setIfInBounds];simp only [hlt,if_true,K7];simpa using h0
 rw [if_neg e];simp only [Ce,Array.getElem?_setIfInBounds_ne e];rw [<-Ce];exact hs _ _ (hR j)
theorem GS.boxBuf {sl:List (Nat×AV)}{H H2:List HO}{n b E z m cap:Nat}{es:List (List AV)}{cs J:List AV}(k:Nat)(hk:H[k]? = some (.box b E cs))(hcs:cs=es.flatten++J)(hm:m=es.length)(hz:∀e∈es,e.length=z)(hJ:m*z+J.length=cap*z)(hc:m<=cap)(hmax:cap<=maxLen)
  (hH2:H.set k (.buf (.slice (some ⟨b,0,none⟩) m cap) es E z)=H2):GS ⟨sl,H,n⟩ ⟨sl,H2,n⟩:=fun g a w hG=>by
 subst hcs hm hH2;refine ⟨g,⟨hG.size,hG.defers,hG.sl,?_⟩,Ext.refl g w⟩;obtain ⟨hg,vs,hvs,hr⟩:=hG.heap.ok _ (A0 hk);have hfl:es.flatten.length=es.length*z:=Cm hz;refine hG.heap.set (Ext.refl g w) hk (fun c hc=>.inl hc) (.inr ⟨b,cap,vs,rfl,hg,hvs,by rw [hr.1,Do,hfl,hJ],hc,hmax,hz,fun i x hi=>?_⟩) (fun _ _ _ _=>⟨rfl,rfl⟩);refine hr.2 i x ?_;rw [List.getElem?_append_left (List.getElem?_eq_some_iff.1 hi).1];exact hi
end Go.Aw
namespace Go.Aw
open Go
section
variable {P:Program} {T:List (Nat×TD)} {d:Option Nat} {ty:TypeId} {pos:String} {aft:Array Edge} {gd:Option (Nat×Bool)} {ρ:Operand->AV}
end
end Go.Aw
namespace Go.Aw
open Go
theorem M5 {ro:Option Nat}{n:Nat}{P:Program}{md:Region.Mode}{ops:Array Oper}{Q Q':Exit->Act->World->Prop}(hd:∀o∈ops.toList,∀c,o.op≠.defer c)(hn:∀a w,Q .normal a w->Q' .normal a w)(hp:∀c a w,¬Q (.panic c) a w)(hl:¬LetsOut Q) :
    ∀(fuel:Nat) (listed:Array Bool) (a:Act) (w:World),wpAny P md ops Q fuel listed a w->wpAnyIn { Fence.wide with round:=ro } n P md ops Q' fuel listed a w
  | 0,listed,a,w,h=>⟨h.1,hn _ _ h.2⟩
  | fuel+1,listed,a,w,h=>by
    refine ⟨fun hr=>hn _ _ (h.1 hr),fun i hi=>?_⟩;have h2:=h.2 i hi;unfold wpOp at h2;unfold wpOpIn;cases ho:ops[i]? with
    | none=>rw [ho] at h2;exact M5 hd hn hp hl fuel _ a w h2
    | some o=>
      rw [ho] at h2;simp only at h2 ⊢;split
      . rename_i hw
        rw [if_pos hw] at h2;rcases h2 with h2 | h2
        . exact M0 (hd o (by simpa using Array.mem_of_getElem? ho)) (fun c a w h=>absurd h (hp c a w)) (fun h=>absurd h hl) (Oper.wp_mono (fun a' w' h'=>M5 hd hn hp hl fuel _ a' w' h') h2)
        exact absurd h2.2 hl
      . rename_i hw
        rw [if_neg hw] at h2;exact ⟨fun _ _=>trivial,M5 hd hn hp hl fuel _ _ w h2⟩
def iM (R:Act->World->Prop):Exit->Act->World->Prop
 | .normal,a,w=>R a w
 | _,_,_=>False
theorem Qi.drawI {l:Nat}{P:Program}{Q:Exit->St->Prop}{s:St}(hm:P.follows .mixedOrders=true){id:Nat}{ops:Array Oper}(K:Nat->List HO->Prop)(hK:∀j,K j s.H)(hdd:De ops=true)
  (h:CanonI P ops K (Q .normal) (Array.replicate ops.size false) s) (hnd:G6 ops.toList=true:=by kernel_rfl):Qi l P (.region id ops true) Q s:=by
 intro n Q' g a w hG hQ;have hx:=Ext.drew g w;have hG':Gm g s a w.drew:=⟨hG.size,hG.defers,fun i=>(hG.sl i).mono hx,hG.heap.drew⟩
 have key:=CanonI.any hdd h ops.size [] (Array.replicate ops.size false) s.sl g a w.drew (iM fun a' w'=>Q' .normal a' w')
  ⟨by simp,by simp,by simp,by simp,fun t _=>rfl,by simp,by simp,by simp,by simp,by simp,by simp,by simp,by simp,fun j o hj hl=>by
   have hlt:j<ops.size:=(Array.getElem?_eq_some_iff.1 hj).1;simp [hlt] at hl⟩ hG' (fun j=>hK j) (by
   unfold Xs;have:=Om (fun j=>!(Array.replicate ops.size false).getD j true) (List.range ops.size);simpa using this) fun g' s' a' w' k1 k2 k3=>hQ .normal g' s' a' w' k1 (hx.trans k2) k3
 have key2:=M5 (ro:=some l) (n:=n) (Q:=iM fun a' w'=>Q' .normal a' w') (Q':=Q') (E2 hnd) (fun a w h=>h) (fun c a w h=>h) (fun ⟨a,w,h⟩=>h) _ _ _ _ key;exact wpIn_region_any hm key2
theorem Qi.draw {l:Nat}{P:Program}{Q:Exit->St->Prop}{s:St}(hm:P.follows .mixedOrders=true){id:Nat}{ops:Array Oper}(K:List HO->Prop)(hK:K s.H)(hdd:De ops=true)
 (h:E5 P ops K (Q .normal) (Array.replicate ops.size false) s) (hnd:G6 ops.toList=true:=by kernel_rfl):Qi l P (.region id ops true) Q s:=Qi.drawI hm (fun _=>K) (fun _=>hK) hdd h hnd
theorem AW.regionYg {P:Program}{Q:Exit->St->Prop}{s:St}{id:Nat}{ops:Array Oper}(k:Nat){d:Nat}{cal:Operand}{args:Array Operand}{ats:Array TypeId}{ty:TypeId}{pos:String}{aft:Array Edge}{gd:Option (Nat×Bool)}
  (hops:ops.toList[k]? = some ⟨some d,.call ⟨.value cal,args,ats⟩,ty,pos,aft,gd⟩) (hnd:G6 (ops.toList.take k)=true) (hnd2:G6 (ops.toList.drop (k+1))=true)
  (h:AOL P ops (fun s'=>∃G L,El ops ⟨some d,.call ⟨.value cal,args,ats⟩,ty,pos,aft,gd⟩ s'.sl=some G/\H9 G/\(∀p∈L,Zs G (get s'.sl p.1) p.2)/\∃l rec R,(∃i:Nat,s'.H[i]? = some (HO.obj l (Obj.loop rec)))/\Dn (L++s'.sl) cal = .val (.func (.yield l) #[] #[])/\args.size=rec.params.size/\J5 (some d) s'.n=true/\
   Dp P l rec s'.H (args.toList.map (Dn (L++s'.sl))) R/\∀x H',R x H'->AOL P ops (Q .normal) (ops.toList.drop (k+1)) ⟨Dy (some d) (.opt G x) s'.sl,H',s'.n⟩) (ops.toList.take k) s):AW P (.region id ops false) Q s:=by
 obtain ⟨hlt,he⟩:=List.getElem?_eq_some_iff.1 hops;have hops':ops.toList=ops.toList.take k++⟨some d,.call ⟨.value cal,args,ats⟩,ty,pos,aft,gd⟩::ops.toList.drop (k+1):=by rw [<-he,List.getElem_cons_drop,Iv]
 generalize ops.toList.take k=pre at hops' hnd h;generalize ops.toList.drop (k+1)=post at hops' hnd2 h;intro Q' g a w hG hQ;refine (wpIn_wide (n:=1)).1 ?_;rw [<-jD];refine wpIn_region_list ?_;rw [hops'];refine Dm pre _ a w (E2 hnd) ?_;refine h.run _ g a w hG ?_;rintro g' s' a' w' hG' hx ⟨G,L,hgw,hg,hL,l,rec,R,⟨i,hi⟩,hcal,hlen,hd,hr,hk⟩;show wpListIn _ 1 P ops Q' (_::post) a' w';unfold wpListIn;rw [if_pos ((Hp hgw fun t _=>hG'.sl t).1 hg)];refine ⟨fun _ _=>trivial,?_⟩;have hobj:(HO.obj l (.loop rec)).ok g' w':=hG'.heap.ok _ (A0 hi);have hv:a'.eval cal = .func (.yield l) #[] #[]:=(hcal▸Ns hG' hg hL cal:Rep g' w' _ _).inv_val;have hargs:Cv g' w' (args.map a'.eval) (args.toList.map (Dn (L++s'.sl))):=Kc (ρ:=Dn (L++s'.sl)) (a:=a') (g:=g') (w:=w') (args:=args) (fun y _=>Ns hG' hg hL y) rfl
 have hrun:(execOp a'.eval ⟨some d,.call ⟨.value cal,args,ats⟩,ty,pos,aft,gd⟩).run P w' = .ok (.round l rec.fn ((rec.params.zip (args.map a'.eval)).foldl (fun t (p,v)=>t.setIfInBounds p v) rec.tmps) rec.assign rec.body) w':=by
  have hy:=run_yield (P:=P) (args:=args.map a'.eval) hobj.2 (by simpa using hlen);simp only [execOp,resolve,Sem.run_bind,hv,Deferred.ofValue,Sem.run_pure,Result.andThen_ok,invoke];simpa using hy
 rw [Oper.semAt_eq _ _ _ (fun c e=>by cases e),hrun];refine ⟨fun e=>(by cases e),(hr _ g' w' _ hG'.heap hargs).mono ?_⟩;rintro e w'' ⟨v,g'',r,H',rfl,k1,k2,k3,k4⟩;have hpost:=hk r H' k4;have:=Dm (ro:=none) (n:=1) (Q:=Q') post [] _ w'' (E2 hnd2) (hpost.run _ g'' _ w'' (hG'.put k3 hd (.opt _ _ _ (fun _=>k1) (fun h=>absurd hg h)) k2) fun g3 s3 a3 w3 h1 h2 h3=>hQ _ g3 s3 a3 w3 h1 ((hx.trans k3).trans h2) h3);simpa using this
theorem Dp.perm {P:Program}{l:Nat}{rec:Loop}{args:List AV}{H K:List HO}{R:AV->List HO->Prop}(h:H.Perm K)(hc:Dp P l rec K args R):Dp P l rec H args R:=fun n g w vs hH hr=>hc n g w vs (hH.perm h) hr
theorem Dp.post {P:Program}{l:Nat}{rec:Loop}{args:List AV}{H:List HO}{R R':AV->List HO->Prop}(hc:Dp P l rec H args R)(h:∀r K,R r K->∃K',K.Perm K'/\R' r K'):Dp P l rec H args R':=fun n g w vs hH hr=>
 (hc n g w vs hH hr).mono fun e w' ⟨v,g',r,H',he,h1,h2,h3,h4⟩=>by
  obtain ⟨K',hp,h5⟩:=h r H' h4;exact ⟨v,g',r,K',he,h1,h2.perm hp,h3,h5⟩
section
variable {P:Program} {T:List (Nat×TD)} {d:Option Nat} {ty:TypeId} {pos:String} {aft:Array Edge} {gd:Option (Nat×Bool)} {ρ:Operand->AV} {K:List HO->Prop}
theorem Zw {x y y':Operand}{t e z n:Nat}{td te:TD}{es:List (List AV)}{ky ky':IntKind}{H:List HO}(hT:G9 P T)(hx:ρ x = .sl z es)(ht:Bp T t=some td)(hk:td.kind = .slice e)(hte:Bp T e=some te)(hz:te.size=z)
  (hy:ρ y = .int ky n) (hy':ρ y' = .int ky' n) (hn:n=es.length):Jj P ⟨d,.slice t x none (some y) (some y'),ty,pos,aft,gd⟩ ρ H (fun r H'=>∃a,r = .row (.slice a n n) z es/\H'=H):=by
 intro g w a next Q hr hHK hnx
 subst hn;obtain ⟨a0,m,cap,h1,h2,h3,h4,h5⟩:=(hx▸hr x (by simp [Op.operands]):Rep g w _ _).inv_sl;have hu:=Dc (hT t td ht) hk;have e1:=(hy▸hr y (by simp [Op.operands]):Rep g w _ _).inv_int;have e2:=(hy'▸hr y' (by simp [Op.operands]):Rep g w _ _).inv_int
 have key:(Instr.sliceBounds true m cap none (some (a.eval y)) (some (a.eval y'))).run P w = .ok (0,es.length,es.length) w:=by
  unfold Instr.sliceBounds;simp only [Sem.run_bind,Sem.run_pure,Result.andThen_ok,e1,e2];simp [D9 (P:=P) (k:=ky') (n:=(es.length:Int)) (y:=cap) (by omega) (by omega),D9 (P:=P) (k:=ky) (n:=(es.length:Int)) (y:=es.length) (by omega) (by omega)]
 have hrun:(execOp a.eval ⟨d,.slice t x none (some y) (some y'),ty,pos,aft,gd⟩).run P w = .ok (.value (.slice (if es.length=0 then a0 else a0.map (·.add (0*z))) es.length es.length)) w:=by
  simp only [execOp,h1,Instr.sliceAt,Sem.run_bind,Bg hu,Result.andThen_ok,Instr.slice,M8,E4,key,Gc (hT e te hte),hz,Sem.run_pure,Nat.sub_zero]
 unfold Oper.wp;rw [hrun];refine hnx g w _ _ _ ⟨_,rfl,rfl⟩ (.row _ _ _ ?_) hHK (Ext.refl g w);rcases h5 with rfl | ⟨b,o,rfl,hzz,f,hs,hf⟩
 . exact .sl0 _ _ _ (by simp [maxLen])
 by_cases h0:es.length=0
 .
  have:es = []:=List.length_eq_zero_iff.1 h0;subst this;exact .sl0 _ _ _ (by simp [maxLen])
 rw [if_neg h0];simp only [E4,E8,Nat.zero_mul,Nat.add_zero];exact .sl b o es.length es.length z es rfl (Bi _) (by omega) hzz f hs hf
theorem Qm {x y:Operand}{t e z n:Nat}{td te:TD}{a0:Option Addr}{es es2:List (List AV)}(hT:G9 P T)(hx:ρ x = .row (.slice a0 n n) z es)(hn:n=es.length)(hy:ρ y = .sl z es2)(ht:Bp T t=some td)(hk:td.kind = .slice e)
    (hte:Bp T e=some te) (hz:te.size=z) (hp:Nat.blt 0 z=true) (hne:es2≠[]) (hs2:∀c∈es2,Bm c=true) (hs1:∀c∈es,Bm c=true) (hb:(es.length+es2.length)*te.bytes<=140737488355328) (hm:es.length+es2.length<=maxLen) :
    Dr P ⟨d,.call ⟨.builtin .append,#[x,y],#[t,t]⟩,ty,pos,aft,gd⟩ ρ K (.sl z (es++es2)):=by
  intro g w a H next Q hr hHK _ hnx
  subst hn;have hpos:0<z:=by simpa using hp
  obtain ⟨e1,r1⟩:=(hx▸hr x (by simp [Op.operands,Call.operands]):Rep g w _ _).inv_row;have r2:=(hy▸hr y (by simp [Op.operands,Call.operands]):Rep g w _ _);have hu:=Dc (hT t td ht) hk;obtain ⟨it,hit,his,hib,zv,hzv,hzs,_⟩:=(hT e te hte).info;obtain ⟨a2,m,c2,h21,h22,h23,h24,_⟩:=r2.inv_sl;rw [e1] at r1;have hlen:(es++es2).length=es.length+m:=by simp [h22]
  have fin:∀v' g' w',(Builtin.append_ #[t,t] ty #[a.eval x,a.eval y]).run P w = .ok v' w'->Rep g' w' v' (.sl z (es++es2))->HOK g' w' H->Ext g w g' w'->Oper.wp P ⟨d,.call ⟨.builtin .append,#[x,y],#[t,t]⟩,ty,pos,aft,gd⟩ a w next Q:=by
    intro v' g' w' hrun hrep hok' hext;unfold Oper.wp
    rw [E0 (v:=v') (w':=w') (by
      have:(#[x,y]:Array Operand).map a.eval = #[a.eval x,a.eval y]:=by simp
      rw [this];simp only [builtin,Sem.run_bind,hrun,Result.andThen_ok,Sem.run_pure])]
    exact hnx g' w' v' hrep hok' hext
  rw [h21] at r2;obtain ⟨_,hz2,b2,o2,hb2,news,n1,n2,n3,n4⟩:=G0 r2 hpos hs2 hne;subst hb2;have hm0:0<m:=by rw [h22];exact Iw.2 hne
  have hnews:∀j u,news[j]? = some u->w.cell? ((⟨b2,o2,none⟩:Addr).add j)=some u:=fun j u hj=>by rw [E8];exact (n4 j u hj).2
  have hsz:it.size=z:=by rw [his,hz]
  have hnl:news.length=m*it.size:=by rw [n1,hsz]
  have hmax:maxLen=9223372036854775807:=rfl
  -- what is there already
  obtain ⟨olds,hol,rl1,hz1,holds⟩:∃olds:List Value,olds.length=es.length*it.size/\Cv g w olds.toArray es.flatten/\(∀c∈es,c.length=z)/\∀b,a0=some b->∀j u,olds[j]? = some u->w.cell? (b.add j)=some u:=by
    by_cases hes:es = []
    . subst hes
      exact ⟨[],by simp,by simp [Cv],by simp,fun b hb j u hj=>by simp at hj⟩
    . obtain ⟨_,hz1,b1,o1,hb1,vs,k1,k2,_,k4⟩:=G0 r1 hpos hs1 hes
      exact ⟨vs,by rw [k1,hsz],k2,hz1,fun b hb j u hj=>by rw [hb1] at hb;cases hb;rw [E8];exact (k4 j u hj).2⟩
  have hzall:∀c∈es++es2,c.length=z:=fun c hc=>by
    rcases Da.1 hc with h | h
    . exact hz1 c h
    exact hz2 c h
  have hrl:Cv g w (olds.toArray++news.toArray) (es++es2).flatten:=by
    rw [Ol];exact rl1.append n2
  cases a0 with
  | none=>
    have hes:es = []:=by
      by_cases h:es = []
      . exact h
      . obtain ⟨_,_,b1,o1,hb1,_⟩:=G0 r1 hpos hs1 h
        cases hb1
    subst hes;simp only [H6,K9,Cg] at hb hm fin hlen hzall ⊢;have hbb:m*it.bytes<=281474976710656:=by rw [hib,h22];omega
    have hrun:=run_append_nil (P:=P) w t ty e it zv hu hit hzv ⟨b2,o2,none⟩ m c2 news hnl hnews hm0 (by omega) hbb;have hext:Ext g w (g.put w.heap.size none) (w.drew.alloc (.cells (news.toArray++Builtin.zeroCells zv.cells (grownCap w m 0 e-m)) e)):=(Ext.drew g w).trans (Ext.alloc g w.drew _ _);have hcapm:m<=grownCap w m 0 e:=grownCap_ge w m 0 e;have hcapM:=grownCap_le_maxLen w m 0 e (by omega);refine fin _ (g.put w.heap.size none) _ (by rw [e1,h21];exact hrun) ?_ (hHK.drew.alloc _ _) hext;refine Ds h22 hcapm hcapM hz2 (n2.mono hext) (fun k hk=>?_) (fun k u hk=>?_)
    . unfold Dz;rw [Gh.Aai];trivial
    . rw [Cg,Bq (b:=w.heap.size) (Ci w.drew _)]
      have hlt:k<news.length:=by simpa using (Array.getElem?_eq_some_iff.1 hk).1
      rw [Array.getElem?_append_left (by simpa using hlt)];exact hk
  | some b1=>
    have hg':es.length<es.length+m:=by omega
    have hfit:Builtin.nextslicecap (es.length+m) es.length*it.bytes<=281474976710656:=growslice_fits hg' (by rw [hib,h22];exact hb);have hrun:=run_append_grow (P:=P) w t ty e it zv hu hit hzv b1 es.length es.length olds hol (holds b1 rfl) ⟨b2,o2,none⟩ m c2 news hnl hnews hg' (by omega) hfit;have hext:Ext g w (g.put w.heap.size none) (w.drew.alloc (.cells (olds.toArray++news.toArray++Builtin.zeroCells zv.cells (grownCap w (es.length+m) es.length e-(es.length+m))) e)):=(Ext.drew g w).trans (Ext.alloc g w.drew _ _);have hcapm:=grownCap_ge w (es.length+m) es.length e;have hcapM:=grownCap_le_maxLen w (es.length+m) es.length e (by omega);refine fin _ (g.put w.heap.size none) _ (by rw [e1,h21];exact hrun) ?_ (hHK.drew.alloc _ _) hext;refine Ds hlen.symm hcapm hcapM hzall (hrl.mono hext) (fun k hk=>?_) (fun k u hk=>?_)
    . unfold Dz;rw [Gh.Aai];trivial
    . rw [Cg,Bq (b:=w.heap.size) (Ci w.drew _)]
      have hlt:=(Array.getElem?_eq_some_iff.1 hk).1;rw [Array.getElem?_append_left hlt];exact hk
end
end Go.Aw
