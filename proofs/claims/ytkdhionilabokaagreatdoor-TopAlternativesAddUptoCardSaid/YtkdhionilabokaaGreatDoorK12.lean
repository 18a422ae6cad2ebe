/-
  Several texts in one: U4, U40, U41, G17, Ab, B17, Ac. No condition.
-/
import Derived.Test.YtkdhionilabokaaGreatDoorK04
import Derived.Test.YtkdhionilabokaaGreatDoorK05
import Derived.Test.YtkdhionilabokaaGreatDoorK11
import Derived.KernelRfl
import Derived.Test.YtkdhionilabokaaGreatDoorK07
import Derived.Test.YtkdhionilabokaaGreatDoorK06
import Derived.Test.YtkdhionilabokaaGreatDoorAx
import Derived.Test.YtkdhionilabokaaGreatDoorCards
import Derived.Test.YtkdhionilabokaaGreatDoorTie
import Derived.Deep.DeepHandedRow
import Derived.Lib.LaidTab
import Derived.OpenShut
import Derived.Test.YtkdhionilabokaaGreatDoorRows
import Derived.JoinedCond
import Derived.ProofKit
import Derived.WideShapes
set_option linter.unusedVariables false
set_option linter.unusedSimpArgs false
set_option maxHeartbeats 6400000
set_option maxRecDepth 100000
namespace Go.Proofs.YtkdhionilabokaaGreatDoor
open Go Go.Aw
theorem qO {p:Pt}{l:List Ev}(h:(!Tx p||decide ((10:Int)<(l.length:Int)))=false):l.length<=10:=by
 rw [Fv,Jh] at h;omega
theorem V8 (p:Pt)(l:List Ev):lD p l=if !Tx p||decide ((10:Int)<(l.length:Int)) then false else if l.any (fun e=>decide (9<e.values.length)) then false else if decide ((Ip (Jk p+1) 1500 l.length 1:Int)<=1500) then true else !dV p&&decide ((Ip l.length 1500 (Jk p) 1:Int)<=1500):=by
 unfold lD;rw [show decide ((10:Int)<(l.length:Int))=decide (10<l.length) by rw [L1];omega];rw [show decide ((Ip (Jk p+1) 1500 l.length 1:Int)<=1500)=decide (Ip (Jk p+1) 1500 l.length 1<=1500) by rw [L1];omega];rw [show decide ((Ip l.length 1500 (Jk p) 1:Int)<=1500)=decide (Ip l.length 1500 (Jk p) 1<=1500) by rw [L1];omega]
section
variable {p:Pt} {l:List Ev}
theorem sm_1 (h:(!Tx p||decide ((10:Int)<(l.length:Int)))=true):lD p l=false:=by rw [V8,if_pos h]
theorem sm_2 (h:(!Tx p||decide ((10:Int)<(l.length:Int)))=false)(h2:l.any (fun e=>decide (9<e.values.length))=true):lD p l=false:=by rw [V8,Ep h,if_pos h2]
theorem sm_3 (h:(!Tx p||decide ((10:Int)<(l.length:Int)))=false)(h2:l.any (fun e=>decide (9<e.values.length))=false)(h3:decide ((Ip (Jk p+1) 1500 l.length 1:Int)<=1500)=true):lD p l=true:=by rw [V8,Ep h,Ep h2,if_pos h3]
theorem sm_4 (h:(!Tx p||decide ((10:Int)<(l.length:Int)))=false)(h2:l.any (fun e=>decide (9<e.values.length))=false)(h3:decide ((Ip (Jk p+1) 1500 l.length 1:Int)<=1500)=false):lD p l=(!dV p&&decide ((Ip l.length 1500 (Jk p) 1:Int)<=1500)):=by rw [V8,Ep h,Ep h2,Ep h3]
theorem qN (p:Pt)(l:List Ev):lN p l=if !lD p l||decide ((2:Int)<(Lm p:Int)) then false else decide (((if Lm p=2 then Ip (2*Jk p+1) 4000 l.length 1 else 1:Nat):Int)<=4000):=by
 unfold lN;rw [show decide ((2:Int)<(Lm p:Int))=decide (2<Lm p) by rw [L1];omega]
 congr 1
 rw [L1];omega
theorem qP (h:lD p l=true):l.length<=10:=by
 rw [V8] at h;cases hc:(!Tx p||decide ((10:Int)<(l.length:Int))) with
 | true=>rw [if_pos hc] at h;cases h
 | false=>exact qO hc
theorem sl_len (h:(!lD p l||decide ((2:Int)<(Lm p:Int)))=false):l.length<=10:=by
 rw [Fv,Bb] at h;exact qP h.1
theorem sl_on {i n:Nat}(h:((decide ((i:Int)<(l.length:Int))&&((Lm p:Int)==2))&&decide ((n:Int)<=4000))=true):i<l.length/\Lm p=2/\n<=4000:=by
 simp only [Cq,Di,beq_iff_eq] at h;omega
theorem sl_off {i n:Nat}(h:((decide ((i:Int)<(l.length:Int))&&((Lm p:Int)==2))&&decide ((n:Int)<=4000))=false)(hi:i<=l.length)(h2:Lm p=2->Ip (2*Jk p+1) 4000 l.length 1=Ip (2*Jk p+1) 4000 (l.length-i) n)(h3:Lm p≠2->n=1):(if Lm p=2 then Ip (2*Jk p+1) 4000 l.length 1 else 1)=n:=by
 by_cases e:Lm p=2
 .
  rw [if_pos e,h2 e];simp only [M7,Jh,Iu,ne_eq] at h;rcases h with (h | h) | h
  . rw [show l.length-i=0 by omega];rfl
  . omega
  exact Sv (by omega)
 rw [if_neg e,h3 e]
end
theorem oJ {a c:Nat}(h:a<=10000)(h2:c<=3000000) : -9223372036854775808<=(a:Int)*(c:Int)/\(a:Int)*(c:Int)<=9223372036854775807:=by
 have h3:=Nat.mul_le_mul h h2;have h4:((a*c:Nat):Int)=(a:Int)*(c:Int):=Int.natCast_mul _ _;omega
theorem fE (p:Pt)(hp:Fm p<=1048576):Al Tryz.prog 67 [.agg (cPt p)] (.int .i64 (Jk p:Nat)):=by
 induction p using Pt.ind
 rename_i p ih;have hal:=Jx p;refine Al.body (n:=24) Ai Tryz.func67 rfl rfl rfl fun H=>?_
 refine AW.seq (AW.region (AOL.Aag (Bt (v:=.agg _) (cs:=[.int .i64 _,_,.int .i64 _,.int .i64 _,.int .i64 _,.int .i64 _,.int .i64 _,_,.int .i64 _,.int .i64 _,.int .i64 _,.int .i64 _,.int .i64 _,.str _]) rfl rfl rfl) rfl (AOL.Aag (Ag (v:=.int .i64 _) rfl) rfl (AOL.nil (Aa (AW.seq (AW.region (AOL.Aag (Ag (v:=.int .i64 _) rfl) rfl (AOL.nil (Aa ?_))))))))));refine AW.cut (fun (_:Unit)=>(⟨[(1,.ptr (cPt p)),(3,.int .i64 ((if p.op==0 then 1 else 0:Nat):Int))],H,24⟩:St)) (fun _=>True) ?_ ?_
 .
  refine AW.seq (AW.region (AOL.Aag (Ad (cs':=[.int .i64 _,_,.int .i64 _,.int .i64 _,.int .i64 _,.int .i64 _,.int .i64 _,_,.int .i64 _,.int .i64 _,.int .i64 _,.int .i64 _,.int .i64 _,.str _]) Ai rfl rfl rfl rfl rfl rfl) rfl (AOL.Aag (Af (c:=.int .i64 _) Ai rfl rfl rfl) rfl (AOL.Aag (Ez rfl rfl) rfl (AOL.nil (Aa (AW.cond (b:=_) rfl (fun hc1=>AW.region (AOL.Aag (Ag (v:=.int .i64 _) rfl) rfl (AOL.nil (Aa ?_)))) (fun hc1=>AW.skip (Aa ?_)))))))))
  .
   refine ⟨(),?_,GS.weaken ⟨rfl,congrArg (AV.int .i64) (by rw [if_pos hc1];rfl),trivial⟩ (.refl _)⟩
   trivial
  refine ⟨(),?_,GS.weaken ⟨rfl,congrArg (AV.int .i64) (by rw [Ep hc1];rfl),trivial⟩ (.refl _)⟩
  trivial
 rintro _ _;refine AW.seq (AW.seq (AW.region (AOL.Aag (Ag (v:=.int .i64 _) rfl) rfl (AOL.nil (Aa (AW.block ?_))))));refine AW.loopS (fun (k:Nat)=>(⟨[(1,.ptr (cPt p)),(3,.int .i64 (((if p.op==0 then 1 else 0)+((p.args.take k).map Jk).sum:Nat):Int)),(4,.int .i64 (k:Int))],H,24⟩:St)) (fun k=>k<=p.args.length) (fun k=>p.args.length-k) (0) ?_ (GS.weaken ⟨rfl,congrArg (AV.int .i64) (by rw [List.take_zero];simp),rfl,trivial⟩ (.refl _)) ?_
 . exact Bn _
 rintro k hk;refine AW.seq (AW.seq (AW.region (AOL.Aag (Ae (v:=.int .i64 _) rfl) rfl (AOL.Aag (Ad (cs':=[_,.int .i64 _,.int .i64 _,.int .i64 _,.int .i64 _,.int .i64 _,_,.int .i64 _,.int .i64 _,.int .i64 _,.int .i64 _,.int .i64 _,.str _]) Ai rfl rfl rfl rfl rfl rfl) rfl (AOL.Aag (Af (c:=.sl _ _) Ai rfl rfl rfl) rfl ?_)))));refine AOL.Aag (Av (n:=p.args.length) Ai rfl rfl rfl (by simp)) rfl ?_;refine AOL.Aag (B9 rfl rfl) rfl (AOL.nil (Aa (AW.cond (b:=_) rfl (fun hc2=>?_) (fun hc2=>?_))))
 .
  obtain ⟨a,ha⟩:=Dd hc2;have hlt:=Bj ha;have hm:=A0 ha;have hel:=X8 p;have het:=gT p.args (k+1);rw [Uc ha] at het;have hee:=Pp p;refine AW.skip (Aa (AW.seq (AW.block (AW.region (AOL.Aag (Ae (v:=.int .i64 _) rfl) rfl (AOL.Aag (Ad (cs':=[_,.int .i64 _,.int .i64 _,.int .i64 _,.int .i64 _,.int .i64 _,_,.int .i64 _,.int .i64 _,.int .i64 _,.int .i64 _,.int .i64 _,.str _]) Ai rfl rfl rfl rfl rfl rfl) rfl (AOL.Aag (Af (c:=.sl _ _) Ai rfl rfl rfl) rfl (AOL.Aag (Ae (v:=.int .i64 _) rfl) rfl ?_))))))));refine AOL.Aag (Am (c:=[.int .i64 _,_,.int .i64 _,.int .i64 _,.int .i64 _,.int .i64 _,.int .i64 _,_,.int .i64 _,.int .i64 _,.int .i64 _,.int .i64 _,.int .i64 _,.str _]) Ai rfl rfl rfl rfl rfl rfl (by omega) (Jo ha)) rfl ?_;refine AOL.Aag (Ah (l:=[.int .i64 _,_,.int .i64 _,.int .i64 _,.int .i64 _,.int .i64 _,.int .i64 _,_,.int .i64 _,.int .i64 _,.int .i64 _,.int .i64 _,.int .i64 _,.str _]) Ai rfl rfl rfl rfl rfl) rfl ?_;refine AOL.Aag (Ak (by kernel_rfl) rfl rfl (ih a hm (by have:=Kh hm;omega))) rfl ?_;refine AOL.Aag (Cc rfl rfl rfl (by constructor <;> omega)) rfl ?_;refine AOL.Aag (Ag (v:=.int .i64 _) rfl) rfl (AOL.nil (C9 (Aa (AW.region (AOL.Aag (Ae (v:=.int .i64 _) rfl) rfl ?_)))));refine AOL.Aag (Cc rfl rfl rfl (by constructor <;> omega)) rfl ?_;refine AOL.Aag (Ag (v:=.int .i64 _) rfl) rfl (AOL.nil (Aa ?_));refine ⟨k+1,?_,?_,GS.weaken ⟨rfl,congrArg (AV.int .i64) (by rw [Uc ha];omega),rfl,trivial⟩ (.refl _)⟩
  . exact hlt
  omega
 have hte:=D3 hc2;refine AW.exit ?_;refine A1 (A1 (Cd (Aa ?_)));refine AW.seq (AW.region (AOL.Aag (Ae (v:=.int .i64 _) rfl) rfl (AOL.Aag (Ag (v:=.int .i64 _) rfl) rfl (AOL.nil (Aa (AW.ret ?_))))));refine ⟨.inr rfl,[.int .i64 _],.cons (.tmp _ _ rfl) <| .nil,.refl _,?_⟩;exact Eq.trans rfl (congrArg (fun q:Nat=>AV.int .i64 (q:Int)) (show _=Jk p by rw [hte,Pp]))
theorem fF (p:Pt)(hp:Fm p<=1048576):Al Tryz.prog 28 [.agg (cPt p)] (.int .i64 (Jk p:Nat)):=by
 induction p using Pt.ind
 rename_i p ih;have hal:=Jx p;refine Al.body (n:=24) Ai Tryz.func28 rfl rfl rfl fun H=>?_
 refine AW.seq (AW.region (AOL.Aag (Bt (v:=.agg _) (cs:=[.int .i64 _,_,.int .i64 _,.int .i64 _,.int .i64 _,.int .i64 _,.int .i64 _,_,.int .i64 _,.int .i64 _,.int .i64 _,.int .i64 _,.int .i64 _,.str _]) rfl rfl rfl) rfl (AOL.Aag (Ag (v:=.int .i64 _) rfl) rfl (AOL.nil (Aa (AW.seq (AW.region (AOL.Aag (Ag (v:=.int .i64 _) rfl) rfl (AOL.nil (Aa ?_))))))))));refine AW.cut (fun (_:Unit)=>(⟨[(1,.ptr (cPt p)),(3,.int .i64 ((if p.op==0 then 1 else 0:Nat):Int))],H,24⟩:St)) (fun _=>True) ?_ ?_
 .
  refine AW.seq (AW.region (AOL.Aag (Ad (cs':=[.int .i64 _,_,.int .i64 _,.int .i64 _,.int .i64 _,.int .i64 _,.int .i64 _,_,.int .i64 _,.int .i64 _,.int .i64 _,.int .i64 _,.int .i64 _,.str _]) Ai rfl rfl rfl rfl rfl rfl) rfl (AOL.Aag (Af (c:=.int .i64 _) Ai rfl rfl rfl) rfl (AOL.Aag (Ez rfl rfl) rfl (AOL.nil (Aa (AW.cond (b:=_) rfl (fun hc1=>AW.region (AOL.Aag (Ag (v:=.int .i64 _) rfl) rfl (AOL.nil (Aa ?_)))) (fun hc1=>AW.skip (Aa ?_)))))))))
  .
   refine ⟨(),?_,GS.weaken ⟨rfl,congrArg (AV.int .i64) (by rw [if_pos hc1];rfl),trivial⟩ (.refl _)⟩
   trivial
  refine ⟨(),?_,GS.weaken ⟨rfl,congrArg (AV.int .i64) (by rw [Ep hc1];rfl),trivial⟩ (.refl _)⟩
  trivial
 rintro _ _;refine AW.seq (AW.seq (AW.region (AOL.Aag (Ag (v:=.int .i64 _) rfl) rfl (AOL.nil (Aa (AW.block ?_))))));refine AW.loopS (fun (k:Nat)=>(⟨[(1,.ptr (cPt p)),(3,.int .i64 (((if p.op==0 then 1 else 0)+((p.args.take k).map Jk).sum:Nat):Int)),(4,.int .i64 (k:Int))],H,24⟩:St)) (fun k=>k<=p.args.length) (fun k=>p.args.length-k) (0) ?_ (GS.weaken ⟨rfl,congrArg (AV.int .i64) (by rw [List.take_zero];simp),rfl,trivial⟩ (.refl _)) ?_
 . exact Bn _
 rintro k hk;refine AW.seq (AW.seq (AW.region (AOL.Aag (Ae (v:=.int .i64 _) rfl) rfl (AOL.Aag (Ad (cs':=[_,.int .i64 _,.int .i64 _,.int .i64 _,.int .i64 _,.int .i64 _,_,.int .i64 _,.int .i64 _,.int .i64 _,.int .i64 _,.int .i64 _,.str _]) Ai rfl rfl rfl rfl rfl rfl) rfl (AOL.Aag (Af (c:=.sl _ _) Ai rfl rfl rfl) rfl ?_)))));refine AOL.Aag (Av (n:=p.args.length) Ai rfl rfl rfl (by simp)) rfl ?_;refine AOL.Aag (B9 rfl rfl) rfl (AOL.nil (Aa (AW.cond (b:=_) rfl (fun hc2=>?_) (fun hc2=>?_))))
 .
  obtain ⟨a,ha⟩:=Dd hc2;have hlt:=Bj ha;have hm:=A0 ha;have hel:=X8 p;have het:=gT p.args (k+1);rw [Uc ha] at het;have hee:=Pp p;refine AW.skip (Aa (AW.seq (AW.block (AW.region (AOL.Aag (Ae (v:=.int .i64 _) rfl) rfl (AOL.Aag (Ad (cs':=[_,.int .i64 _,.int .i64 _,.int .i64 _,.int .i64 _,.int .i64 _,_,.int .i64 _,.int .i64 _,.int .i64 _,.int .i64 _,.int .i64 _,.str _]) Ai rfl rfl rfl rfl rfl rfl) rfl (AOL.Aag (Af (c:=.sl _ _) Ai rfl rfl rfl) rfl (AOL.Aag (Ae (v:=.int .i64 _) rfl) rfl ?_))))))));refine AOL.Aag (Am (c:=[.int .i64 _,_,.int .i64 _,.int .i64 _,.int .i64 _,.int .i64 _,.int .i64 _,_,.int .i64 _,.int .i64 _,.int .i64 _,.int .i64 _,.int .i64 _,.str _]) Ai rfl rfl rfl rfl rfl rfl (by omega) (Jo ha)) rfl ?_;refine AOL.Aag (Ah (l:=[.int .i64 _,_,.int .i64 _,.int .i64 _,.int .i64 _,.int .i64 _,.int .i64 _,_,.int .i64 _,.int .i64 _,.int .i64 _,.int .i64 _,.int .i64 _,.str _]) Ai rfl rfl rfl rfl rfl) rfl ?_;refine AOL.Aag (Ak (by kernel_rfl) rfl rfl (ih a hm (by have:=Kh hm;omega))) rfl ?_;refine AOL.Aag (Cc rfl rfl rfl (by constructor <;> omega)) rfl ?_;refine AOL.Aag (Ag (v:=.int .i64 _) rfl) rfl (AOL.nil (C9 (Aa (AW.region (AOL.Aag (Ae (v:=.int .i64 _) rfl) rfl ?_)))));refine AOL.Aag (Cc rfl rfl rfl (by constructor <;> omega)) rfl ?_;refine AOL.Aag (Ag (v:=.int .i64 _) rfl) rfl (AOL.nil (Aa ?_));refine ⟨k+1,?_,?_,GS.weaken ⟨rfl,congrArg (AV.int .i64) (by rw [Uc ha];omega),rfl,trivial⟩ (.refl _)⟩
  . exact hlt
  omega
 have hte:=D3 hc2;refine AW.exit ?_;refine A1 (A1 (Cd (Aa ?_)));refine AW.seq (AW.region (AOL.Aag (Ae (v:=.int .i64 _) rfl) rfl (AOL.Aag (Ag (v:=.int .i64 _) rfl) rfl (AOL.nil (Aa (AW.ret ?_))))));refine ⟨.inr rfl,[.int .i64 _],.cons (.tmp _ _ rfl) <| .nil,.refl _,?_⟩;exact Eq.trans rfl (congrArg (fun q:Nat=>AV.int .i64 (q:Int)) (show _=Jk p by rw [hte,Pp]))
theorem Xn (p:Pt)(hp:Fm p<=1048576):Al Tryz.prog 27 [.agg (cPt p)] (.int .i64 (Lm p:Nat)):=by
 induction p using Pt.ind
 rename_i p ih;have hal:=Jx p;refine Al.body (n:=26) Ai Tryz.func27 rfl rfl rfl fun H=>?_
 refine AW.seq (AW.region (AOL.Aag (Bt (v:=.agg _) (cs:=[.int .i64 _,_,.int .i64 _,.int .i64 _,.int .i64 _,.int .i64 _,.int .i64 _,_,.int .i64 _,.int .i64 _,.int .i64 _,.int .i64 _,.int .i64 _,.str _]) rfl rfl rfl) rfl (AOL.Aag (Ag (v:=.int .i64 _) rfl) rfl (AOL.nil (Aa (AW.seq (AW.region (AOL.Aag (Ag (v:=.int .i64 _) rfl) rfl (AOL.nil (Aa (AW.seq (AW.seq (AW.region (AOL.Aag (Ag (v:=.int .i64 _) rfl) rfl (AOL.nil (Aa (AW.block ?_)))))))))))))))));refine AW.loopS (fun (q:Nat×Nat)=>(⟨[(1,.ptr (cPt p)),(3,.int .i64 (q.2:Int)),(4,.int .i64 (q.1:Int))],H,26⟩:St)) (fun q=>q.1<=p.args.length/\q.2=Kr (p.args.take q.1)) (fun q=>p.args.length-q.1) ((0,0)) ?_ (GS.weaken ⟨rfl,rfl,rfl,trivial⟩ (.refl _)) ?_
 . exact ⟨Bn _,by rw [List.take_zero,Kr]⟩
 rintro q hR;refine AW.seq (AW.seq (AW.region (AOL.Aag (Ae (v:=.int .i64 _) rfl) rfl (AOL.Aag (Ad (cs':=[_,.int .i64 _,.int .i64 _,.int .i64 _,.int .i64 _,.int .i64 _,_,.int .i64 _,.int .i64 _,.int .i64 _,.int .i64 _,.int .i64 _,.str _]) Ai rfl rfl rfl rfl rfl rfl) rfl (AOL.Aag (Af (c:=.sl _ _) Ai rfl rfl rfl) rfl ?_)))));refine AOL.Aag (Av (n:=p.args.length) Ai rfl rfl rfl (by simp)) rfl ?_;refine AOL.Aag (B9 rfl rfl) rfl (AOL.nil (Aa (AW.cond (b:=_) rfl (fun hc1=>?_) (fun hc1=>?_))))
 .
  obtain ⟨a,ha⟩:=Dd hc1;have hlt:=Bj ha;have hm:=A0 ha;refine AW.skip (Aa (AW.seq (AW.block (AW.region (AOL.Aag (Ae (v:=.int .i64 _) rfl) rfl (AOL.Aag (Ad (cs':=[_,.int .i64 _,.int .i64 _,.int .i64 _,.int .i64 _,.int .i64 _,_,.int .i64 _,.int .i64 _,.int .i64 _,.int .i64 _,.int .i64 _,.str _]) Ai rfl rfl rfl rfl rfl rfl) rfl (AOL.Aag (Af (c:=.sl _ _) Ai rfl rfl rfl) rfl (AOL.Aag (Ae (v:=.int .i64 _) rfl) rfl ?_))))))));refine AOL.Aag (Am (c:=[.int .i64 _,_,.int .i64 _,.int .i64 _,.int .i64 _,.int .i64 _,.int .i64 _,_,.int .i64 _,.int .i64 _,.int .i64 _,.int .i64 _,.int .i64 _,.str _]) Ai rfl rfl rfl rfl rfl rfl (by omega) (Jo ha)) rfl ?_;refine AOL.Aag (Ah (l:=[.int .i64 _,_,.int .i64 _,.int .i64 _,.int .i64 _,.int .i64 _,.int .i64 _,_,.int .i64 _,.int .i64 _,.int .i64 _,.int .i64 _,.int .i64 _,.str _]) Ai rfl rfl rfl rfl rfl) rfl ?_;refine AOL.Aag (Ak (by kernel_rfl) rfl rfl (ih a hm (by have:=Kh hm;omega))) rfl ?_;refine AOL.Aag (Ws rfl rfl) rfl (AOL.Aag (Ag (v:=.int .i64 _) rfl) rfl (AOL.nil (C9 (Aa (AW.region (AOL.Aag (Ae (v:=.int .i64 _) rfl) rfl ?_))))));refine AOL.Aag (Cc rfl rfl rfl (by constructor <;> omega)) rfl ?_;refine AOL.Aag (Ag (v:=.int .i64 _) rfl) rfl (AOL.nil (Aa ?_));refine ⟨(q.1+1,max q.2 (Lm a)),?_,?_,GS.weaken ⟨rfl,congrArg (AV.int .i64) (Vu q.2 (Lm a)),rfl,trivial⟩ (.refl _)⟩
  . exact ⟨hlt,by simp only;rw [Cr ha,Xi,hR.2]⟩
  simp only;omega
 have hte:=D3 hc1;have hde:=hR.2;rw [hte] at hde;refine AW.exit ?_;refine A1 (A1 (Cd (Aa (AW.seq ?_))));refine AW.seq (AW.region (AOL.Aag (Ad (cs':=[.int .i64 _,_,.int .i64 _,.int .i64 _,.int .i64 _,.int .i64 _,.int .i64 _,_,.int .i64 _,.int .i64 _,.int .i64 _,.int .i64 _,.int .i64 _,.str _]) Ai rfl rfl rfl rfl rfl rfl) rfl (AOL.Aag (Af (c:=.int .i64 _) Ai rfl rfl rfl) rfl (AOL.Aag (Ez rfl rfl) rfl (AOL.nil (Aa (AW.cond (b:=_) rfl (fun hc2=>AW.region (AOL.Aag (Ae (v:=.int .i64 _) rfl) rfl ?_)) (fun hc2=>AW.skip (Aa (AW.seq (AW.region (AOL.Aag (Ae (v:=.int .i64 _) rfl) rfl (AOL.Aag (Ag (v:=.int .i64 _) rfl) rfl (AOL.nil (Aa (AW.ret ?_))))))))))))))))
 .
  refine AOL.Aag (Cc rfl rfl rfl (by have:=zK p;rw [Mx,if_pos hc2] at this;constructor <;> omega)) rfl ?_;refine AOL.Aag (Ag (v:=.int .i64 _) rfl) rfl (AOL.nil (Aa (AW.seq (AW.region (AOL.Aag (Ae (v:=.int .i64 _) rfl) rfl (AOL.Aag (Ag (v:=.int .i64 _) rfl) rfl (AOL.nil (Aa (AW.ret ?_)))))))));refine ⟨.inr rfl,[.int .i64 _],.cons (.tmp _ _ rfl) <| .nil,.refl _,?_⟩;exact Eq.trans rfl (congrArg (fun q:Nat=>AV.int .i64 (q:Int)) (show q.2+1=Lm p by rw [Mx,if_pos hc2,hde]))
 refine ⟨.inr rfl,[.int .i64 _],.cons (.tmp _ _ rfl) <| .nil,.refl _,?_⟩;exact Eq.trans rfl (congrArg (fun q:Nat=>AV.int .i64 (q:Int)) (show q.2=Lm p by rw [Mx,Ep hc2,hde];rfl))
theorem pJ (p:Pt)(hp:Fm p<=1048576):Al Tryz.prog 69 [.agg (cPt p)] (.bool (dV p)):=by
 induction p using Pt.ind
 rename_i p ih;have hal:=Jx p;refine Al.body (n:=20) Ai Tryz.func69 rfl rfl rfl fun H=>?_
 refine AW.seq (AW.region (AOL.Aag (Bt (v:=.agg _) (cs:=[.int .i64 _,_,.int .i64 _,.int .i64 _,.int .i64 _,.int .i64 _,.int .i64 _,_,.int .i64 _,.int .i64 _,.int .i64 _,.int .i64 _,.int .i64 _,.str _]) rfl rfl rfl) rfl (AOL.Aag (Ag (v:=.bool _) rfl) rfl (AOL.nil (Aa (AW.seq (AW.seq (AW.region (AOL.Aag (Ad (cs':=[.int .i64 _,_,.int .i64 _,.int .i64 _,.int .i64 _,.int .i64 _,.int .i64 _,_,.int .i64 _,.int .i64 _,.int .i64 _,.int .i64 _,.int .i64 _,.str _]) Ai rfl rfl rfl rfl rfl rfl) rfl (AOL.Aag (Af (c:=.int .i64 _) Ai rfl rfl rfl) rfl (AOL.Aag (Ez rfl rfl) rfl (AOL.nil (Aa (AW.cond (b:=_) rfl (fun hc1=>AW.seq (AW.region (AOL.Aag (Ag (v:=.bool _) rfl) rfl (AOL.nil (Aa (AW.ret (Ap ?_))))))) (fun hc1=>AW.skip (Aa (AW.seq (AW.seq (AW.region (AOL.Aag (Ag (v:=.int .i64 _) rfl) rfl (AOL.nil (Aa (AW.block ?_)))))))))))))))))))))))
 .
  refine ⟨.inr rfl,[.bool _],.cons (.tmp _ _ rfl) <| .nil,.refl _,?_⟩;exact Eq.trans rfl (congrArg (fun q:Bool=>AV.bool q) ((show dV p=true by rw [Yg,hc1];rfl))).symm
 refine AW.loopS (fun (k:Nat)=>(⟨[(1,.ptr (cPt p)),(3,.int .i64 (k:Int))],H,20⟩:St)) (fun k=>k<=p.args.length/\(p.args.take k).any dV=false) (fun k=>p.args.length-k) (0) ?_ (GS.weaken ⟨rfl,rfl,trivial⟩ (.refl _)) ?_
 . exact ⟨Bn _,by simp⟩
 rintro k hR;refine AW.seq (AW.seq (AW.region (AOL.Aag (Ae (v:=.int .i64 _) rfl) rfl (AOL.Aag (Ad (cs':=[_,.int .i64 _,.int .i64 _,.int .i64 _,.int .i64 _,.int .i64 _,_,.int .i64 _,.int .i64 _,.int .i64 _,.int .i64 _,.int .i64 _,.str _]) Ai rfl rfl rfl rfl rfl rfl) rfl (AOL.Aag (Af (c:=.sl _ _) Ai rfl rfl rfl) rfl ?_)))));refine AOL.Aag (Av (n:=p.args.length) Ai rfl rfl rfl (by simp)) rfl ?_;refine AOL.Aag (B9 rfl rfl) rfl (AOL.nil (Aa (AW.cond (b:=_) rfl (fun hc2=>?_) (fun hc2=>?_))))
 .
  obtain ⟨a,ha⟩:=Dd hc2;have hlt:=Bj ha;have hm:=A0 ha;refine AW.skip (Aa (AW.seq (AW.block (AW.seq (AW.region (AOL.Aag (Ad (cs':=[_,.int .i64 _,.int .i64 _,.int .i64 _,.int .i64 _,.int .i64 _,_,.int .i64 _,.int .i64 _,.int .i64 _,.int .i64 _,.int .i64 _,.str _]) Ai rfl rfl rfl rfl rfl rfl) rfl (AOL.Aag (Af (c:=.sl _ _) Ai rfl rfl rfl) rfl (AOL.Aag (Ae (v:=.int .i64 _) rfl) rfl ?_))))))));refine AOL.Aag (Am (c:=[.int .i64 _,_,.int .i64 _,.int .i64 _,.int .i64 _,.int .i64 _,.int .i64 _,_,.int .i64 _,.int .i64 _,.int .i64 _,.int .i64 _,.int .i64 _,.str _]) Ai rfl rfl rfl rfl rfl rfl (by omega) (Jo ha)) rfl ?_;refine AOL.Aag (Ah (l:=[.int .i64 _,_,.int .i64 _,.int .i64 _,.int .i64 _,.int .i64 _,.int .i64 _,_,.int .i64 _,.int .i64 _,.int .i64 _,.int .i64 _,.int .i64 _,.str _]) Ai rfl rfl rfl rfl rfl) rfl ?_;refine AOL.Aag (Ak (by kernel_rfl) rfl rfl (ih a hm (by have:=Kh hm;omega))) rfl ?_;refine AOL.nil (Aa (AW.cond (b:=_) rfl (fun hc3=>AW.seq (AW.region (AOL.Aag (Ag (v:=.bool _) rfl) rfl (AOL.nil (Aa (AW.ret (Cn (Ap (Ap (Cn (Ap ?_))))))))))) (fun hc3=>AW.skip (C9 (Aa (AW.region (AOL.Aag (Ae (v:=.int .i64 _) rfl) rfl ?_)))))))
  .
   refine ⟨.inr rfl,[.bool _],.cons (.tmp _ _ rfl) <| .nil,.refl _,?_⟩;exact Eq.trans rfl (congrArg (fun q:Bool=>AV.bool q) ((show dV p=true by rw [Yg,Oi.2 ⟨a,hm,hc3⟩,A6]))).symm
  refine AOL.Aag (Cc rfl rfl rfl (by constructor <;> omega)) rfl ?_;refine AOL.Aag (Ag (v:=.int .i64 _) rfl) rfl (AOL.nil (Aa ?_));refine ⟨k+1,?_,?_,GS.weaken ⟨rfl,rfl,trivial⟩ (.refl _)⟩
  . exact ⟨hlt,P2 hR.2 ha hc3⟩
  omega
 have hte:=D3 hc2;have hall:=hR.2;rw [hte] at hall;refine AW.exit ?_;refine A1 (A1 (Cd (Aa ?_)));refine AW.seq (AW.region (AOL.Aag (Ag (v:=.bool _) rfl) rfl (AOL.nil (Aa (AW.ret ?_)))));refine ⟨.inr rfl,[.bool _],.cons (.tmp _ _ rfl) <| .nil,.refl _,?_⟩;exact Eq.trans rfl (congrArg (fun q:Bool=>AV.bool q) ((show dV p=false by rw [Yg,hc1,hall];rfl))).symm
theorem Xm (x n m:Nat)(hn:n<=1048576)(hx:x<=2000000)(hm:m<=10000)(hm1:1<=m):Al Tryz.prog 68 [.int .i64 (x:Int),.int .i64 (n:Int),.int .i64 (m:Int)] (.int .i64 (Ip x m n 1:Nat)):=by
 refine Al.body (n:=23) Ai Tryz.func68 rfl rfl rfl fun H=>?_
 refine AW.seq (AW.region (AOL.Aag (Ag (v:=.int .i64 _) rfl) rfl (AOL.nil (Aa (AW.seq (AW.region (AOL.Aag (Ag (v:=.int .i64 _) rfl) rfl (AOL.nil (Aa (AW.seq (AW.seq (AW.region (AOL.Aag (Ag (v:=.int .i64 _) rfl) rfl (AOL.nil (Aa (AW.block ?_))))))))))))))));refine AW.loopS (fun (q:Nat×Nat)=>(⟨[(0,.int .i64 (x:Int)),(1,.int .i64 (n:Int)),(2,.int .i64 (m:Int)),(7,.int .i64 (q.2:Int)),(8,.int .i64 (q.1:Int))],H,23⟩:St)) (fun q=>q.1<=n/\Ip x m n 1=Ip x m (n-q.1) q.2) (fun q=>n-q.1) ((0,1)) ?_ (GS.weaken ⟨rfl,rfl,rfl,rfl,rfl,trivial⟩ (.refl _)) ?_
 . exact ⟨Bn _,rfl⟩
 rintro q hR;refine AW.seq (AW.seq (AW.region (AOL.Aag (Ae (v:=.int .i64 _) rfl) rfl (AOL.Aag (Ae (v:=.int .i64 _) rfl) rfl (AOL.Aag (B9 rfl rfl) rfl (AOL.Aag (Ae (v:=.bool _) rfl) rfl (AOL.Aah (y:=.int .i64 _) _ [] rfl (Un.all trivial) (fun hG=>Ae (v:=.int .i64 _) rfl) rfl ?_)))))));refine AOL.Aah (y:=.int .i64 _) _ [] rfl (Un.all trivial) (fun hG=>Ae (v:=.int .i64 _) rfl) rfl ?_;refine AOL.Aah (y:=.bool _) _ [(13,_),(14,_)] rfl (Un.all ⟨Zs.self _ _,Zs.self _ _,trivial⟩) (fun hG=>I8 rfl rfl) rfl ?_;refine AOL.Aag (Bc rfl rfl rfl) rfl (AOL.nil (Aa (AW.cond (b:=_) rfl (fun hc1=>?_) (fun hc1=>?_))))
 .
  rw [Cq] at hc1;have hqn:q.1<n:=by have:=B2 hc1.1;omega
  have hqm:q.2<=m:=by have:=B2 hc1.2;omega
  have hq9:=hR.2;rw [show n-q.1=(n-(q.1+1))+1 by omega,Su hqm] at hq9;refine AW.skip (Aa (AW.seq (AW.block (AW.region (AOL.Aag (Ae (v:=.int .i64 _) rfl) rfl (AOL.Aag (Ae (v:=.int .i64 _) rfl) rfl ?_))))));refine AOL.Aag (fV rfl rfl rfl (oJ (Fp hqm hm) (Fp hx (by decide)))) rfl ?_;refine AOL.Aag (Ag (v:=.int .i64 _) rfl) rfl (AOL.nil (C9 (Aa (AW.region (AOL.Aag (Ae (v:=.int .i64 _) rfl) rfl ?_)))));refine AOL.Aag (Cc rfl rfl rfl (by constructor <;> omega)) rfl ?_;refine AOL.Aag (Ag (v:=.int .i64 _) rfl) rfl (AOL.nil (Aa ?_));refine ⟨(q.1+1,q.2*x),?_,?_,GS.weaken ⟨rfl,rfl,rfl,congrArg (AV.int .i64) (Int.natCast_mul _ _).symm,rfl,trivial⟩ (.refl _)⟩
  . exact ⟨by simp only;omega,hq9⟩
  simp only;omega
 have hfin:Ip x m n 1=q.2:=by
  rw [hR.2];rw [M7] at hc1;rcases hc1 with hc1 | hc1
  . have:=C7 hc1;rw [show n-q.1=0 by omega];rfl
  exact Sv (by have:=C7 hc1;omega)
 refine AW.exit ?_;refine A1 (A1 (Cd (Aa ?_)));refine AW.seq (AW.region (AOL.Aag (Ae (v:=.int .i64 _) rfl) rfl (AOL.Aag (Ag (v:=.int .i64 _) rfl) rfl (AOL.nil (Aa (AW.ret ?_))))));refine ⟨.inr rfl,[.int .i64 _],.cons (.tmp _ _ rfl) <| .nil,.refl _,?_⟩;exact congrArg (fun q:Nat=>AV.int .i64 (q:Int)) hfin.symm
theorem kR (p:Pt)(hp:medP p)(l:List Ev):Al Tryz.prog 26 [.agg (cPt p),.sl 5 (l.map Ec)] (.bool (lD p l)):=by
 have hel:=X8 p;have hpn:=hp.n;refine Al.body (n:=46) Ai Tryz.func26 rfl rfl rfl fun H=>?_
 refine AW.seq (AW.region (AOL.Aag (Bt (v:=.agg _) (cs:=[.int .i64 _,_,.int .i64 _,.int .i64 _,.int .i64 _,.int .i64 _,.int .i64 _,_,.int .i64 _,.int .i64 _,.int .i64 _,.int .i64 _,.int .i64 _,.str _]) rfl rfl rfl) rfl (AOL.Aag (Ag (v:=.bool _) rfl) rfl (AOL.nil (Aa (AW.seq (AW.seq (AW.region (AOL.Aag (Ah (l:=[.int .i64 _,_,.int .i64 _,.int .i64 _,.int .i64 _,.int .i64 _,.int .i64 _,_,.int .i64 _,.int .i64 _,.int .i64 _,.int .i64 _,.int .i64 _,.str _]) Ai rfl rfl rfl rfl rfl) rfl ?_)))))))));refine AOL.Aag (Ak (by kernel_rfl) rfl rfl (zR p hp)) rfl ?_;refine AOL.Aag (F6 rfl) rfl (AOL.Aag (Ae (v:=.bool _) rfl) rfl (AOL.Aah (y:=.sl _ _) _ [] rfl (Un.all trivial) (fun hG=>Ae (v:=.sl _ _) rfl) rfl ?_));refine AOL.Aah (y:=.int .i64 _) _ [(11,_)] rfl (Un.all ⟨Zs.self _ _,trivial⟩) (fun hG=>Av (n:=l.length) Ai rfl rfl rfl (by simp)) rfl ?_;refine AOL.Aah (y:=.bool _) _ [(12,_)] rfl (Un.all ⟨Zs.self _ _,trivial⟩) (fun hG=>Gy rfl rfl) rfl ?_;refine AOL.Aag (E7 rfl rfl rfl) rfl (AOL.nil (Aa (AW.cond (b:=_) rfl (fun hc1=>AW.seq (AW.region (AOL.Aag (Ag (v:=.bool _) rfl) rfl (AOL.nil (Aa (AW.ret (Ap ?_))))))) (fun hc1=>?_))))
 .
  refine ⟨.inr rfl,[.bool _],.cons (.tmp _ _ rfl) <| .nil,.refl _,?_⟩;exact Eq.trans rfl (congrArg (fun q:Bool=>AV.bool q) (sm_1 hc1)).symm
 have hl10:=qO hc1;refine AW.skip (Aa (AW.seq (AW.seq (AW.region (AOL.Aag (Ag (v:=.int .i64 _) rfl) rfl (AOL.nil (Aa (AW.block ?_))))))));refine AW.loopS (fun (k:Nat)=>(⟨[(1,.sl 5 (l.map Ec)),(2,.ptr (cPt p)),(5,.int .i64 (k:Int))],H,46⟩:St)) (fun k=>k<=l.length/\(l.take k).any (fun e=>decide (9<e.values.length))=false) (fun k=>l.length-k) (0) ?_ (GS.weaken ⟨rfl,rfl,rfl,trivial⟩ (.refl _)) ?_
 . exact ⟨Bn _,by simp⟩
 rintro k hR;refine AW.seq (AW.seq (AW.region (AOL.Aag (Ae (v:=.int .i64 _) rfl) rfl (AOL.Aag (Ae (v:=.sl _ _) rfl) rfl ?_))));refine AOL.Aag (Av (n:=l.length) Ai rfl rfl rfl (by simp)) rfl ?_;refine AOL.Aag (B9 rfl rfl) rfl (AOL.nil (Aa (AW.cond (b:=_) rfl (fun hc2=>?_) (fun hc2=>?_))))
 .
  obtain ⟨a,ha⟩:=Dd hc2;have hlt:=Bj ha;have hm:=A0 ha;refine AW.skip (Aa (AW.seq (AW.block (AW.seq (AW.region (AOL.Aag (Ae (v:=.sl _ _) rfl) rfl (AOL.Aag (Ae (v:=.int .i64 _) rfl) rfl ?_)))))));refine AOL.Aag (Am (c:=[.int .i64 _,.int .i64 _,.int .i64 _,.int .i64 _,_]) Ai rfl rfl rfl rfl rfl rfl (by omega) (Co ha)) rfl ?_;refine AOL.Aag (Ad (cs':=[_]) Ai rfl rfl rfl rfl rfl rfl) rfl (AOL.Aag (Af (c:=.sl _ _) Ai rfl rfl rfl) rfl ?_);refine AOL.Aag (Av (n:=a.values.length) Ai rfl rfl rfl (by simp)) rfl ?_;refine AOL.Aag (Gy rfl rfl) rfl (AOL.nil (Aa (AW.cond (b:=_) rfl (fun hc3=>AW.seq (AW.region (AOL.Aag (Ag (v:=.bool _) rfl) rfl (AOL.nil (Aa (AW.ret (Cn (Ap (Ap (Cn (Ap ?_))))))))))) (fun hc3=>AW.skip (C9 (Aa (AW.region (AOL.Aag (Ae (v:=.int .i64 _) rfl) rfl ?_))))))))
  .
   refine ⟨.inr rfl,[.bool _],.cons (.tmp _ _ rfl) <| .nil,.refl _,?_⟩;exact Eq.trans rfl (congrArg (fun q:Bool=>AV.bool q) (sm_2 hc1 (vO ha hc3))).symm
  refine AOL.Aag (Cc rfl rfl rfl (by constructor <;> omega)) rfl ?_;refine AOL.Aag (Ag (v:=.int .i64 _) rfl) rfl (AOL.nil (Aa ?_));refine ⟨k+1,?_,?_,GS.weaken ⟨rfl,rfl,rfl,trivial⟩ (.refl _)⟩
  . exact ⟨hlt,val_on ha hR.2 hc3⟩
  omega
 have hte:=D3 hc2;have hall:=hR.2;rw [hte] at hall;refine AW.exit ?_;refine A1 (A1 (Cd (Aa ?_)));refine AW.seq (AW.region (AOL.Aag (Ah (l:=[.int .i64 _,_,.int .i64 _,.int .i64 _,.int .i64 _,.int .i64 _,.int .i64 _,_,.int .i64 _,.int .i64 _,.int .i64 _,.int .i64 _,.int .i64 _,.str _]) Ai rfl rfl rfl rfl rfl) rfl ?_));refine AOL.Aag (Ak (by kernel_rfl) rfl rfl (fE p hp.n)) rfl ?_;refine AOL.Aag (Ag (v:=.int .i64 _) rfl) rfl (AOL.nil (Aa (AW.seq (AW.seq (AW.region (AOL.Aag (Ae (v:=.int .i64 _) rfl) rfl ?_))))));refine AOL.Aag (Cc rfl rfl rfl (by constructor <;> omega)) rfl ?_;refine AOL.Aag (Ae (v:=.sl _ _) rfl) rfl ?_;refine AOL.Aag (Av (n:=l.length) Ai rfl rfl rfl (by simp)) rfl ?_;refine AOL.Aag (Ak (by kernel_rfl) rfl rfl (Xm (Jk p+1) l.length 1500 (by omega) (by omega) (by decide) (by decide))) rfl ?_;refine AOL.Aag (I8 rfl rfl) rfl (AOL.nil (Aa (AW.cond (b:=_) rfl (fun hc4=>AW.seq (AW.region (AOL.Aag (Ag (v:=.bool _) rfl) rfl (AOL.nil (Aa (AW.ret (Ap ?_))))))) (fun hc4=>AW.skip (Aa (AW.seq (AW.region (AOL.Aag (Ah (l:=[.int .i64 _,_,.int .i64 _,.int .i64 _,.int .i64 _,.int .i64 _,.int .i64 _,_,.int .i64 _,.int .i64 _,.int .i64 _,.int .i64 _,.int .i64 _,.str _]) Ai rfl rfl rfl rfl rfl) rfl ?_))))))))
 .
  refine ⟨.inr rfl,[.bool _],.cons (.tmp _ _ rfl) <| .nil,.refl _,?_⟩;exact Eq.trans rfl (congrArg (fun q:Bool=>AV.bool q) (sm_3 hc1 hall hc4)).symm
 refine AOL.Aag (Ak (by kernel_rfl) rfl rfl (pJ p hp.n)) rfl ?_;refine AOL.Aag (F6 rfl) rfl (AOL.Aag (Ae (v:=.bool _) rfl) rfl (AOL.Aah (y:=.sl _ _) _ [] rfl (Un.all trivial) (fun hG=>Ae (v:=.sl _ _) rfl) rfl ?_));refine AOL.Aah (y:=.int .i64 _) _ [(40,_)] rfl (Un.all ⟨Zs.self _ _,trivial⟩) (fun hG=>Av (n:=l.length) Ai rfl rfl rfl (by simp)) rfl ?_;refine AOL.Aah (y:=.int .i64 _) _ [] rfl (Un.all trivial) (fun hG=>Ae (v:=.int .i64 _) rfl) rfl ?_;refine AOL.Aah (y:=.int .i64 _) _ [(41,_),(42,_)] rfl (Un.all ⟨Zs.self _ _,Zs.self _ _,trivial⟩) (fun hG=>Ak (by kernel_rfl) rfl rfl (Xm l.length (Jk p) 1500 (by omega) (by omega) (by decide) (by decide))) rfl ?_;refine AOL.Aah (y:=.bool _) _ [(43,_)] rfl (Un.all ⟨Zs.self _ _,trivial⟩) (fun hG=>I8 rfl rfl) rfl ?_;refine AOL.Aag (Bc rfl rfl rfl) rfl (AOL.Aag (Ag (v:=.bool _) rfl) rfl (AOL.nil (Aa (AW.ret ?_))));refine ⟨.inr rfl,[.bool _],.cons (.tmp _ _ rfl) <| .nil,.refl _,?_⟩;exact Eq.trans rfl (congrArg (fun q:Bool=>AV.bool q) (sm_4 hc1 hall hc4)).symm
theorem kS (p:Pt)(hp:medP p)(l:List Ev):Al Tryz.prog 11 [.agg (cPt p),.sl 5 (l.map Ec)] (.bool (lN p l)):=by
 have hel:=X8 p;have hpn:=hp.n;refine Al.body (n:=39) Ai Tryz.func11 rfl rfl rfl fun H=>?_
 refine AW.seq (AW.region (AOL.Aag (Bt (v:=.agg _) (cs:=[.int .i64 _,_,.int .i64 _,.int .i64 _,.int .i64 _,.int .i64 _,.int .i64 _,_,.int .i64 _,.int .i64 _,.int .i64 _,.int .i64 _,.int .i64 _,.str _]) rfl rfl rfl) rfl (AOL.Aag (Ag (v:=.bool _) rfl) rfl (AOL.nil (Aa (AW.seq (AW.seq (AW.region (AOL.Aag (Ah (l:=[.int .i64 _,_,.int .i64 _,.int .i64 _,.int .i64 _,.int .i64 _,.int .i64 _,_,.int .i64 _,.int .i64 _,.int .i64 _,.int .i64 _,.int .i64 _,.str _]) Ai rfl rfl rfl rfl rfl) rfl (AOL.Aag (Ae (v:=.sl _ _) rfl) rfl ?_))))))))));refine AOL.Aag (Ak (by kernel_rfl) rfl rfl (kR p hp l)) rfl ?_;refine AOL.Aag (F6 rfl) rfl (AOL.Aag (Ae (v:=.bool _) rfl) rfl (AOL.Aah (y:=.agg _) _ [] rfl (Un.all trivial) (fun hG=>Ah (l:=[.int .i64 _,_,.int .i64 _,.int .i64 _,.int .i64 _,.int .i64 _,.int .i64 _,_,.int .i64 _,.int .i64 _,.int .i64 _,.int .i64 _,.int .i64 _,.str _]) Ai rfl rfl rfl rfl rfl) rfl ?_));refine AOL.Aah (y:=.int .i64 _) _ [(12,_)] rfl (Un.all ⟨Zs.self _ _,trivial⟩) (fun hG=>Ak (by kernel_rfl) rfl rfl (Xn p hp.n)) rfl ?_;refine AOL.Aah (y:=.bool _) _ [(13,_)] rfl (Un.all ⟨Zs.self _ _,trivial⟩) (fun hG=>Gy rfl rfl) rfl ?_;refine AOL.Aag (E7 rfl rfl rfl) rfl (AOL.nil (Aa (AW.cond (b:=_) rfl (fun hc1=>AW.seq (AW.region (AOL.Aag (Ag (v:=.bool _) rfl) rfl (AOL.nil (Aa (AW.ret (Ap ?_))))))) (fun hc1=>?_))))
 .
  refine ⟨.inr rfl,[.bool _],.cons (.tmp _ _ rfl) <| .nil,.refl _,?_⟩;exact Eq.trans rfl (congrArg (fun q:Bool=>AV.bool q) (((qN p l).trans (if_pos hc1):lN p l=false))).symm
 have hl10:=sl_len hc1;refine AW.skip (Aa (AW.seq (AW.region (AOL.Aag (Ag (v:=.int .i64 _) rfl) rfl (AOL.nil (Aa (AW.seq (AW.seq (AW.region (AOL.Aag (Ag (v:=.int .i64 _) rfl) rfl (AOL.nil (Aa (AW.block ?_)))))))))))));refine AW.loopS (fun (q:Nat×Nat)=>(⟨[(1,.sl 5 (l.map Ec)),(2,.ptr (cPt p)),(5,.int .i64 (q.2:Int)),(6,.int .i64 (q.1:Int))],H,39⟩:St)) (fun q=>q.1<=l.length/\(Lm p=2->Ip (2*Jk p+1) 4000 l.length 1=Ip (2*Jk p+1) 4000 (l.length-q.1) q.2)/\(Lm p≠2->q.2=1)) (fun q=>l.length-q.1) ((0,1)) ?_ (GS.weaken ⟨rfl,rfl,rfl,rfl,trivial⟩ (.refl _)) ?_
 . exact ⟨Bn _,fun _=>rfl,fun _=>rfl⟩
 rintro q hR;refine AW.seq (AW.seq (AW.region (AOL.Aag (Ae (v:=.int .i64 _) rfl) rfl (AOL.Aag (Ae (v:=.sl _ _) rfl) rfl ?_))));refine AOL.Aag (Av (n:=l.length) Ai rfl rfl rfl (by simp)) rfl ?_;refine AOL.Aag (B9 rfl rfl) rfl (AOL.Aag (Ae (v:=.bool _) rfl) rfl (AOL.Aah (y:=.agg _) _ [] rfl (Un.all trivial) (fun hG=>Ah (l:=[.int .i64 _,_,.int .i64 _,.int .i64 _,.int .i64 _,.int .i64 _,.int .i64 _,_,.int .i64 _,.int .i64 _,.int .i64 _,.int .i64 _,.int .i64 _,.str _]) Ai rfl rfl rfl rfl rfl) rfl ?_));refine AOL.Aah (y:=.int .i64 _) _ [(21,_)] rfl (Un.all ⟨Zs.self _ _,trivial⟩) (fun hG=>Ak (by kernel_rfl) rfl rfl (Xn p hp.n)) rfl ?_;refine AOL.Aah (y:=.bool _) _ [(22,_)] rfl (Un.all ⟨Zs.self _ _,trivial⟩) (fun hG=>Ez rfl rfl) rfl ?_;refine AOL.Aag (Bc rfl rfl rfl) rfl (AOL.Aag (Ae (v:=.bool _) rfl) rfl (AOL.Aah (y:=.int .i64 _) _ [] rfl (Un.all trivial) (fun hG=>Ae (v:=.int .i64 _) rfl) rfl ?_));refine AOL.Aah (y:=.bool _) _ [(26,_)] rfl (Un.all ⟨Zs.self _ _,trivial⟩) (fun hG=>I8 rfl rfl) rfl ?_;refine AOL.Aag (Bc rfl rfl rfl) rfl (AOL.nil (Aa (AW.cond (b:=_) rfl (fun hc2=>?_) (fun hc2=>?_))))
 .
  have ⟨hql,hq2,hqm⟩:=sl_on hc2;have hR2:=hR.2.1 hq2;rw [show l.length-q.1=(l.length-(q.1+1))+1 by omega,Su hqm] at hR2;refine AW.skip (Aa (AW.seq (AW.block (AW.region (AOL.Aag (Ae (v:=.int .i64 _) rfl) rfl (AOL.Aag (Ah (l:=[.int .i64 _,_,.int .i64 _,.int .i64 _,.int .i64 _,.int .i64 _,.int .i64 _,_,.int .i64 _,.int .i64 _,.int .i64 _,.int .i64 _,.int .i64 _,.str _]) Ai rfl rfl rfl rfl rfl) rfl ?_))))));refine AOL.Aag (Ak (by kernel_rfl) rfl rfl (fF p hp.n)) rfl ?_;refine AOL.Aag (fV rfl rfl rfl (by constructor <;> omega)) rfl ?_;refine AOL.Aag (Cc rfl rfl rfl (by constructor <;> omega)) rfl ?_;refine AOL.Aag (fV rfl rfl rfl (by have h9:=oJ (a:=q.2) (c:=2*Jk p+1) (by omega) (by omega);simpa using h9)) rfl ?_;refine AOL.Aag (Ag (v:=.int .i64 _) rfl) rfl (AOL.nil (C9 (Aa (AW.region (AOL.Aag (Ae (v:=.int .i64 _) rfl) rfl ?_)))));refine AOL.Aag (Cc rfl rfl rfl (by constructor <;> omega)) rfl ?_;refine AOL.Aag (Ag (v:=.int .i64 _) rfl) rfl (AOL.nil (Aa ?_));refine ⟨(q.1+1,q.2*(2*Jk p+1)),?_,?_,GS.weaken ⟨rfl,rfl,congrArg (AV.int .i64) (by simp),rfl,trivial⟩ (.refl _)⟩
  . exact ⟨by simp only;omega,fun _=>hR2,fun h=>absurd hq2 h⟩
  simp only;omega
 have hfin:=sl_off hc2 hR.1 hR.2.1 hR.2.2;refine AW.exit ?_;refine A1 (A1 (Cd (Aa ?_)));refine AW.seq (AW.region (AOL.Aag (Ae (v:=.int .i64 _) rfl) rfl (AOL.Aag (I8 rfl rfl) rfl (AOL.Aag (Ag (v:=.bool _) rfl) rfl (AOL.nil (Aa (AW.ret ?_)))))));refine ⟨.inr rfl,[.bool _],.cons (.tmp _ _ rfl) <| .nil,.refl _,?_⟩;exact Eq.trans rfl (congrArg (fun q:Bool=>AV.bool q) (((qN p l).trans ((Ep hc1).trans (by rw [hfin])):lN p l=_))).symm
theorem jN (p o:Pt):cPt (Js p o) = [.int .i64 2,.sl 14 [cPt p,cPt o],.int .i64 0,.int .i64 0,.int .i64 0,.int .i64 0,.int .i64 0,.sl 8 [],.int .i64 0,.int .i64 0,.int .i64 0,.int .i64 0,.int .i64 0,.str []]:=by
 show [AV.int .i64 2,.sl 14 ([p,o].map Ew),_,_,_,_,_,_,_,_,_,_,_,_]=_;rw [show [p,o].map Ew = [cPt p,cPt o] by simp only [Ba,Gv,Kp]];rfl
def Y8 (to:List Int)(q:Pt):Pt:=if (V2 to q != 0) then I4 else D0 to q
def eX (m:Nat)(p:Pt):Pt:=if (N7 m p != 0) then I4 else (Io (D0 (Ni m) p) 0).1
theorem pR {to:List Int}(ht:to.length<=1048576){q:Pt}(hq:medP q){es:List (List AV)}(hes:es=Gx to)(H:List HO):Cb Tryz.prog 16 H [.agg (cPt q),.sl 1 es] (fun r H'=>r = .tuple [.agg (cPt (Y8 to q)),.int .i64 (V2 to q)]/\H'=H):=by
 subst hes;refine (fL to ht q hq H).mono' ?_;rintro r K ⟨rfl,rfl⟩;refine ⟨?_,rfl⟩;unfold Y8;split
 . rfl
 rename_i h;have:V2 to q=0:=by simpa using h
 rw [this]
theorem oV {p o:Pt}{m:Nat}(hm:m<=16)(hmed:medP (Js p o))(hv:Np m (Js p o))(H:List HO):Cb Tryz.prog 17 H [.agg [.int .i64 2,.sl 14 [cPt p,cPt o],.int .i64 0,.int .i64 0,.int .i64 0,.int .i64 0,.int .i64 0,.sl 8 [],.int .i64 0,.int .i64 0,.int .i64 0,.int .i64 0,.int .i64 0,.str []]] (fun r H'=>(∃x,r = .tuple [.agg (cPt (eX m (Js p o))),x,.int .i64 (N7 m (Js p o))])/\H'=H):=by
 have h:=fK (Js p o) hmed m hm hv H;rw [jN] at h;refine h.mono' ?_;rintro r K ⟨⟨x,rfl⟩,rfl⟩;refine ⟨⟨x,?_⟩,rfl⟩;unfold eX;split
 . rfl
 rename_i h;have:N7 m (Js p o)=0:=by simpa using h
 rw [this]
theorem aF {p:Pt}(hp:medP p)(hc:Gk p=0):Al Tryz.prog 15 [.agg (cPt p)] (.tuple [.int .i64 (Hf p).vars,.int .i64 (Hf p).scopes,.int .i64 0]):=by
 have h:=pW p hp;rw [hc,if_neg (by decide)] at h;exact h
theorem zX (p:Pt):∀k:Int,(Cw (Io p k).1).map (fun x=>x.cond)=(Cw p).map fun x=>x.cond:=by
  induction p using Pt.ind with
  | h p ih=>
    intro k
    have key:∀l:List Pt,(∀a∈l,∀k:Int,(Cw (Io a k).1).map (fun x=>x.cond)=(Cw a).map fun x=>x.cond)->∀k:Int,((D2 l k).1.flatMap Cw).map (fun x=>x.cond)=(l.flatMap Cw).map fun x=>x.cond:=by
      intro l
      induction l with
      | nil=>intro _ k;rw [D2]
      | cons a r ih2=>intro h k;rw [D2,G8,G8,Cy,Cy,h a (by simp),ih2 fun b hb=>h b (by simp [hb])]
    rw [In,In p,Ba,Ba,Jb];simp only;rw [key _ ih]
theorem uJ {m:Nat}(hm:m<=16){p:Pt}(hp:medP p)(ht:∀x∈Cw p,((D6 x.op).typed=true->0<=x.var/\x.var<(m:Int))/\((D6 x.op).cond=true->B8 x.cond=0)):medP (eX m p):=by
 unfold eX;split
 . exact ⟨by decide,by decide⟩
 rename_i h;have hn:N7 m p=0:=by simpa using h
 have hnv:∀x∈Cw p,Y6 m x=0:=by
  unfold N7 at hn;split at hn
  . rename_i h1;rw [hn] at h1;cases h1
  exact Kt hn
 have e:=zX (D0 (Ni m) p) 0
 have el:Fm (Io (D0 (Ni m) p) 0).1=Fm p:=by
  have:=congrArg List.length e
  rwa [B1,B1,Jw,Jw,pQ] at this
 refine ⟨by rw [el];exact hp.n,fun y hy=>?_⟩;have h1:y.cond∈(Cw (D0 (Ni m) p)).map fun x=>x.cond:=by rw [<-e];exact List.mem_map_of_mem (f:=fun x:Pt=>x.cond) hy
 obtain ⟨z,hz,hze⟩:=B7.1 h1;rw [My] at hz;obtain ⟨x,hx,rfl⟩:=B7.1 hz;rw [<-hze,Dx];show B3 (Sw _ x)<=_;by_cases hc:(D6 x.op).cond=true
 .
  have hok:=nT hm (ht x hx).1 (ht x hx).2 (hnv x hx);obtain ⟨k1,k2,k3⟩:=Zk (hok.ren hc);have h3:=Sy k1 k2;unfold Sw;rw [if_pos hc,k3];unfold B8 at h3;split at h3
  . cases h3
  rename_i h4;rw [Di] at h4;omega
 unfold Sw;rw [if_neg hc];exact hp.cond x hx
theorem fC {p q:Pt}{n k:Nat}(h:Pair p q n k):∀x∈Cw (Js p (D0 (Lc n k) q)),((D6 x.op).typed=true->0<=x.var/\x.var<((n+k:Nat):Int))/\((D6 x.op).cond=true->B8 x.cond=0):=by
 intro y hy;refine ⟨fun ht=>Rq h.numd hy ht,fun hc=>?_⟩;rw [Sr,Cz,Da] at hy;rcases hy with rfl | hy | hy
 . cases hc
 . exact gE ((Sc h.cp).2 y hy) hc
 rw [My] at hy;obtain ⟨x,hx,rfl⟩:=B7.1 hy;rw [Dx] at hc ⊢;exact h.cond_o x hx hc
theorem rB {n k i:Nat}(h:i<k):Gx ((Lc n k).take (i+1))=Gx ((Lc n k).take i) ++ [[.int .i64 ((n:Int)+(i:Int))]]:=by
 have h1:(Lc n k)[i]? = some ((n:Int)+(i:Int)):=by
  unfold Lc;rw [List.getElem?_map,List.getElem?_range h];simp
 rw [Cr h1];unfold Gx;rw [Cy];rfl
structure EithIs (p q:Pt) (n k:Nat) (X:Pt) (B:Bool):Prop where
 med:medP X
 is:B=true->Pair p q n k/\N7 (n+k) (Js p (D0 (Lc n k) q))=0/\X=aH p q n k
theorem sW {p q:Pt}{n k:Nat}:EithIs p q n k I4 false:=⟨⟨by decide,by decide⟩,fun h=>by cases h⟩
theorem mL {p q:Pt}{n k:Nat}(h:Pair p q n k)(hp:medP p)(hq:medP q):EithIs p q n k (eX (n+k) (Js p (D0 (Lc n k) q))) (N7 (n+k) (Js p (D0 (Lc n k) q))==0):=by
 refine ⟨uJ h.le (h.med hp hq) (fC h),fun he=>?_⟩;have h0:N7 (n+k) (Js p (D0 (Lc n k) q))=0:=by simpa using he
 refine ⟨h,h0,?_⟩;unfold eX aH;rw [if_neg (by rw [h0];decide)]
theorem jU {p q:Pt}{n k:Nat}(h:Pair p q n k)(hp:medP p)(hq:medP q)(ho:Y8 (Lc n k) q=D0 (Lc n k) q):EithIs p q n k (eX (n+k) (Js p (Y8 (Lc n k) q))) (N7 (n+k) (Js p (Y8 (Lc n k) q))==0):=by
 rw [ho];exact mL h hp hq
theorem l_yes  : Al Tryz.prog 9 [] (.agg (cE yesX)):=by
 refine Al.body (n:=3) Ai Tryz.func9 rfl rfl rfl fun H=>?_
 refine AW.seq (AW.region ?_);refine AOL.e (Bh (l:=[.int .i64 0,.sl 8 [],.int .i64 0,.int .i64 0,.int .i64 0,.int .i64 0,.int .i64 0,.str []]) (by kernel_rfl)) rfl ?_;rintro _ _ ⟨b0,rfl,rfl⟩;refine AOL.nil (Aa (AW.seq (AW.region (AOL.Aag (C3 (l:=[.int .i64 _,.int .i64 _,.str _]) Ai rfl rfl rfl) rfl (AOL.Aag (C3 (l:=[.int .i64 _,_,.int .i64 _,.int .i64 _,.int .i64 _,.int .i64 _,.int .i64 _,.str _]) Ai rfl rfl rfl) rfl (AOL.e (Ao (k:=0) (v:=.agg _) (cs':=[.int .i64 _,_,.int .i64 _,.int .i64 _,.int .i64 _,.int .i64 _,.int .i64 _,.str _]) (H2:=_::_) Ai rfl rfl rfl rfl (rfl) rfl rfl rfl rfl) rfl ?_))))));rintro _ _ ⟨rfl,rfl⟩;refine AOL.nil (Aa (AW.ret ?_));refine ⟨.inr rfl,[.agg [.int .i64 _,_,.int .i64 _,.int .i64 _,.int .i64 _,.int .i64 _,.int .i64 _,.str _]],.cons (.box _ _ _ 0 _ _ _ _ rfl rfl rfl rfl rfl rfl) <| .nil,.cons _ (.refl _),?_⟩;rfl
theorem tV (H:List HO):Cb Tryz.prog 4 H [] (fun r H'=>r = .bool true/\H'=H):=by
 refine Cb.body (n:=39) Ai Tryz.func4 rfl rfl rfl ?_;refine AW.seq (AW.region (AOL.Aag (Ag (v:=.bool _) rfl) rfl (AOL.nil (Aa (AW.seq (AW.region ?_))))));refine AOL.Aag (Ak (by kernel_rfl) rfl rfl (l_yes)) rfl ?_;refine AOL.Aag (C3 (l:=[.int .i64 _,_,.int .i64 _,.int .i64 _,.int .i64 _,.int .i64 _,.int .i64 _,_,.int .i64 _,.int .i64 _,.int .i64 _,.int .i64 _,.int .i64 _,.str _]) Ai rfl rfl rfl) rfl (AOL.Aag (Bw (es:=[[.int .i64 _,_,.int .i64 _,.int .i64 _,.int .i64 _,.int .i64 _,.int .i64 _,_,.int .i64 _,.int .i64 _,.int .i64 _,.int .i64 _,.int .i64 _,.str _]]) Ai rfl rfl rfl rfl rfl rfl rfl rfl rfl) rfl (AOL.Aag (C3 (l:=[.int .i64 _,_,.int .i64 _,.int .i64 _,.int .i64 _,.int .i64 _,.int .i64 _,_,.int .i64 _,.int .i64 _,.int .i64 _,.int .i64 _,.int .i64 _,.str _]) Ai rfl rfl rfl) rfl ?_));refine AOL.e (Bh (l:=[.int .i64 0,.sl 14 [],.int .i64 0,.int .i64 0,.int .i64 0,.int .i64 0,.int .i64 0,.sl 8 [],.int .i64 0,.int .i64 0,.int .i64 0,.int .i64 0,.int .i64 0,.str []]) (by kernel_rfl)) rfl ?_;rintro _ _ ⟨b1,rfl,rfl⟩;refine AOL.e (Ao (k:=0) (v:=.agg _) (cs':=[.int .i64 _,_,.int .i64 _,.int .i64 _,.int .i64 _,.int .i64 _,.int .i64 _,_,.int .i64 _,.int .i64 _,.int .i64 _,.int .i64 _,.int .i64 _,.str _]) (H2:=_::_) Ai rfl rfl rfl rfl (rfl) rfl rfl rfl rfl) rfl ?_;rintro _ _ ⟨rfl,rfl⟩;refine AOL.ghost (GS.Aaj (t:=1) 0 rfl rfl) ?_;refine AOL.nil (Aa (AW.seq (AW.region (AOL.Aag (C3 (l:=[.int .i64 _,.int .i64 _,.int .i64 _,.int .i64 _,_]) Ai rfl rfl rfl) rfl (AOL.Aag (C3 (l:=[.int .i64 _,.int .i64 _,.int .i64 _,.int .i64 _,_]) Ai rfl rfl rfl) rfl (AOL.Aag (Bw (es:=[[.int .i64 _,.int .i64 _,.int .i64 _,.int .i64 _,_],[.int .i64 _,.int .i64 _,.int .i64 _,.int .i64 _,_]]) Ai rfl rfl rfl rfl rfl rfl rfl rfl rfl) rfl (AOL.Aag (Ag (v:=.sl _ _) rfl) rfl (AOL.nil (Aa (AW.seq (AW.region (AOL.Aag (Ah (l:=[.int .i64 _,_,.int .i64 _,.int .i64 _,.int .i64 _,.int .i64 _,.int .i64 _,_,.int .i64 _,.int .i64 _,.int .i64 _,.int .i64 _,.int .i64 _,.str _]) Ai rfl rfl rfl rfl rfl) rfl (AOL.Aag (Ae (v:=.sl _ _) rfl) rfl ?_)))))))))))));refine AOL.e (C2 (by kernel_rfl) rfl rfl ((L_all _))) rfl ?_;rintro _ _ ⟨⟨lq,hlq,rfl⟩,rfl⟩;refine AOL.Aag (Ae (v:=.tuple _) rfl) rfl (AOL.Aag (A4 (v:=.sl _ _) rfl rfl) rfl (AOL.Aag (A4 (v:=.int .i64 _) rfl rfl) rfl (AOL.Aag (Ag (v:=.sl _ _) rfl) rfl (AOL.Aag (Ag (v:=.int .i64 _) rfl) rfl (AOL.nil (Aa (AW.seq (AW.region (AOL.Aag (Ah (l:=[.int .i64 _,_,.int .i64 _,.int .i64 _,.int .i64 _,.int .i64 _,.int .i64 _,_,.int .i64 _,.int .i64 _,.int .i64 _,.int .i64 _,.int .i64 _,.str _]) Ai rfl rfl rfl rfl rfl) rfl (AOL.Aag (Ae (v:=.sl _ _) rfl) rfl ?_))))))))));refine AOL.Aag (Ak (by kernel_rfl) rfl rfl (rX)) rfl ?_;refine AOL.Aag (Ae (v:=.tuple _) rfl) rfl (AOL.Aag (A4 (v:=.int .i64 _) rfl rfl) rfl (AOL.Aag (A4 (v:=.int .i64 _) rfl rfl) rfl (AOL.Aag (Ag (v:=.int .i64 _) rfl) rfl (AOL.Aag (Ag (v:=.int .i64 _) rfl) rfl (AOL.nil (Aa (AW.seq (AW.region (AOL.Aag (Ae (v:=.int .i64 _) rfl) rfl (AOL.Aag (Ae (v:=.int .i64 _) rfl) rfl ?_))))))))))
 refine AOL.Aag (Cc rfl rfl rfl (by constructor <;> omega)) rfl ?_;refine AOL.Aag (Ez rfl rfl) rfl (AOL.Aag (Ae (v:=.bool _) rfl) rfl (AOL.Aah (y:=.sl _ _) _ [] rfl (Un.all trivial) (fun hG=>Ae (v:=.sl _ _) rfl) rfl ?_));refine AOL.Aah (y:=.int .i64 _) _ [(31,_)] rfl (Un.all ⟨Zs.self _ _,trivial⟩) (fun hG=>Av (n:=3) Ai rfl rfl rfl (by rw [B1];first | exact hlq | exact hlq.symm)) rfl ?_;refine AOL.Aah (y:=.bool _) _ [(32,_)] rfl (Un.all ⟨Zs.self _ _,trivial⟩) (fun hG=>Ez rfl rfl) rfl ?_;refine AOL.Aag (Bc rfl rfl rfl) rfl (AOL.Aag (Ae (v:=.bool _) rfl) rfl (AOL.Aah (y:=.int .i64 _) _ [] rfl (Un.all trivial) (fun hG=>Ae (v:=.int .i64 _) rfl) rfl ?_));refine AOL.Aah (y:=.bool _) _ [(36,_)] rfl (Un.all ⟨Zs.self _ _,trivial⟩) (fun hG=>Ez rfl rfl) rfl ?_;refine AOL.Aag (Bc rfl rfl rfl) rfl (AOL.Aag (Ag (v:=.bool _) rfl) rfl (AOL.nil (Aa (AW.ret ?_))));refine ⟨.inr rfl,[.bool _],.cons (.tmp _ _ rfl) <| .nil,_,.refl _,?_⟩;exact ⟨rfl,rfl⟩
theorem Ys (p:Pt)(hp:medP p)(L:List Ev):Al Tryz.prog 5 [.agg (cPt p),.sl 5 (L.map Ec)] (.bool (fD p L)):=by
 refine Al.body (n:=22) Ai Tryz.func5 rfl rfl rfl fun H=>?_
 refine AW.seq (AW.region (AOL.Aag (Bt (v:=.agg _) (cs:=[.int .i64 _,_,.int .i64 _,.int .i64 _,.int .i64 _,.int .i64 _,.int .i64 _,_,.int .i64 _,.int .i64 _,.int .i64 _,.int .i64 _,.int .i64 _,.str _]) rfl rfl rfl) rfl (AOL.Aag (Ag (v:=.bool _) rfl) rfl (AOL.nil (Aa (AW.seq (AW.region (AOL.Aag (Ah (l:=[.int .i64 _,_,.int .i64 _,.int .i64 _,.int .i64 _,.int .i64 _,.int .i64 _,_,.int .i64 _,.int .i64 _,.int .i64 _,.int .i64 _,.int .i64 _,.str _]) Ai rfl rfl rfl rfl rfl) rfl (AOL.Aag (Ae (v:=.sl _ _) rfl) rfl ?_)))))))));refine AOL.Aag (Ak (by kernel_rfl) rfl rfl (kS p hp L)) rfl ?_;refine AOL.Aag (Ae (v:=.bool _) rfl) rfl (AOL.Aah (y:=.sl _ _) _ [] rfl (Un.all trivial) (fun hG=>Ae (v:=.sl _ _) rfl) rfl ?_);refine AOL.Aah (y:=.bool _) _ [(9,_)] rfl (Un.all ⟨Zs.self _ _,trivial⟩) (fun hG=>Ak (by kernel_rfl) rfl rfl (r4_all L)) rfl ?_;refine AOL.Aag (Bc rfl rfl rfl) rfl (AOL.Aag (Ae (v:=.bool _) rfl) rfl (AOL.Aah (y:=.agg _) _ [] rfl (Un.all trivial) (fun hG=>Ah (l:=[.int .i64 _,_,.int .i64 _,.int .i64 _,.int .i64 _,.int .i64 _,.int .i64 _,_,.int .i64 _,.int .i64 _,.int .i64 _,.int .i64 _,.int .i64 _,.str _]) Ai rfl rfl rfl rfl rfl) rfl ?_));refine AOL.Aah (y:=.int .i64 _) _ [(13,_)] rfl (Un.all ⟨Zs.self _ _,trivial⟩) (fun hG=>Ak (by kernel_rfl) rfl rfl (oK p hp)) rfl ?_;refine AOL.Aah (y:=.bool _) _ [(14,_)] rfl (Un.all ⟨Zs.self _ _,trivial⟩) (fun hG=>Ez rfl rfl) rfl ?_;refine AOL.Aag (Bc rfl rfl rfl) rfl (AOL.Aag (Ae (v:=.bool _) rfl) rfl (AOL.Aah (y:=.sl _ _) _ [] rfl (Un.all trivial) (fun hG=>Ae (v:=.sl _ _) rfl) rfl ?_));refine AOL.Aah (y:=.int .i64 _) _ [(18,_)] rfl (Un.all ⟨Zs.self _ _,trivial⟩) (fun hG=>Ak (by kernel_rfl) rfl rfl (pL L)) rfl ?_;refine AOL.Aah (y:=.bool _) _ [(19,_)] rfl (Un.all ⟨Zs.self _ _,trivial⟩) (fun hG=>Ez rfl rfl) rfl ?_;refine AOL.Aag (Bc rfl rfl rfl) rfl (AOL.Aag (Ag (v:=.bool _) rfl) rfl (AOL.nil (Aa (AW.ret ?_))));refine ⟨.inr rfl,[.bool _],.cons (.tmp _ _ rfl) <| .nil,.refl _,?_⟩;exact Eq.trans rfl (congrArg (fun z:Int=>AV.bool (((lN p L&&eL L)&&z==0)&&Fh L==0)) (yA p))
theorem oA (p q:Pt)(hp:medP p)(hq:medP q)(cp:Gk p=0)(cq:Gk q=0)(n k:Nat)(vp:(Hf p).vars=(n:Int))(vq:(Hf q).vars=(k:Int))(np:Np n p)(nq:Np k q)(H:List HO):Cb Tryz.prog 6 H [.agg (cPt p),.agg (cPt q)] (fun r H'=>(∃X B,EithIs p q n k X B/\r = .tuple [.agg (cPt X),.bool B])/\H'=H):=by
 have hn16:=Y5 cp np;have hk16:=Y5 cq nq;refine Cb.body (n:=70) Ai Tryz.func6 rfl rfl rfl ?_;refine AW.seq (AW.region (AOL.Aag (Bt (v:=.agg _) (cs:=[.int .i64 _,_,.int .i64 _,.int .i64 _,.int .i64 _,.int .i64 _,.int .i64 _,_,.int .i64 _,.int .i64 _,.int .i64 _,.int .i64 _,.int .i64 _,.str _]) rfl rfl rfl) rfl (AOL.Aag (Bt (v:=.agg _) (cs:=[.int .i64 _,_,.int .i64 _,.int .i64 _,.int .i64 _,.int .i64 _,.int .i64 _,_,.int .i64 _,.int .i64 _,.int .i64 _,.int .i64 _,.int .i64 _,.str _]) rfl rfl rfl) rfl ?_)));refine AOL.e (Bh (l:=[.int .i64 0,.sl 14 [],.int .i64 0,.int .i64 0,.int .i64 0,.int .i64 0,.int .i64 0,.sl 8 [],.int .i64 0,.int .i64 0,.int .i64 0,.int .i64 0,.int .i64 0,.str []]) (by kernel_rfl)) rfl ?_;rintro _ _ ⟨b4,rfl,rfl⟩;refine AOL.Aag (Ag (v:=.bool _) rfl) rfl (AOL.nil (Aa (AW.seq (AW.region (AOL.Aag (Ah (l:=[.int .i64 _,_,.int .i64 _,.int .i64 _,.int .i64 _,.int .i64 _,.int .i64 _,_,.int .i64 _,.int .i64 _,.int .i64 _,.int .i64 _,.int .i64 _,.str _]) Ai rfl rfl rfl rfl rfl) rfl ?_)))));refine AOL.Aag (Ak (by kernel_rfl) rfl rfl (vp▸aF hp cp)) rfl ?_;refine AOL.Aag (Ae (v:=.tuple _) rfl) rfl (AOL.Aag (A4 (v:=.int .i64 _) rfl rfl) rfl (AOL.Aag (A4 (v:=.int .i64 _) rfl rfl) rfl (AOL.Aag (A4 (v:=.int .i64 _) rfl rfl) rfl (AOL.Aag (Ag (v:=.int .i64 _) rfl) rfl (AOL.Aag (Ag (v:=.int .i64 _) rfl) rfl (AOL.Aag (Ag (v:=.int .i64 _) rfl) rfl (AOL.nil (Aa (AW.seq (AW.region (AOL.Aag (Ah (l:=[.int .i64 _,_,.int .i64 _,.int .i64 _,.int .i64 _,.int .i64 _,.int .i64 _,_,.int .i64 _,.int .i64 _,.int .i64 _,.int .i64 _,.int .i64 _,.str _]) Ai rfl rfl rfl rfl rfl) rfl ?_)))))))))));refine AOL.Aag (Ak (by kernel_rfl) rfl rfl (vq▸aF hq cq)) rfl ?_;refine AOL.Aag (Ae (v:=.tuple _) rfl) rfl (AOL.Aag (A4 (v:=.int .i64 _) rfl rfl) rfl (AOL.Aag (A4 (v:=.int .i64 _) rfl rfl) rfl (AOL.Aag (A4 (v:=.int .i64 _) rfl rfl) rfl (AOL.Aag (Ag (v:=.int .i64 _) rfl) rfl (AOL.Aag (Ag (v:=.int .i64 _) rfl) rfl (AOL.Aag (Ag (v:=.int .i64 _) rfl) rfl (AOL.nil (Aa (AW.seq (AW.region (AOL.Aag (Ag (v:=.val _) rfl) rfl ?_)))))))))));refine AOL.ghost (GS.row (t:=12) 3 1 rfl) ?_;refine AOL.nil (Aa (AW.seq (AW.seq (AW.region (AOL.Aag (Ae (v:=.int .i64 _) rfl) rfl (AOL.Aag (Ae (v:=.int .i64 _) rfl) rfl (AOL.nil (Aa (AW.block ?_)))))))));refine AW.loopS (fun (r:Nat×List (List AV)×Value)=>(⟨[(2,.ptr (cPt p)),(3,.ptr (cPt q)),(4,.val (.pointer (some ⟨b4,0,none⟩))),(6,.int .i64 (n:Int)),(8,.int .i64 0),(11,.int .i64 0),(12,.row r.2.2 1 r.2.1),(30,.int .i64 (k:Int)),(31,.int .i64 (r.1:Int))],.row r.2.2 r.2.1.length 3 1 :: .box b4 29 (cPt I4)::H,70⟩:St)) (fun r=>r.1<=k/\r.2.1=Gx ((Lc n k).take r.1)) (fun r=>k-r.1) ((0,[],.slice none 0 0)) ?_ (GS.weaken ⟨rfl,rfl,rfl,rfl,rfl,rfl,rfl,rfl,rfl,trivial⟩ (.refl _)) ?_
 . exact ⟨Bn _,rfl⟩
 rintro r hR;refine AW.seq (AW.region (AOL.Aag (B9 rfl rfl) rfl (AOL.nil (Aa (AW.seq (AW.cond (b:=_) rfl (fun hc1=>?_) (fun hc1=>?_)))))))
 .
  have hlt:r.1<k:=by have:=B2 hc1;omega
  have hsc:∀c∈r.2.1,Bm c=true:=by rw [hR.2];exact mA _
  have hrl:r.2.1.length<=16:=by rw [hR.2,Qv,Fr,Uk];omega
  refine AW.skip (Aa (AW.seq (AW.block (AW.seq (AW.region (AOL.Aag (Ae (v:=.int .i64 _) rfl) rfl (AOL.Aag (Ag (v:=.int .i64 _) rfl) rfl (AOL.nil (Aa (AW.region (AOL.Aag (Ae (v:=.row _ _ _) rfl) rfl (AOL.Aag (Ae (v:=.int .i64 _) rfl) rfl (AOL.Aag (Ae (v:=.int .i64 _) rfl) rfl ?_)))))))))))));refine AOL.Aag (Cc rfl rfl rfl (by constructor <;> omega)) rfl ?_;refine AOL.Aag (Bw (es:=[[.int .i64 _]]) Ai rfl rfl rfl rfl rfl rfl rfl rfl rfl) rfl ?_;refine AOL.e (I5 (k:=0) Ai rfl rfl rfl rfl rfl rfl rfl rfl (Hn rfl) (hsc) (by simp;omega) (by simp [maxLen];omega)) rfl ?_;rintro _ _ ⟨v39,rfl,rfl⟩;refine AOL.Aag (Ag (v:=.row _ _ _) rfl) rfl (AOL.nil (C9 (Aa (AW.region ?_))));refine AOL.Aag (Cc rfl rfl rfl (by constructor <;> omega)) rfl ?_;refine AOL.Aag (Ae (v:=.int .i64 _) rfl) rfl (AOL.nil (Aa ?_));refine ⟨(r.1+1,_,_),?_,?_,GS.weaken ⟨rfl,rfl,rfl,rfl,rfl,rfl,rfl,rfl,rfl,trivial⟩ (.refl _)⟩
  . exact ⟨hlt,by simp only;rw [rB hlt,hR.2]⟩
  simp only;omega
 have hes:r.2.1=Gx (Lc n k):=by rw [hR.2,show r.1=k by have:=C7 hc1;have:=hR.1;omega,It (by rw [Uk];exact Bi _)]
 refine AW.exit ?_;refine A1 (A1 (Cd (Aa ?_)));refine AW.seq (AW.region (AOL.Aag (Ah (l:=[.int .i64 _,_,.int .i64 _,.int .i64 _,.int .i64 _,.int .i64 _,.int .i64 _,_,.int .i64 _,.int .i64 _,.int .i64 _,.int .i64 _,.int .i64 _,.str _]) Ai rfl rfl rfl rfl rfl) rfl ?_));refine AOL.ghost (GS.unrow 12 rfl) ?_;refine AOL.Aag (Ae (v:=.sl _ _) rfl) rfl ?_;refine AOL.e (C2 (by kernel_rfl) rfl rfl ((pR (to:=Lc n k) (by rw [Uk];omega) hq hes _))) rfl ?_;rintro _ _ ⟨rfl,rfl⟩;refine AOL.Aag (Ae (v:=.tuple _) rfl) rfl (AOL.Aag (A4 (v:=.agg [.int .i64 _,_,.int .i64 _,.int .i64 _,.int .i64 _,.int .i64 _,.int .i64 _,_,.int .i64 _,.int .i64 _,.int .i64 _,.int .i64 _,.int .i64 _,.str _]) rfl rfl) rfl (AOL.Aag (A4 (v:=.int .i64 _) rfl rfl) rfl ?_));refine AOL.e (Bh (l:=[.int .i64 0,.sl 14 [],.int .i64 0,.int .i64 0,.int .i64 0,.int .i64 0,.int .i64 0,.sl 8 [],.int .i64 0,.int .i64 0,.int .i64 0,.int .i64 0,.int .i64 0,.str []]) (by kernel_rfl)) rfl ?_;rintro _ _ ⟨b14,rfl,rfl⟩;refine AOL.e (Ao (k:=0) (v:=.agg _) (cs':=[.int .i64 _,_,.int .i64 _,.int .i64 _,.int .i64 _,.int .i64 _,.int .i64 _,_,.int .i64 _,.int .i64 _,.int .i64 _,.int .i64 _,.int .i64 _,.str _]) (H2:=_::_::_::_) Ai rfl rfl rfl rfl (rfl) rfl rfl rfl rfl) rfl ?_;rintro _ _ ⟨rfl,rfl⟩;refine AOL.Aag (Ag (v:=.int .i64 _) rfl) rfl ?_;refine AOL.ghost (GS.Aaj (t:=14) 0 rfl rfl) ?_;refine AOL.nil (Aa (AW.seq (AW.seq (AW.region (AOL.Aag (Ae (v:=.int .i64 _) rfl) rfl (AOL.Aag (Fk rfl rfl) rfl (AOL.Aag (Ae (v:=.bool _) rfl) rfl (AOL.Aah (y:=.int .i64 _) _ [] rfl (Un.all trivial) (fun hG=>Ae (v:=.int .i64 _) rfl) rfl ?_))))))));refine AOL.Aah (y:=.bool _) _ [(50,_)] rfl (Un.all ⟨Zs.self _ _,trivial⟩) (fun hG=>Fk rfl rfl) rfl ?_;refine AOL.Aag (E7 rfl rfl rfl) rfl (AOL.Aag (Ae (v:=.bool _) rfl) rfl (AOL.Aah (y:=.int .i64 _) _ [] rfl (Un.all trivial) (fun hG=>Ae (v:=.int .i64 _) rfl) rfl ?_));refine AOL.Aah (y:=.bool _) _ [(54,_)] rfl (Un.all ⟨Zs.self _ _,trivial⟩) (fun hG=>Fk rfl rfl) rfl ?_;refine AOL.Aag (E7 rfl rfl rfl) rfl (AOL.nil (Aa (AW.cond (b:=_) rfl (fun hc2=>AW.seq (AW.region (AOL.Aag (C3 (l:=[.int .i64 _,_,.int .i64 _,.int .i64 _,.int .i64 _,.int .i64 _,.int .i64 _,_,.int .i64 _,.int .i64 _,.int .i64 _,.int .i64 _,.int .i64 _,.str _]) Ai rfl rfl rfl) rfl (AOL.e (Ao (k:=1) (v:=.agg _) (cs':=[.int .i64 _,_,.int .i64 _,.int .i64 _,.int .i64 _,.int .i64 _,.int .i64 _,_,.int .i64 _,.int .i64 _,.int .i64 _,.int .i64 _,.int .i64 _,.str _]) (H2:=_::_::_) Ai rfl rfl rfl rfl (rfl) rfl rfl rfl rfl) rfl ?_)))) (fun hc2=>?_))))
 .
  rintro _ _ ⟨rfl,rfl⟩;refine AOL.Aag (Ag (v:=.bool _) rfl) rfl (AOL.nil (Aa (AW.ret (Ap ?_))));refine ⟨.inr rfl,[.agg [.int .i64 _,_,.int .i64 _,.int .i64 _,.int .i64 _,.int .i64 _,.int .i64 _,_,.int .i64 _,.int .i64 _,.int .i64 _,.int .i64 _,.int .i64 _,.str _],.bool _],.cons (.box _ _ _ 1 _ _ _ _ rfl rfl rfl rfl rfl rfl) <| .cons (.tmp _ _ rfl) <| .nil,_,.cons _ (.cons _ (.refl _)),?_⟩;exact ⟨⟨_,_,sW,rfl⟩,rfl⟩
 have hrn:V2 (Lc n k) q=0:=by simpa using hc2
 have hpr:Pair p q n k:=⟨cp,cq,np,nq,hrn⟩;have hoth:Y8 (Lc n k) q=D0 (Lc n k) q:=by unfold Y8;rw [if_neg (by rw [hrn];decide)]
 have hmed:medP (Js p (Y8 (Lc n k) q)):=by rw [hoth];exact hpr.med hp hq
 have hnum:Np (n+k) (Js p (Y8 (Lc n k) q)):=by rw [hoth];exact hpr.numd
 refine AW.skip (Aa (AW.seq (AW.region (AOL.Aag (Ah (l:=[.int .i64 _,_,.int .i64 _,.int .i64 _,.int .i64 _,.int .i64 _,.int .i64 _,_,.int .i64 _,.int .i64 _,.int .i64 _,.int .i64 _,.int .i64 _,.str _]) Ai rfl rfl rfl rfl rfl) rfl (AOL.Aag (Ah (l:=[.int .i64 _,_,.int .i64 _,.int .i64 _,.int .i64 _,.int .i64 _,.int .i64 _,_,.int .i64 _,.int .i64 _,.int .i64 _,.int .i64 _,.int .i64 _,.str _]) Ai rfl rfl rfl rfl rfl) rfl (AOL.Aag (Bw (es:=[[.int .i64 _,_,.int .i64 _,.int .i64 _,.int .i64 _,.int .i64 _,.int .i64 _,_,.int .i64 _,.int .i64 _,.int .i64 _,.int .i64 _,.int .i64 _,.str _],[.int .i64 _,_,.int .i64 _,.int .i64 _,.int .i64 _,.int .i64 _,.int .i64 _,_,.int .i64 _,.int .i64 _,.int .i64 _,.int .i64 _,.int .i64 _,.str _]]) Ai rfl rfl rfl rfl rfl rfl rfl rfl rfl) rfl (AOL.Aag (C3 (l:=[.int .i64 _,_,.int .i64 _,.int .i64 _,.int .i64 _,.int .i64 _,.int .i64 _,_,.int .i64 _,.int .i64 _,.int .i64 _,.int .i64 _,.int .i64 _,.str _]) Ai rfl rfl rfl) rfl ?_)))))));refine AOL.e (C2 (by kernel_rfl) rfl rfl ((oV hpr.le hmed hnum _))) rfl ?_;rintro _ _ ⟨⟨xq,rfl⟩,rfl⟩;refine AOL.Aag (Ae (v:=.tuple _) rfl) rfl (AOL.Aag (A4 (v:=.agg [.int .i64 _,_,.int .i64 _,.int .i64 _,.int .i64 _,.int .i64 _,.int .i64 _,_,.int .i64 _,.int .i64 _,.int .i64 _,.int .i64 _,.int .i64 _,.str _]) rfl rfl) rfl (AOL.Aag (A4 (v:=_) rfl rfl) rfl (AOL.Aag (A4 (v:=.int .i64 _) rfl rfl) rfl ?_)));refine AOL.e (Bh (l:=[.int .i64 0,.sl 14 [],.int .i64 0,.int .i64 0,.int .i64 0,.int .i64 0,.int .i64 0,.sl 8 [],.int .i64 0,.int .i64 0,.int .i64 0,.int .i64 0,.int .i64 0,.str []]) (by kernel_rfl)) rfl ?_;rintro _ _ ⟨b16,rfl,rfl⟩;refine AOL.e (Ao (k:=0) (v:=.agg _) (cs':=[.int .i64 _,_,.int .i64 _,.int .i64 _,.int .i64 _,.int .i64 _,.int .i64 _,_,.int .i64 _,.int .i64 _,.int .i64 _,.int .i64 _,.int .i64 _,.str _]) (H2:=_::_::_::_) Ai rfl rfl rfl rfl (rfl) rfl rfl rfl rfl) rfl ?_;rintro _ _ ⟨rfl,rfl⟩;refine AOL.Aag (Ag (v:=_) rfl) rfl (AOL.Aag (Ag (v:=.int .i64 _) rfl) rfl ?_);refine AOL.ghost (GS.Aaj (t:=16) 0 rfl rfl) ?_;refine AOL.nil (Aa (AW.seq (AW.region (AOL.Aag (Ah (l:=[.int .i64 _,_,.int .i64 _,.int .i64 _,.int .i64 _,.int .i64 _,.int .i64 _,_,.int .i64 _,.int .i64 _,.int .i64 _,.int .i64 _,.int .i64 _,.str _]) Ai rfl rfl rfl rfl rfl) rfl (AOL.Aag (Ae (v:=.int .i64 _) rfl) rfl (AOL.Aag (Ez rfl rfl) rfl (AOL.e (Ao (k:=1) (v:=.agg _) (cs':=[.int .i64 _,_,.int .i64 _,.int .i64 _,.int .i64 _,.int .i64 _,.int .i64 _,_,.int .i64 _,.int .i64 _,.int .i64 _,.int .i64 _,.int .i64 _,.str _]) (H2:=_::_::_) Ai rfl rfl rfl rfl (rfl) rfl rfl rfl rfl) rfl ?_)))))));rintro _ _ ⟨rfl,rfl⟩;refine AOL.Aag (Ag (v:=.bool _) rfl) rfl (AOL.nil (Aa (AW.ret ?_)));refine ⟨.inr rfl,[.agg [.int .i64 _,_,.int .i64 _,.int .i64 _,.int .i64 _,.int .i64 _,.int .i64 _,_,.int .i64 _,.int .i64 _,.int .i64 _,.int .i64 _,.int .i64 _,.str _],.bool _],.cons (.box _ _ _ 1 _ _ _ _ rfl rfl rfl rfl rfl rfl) <| .cons (.tmp _ _ rfl) <| .nil,_,.cons _ (.cons _ (.refl _)),?_⟩
 exact ⟨⟨_,_,jU hpr hp hq hoth,rfl⟩,rfl⟩
def Tr (a b:List Dv)(k:Nat):List Dv:=if k=0 then a else b
theorem vP {a b:List Dv}{k:Nat}(h:k<2):([[.sl 5 (a.map C6)],[.sl 5 (b.map C6)]]:List (List AV))[((k:Nat):Int).toNat]? = some [.sl 5 ((Tr a b k).map C6)]:=by
 have:k=0\/k=1:=by omega
 rcases this with rfl | rfl <;> rfl
theorem vB {es:List (List AV)}{w:List Dv}(h:es=w.map C6)(hl:w.length<=1048576)(hs:∀d∈w,M4 d<=1048576):Al Tryz.prog 8 [.sl 5 es,.sl 5 (w.map C6)] (.bool true):=by
 subst h;exact pK w hl hs
theorem scEd (l:List Dv):∀c∈l.map C6,Bm c=true:=fun c hc=>by
 obtain ⟨d,_,rfl⟩:=B7.1 hc;rw [Ih];rfl
theorem tS {i:Int}{l:List Dv}{k:Nat}{d x:Dv}(h:l[k]? = some d)(hp:K4 i d=true)(hx:d.kids[0]? = some x):(I3 i (l.take (k+1))).map C6=(I3 i (l.take k)).map C6 ++ [cD x]:=by
 rw [zJ h hp hx,Cy,<-Ih];rfl
theorem pD {i:Int}{d:Dv}(h:K4 i d=true):∃x,d.kids[0]? = some x:=by
 unfold K4 at h;rw [Cq,beq_iff_eq,beq_iff_eq] at h;have:0<d.kids.length:=by omega
 exact ⟨_,List.getElem?_eq_getElem this⟩
theorem Xt {L:List Ev}{p q:Pt}{a b:List Dv}(ha:AllIs L p a)(hb:AllIs L q b)(k:Nat):(Tr a b k).length<=1048576/\∀d∈Tr a b k,M4 d<=1048576:=by
 unfold Tr;split
 . exact ⟨by have:=ha.len;omega,fun d hd=>by have:=ha.size d hd;omega⟩
 exact ⟨by have:=hb.len;omega,fun d hd=>by have:=hb.size d hd;omega⟩
theorem vQ {a b l:List Dv}(h:I3 0 l=a/\I3 1 l=b/\l.length=a.length+b.length){k:Nat}(hk:k<2):I3 (k:Int) l=Tr a b k:=by
 have:k=0\/k=1:=by omega
 rcases this with rfl | rfl
 . exact h.1
 exact h.2.1
theorem l_top (p q:Pt)(hp:medP p)(hq:medP q)(L:List Ev)(H:List HO):Cb Tryz.prog 3 H [.agg (cPt p),.agg (cPt q),.sl 5 (L.map Ec)] (fun r H'=>r = .bool true/\H'=H):=by
 refine Cb.body (n:=120) Ai Tryz.func3 rfl rfl rfl ?_;refine AW.seq (AW.region (AOL.Aag (Bt (v:=.agg _) (cs:=[.int .i64 _,_,.int .i64 _,.int .i64 _,.int .i64 _,.int .i64 _,.int .i64 _,_,.int .i64 _,.int .i64 _,.int .i64 _,.int .i64 _,.int .i64 _,.str _]) rfl rfl rfl) rfl (AOL.Aag (Bt (v:=.agg _) (cs:=[.int .i64 _,_,.int .i64 _,.int .i64 _,.int .i64 _,.int .i64 _,.int .i64 _,_,.int .i64 _,.int .i64 _,.int .i64 _,.int .i64 _,.int .i64 _,.str _]) rfl rfl rfl) rfl (AOL.Aag (Ag (v:=.bool _) rfl) rfl (AOL.nil (Aa (AW.seq (AW.seq (AW.region ?_)))))))));refine AOL.e (C2 (by kernel_rfl) rfl rfl ((tV _))) rfl ?_;rintro _ _ ⟨rfl,rfl⟩;refine AOL.Aag (F6 rfl) rfl (AOL.nil (Aa (AW.cond (b:=_) rfl (fun hc1=>?_) (fun hc1=>AW.skip (Aa (AW.seq (AW.seq (AW.region (AOL.Aag (Ah (l:=[.int .i64 _,_,.int .i64 _,.int .i64 _,.int .i64 _,.int .i64 _,.int .i64 _,_,.int .i64 _,.int .i64 _,.int .i64 _,.int .i64 _,.int .i64 _,.str _]) Ai rfl rfl rfl rfl rfl) rfl (AOL.Aag (Ae (v:=.sl _ _) rfl) rfl ?_))))))))))
 . cases hc1
 refine AOL.Aag (Ak (by kernel_rfl) rfl rfl (Ys p hp L)) rfl ?_;refine AOL.Aag (F6 rfl) rfl (AOL.Aag (Ae (v:=.bool _) rfl) rfl (AOL.Aah (y:=.agg _) _ [] rfl (Un.all trivial) (fun hG=>Ah (l:=[.int .i64 _,_,.int .i64 _,.int .i64 _,.int .i64 _,.int .i64 _,.int .i64 _,_,.int .i64 _,.int .i64 _,.int .i64 _,.int .i64 _,.int .i64 _,.str _]) Ai rfl rfl rfl rfl rfl) rfl ?_));refine AOL.Aah (y:=.sl _ _) _ [] rfl (Un.all trivial) (fun hG=>Ae (v:=.sl _ _) rfl) rfl ?_;refine AOL.Aah (y:=.bool _) _ [(27,_),(28,_)] rfl (Un.all ⟨Zs.self _ _,Zs.self _ _,trivial⟩) (fun hG=>Ak (by kernel_rfl) rfl rfl (Ys q hq L)) rfl ?_;refine AOL.Aah (y:=.bool _) _ [(29,_)] rfl (Un.all ⟨Zs.self _ _,trivial⟩) (fun hG=>F6 rfl) rfl ?_;refine AOL.Aag (E7 rfl rfl rfl) rfl (AOL.nil (Aa (AW.cond (b:=_) rfl (fun hc2=>AW.seq (AW.region (AOL.Aag (Ag (v:=.bool _) rfl) rfl (AOL.nil (Aa (AW.ret (Ap ?_))))))) (fun hc2=>?_))))
 .
  refine ⟨.inr rfl,[.bool _],.cons (.tmp _ _ rfl) <| .nil,_,.refl _,?_⟩;exact ⟨rfl,rfl⟩
 rw [Fv,Bb,Bb] at hc2;have hPp:=Vy hc2.1;have hPq:=Vy hc2.2;refine (aB hPp.chk).elim fun n hn=>?_
 refine (aB hPq.chk).elim fun k9 hk=>?_
 have vp:=hn.1;have np:=hn.2;have vq:=hk.1;have nq:=hk.2;refine AW.skip (Aa (AW.seq (AW.region (AOL.Aag (Ah (l:=[.int .i64 _,_,.int .i64 _,.int .i64 _,.int .i64 _,.int .i64 _,.int .i64 _,_,.int .i64 _,.int .i64 _,.int .i64 _,.int .i64 _,.int .i64 _,.str _]) Ai rfl rfl rfl rfl rfl) rfl (AOL.Aag (Ah (l:=[.int .i64 _,_,.int .i64 _,.int .i64 _,.int .i64 _,.int .i64 _,.int .i64 _,_,.int .i64 _,.int .i64 _,.int .i64 _,.int .i64 _,.int .i64 _,.str _]) Ai rfl rfl rfl rfl rfl) rfl ?_)))));refine AOL.e (C2 (by kernel_rfl) rfl rfl ((oA p q hp hq hPp.chk hPq.chk n k9 vp vq np nq _))) rfl ?_;rintro _ _ ⟨⟨X,B,hXB,rfl⟩,rfl⟩;refine AOL.Aag (Ae (v:=.tuple _) rfl) rfl (AOL.Aag (A4 (v:=.agg [.int .i64 _,_,.int .i64 _,.int .i64 _,.int .i64 _,.int .i64 _,.int .i64 _,_,.int .i64 _,.int .i64 _,.int .i64 _,.int .i64 _,.int .i64 _,.str _]) rfl rfl) rfl (AOL.Aag (A4 (v:=.bool _) rfl rfl) rfl ?_));refine AOL.e (Bh (l:=[.int .i64 0,.sl 14 [],.int .i64 0,.int .i64 0,.int .i64 0,.int .i64 0,.int .i64 0,.sl 8 [],.int .i64 0,.int .i64 0,.int .i64 0,.int .i64 0,.int .i64 0,.str []]) (by kernel_rfl)) rfl ?_;rintro _ _ ⟨b7,rfl,rfl⟩;refine AOL.e (Ao (k:=0) (v:=.agg _) (cs':=[.int .i64 _,_,.int .i64 _,.int .i64 _,.int .i64 _,.int .i64 _,.int .i64 _,_,.int .i64 _,.int .i64 _,.int .i64 _,.int .i64 _,.int .i64 _,.str _]) (H2:=_::_) Ai rfl rfl rfl rfl (rfl) rfl rfl rfl rfl) rfl ?_;rintro _ _ ⟨rfl,rfl⟩;refine AOL.Aag (Ag (v:=.bool _) rfl) rfl ?_;refine AOL.ghost (GS.Aaj (t:=7) 0 rfl rfl) ?_;refine AOL.nil (Aa (AW.seq (AW.seq (AW.region (AOL.Aag (Ae (v:=.bool _) rfl) rfl (AOL.Aag (F6 rfl) rfl (AOL.Aag (Ae (v:=.bool _) rfl) rfl (AOL.Aah (y:=.agg _) _ [] rfl (Un.all trivial) (fun hG=>Ah (l:=[.int .i64 _,_,.int .i64 _,.int .i64 _,.int .i64 _,.int .i64 _,.int .i64 _,_,.int .i64 _,.int .i64 _,.int .i64 _,.int .i64 _,.int .i64 _,.str _]) Ai rfl rfl rfl rfl rfl) rfl ?_))))))));refine AOL.Aah (y:=.sl _ _) _ [] rfl (Un.all trivial) (fun hG=>Ae (v:=.sl _ _) rfl) rfl ?_;refine AOL.Aah (y:=.bool _) _ [(41,_),(42,_)] rfl (Un.all ⟨Zs.self _ _,Zs.self _ _,trivial⟩) (fun hG=>Ak (by kernel_rfl) rfl rfl (Ys X hXB.med L)) rfl ?_;refine AOL.Aah (y:=.bool _) _ [(43,_)] rfl (Un.all ⟨Zs.self _ _,trivial⟩) (fun hG=>F6 rfl) rfl ?_;refine AOL.Aag (E7 rfl rfl rfl) rfl (AOL.nil (Aa (AW.cond (b:=_) rfl (fun hc3=>AW.seq (AW.region (AOL.Aag (Ag (v:=.bool _) rfl) rfl (AOL.nil (Aa (AW.ret (Ap ?_))))))) (fun hc3=>?_))))
 .
  refine ⟨.inr rfl,[.bool _],.cons (.tmp _ _ rfl) <| .nil,_,.refl _,?_⟩;exact ⟨rfl,rfl⟩
 rw [Fv,Bb,Bb] at hc3;have hPX:=Vy hc3.2;have hXi:=hXB.is hc3.1;refine AW.skip (Aa (AW.seq (AW.region (AOL.Aag (Ah (l:=[.int .i64 _,_,.int .i64 _,.int .i64 _,.int .i64 _,.int .i64 _,.int .i64 _,_,.int .i64 _,.int .i64 _,.int .i64 _,.int .i64 _,.int .i64 _,.str _]) Ai rfl rfl rfl rfl rfl) rfl (AOL.Aag (Ae (v:=.sl _ _) rfl) rfl ?_)))));refine AOL.e (C2 (by kernel_rfl) rfl rfl ((hPX.all hXB.med _))) rfl ?_;rintro _ _ ⟨⟨l,hl,rfl⟩,rfl⟩;refine AOL.Aag (Ae (v:=.tuple _) rfl) rfl (AOL.Aag (A4 (v:=.sl _ _) rfl rfl) rfl (AOL.Aag (A4 (v:=.int .i64 _) rfl rfl) rfl (AOL.Aag (Ag (v:=.sl _ _) rfl) rfl (AOL.Aag (Ag (v:=.int .i64 _) rfl) rfl (AOL.nil (Aa (AW.seq (AW.region (AOL.Aag (Ah (l:=[.int .i64 _,_,.int .i64 _,.int .i64 _,.int .i64 _,.int .i64 _,.int .i64 _,_,.int .i64 _,.int .i64 _,.int .i64 _,.int .i64 _,.int .i64 _,.str _]) Ai rfl rfl rfl rfl rfl) rfl (AOL.Aag (Ae (v:=.sl _ _) rfl) rfl ?_))))))))));refine AOL.e (C2 (by kernel_rfl) rfl rfl ((hPp.all hp _))) rfl ?_;rintro _ _ ⟨⟨a,ha,rfl⟩,rfl⟩;refine AOL.Aag (Ae (v:=.tuple _) rfl) rfl (AOL.Aag (A4 (v:=.sl _ _) rfl rfl) rfl (AOL.Aag (A4 (v:=.int .i64 _) rfl rfl) rfl (AOL.Aag (Ag (v:=.sl _ _) rfl) rfl (AOL.Aag (Ag (v:=.int .i64 _) rfl) rfl (AOL.nil (Aa (AW.seq (AW.region (AOL.Aag (Ah (l:=[.int .i64 _,_,.int .i64 _,.int .i64 _,.int .i64 _,.int .i64 _,.int .i64 _,_,.int .i64 _,.int .i64 _,.int .i64 _,.int .i64 _,.int .i64 _,.str _]) Ai rfl rfl rfl rfl rfl) rfl (AOL.Aag (Ae (v:=.sl _ _) rfl) rfl ?_))))))))));refine AOL.e (C2 (by kernel_rfl) rfl rfl ((hPq.all hq _))) rfl ?_;rintro _ _ ⟨⟨b,hb,rfl⟩,rfl⟩;rename_i H;refine AOL.Aag (Ae (v:=.tuple _) rfl) rfl (AOL.Aag (A4 (v:=.sl _ _) rfl rfl) rfl (AOL.Aag (A4 (v:=.int .i64 _) rfl rfl) rfl (AOL.Aag (Ag (v:=.sl _ _) rfl) rfl (AOL.Aag (Ag (v:=.int .i64 _) rfl) rfl (AOL.nil (Aa (AW.seq (AW.seq (AW.region (AOL.Aag (Ae (v:=.int .i64 _) rfl) rfl (AOL.Aag (Fk rfl rfl) rfl (AOL.Aag (Ae (v:=.bool _) rfl) rfl (AOL.Aah (y:=.int .i64 _) _ [] rfl (Un.all trivial) (fun hG=>Ae (v:=.int .i64 _) rfl) rfl ?_)))))))))))));refine AOL.Aah (y:=.bool _) _ [(67,_)] rfl (Un.all ⟨Zs.self _ _,trivial⟩) (fun hG=>Fk rfl rfl) rfl ?_;refine AOL.Aag (E7 rfl rfl rfl) rfl (AOL.Aag (Ae (v:=.bool _) rfl) rfl (AOL.Aah (y:=.int .i64 _) _ [] rfl (Un.all trivial) (fun hG=>Ae (v:=.int .i64 _) rfl) rfl ?_));refine AOL.Aah (y:=.bool _) _ [(71,_)] rfl (Un.all ⟨Zs.self _ _,trivial⟩) (fun hG=>Fk rfl rfl) rfl ?_;refine AOL.Aag (E7 rfl rfl rfl) rfl (AOL.nil (Aa (AW.cond (b:=_) rfl (fun hc4=>?_) (fun hc4=>?_))))
 . cases hc4
 have hkid:I3 0 l=a/\I3 1 l=b/\l.length=a.length+b.length:=nX hXi.1 hXi.2.1 (hXi.2.2▸hl) ha hb;have hll:=hl.len;have hal:=ha.len;have hbl:=hb.len;refine AW.skip (Aa (AW.seq (AW.seq (AW.region (AOL.Aag (Ae (v:=.sl _ _) rfl) rfl (AOL.Aag (Ae (v:=.sl _ _) rfl) rfl (AOL.Aag (Bw (es:=[[_],[_]]) Ai rfl rfl rfl rfl rfl rfl rfl rfl rfl) rfl (AOL.Aag (Av (n:=2) Ai rfl rfl rfl (rfl)) rfl (AOL.Aag (Ae (v:=.int .i64 _) rfl) rfl (AOL.nil (Aa (AW.block ?_))))))))))));refine AW.loopS (fun (k:Nat)=>(⟨[(9,.sl 5 (l.map C6)),(11,.sl 5 (a.map C6)),(13,.sl 5 (b.map C6)),(76,.sl 1 [[.sl 5 (a.map C6)],[.sl 5 (b.map C6)]]),(77,.int .i64 2),(78,.int .i64 (k:Int))],H,120⟩:St)) (fun k=>k<=2) (fun k=>2-k) (0) ?_ (GS.weaken ⟨rfl,rfl,rfl,rfl,rfl,rfl,trivial⟩ (.refl _)) ?_
 . exact Bn _
 rintro k hk9;refine AW.seq (AW.region (AOL.Aag (B9 rfl rfl) rfl (AOL.nil (Aa (AW.seq (AW.cond (b:=_) rfl (fun hc5=>?_) (fun hc5=>AW.exit ?_)))))))
 .
  have hk2:k<2:=by have:=B2 hc5;omega
  refine AW.skip (Aa (AW.seq (AW.block (AW.seq (AW.region (AOL.Aag (Ae (v:=.int .i64 _) rfl) rfl ?_))))));refine AOL.Aag (Am (c:=[.sl 5 ((Tr a b k).map C6)]) Ai rfl rfl rfl rfl rfl rfl (by omega) (vP hk2)) rfl ?_;refine AOL.Aag (Af (c:=.sl _ _) Ai rfl rfl rfl) rfl (AOL.Aag (Ag (v:=.int .i64 _) rfl) rfl (AOL.Aag (Ag (v:=.sl _ _) rfl) rfl (AOL.nil (Aa (AW.seq (AW.region (AOL.Aag (Ag (v:=.val _) rfl) rfl ?_)))))));refine AOL.ghost (GS.row (t:=17) 43 5 rfl) ?_;refine AOL.nil (Aa (AW.seq (AW.seq (AW.region (AOL.Aag (Ae (v:=.sl _ _) rfl) rfl ?_)))));refine AOL.Aag (Av (n:=l.length) Ai rfl rfl rfl (by simp)) rfl ?_;refine AOL.Aag (Ae (v:=.int .i64 _) rfl) rfl (AOL.nil (Aa (AW.block ?_)));refine AW.loopS (fun (r:Nat×List (List AV)×Value)=>(⟨[(9,.sl 5 (l.map C6)),(11,.sl 5 (a.map C6)),(13,.sl 5 (b.map C6)),(76,.sl 1 [[.sl 5 (a.map C6)],[.sl 5 (b.map C6)]]),(77,.int .i64 2),(78,.int .i64 (k:Int)),(15,.int .i64 (k:Int)),(16,.sl 5 ((Tr a b k).map C6)),(17,.row r.2.2 5 r.2.1),(83,.sl 5 (l.map C6)),(84,.int .i64 (l.length:Int)),(85,.int .i64 (r.1:Int))],.row r.2.2 r.2.1.length 43 5::H,120⟩:St)) (fun r=>r.1<=l.length/\r.2.1=(I3 (k:Int) (l.take r.1)).map C6) (fun r=>l.length-r.1) ((0,[],.slice none 0 0)) ?_ (GS.weaken ⟨rfl,rfl,rfl,rfl,rfl,rfl,rfl,rfl,rfl,rfl,rfl,rfl,trivial⟩ (.refl _)) ?_
  . exact ⟨Bn _,rfl⟩
  rintro r hRr;refine AW.seq (AW.region (AOL.Aag (B9 rfl rfl) rfl (AOL.nil (Aa (AW.seq (AW.cond (b:=_) rfl (fun hc6=>?_) (fun hc6=>?_)))))))
  .
   refine (Fa (l:=l) (k:=r.1) (by have:=B2 hc6;omega)).elim fun d hd=>?_
   have hltr:=Bj hd;have hsc:∀c∈r.2.1,Bm c=true:=by rw [hRr.2];exact scEd _
   have hrl:r.2.1.length<=4096:=by rw [hRr.2,B1];have h7:=zI (k:Int) (l.take r.1);rw [Fr] at h7;omega
   refine AW.skip (Aa (AW.seq (AW.block (AW.seq (AW.region ?_)))));refine AOL.Aag (Am (c:=cD d) Ai rfl rfl rfl rfl rfl rfl (by omega) (Ko hd)) rfl ?_;refine AOL.Aag (Ah (l:=[.int .i64 _,.int .i64 _,.int .i64 _,.int .i64 _,_]) Ai rfl rfl rfl rfl rfl) rfl ?_;refine AOL.e (Bh (l:=[.int .i64 0,.int .i64 0,.int .i64 0,.int .i64 0,.sl 5 []]) (by kernel_rfl)) rfl ?_;rintro _ _ ⟨b19,rfl,rfl⟩;refine AOL.e (Ao (k:=0) (v:=.agg _) (cs':=[.int .i64 _,.int .i64 _,.int .i64 _,.int .i64 _,_]) (H2:=_::_::_) Ai rfl rfl rfl rfl (rfl) rfl rfl rfl rfl) rfl ?_;rintro _ _ ⟨rfl,rfl⟩;refine AOL.ghost (GS.Aaj (t:=19) 0 rfl rfl) ?_;refine AOL.nil (Aa (AW.seq (AW.region (AOL.Aag (Ad (cs':=[.int .i64 _,_]) Ai rfl rfl rfl rfl rfl rfl) rfl (AOL.Aag (Af (c:=.int .i64 _) Ai rfl rfl rfl) rfl (AOL.Aag (Ae (v:=.int .i64 _) rfl) rfl (AOL.Aag (Ez rfl rfl) rfl (AOL.Aag (Ae (v:=.bool _) rfl) rfl (AOL.Aah (y:=.ptr _) _ [] rfl (Un.all trivial) (fun hG=>Ad (cs':=[_]) Ai rfl rfl rfl rfl rfl rfl) rfl ?_)))))))));refine AOL.Aah (y:=.sl _ _) _ [(94,_)] rfl (Un.all ⟨Zs.self _ _,trivial⟩) (fun hG=>Af (c:=.sl _ _) Ai rfl rfl rfl) rfl ?_;refine AOL.Aah (y:=.int .i64 _) _ [(95,_)] rfl (Un.all ⟨Zs.self _ _,trivial⟩) (fun hG=>Av Ai rfl rfl rfl rfl) rfl ?_;refine AOL.Aah (y:=.bool _) _ [(96,_)] rfl (Un.all ⟨Zs.self _ _,trivial⟩) (fun hG=>Ez rfl rfl) rfl ?_;refine AOL.Aag (Bc rfl rfl rfl) rfl (AOL.nil (Aa (AW.cond (b:=_) rfl (fun hc7=>?_) (fun hc7=>?_))))
   .
    have hpk:K4 (k:Int) d=true:=by unfold K4;rw [B1] at hc7;exact hc7
    refine (pD hpk).elim fun x hx=>?_
    have hltx:=Bj hx;refine AW.region (AOL.Aag (Ae (v:=.row _ _ _) rfl) rfl (AOL.Aag (Ad (cs':=[_]) Ai rfl rfl rfl rfl rfl rfl) rfl (AOL.Aag (Af (c:=.sl _ _) Ai rfl rfl rfl) rfl ?_)));refine AOL.Aag (Am (c:=cD x) Ai rfl rfl rfl rfl rfl rfl (by omega) (Ko hx)) rfl ?_;refine AOL.Aag (Ah (l:=[.int .i64 _,.int .i64 _,.int .i64 _,.int .i64 _,_]) Ai rfl rfl rfl rfl rfl) rfl (AOL.Aag (Bw (es:=[[.int .i64 _,.int .i64 _,.int .i64 _,.int .i64 _,_]]) Ai rfl rfl rfl rfl rfl rfl rfl rfl rfl) rfl ?_);refine AOL.e (I5 (k:=0) Ai rfl rfl rfl rfl rfl rfl rfl rfl (Hn rfl) (hsc) (by simp;omega) (by simp [maxLen];omega)) rfl ?_;rintro _ _ ⟨v105,rfl,rfl⟩;refine AOL.Aag (Ag (v:=.row _ _ _) rfl) rfl (AOL.nil (C9 (Aa (AW.region ?_))));refine AOL.Aag (Cc rfl rfl rfl (by constructor <;> omega)) rfl ?_;refine AOL.Aag (Ae (v:=.int .i64 _) rfl) rfl (AOL.nil (Aa ?_));refine ⟨(r.1+1,_,_),?_,?_,GS.weaken ⟨rfl,rfl,rfl,rfl,rfl,rfl,rfl,rfl,rfl,rfl,rfl,rfl,trivial⟩ (.refl _)⟩
    . exact ⟨hltr,by simp only;rw [tS hd hpk hx,hRr.2]⟩
    simp only;omega
   have hpk:K4 (k:Int) d=false:=by unfold K4;rw [B1] at hc7;exact hc7
   refine AW.skip (C9 (Aa (AW.region ?_)));refine AOL.Aag (Cc rfl rfl rfl (by constructor <;> omega)) rfl ?_;refine AOL.Aag (Ae (v:=.int .i64 _) rfl) rfl (AOL.nil (Aa ?_));refine ⟨(r.1+1,r.2.1,r.2.2),?_,?_,GS.weaken ⟨rfl,rfl,rfl,rfl,rfl,rfl,rfl,rfl,rfl,rfl,rfl,rfl,trivial⟩ (.refl _)⟩
   . exact ⟨hltr,by simp only;rw [tU hd hpk];exact hRr.2⟩
   simp only;omega
  have hes:r.2.1=(Tr a b k).map C6:=by rw [hRr.2,It (by have:=C7 hc6;omega),vQ hkid hk2]
  refine AW.exit ?_;refine A1 (A1 (Cd (Aa ?_)));refine AW.seq (AW.region ?_);refine AOL.ghost (GS.unrow 17 rfl) ?_;refine AOL.Aag (Ae (v:=.sl _ _) rfl) rfl (AOL.Aag (Ae (v:=.sl _ _) rfl) rfl ?_);refine AOL.Aag (Ak (by kernel_rfl) rfl rfl (vB hes (Xt ha hb k).1 (Xt ha hb k).2)) rfl ?_;refine AOL.Aag (F6 rfl) rfl (AOL.nil (Aa (AW.cond (b:=_) rfl (fun hc8=>?_) (fun hc8=>AW.skip (C9 (Aa (AW.region ?_)))))))
  . cases hc8
  refine AOL.Aag (Cc rfl rfl rfl (by constructor <;> omega)) rfl ?_;refine AOL.Aag (Ae (v:=.int .i64 _) rfl) rfl (AOL.nil (Aa ?_));refine ⟨k+1,?_,?_,GS.weaken ⟨rfl,rfl,rfl,rfl,rfl,rfl,trivial⟩ (.cons _ (.refl _))⟩
  . exact hk2
  omega
 refine A1 (A1 (Cd (Aa ?_)));refine AW.seq (AW.region (AOL.Aag (Ae (v:=.sl _ _) rfl) rfl ?_));refine AOL.Aag (Av (n:=l.length) Ai rfl rfl rfl (by simp)) rfl ?_;refine AOL.Aag (Ae (v:=.sl _ _) rfl) rfl ?_;refine AOL.Aag (Av (n:=a.length) Ai rfl rfl rfl (by simp)) rfl ?_;refine AOL.Aag (Ae (v:=.sl _ _) rfl) rfl ?_;refine AOL.Aag (Av (n:=b.length) Ai rfl rfl rfl (by simp)) rfl ?_;refine AOL.Aag (Cc rfl rfl rfl (by constructor <;> omega)) rfl ?_;refine AOL.Aag (Ez rfl rfl) rfl (AOL.Aag (Ag (v:=.bool _) rfl) rfl (AOL.nil (Aa (AW.ret ?_))));refine ⟨.inr rfl,[.bool _],.cons (.tmp _ _ rfl) <| .nil,_,.refl _,?_⟩;refine ⟨?_,rfl⟩;exact Eq.trans rfl (congrArg (fun z:Nat=>AV.bool ((z:Int)==(a.length:Int)+(b.length:Int))) hkid.2.2 |>.trans (congrArg AV.bool (by simp)))
open Go Go.Aw Go.ChangeShapes Go.WideShapes Go.ChangeAt Go.RowKit
theorem laid:laidOutB Tryz.prog=true:=by kernel_rfl
theorem own:ownKnob Tryz.prog.godebug=none:=by kernel_rfl
def jB:AV->Value
 | .str s=>.string ⟨s.toArray⟩
 | .int k n=>.int k n
 | .bool b=>.bool b
 | _=>.int .i64 0
def lQ (W:World)(gl:Nat)(l:List AV):Prop:=Rep Aw.g0 W (.pointer (some ⟨gl,0,none⟩)) (.ptr l)
def Y9:AV->Bool
 | .str s=>decide (s.length<=maxLen)
 | .int _ _=>true
 | .bool _=>true
 | _=>false
theorem kW {g:Gh}{w:World}{x:AV}(h:Y9 x=true):Rep g w (jB x) x:=by
 cases x <;> simp only [Y9,A2,Di] at h
 all_goals first | exact .int _ _ | exact .bool _ | exact V1 h
theorem yQ {W:World}{n:String}{gl:Nat}{cs:Array Value}{l:List AV}(hn:Tryz.prog.globalNamed n=some gl)(hv:W.var? Tryz.prog n=some cs)(hc:cs.toList=l.map jB)(hp:l.all Y9=true):lQ W gl l:=by
 have hcell:∀j,W.cell? ⟨gl,j,none⟩=cs[j]? :=fun j=>World.var?_cell hn hv j
 refine .ptr gl 0 _ (fun j=>(l[j]?.map jB).getD default) (fun j x hj=>?_) (fun j x hj=>?_)
 .
  refine ⟨trivial,?_⟩;rw [Cg,hcell j,<-Array.getElem?_toList,hc,List.getElem?_map,hj];simp
 simp only [hj,E4,K7];exact kW (List.all_eq_true.1 hp _ (A0 hj))
theorem mC {α β:Type}(k:Nat)(f:α->List β)(hf:∀x,(f x).length=k):∀(ss:List α) (cs:List β),cs.length=k*ss.length->(∀i x,ss[i]? = some x->(cs.drop (i*k)).take k=f x)->cs=ss.flatMap f
  | [],cs,hl,_=>by simpa using hl
  | x::ss,cs,hl,h=>by
    have h0:=h 0 x rfl;rw [Nat.zero_mul,List.drop_zero] at h0
    have ih:=mC k f hf ss (cs.drop k) (by rw [Na,hl,Eb,Nat.mul_succ];omega) fun i y hy=>by
      have:=h (i+1) y (by simpa using hy)
      rwa [List.drop_drop,show k+i*k=(i+1)*k by rw [Nat.succ_mul,Nat.add_comm]]
    rw [G8,<-ih,<-h0,Iv]
theorem Tw {H:Type}{enc:TypeId×Value->H}{P:Program}{w:World}{base:Nat}{sp:Nat->Bool}{held:Bool}{fuel:Nat}{t e:TypeId}{n:Nat}{cs:List Value}{ss:List Shp}{p:List MemPlace}{f0 f1 f2 f3 f4 f5:Field}
    (ht:P.underlying t=some (.array n e)) (he:P.underlying e=some (.struct #[f0,f1,f2,f3,f4,f5])) (ho:f0.offset=0/\f1.offset=1/\f2.offset=2/\f3.offset=3/\f4.offset=4/\f5.offset=5)
    (t0:P.underlying f0.type=some (.int .i64)) (t1:P.underlying f1.type=some (.int .i64)) (t2:P.underlying f2.type=some .bool) (t3:P.underlying f3.type=some .bool) (t4:P.underlying f4.type=some .bool) (t5:P.underlying f5.type=some .bool)
    (hcc:P.cellsOf f0.type=1/\P.cellsOf f1.type=1/\P.cellsOf f2.type=1/\P.cellsOf f3.type=1/\P.cellsOf f4.type=1/\P.cellsOf f5.type=1) (hce:P.cellsOf e=6) (hct:P.cellsOf t=n*6)
    (h:DataW.trod enc P w base sp held fuel t cs=some (.agg (ss.map fun s=>.agg [.lit (.int .i64 s.least),.lit (.int .i64 s.most),.lit (.bool s.typed),.lit (.bool s.cond),.lit (.bool s.scope),.lit (.bool s.span)]),p)) :
    cs=ss.flatMap fun s=>[Value.int .i64 s.least,.int .i64 s.most,.bool s.typed,.bool s.cond,.bool s.scope,.bool s.span]:=by
  cases fuel with
  | zero=>simp [DataW.trod] at h
  | succ fuel=>
    simp only [DataW.trod,ht,hce,hct] at h;split at h
    . rename_i hl
      obtain ⟨xs,hm,hx⟩:=Option.map_eq_some_iff.1 h
      have hxs:xs.map (·.1)=ss.map fun s=>(DataW.agg [.lit (.int .i64 s.least),.lit (.int .i64 s.most),.lit (.bool s.typed),.lit (.bool s.cond),.lit (.bool s.scope),.lit (.bool s.span)]:DataW H):=by
        have:=congrArg Prod.fst hx;simpa using this
      have hxl:xs.length=n:=by simpa using Lib.mapM_length hm
      have hzl:ss.length=n:=by
        have:=congrArg List.length hxs;simp at this;omega
      apply mC 6 _ (fun _=>rfl)
      . omega
      intro i x hi;have hin:i<n:=by have:=(List.getElem?_eq_some_iff.1 hi).1;omega
      obtain ⟨b,hb,hf⟩:=Lib.mapM_at hm i i (by simp [hin]);obtain ⟨ys,m,_,rfl,hlen,hyl,hfs⟩:=DataW.trod_struct he hf
      match ys,hyl with
      | [y0,y1,y2,y3,y4,y5],_=>
        obtain ⟨o0,o1,o2,o3,o4,o5⟩:=ho;obtain ⟨c0,c1,c2,c3,c4,c5⟩:=hcc;obtain ⟨k0,e0,rfl,_⟩:=DataW.trod_int t0 (show _=some y0 by simpa using hfs 0 f0 rfl);obtain ⟨k1,e1,rfl,_⟩:=DataW.trod_int t1 (show _=some y1 by simpa using hfs 1 f1 rfl);obtain ⟨k2,e2,rfl⟩:=DataW.trod_bool t2 (show _=some y2 by simpa using hfs 2 f2 rfl);obtain ⟨k3,e3,rfl⟩:=DataW.trod_bool t3 (show _=some y3 by simpa using hfs 3 f3 rfl);obtain ⟨k4,e4,rfl⟩:=DataW.trod_bool t4 (show _=some y4 by simpa using hfs 4 f4 rfl);obtain ⟨k5,e5,rfl⟩:=DataW.trod_bool t5 (show _=some y5 by simpa using hfs 5 f5 rfl);have h2:(xs.map (·.1))[i]? = some (DataW.agg [.lit (.int .i64 k0),.lit (.int .i64 k1),.lit (.bool k2),.lit (.bool k3),.lit (.bool k4),.lit (.bool k5)]:DataW H):=by simp [hb]
        rw [hxs] at h2;simp [hi] at h2;obtain ⟨q0,q1,q2,q3,q4,q5⟩:=h2;rw [o0,c0] at e0;rw [o1,c1] at e1;rw [o2,c2] at e2;rw [o3,c3] at e3;rw [o4,c4] at e4;rw [o5,c5] at e5;have hl2:((cs.drop (i*6)).take 6).length=6:=by rw [hlen,hce]
        match hq:(cs.drop (i*6)).take 6,hl2 with
        | [a,b,c,d,e,f],_=>
          rw [hq] at e0 e1 e2 e3 e4 e5;simp at e0 e1 e2 e3 e4 e5;subst e0 e1 e2 e3 e4 e5;simp [q0,q1,q2,q3,q4,q5]
    cases h
theorem lC {W : World} {r : List (String × DataW Unit)} {ps : List MemPlace} (h : DataW.LaidVars Tryz.prog W (("tidegate/pattern.shapes", Rows.laid_tidegate_pattern_shapes) :: r) ps) : lQ W 0 P6 /\ ∃ q, DataW.LaidVars Tryz.prog W r q := by
 obtain ⟨g',t',cs,fuel,p,q,hg',ht',hvar,hd,hr,_⟩:=h;obtain rfl := Option.some.inj ((show Tryz.prog.globalNamed "tidegate/pattern.shapes" = some 0 by kernel_rfl).symm.trans hg');obtain rfl:=Option.some.inj ((show (Tryz.prog.globals[0]?).map (·.type)=some 93 by kernel_rfl).symm.trans ht');have := Tw (ss := vF) (n := 11) (e := 92) (by kernel_rfl) (show Tryz.prog.underlying 92 = some (.struct #[⟨ "least", 3, 0, false, "", "tidegate/pattern", 0⟩, ⟨ "most", 3, 1, false, "", "tidegate/pattern", 8⟩, ⟨ "typed", 4, 2, false, "", "tidegate/pattern", 16⟩, ⟨ "cond", 4, 3, false, "", "tidegate/pattern", 17⟩, ⟨ "scope", 4, 4, false, "", "tidegate/pattern", 18⟩, ⟨ "span", 4, 5, false, "", "tidegate/pattern", 19⟩]) by kernel_rfl) ⟨rfl, rfl, rfl, rfl, rfl, rfl⟩ (by kernel_rfl) (by kernel_rfl) (by kernel_rfl) (by kernel_rfl) (by kernel_rfl) (by kernel_rfl) ⟨by kernel_rfl, by kernel_rfl, by kernel_rfl, by kernel_rfl, by kernel_rfl, by kernel_rfl⟩ (by kernel_rfl) (by kernel_rfl) hd;exact ⟨yQ (n := "tidegate/pattern.shapes") (by kernel_rfl) hvar (by rw [this]; rfl) (by decide), q, hr⟩
def Ss:List Int:=[1,10,100,1000,10000,100000,1000000,10000000,100000000,1000000000,10000000000,100000000000,1000000000000,10000000000000,100000000000000,1000000000000000,10000000000000000,100000000000000000,1000000000000000000,10000000000000000000]
theorem iW {W:World}{n:String}{d:DataW Unit}{r:List (String×DataW Unit)}{ps:List MemPlace}(h:DataW.LaidVars Tryz.prog W ((n,d)::r) ps):∃q,DataW.LaidVars Tryz.prog W r q:=by
 obtain ⟨g',t',cs,fuel,p,q,hg',ht',hvar,hd,hr,_⟩:=h;exact ⟨q,hr⟩
theorem Aad {W : World} {r : List (String × DataW Unit)} {ps : List MemPlace} (h : DataW.LaidVars Tryz.prog W (("internal/strconv.uint64pow10", Rows.laid_internal_strconv_uint64pow10) :: r) ps) : Lib.TabIs Tryz.prog W "internal/strconv.uint64pow10" .u64 Ss /\ ∃ q, DataW.LaidVars Tryz.prog W r q := by
 obtain ⟨g',t',cs,fuel,p,q,hg',ht',hvar,hd,hr,_⟩:=h;obtain rfl := Option.some.inj ((show Tryz.prog.globalNamed "internal/strconv.uint64pow10" = some 1 by kernel_rfl).symm.trans hg');obtain rfl:=Option.some.inj ((show (Tryz.prog.globals[1]?).map (·.type)=some 276 by kernel_rfl).symm.trans ht');have:=Lib.cells_of_tab (k:=.u64) (zs:=Ss) (n:=20) (e:=166) (by kernel_rfl) (by kernel_rfl) (by kernel_rfl) (by kernel_rfl) hd;refine ⟨?_,q,hr⟩;unfold Lib.TabIs;rw [hvar,<-this]
theorem pF {W : World} (h : Lib.TabIs Tryz.prog W "internal/strconv.uint64pow10" .u64 Ss) : ∃ T fr, W.heap[1]? = some (.cells (Ss.map fun z => Value.int .u64 z).toArray T fr) := by
 have e : Tryz.prog.globalNamed "internal/strconv.uint64pow10" = some 1 := by kernel_rfl
 unfold Lib.TabIs World.var? at h;rw [e] at h
 have hk:∀(X:Array Value) (o:Option Obj),(match o with | some (Obj.cells cs _ _)=>some cs | _=>none)=some X->∃T fr,o=some (Obj.cells X T fr):=by
  intro X o h
  match o,h with
  | some (Obj.cells cs T fr),h=>exact ⟨T,fr,by rw [Option.some.inj h]⟩
 exact hk _ _ h
theorem yR {W:World}(h:laidMet Tryz.prog Rows.topAlternativesAddUptoRow.laid W)(hS:W.ShapedOpen Tryz.prog):GlobOK Aw.g0 W:=by
  obtain ⟨ps,h,_⟩:=h;obtain ⟨ps,h⟩:=iW h;obtain ⟨ps,h⟩:=iW h;obtain ⟨ht,ps,h⟩:=Aad h;obtain ⟨hshapes,ps,h⟩:=lC h;refine ⟨fun p hp=>?_,fun p hp=>?_⟩
  . simp only [globals,Cz,List.not_mem_nil,or_false] at hp
    rcases hp with rfl | rfl
    . skip
      refine ⟨P1,rfl,?_⟩;have hcell : ∀ j, W.cell? ⟨1, j, none⟩ = (Ss.map fun z => Value.int .u64 z).toArray[j]? := fun j => World.var?_cell (show Tryz.prog.globalNamed "internal/strconv.uint64pow10" = some 1 by kernel_rfl) ht j
      have hs:P1=Ss.map fun z=>AV.int .u64 z:=rfl
      rw [hs];refine .ptr 1 0 _ (fun j=>Value.int .u64 (Ss.getD j 0)) (fun j x hj=>?_) (fun j x hj=>?_)
      . rw [List.getElem?_map] at hj
        cases hq:Ss[j]? with
        | none=>rw [hq] at hj;cases hj
        | some y=>
          refine ⟨trivial,?_⟩;rw [Cg,hcell j];simp [hq,List.getD_eq_getElem?_getD]
      . rw [List.getElem?_map] at hj
        cases hq:Ss[j]? with
        | none=>rw [hq] at hj;cases hj
        | some y=>
          rw [hq] at hj;simp only [E4,Option.some.injEq] at hj;subst hj;have e:Ss.getD j 0=y:=by rw [List.getD_eq_getElem?_getD,hq];rfl
          rw [e];exact .int _ _
    exact ⟨_,rfl,hshapes⟩
  . obtain rfl:=F3.1 hp
    exact ⟨rfl,pF ht⟩
def fO (k:IntKind)(l:List Int):Obj->Obj
 | .cells _ t frozen=>.cells (l.map fun z=>Value.int k z).toArray t frozen
 | o=>o
def wV (d:DataW Unit):List Int:=match d with
 | .agg l=>l.map fun | .lit (.int _ n)=>n | _=>0
 | _=>[]
def qK (l:List AV):Obj->Obj
 | .cells _ t frozen=>.cells (l.map jB).toArray t frozen
 | o=>o
noncomputable def laidWorld (os:Os):World:=
 { World.holding Tryz.prog os ⟨#[],#[],[]⟩ with heap:=(((((World.holding Tryz.prog os ⟨#[],#[],[]⟩).heap.modify 0 (qK P6)).modify 1 (fO .u64 Ss)).modify 2 (fO .u8 (wV Rows.laid_math_bits_deBruijn32tab))).modify 3 (fO .u8 (wV Rows.laid_math_bits_deBruijn64tab))) }
end Go.Proofs.YtkdhionilabokaaGreatDoor
namespace Go.Aw
open Go
section
variable {H:Type} {enc:TypeId×Value->H} {P:Program} {w:World} {sp:Nat->Bool} {hd:Bool} {B:DataW H->Nat} {BA:List (DataW H)->Nat}
end
end Go.Aw
namespace Go.Proofs.YtkdhionilabokaaGreatDoor
open Go Go.Aw
theorem Ib {H:Type}:Bulk (Rows.uptoBulk (H:=H)) Rows.uptoBulkAll where
 nil:=by simp [Rows.uptoBulkAll]
 cons:=by intro x r;simp [Rows.uptoBulkAll]
 agg:=by intro ps;simp [Rows.uptoBulk]
 slice:=by intro es sp;simp only [Rows.uptoBulk];omega
 str:=by intro s;simp [Rows.uptoBulk]
 one:=by
  intro d;cases d with
  | lit l=>cases l <;> simp [Rows.uptoBulk]
  | _=>simp [Rows.uptoBulk]
theorem u_V : Tryz.prog.underlying 25 = some (.struct #[⟨ "Kind", 3, 0, false, "", "", 0⟩, ⟨ "Num", 3, 1, false, "", "", 8⟩, ⟨ "Text", 9, 2, false, "", "", 16⟩]) := by kernel_rfl
theorem z_V:Tryz.prog.cellsOf 25=3:=by kernel_rfl
theorem u_Vs:Tryz.prog.underlying 47=some (.slice 25):=by kernel_rfl
theorem z_Vs:Tryz.prog.cellsOf 47=1:=by kernel_rfl
theorem u_E : Tryz.prog.underlying 27 = some (.struct #[⟨ "Op", 3, 0, false, "", "", 0⟩, ⟨ "Args", 23, 1, false, "", "", 8⟩, ⟨ "Var", 3, 2, false, "", "", 32⟩, ⟨ "Field", 3, 3, false, "", "", 40⟩, ⟨ "Kind", 3, 4, false, "", "", 48⟩, ⟨ "Value", 25, 5, false, "", "", 56⟩]) := by kernel_rfl
theorem z_E:Tryz.prog.cellsOf 27=8:=by kernel_rfl
theorem u_Es:Tryz.prog.underlying 23=some (.slice 27):=by kernel_rfl
theorem z_Es:Tryz.prog.cellsOf 23=1:=by kernel_rfl
theorem u_Ev : Tryz.prog.underlying 49 = some (.struct #[⟨ "Source", 3, 0, false, "", "", 0⟩, ⟨ "Seq", 3, 1, false, "", "", 8⟩, ⟨ "Type", 3, 2, false, "", "", 16⟩, ⟨ "Time", 3, 3, false, "", "", 24⟩, ⟨ "Values", 47, 4, false, "", "", 32⟩]) := by kernel_rfl
theorem z_Ev:Tryz.prog.cellsOf 49=5:=by kernel_rfl
theorem xE:Tryz.prog.underlying 30=some (.slice 49):=by kernel_rfl
theorem u_Pt : Tryz.prog.underlying 29 = some (.struct #[⟨ "Op", 3, 0, false, "", "", 0⟩, ⟨ "Args", 22, 1, false, "", "", 8⟩, ⟨ "Type", 3, 2, false, "", "", 32⟩, ⟨ "Var", 3, 3, false, "", "", 40⟩, ⟨ "Scope", 3, 4, false, "", "", 48⟩, ⟨ "Span", 3, 5, false, "", "", 56⟩, ⟨ "Cond", 27, 6, false, "", "", 64⟩]) := by kernel_rfl
theorem z_Pt:Tryz.prog.cellsOf 29=14:=by kernel_rfl
theorem u_Pts:Tryz.prog.underlying 22=some (.slice 29):=by kernel_rfl
theorem z_Pts:Tryz.prog.cellsOf 22=1:=by kernel_rfl
def I64 (n:Int):Prop:=-9223372036854775808<=n/\n<=9223372036854775807
theorem wf_I64 {n:Int}(h:(Lit.int .i64 n).wf=true):I64 n:=by
 have h1:(decide (-9223372036854775808<=n)&&decide (n<=9223372036854775807))=true:=h;simp only [Cq,Di] at h1;exact h1
theorem cW {α:Type}{f:α->Nat}(h:∀x,1<=f x):∀l:List α,l.length<=(l.map f).sum
 | []=>Bi _
 | a::r=>by have:=cW h r;have:=h a;simp only [Eb,Ba,Dq];omega
theorem cY {α:Type}{f:α->Nat}:∀{l:List α} {x:α},x∈l->f x<=(l.map f).sum
  | a::r,x,h=>by
    rcases Cz.1 h with rfl | h
    . simp only [Ba,Dq];omega
    have:=cY (f:=f) h;simp only [Ba,Dq];omega
def vN (v:Vl):Nat:=v.text.length+1
def evN (e:Ev):Nat:=(e.values.map vN).sum+1
def evsN (l:List Ev):Nat:=(l.map evN).sum+1
def ptB (p:Pt):Nat:=((Cw p).map fun x=>1+B3 x.cond).sum
theorem cG:∀l:List Pt,((l.flatMap Cw).map fun x=>1+B3 x.cond).sum=(l.map ptB).sum
 | []=>rfl
 | a::r=>by rw [G8,Cy,List.sum_append,cG r,Ba,Dq];rfl
theorem ptB_eq (p:Pt):ptB p=1+B3 p.cond+(p.args.map ptB).sum:=by
 rw [<-cG];unfold ptB;rw [In,Ba,Dq]
theorem iP {p:Pt}(h:ptB p<=1048576):medP p:=by
 unfold ptB at h;refine ⟨?_,fun x hx=>?_⟩
 .
  have:=cW (f:=fun x:Pt=>1+B3 x.cond) (fun x=>by omega) (Cw p);rw [Jw] at this;omega
 have:=cY (f:=fun x:Pt=>1+B3 x.cond) hx;omega
section
variable {H:Type} {enc:TypeId×Value->H} {w:World} {sp:Nat->Bool} {hd:Bool}
abbrev R (enc:TypeId×Value->H)(w:World)(sp:Nat->Bool)(hd:Bool){α:Type}(fuel:Nat)(t:TypeId)(f:α->List AV)(ok:α->Prop)(bk:α->Nat):Prop:=Rd enc Tryz.prog w sp hd Rows.uptoBulk fuel t f ok bk
theorem rI (fuel:Nat):R enc w sp hd fuel 3 (fun n:Int=>[.int .i64 n]) I64 (fun _=>1):=(Rd.int (k:=.i64) (by kernel_rfl) Ib).congr rfl (fun _ h=>wf_I64 h) (fun _=>Bi _)
theorem rS (fuel:Nat):R enc w sp hd fuel 9 (fun s:List UInt8=>[.str s]) (fun s=>s.length<=maxLen) (fun s=>s.length+1):=Rd.str (by kernel_rfl) Ib
theorem z3:Tryz.prog.cellsOf 3=1:=by kernel_rfl
theorem z9:Tryz.prog.cellsOf 9=1:=by kernel_rfl
theorem rV (fuel:Nat):R enc w sp hd fuel 25 cV (fun v=>I64 v.num) vN:=
 (Rd.struct' u_V Ib rfl (by kernel_rfl) (by kernel_rfl) fun m _=>Rds.cons Ib z3 (rI m) <| Rds.cons Ib z3 (rI m) <| Rds.cons Ib z9 (rS m) Rds.nil).map
  (fun x=>(⟨x.1,x.2.1,x.2.2.1⟩:Vl)) (fun _=>rfl) (fun _ h=>h.2.1) (fun _=>by simp only [vN];omega)
theorem aK:Ju=cE:=funext T9
theorem rE (fuel:Nat):R enc w sp hd fuel 27 cE (fun _=>True) B3:=by
  induction fuel using Nat.strongRecOn with
  | _ n ih=>
    exact (Rd.struct' u_E Ib rfl (by kernel_rfl) (by kernel_rfl) fun m hm=>Rds.cons Ib z3 (rI m) <| Rds.cons Ib z_Es (Rd.slice' (z:=8) u_Es z_E (by decide) Ib fun k hk=>ih k (Nat.lt_trans hk hm)) <|
      Rds.cons Ib z3 (rI m) <| Rds.cons Ib z3 (rI m) <| Rds.cons Ib z3 (rI m) <| Rds.cons Ib z_V (rV m) Rds.nil).map
      (fun x=>(⟨x.1,x.2.1,x.2.2.1,x.2.2.2.1,x.2.2.2.2.1,x.2.2.2.2.2.1⟩:Ex)) (fun x=>by simp [cE,cV,aK]) (fun _ _=>trivial) (fun x=>by rw [Ha];simp only;omega)
theorem rEv (fuel:Nat):R enc w sp hd fuel 49 Ec (fun _=>True) evN:=
 (Rd.struct' u_Ev Ib rfl (by kernel_rfl) (by kernel_rfl) fun m _=>Rds.cons Ib z3 (rI m) <| Rds.cons Ib z3 (rI m) <| Rds.cons Ib z3 (rI m) <| Rds.cons Ib z3 (rI m) <|
  Rds.cons Ib z_Vs (Rd.slice' (z:=3) u_Vs z_V (by decide) Ib fun k _=>rV k) Rds.nil).map
  (fun x=>(⟨x.1,x.2.1,x.2.2.1,x.2.2.2.1,x.2.2.2.2.1⟩:Ev)) (fun _=>rfl) (fun _ _=>trivial) (fun _=>by simp only [evN];omega)
theorem rEvs (fuel:Nat):R enc w sp hd fuel 30 Tu (fun _=>True) evsN:=
 (Rd.slice' (z:=5) xE z_Ev (by decide) Ib fun k _=>rEv k).congr rfl (fun _ _=>trivial) (fun _=>Bi _)
theorem mP:Ew=cPt:=funext Kp
theorem rPt (fuel:Nat):R enc w sp hd fuel 29 cPt (fun _=>True) ptB:=by
  induction fuel using Nat.strongRecOn with
  | _ n ih=>
    exact (Rd.struct' u_Pt Ib rfl (by kernel_rfl) (by kernel_rfl) fun m hm=>Rds.cons Ib z3 (rI m) <| Rds.cons Ib z_Pts (Rd.slice' (z:=14) u_Pts z_Pt (by decide) Ib fun k hk=>ih k (Nat.lt_trans hk hm)) <|
      Rds.cons Ib z3 (rI m) <| Rds.cons Ib z3 (rI m) <| Rds.cons Ib z3 (rI m) <| Rds.cons Ib z3 (rI m) <| Rds.cons Ib z_E (rE m) Rds.nil).map
      (fun x=>(⟨x.1,x.2.1,x.2.2.1,x.2.2.2.1,x.2.2.2.2.1,x.2.2.2.2.2.1,x.2.2.2.2.2.2.1⟩:Pt)) (fun x=>by simp [cPt,cE,cV,aK,mP]) (fun _ _=>trivial) (fun x=>by rw [ptB_eq];simp only;omega)
end
end Go.Proofs.YtkdhionilabokaaGreatDoor
namespace Go.Aw
open Go
section
variable {P:Program} {w:World} {r:Reach} {base:Nat} {t:TypeId} {v:Value}
end
end Go.Aw
