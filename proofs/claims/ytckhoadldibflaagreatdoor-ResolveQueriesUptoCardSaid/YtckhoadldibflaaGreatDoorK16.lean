/-
  Several texts in one: R13w, R20w, X12. No condition.
-/
import Derived.Test.YtckhoadldibflaaGreatDoorK01
import Derived.Test.YtckhoadldibflaaGreatDoorK08
import Derived.Test.YtckhoadldibflaaGreatDoorK15
import Derived.Test.YtckhoadldibflaaGreatDoorK10
import Derived.Test.YtckhoadldibflaaGreatDoorK12
import Derived.Test.YtckhoadldibflaaGreatDoorK11
import Derived.KernelRfl
import Derived.Test.YtckhoadldibflaaGreatDoorK09
import Derived.Test.YtckhoadldibflaaGreatDoorK05
set_option linter.unusedVariables false
set_option linter.unusedSimpArgs false
namespace Go.Proofs.YtckhoadldibflaaGreatDoor
open Go Go.Aw
set_option maxHeartbeats 12800000
set_option maxRecDepth 20000

theorem qT {p a:Pt}(hp:medP p)(h:a∈p.args):medP a:=⟨by have:=P6 h;have:=hp.n;omega,fun q hq=>hp.cond q (nd_mem h hq)⟩
theorem smPs_on {l m:List Pt}{k:Nat}{x y:Pt}(hx:l[k]? = some x)(hy:m[k]? = some y)(h:(!smP x y)=false):T6 (l.drop k) (m.drop k)=T6 (l.drop (k+1)) (m.drop (k+1)):=by
 rw [Ax hx,Ax hy,T6];exact Bi h
theorem smPs_no {l m:List Pt}{k:Nat}{x y:Pt}(hx:l[k]? = some x)(hy:m[k]? = some y)(h:(!smP x y)=true):T6 (l.drop k) (m.drop k)=false:=by
 rw [Ax hx,Ax hy,T6];exact if_pos h
theorem siL_on {l m:List Int}{k:Nat}{x y:Int}(hx:l[k]? = some x)(hy:m[k]? = some y)(h:(x != y)=false):yP (l.drop k) (m.drop k)=yP (l.drop (k+1)) (m.drop (k+1)):=by
 rw [Ax hx,Ax hy,yP];exact Bi h
theorem siL_no {l m:List Int}{k:Nat}{x y:Int}(hx:l[k]? = some x)(hy:m[k]? = some y)(h:(x != y)=true):yP (l.drop k) (m.drop k)=false:=by
 rw [Ax hx,Ax hy,yP];exact if_pos h
theorem map_at2 {l:List Pt}{k:Nat}{a:Pt}(h:l[k]? = some a):(l.map K8)[k]? = some (cPt a):=Um h
theorem prp_no {l:List Pt}{k:Nat}{a:Pt}(h:l[k]? = some a)(hp:decide (8≤a.op)=true):jA l=false:=by
 unfold jA;rw [show l.any (fun q=>decide (8≤q.op))=true from List.any_eq_true.2 ⟨a,B6 h,hp⟩];rfl
theorem n9_tot (L:Nat)(p:Pt)(hp:Gr p≤1048576):An Tryz.prog 111 [.agg (cPt p),.int .i64 (L:Int)] (.int .i64 (Mj L p:Nat)):=by
 induction p using Pt.ind
 rename_i p ih;have hal:=Mw p;refine An.body (n:=29) tok Tryz.func111 rfl rfl rfl fun H=>?_
 refine Ad (Qp (Ed Cu) (Qp Al (Bs (Qp Al (Ae (Rd (Qp Al (Ae (AW.block ?_)))))))));refine AW.Aam (fun (q:Nat×Nat)=>(⟨[(1,.int .i64 (L:Int)),(2,.ptr (cPt p)),(5,.int .i64 (q.2:Int)),(6,.int .i64 (q.1:Int))],H,29⟩:St)) (fun q=>q.1≤p.args.length∧Mj L p=K3 L (p.args.drop q.1) q.2∧q.2+((p.args.drop q.1).map Gr).sum≤Gr p) (fun q=>p.args.length-q.1) ((0,1)) ?_ Bv ?_
 · exact ⟨Dh _,qF L p,by rw [Sj,Ix];omega⟩
 rintro q hR;refine Rd (Qp Am (Qp (Qf Vx) (Qp B7 ?_)));refine Qp (Ai (n:=p.args.length) tok rfl rfl rfl (by simp)) ?_;refine Qp Bp (Qp A9 (Qg [] Qw Am (Qg [] Qw Am (AOL.Aal (y:=.bool _) _ [(13,_),(14,_)] rfl (uB.all ⟨Ent.Aak _ _,Ent.Aak _ _,trivial⟩) (fun hG=>jT rfl rfl) rfl ?_))));refine Qp Ea (Ae (Ao (fun hc1=>?_) fun hc1=>AW.exit ?_))
 ·
  simp only [G2] at hc1;obtain ⟨a,ha⟩:=By hc1.1;have hlt:=Bj ha;have hm:=B6 ha;have hsa:=P6 hm;have hle:q.2≤L:=by have:=Gv hc1.2;omega
  have h1:=kG q.2 ha;have h2:=jO L a;have h3:=hR.2.1;rw [Ax ha,K3,if_pos hle] at h3;have h4:=hR.2.2;refine A7 (AW.seq (AW.block (AW.region (Qp Am (Qp (Qf Vx) (Qp B7 (Qp Am ?_)))))));refine Qp (Aa (c:=Cu) tok rfl rfl rfl rfl rfl rfl (by omega) (Um ha)) ?_;refine Qp (Bo Cu) (Qp Am ?_);refine Qp (Qc rfl (ih a hm (by omega))) ?_;refine Qp Dl (Qp Al (Rk (AW.region (Qp Am (Qp Dl (Qp Al (Ae ?_)))))));refine ⟨(q.1+1,q.2+Mj L a),?_,?_,Bv⟩
  · exact ⟨hlt,h3,by simp only;omega⟩
  simp only;omega
 refine Bk (Ri (Ad (Qp Am (Qp Al (Rb ?_)))));refine Qr (Iq _) ?_
 have hx:q.2=Mj L p:=by
  rw [hR.2.1];simp only [Bool.and_eq_false_iff] at hc1;rcases hc1 with hc1 | hc1
  · rw [D8 hc1,K3]
  exact (mK (by have:=If hc1;omega)).symm
 exact Eq.trans rfl (congrArg (fun q:Nat=>AV.int .i64 (q:Int)) hx)
theorem n9_dep (p:Pt)(hp:Gr p≤1048576):An Tryz.prog 112 [.agg (cPt p)] (.int .i64 (Z8 p:Nat)):=by
 induction p using Pt.ind
 rename_i p ih;have hal:=Mw p;refine An.body (n:=22) tok Tryz.func112 rfl rfl rfl fun H=>?_
 refine Ad (Qp (Ed Cu) (Qp Al (Bs (Qp Al (Ae (Rd (Qp Al (Ae (AW.block ?_)))))))));refine AW.Aam (fun (q:Nat×Nat)=>(⟨[(1,.ptr (cPt p)),(3,.int .i64 (q.2:Int)),(4,.int .i64 (q.1:Int))],H,22⟩:St)) (fun q=>q.1≤p.args.length∧q.2=Tj (p.args.take q.1)) (fun q=>p.args.length-q.1) ((0,0)) ?_ Bv ?_
 · exact ⟨Dh _,by rw [hJ,Tj]⟩
 rintro q hR;refine Rd (Qp Am (Qp (Qf Vx) (Qp B7 ?_)));refine Qp (Ai (n:=p.args.length) tok rfl rfl rfl (by simp)) ?_;refine Qp Bp (Ae (Ao (fun hc1=>?_) fun hc1=>?_))
 ·
  obtain ⟨a,ha⟩:=By hc1;have hlt:=Bj ha;have hm:=B6 ha;have hsa:=P6 hm;refine A7 (AW.seq (AW.block (AW.region (Qp Am (Qp (Qf Vx) (Qp B7 (Qp Am ?_)))))));refine Qp (Aa (c:=Cu) tok rfl rfl rfl rfl rfl rfl (by omega) (Um ha)) ?_;refine Qp (Bo Cu) ?_;refine Qp (Qc rfl (ih a hm (by omega))) ?_;refine Qp (Tu rfl rfl) (Qp Al (Rk (AW.region (Qp Am (Qp Dl (Qp Al (Ae ?_)))))));refine ⟨(q.1+1,max q.2 (Z8 a)),?_,?_,GS.weaken ⟨rfl,congrArg (AV.int .i64) (jP q.2 (Z8 a)),rfl,trivial⟩ (.refl _)⟩
  · exact ⟨hlt,by simp only;rw [C2 ha,Wf,hR.2]⟩
  simp only;omega
 have hte:=Cn hc1;have hde:=hR.2;rw [hte] at hde;refine AW.exit ?_;refine Bk (Ri (Ad (Qp Am ?_)));refine Qp (qO rfl rfl rfl (by have:=dp_le p;rw [Z0,←hde] at this;constructor <;> omega)) ?_;refine Qp Al (Rb (Qr (Iq _) ?_));exact Eq.trans rfl (congrArg (fun q:Nat=>AV.int .i64 (q:Int)) (show q.2+1=Z8 p by rw [Z0,hde]))
theorem zJ (p:Pt)(hp:Gr p≤1048576):An Tryz.prog 53 [.agg (cPt p)] (.sl 14 ((F2 p).map K8)):=by
 induction p using Pt.ind
 rename_i p ih;have hal:=Mw p;refine An.body (n:=23) tok Tryz.func53 rfl rfl rfl fun H=>?_
 refine Ad (Qp (Ed Cu) (Qp (Be (z:=14) rfl) (Bs (Qp (Bo Cu) (Qe (F7 (es:=[Cu]) tok rfl rfl rfl rfl rfl rfl rfl rfl rfl) ?_)))));rintro _ _ ⟨v6,rfl,rfl⟩;refine Qp (A8 (v:=.row _ _ _) rfl) (Ae (Rd (Qp Al (Ae (AW.block ?_)))));refine AW.Aam (fun (q:Nat×List (List AV)×Value)=>(⟨[(1,.ptr (cPt p)),(3,.row q.2.2 14 q.2.1),(4,.int .i64 (q.1:Int))],.row q.2.2 q.2.1.length 38 14::H,23⟩:St)) (fun q=>q.1≤p.args.length∧q.2.1=(p::(p.args.take q.1).flatMap F2).map K8∧q.2.1.length=1+((p.args.take q.1).map Gr).sum) (fun q=>p.args.length-q.1) ((0,[cPt p],v6)) ?_ Bv ?_
 · exact ⟨Dh _,by simp [Ok],rfl⟩
 rintro q hR;refine Rd (Qp Am (Qp (Qf Vx) (Qp B7 ?_)));refine Qp (Ai (n:=p.args.length) tok rfl rfl rfl (by simp)) ?_;refine Qp Bp (Ae (Ao (fun hc1=>?_) fun hc1=>?_))
 ·
  obtain ⟨a,ha⟩:=By hc1;have hlt:=Bj ha;have hm:=B6 ha;have hsa:=P6 hm;have hsc:∀c∈q.2.1,Bc c=true:=by rw [hR.2.1];exact zT _
  have hz:=gM (p:=p) ha;have hz2:=hR.2.2;have hz3:=fH a;refine A7 (AW.seq (AW.block (AW.region (Qp (A0 (v:=.row _ _ _) rfl) (Qp (Qf Vx) (Qp B7 (Qp Am ?_)))))));refine Qp (Aa (c:=Cu) tok rfl rfl rfl rfl rfl rfl (by omega) (Um ha)) ?_;refine Qp (Bo Cu) ?_;refine Qp (Qc rfl (ih a hm (by omega))) ?_;refine Qe (B8 (k:=0) tok rfl rfl rfl rfl rfl rfl rfl rfl (zT _) (hsc) (by simp;omega) (by simp [maxLen];omega)) ?_;rintro _ _ ⟨v21,rfl,rfl⟩;refine Qp (A8 (v:=.row _ _ _) rfl) (Rk (AW.region (Qp Am (Qp Dl (Qp Al (Ae ?_))))));refine ⟨(q.1+1,q.2.1++(F2 a).map K8,v21),?_,?_,Bv⟩
  · exact ⟨hlt,by simp only;rw [C2 ha,hR.2.1];simp,by simp only;rw [C2 ha,Cb,hR.2.2];simp;omega⟩
  simp only;omega
 have hte:=Cn hc1;have hde:=hR.2.1;rw [hte] at hde;refine AW.exit ?_;refine Bk (Ri (Ad ?_));refine Qp (A0 (v:=.row _ _ _) rfl) ?_;refine AOL.ghost (GS.unrow 22 rfl) ?_;refine Qp Sr (Rb ?_);refine ⟨.inr rfl,[.sl _ _],.cons (.tmp _ _ rfl) <| .nil,.cons _ (.refl _),?_⟩;exact Eq.trans rfl (congrArg (AV.sl 14) (hde.trans (congrArg (List.map K8) (Rm p).symm)))
theorem Ze (p:Pt):An Tryz.prog 56 [.agg (cPt p)] (.bool (M0 p)):=by
 refine An.body (n:=11) tok Tryz.func56 rfl rfl rfl fun H=>?_
 refine Ad (Qp (Ed Cu) (Qp Au (Bs (Qp (Qf Cu) (Qp Bf (Qp Ap (Qp A9 (Qg [] Qw (Qf Cu) (Qg [(7,_)] Qw Bf (Qg [(8,_)] Qw Ap (Qp Cf (Qp Au (Rb (Qr (.bool _) ?_))))))))))))));rfl
theorem S0 (p:Pt):An Tryz.prog 57 [.agg (cPt p)] (.bool (Lx p)):=by
 refine An.body (n:=11) tok Tryz.func57 rfl rfl rfl fun H=>?_
 refine Ad (Qp (Ed Cu) (Qp Au (Bs (Qp (Qf Cu) (Qp Bf (Qp Ap (Qp A9 (Qg [] Qw (Qf Cu) (Qg [(7,_)] Qw Bf (Qg [(8,_)] Qw Ap (Qp Cf (Qp Au (Rb (Qr (.bool _) ?_))))))))))))));rfl
theorem nN (p:Pt):An Tryz.prog 55 [.agg (cPt p)] (.bool (Qm p)):=by
 refine An.body (n:=10) tok Tryz.func55 rfl rfl rfl fun H=>?_
 refine Ad (Qp (Ed Cu) (Qp Au (Bs (Qp (Qf Cu) (Qp Bf (Qp Ap (Qp A9 (Qg [] Qw (Bo Cu) (Qg [(7,_)] Qw (Qc rfl (Ze _)) (Qp Cf (Qp Au (Rb (Qr (.bool _) ?_)))))))))))));rfl
theorem n9_con (p:Pt):An Tryz.prog 184 [.agg (cPt p)] (.bool (nG p)):=by
 refine An.body (n:=10) tok Tryz.func184 rfl rfl rfl fun H=>?_
 refine Ad (Qp (Ed Cu) (Qp Au (Bs (Qp (Bo Cu) (Qp (Qc rfl (nN _)) (Qp A9 (Qg [] Qw (Qf Cu) (Qg [(6,_)] Qw Bf (Qg [(7,_)] Qw Ap (Qp Cf (Qp Au (Rb (Qr (.bool _) ?_)))))))))))));rfl
theorem n9_ari (p:Pt)(hl:p.args.length≤1048576):An Tryz.prog 183 [.agg (cPt p)] (.bool (Uy p)):=by
 refine An.body (n:=29) tok Tryz.func183 rfl rfl rfl fun H=>?_
 refine Ad (Qp (Ed Cu) (Qp Au (Ae (Rd (Qp (Qf Cu) (Qp Bf (Ae (AW.block (Ad (Qp Ap (Qp Au (Ae (Ao (fun hc1=>Ad (Qp (Qf Vx) (Qp B7 ?_))) fun hc1=>?_)))))))))))))
 ·
  refine Qp (Ai (n:=p.args.length) tok rfl rfl rfl (by simp)) ?_;refine Qp Ap (Qp Au (Ra (Qr (.bool _) ?_)));simp only [Ag,Uy,hc1,Q5,Sk,Md,Pw,↓reduceIte,B0,Bool.or_self]
 refine Rd (Qp Ap (Qp Au (Ae (Ao (fun hc2=>A7 (Ao (fun hc3=>Ad (Qp (Qf Vx) (Qp B7 ?_))) fun hc3=>Ad (Qp Ap (Qp Au (Ae (Ao (fun hc4=>Ad (Qp (Qf Vx) (Qp B7 ?_))) fun hc4=>Rf (Ad (Qp (Qf Vx) (Qp B7 ?_))))))))) fun hc2=>?_))))
 ·
  refine Qp (Ai (n:=p.args.length) tok rfl rfl rfl (by simp)) ?_;refine Qp Gb (Qp Au (Ra (Qr (.bool _) ?_)));simp only [Ag,Uy,hc1,hc2,hc3,Q5,Sk,Md,Pw,↓reduceIte,B0,Bool.or_self]
 ·
  refine Qp (Ai (n:=p.args.length) tok rfl rfl rfl (by simp)) ?_;refine Qp Ap (Qp Au (Ra (Qr (.bool _) ?_)))
  (exfalso;clear hl;simp_all;done)
 ·
  refine Qp (Ai (n:=p.args.length) tok rfl rfl rfl (by simp)) ?_;refine Qp Ap (Qp Au (Rb (Qr (.bool _) ?_)))
  (exfalso;clear hl;simp_all;done)
 refine Ad (Qp Ap (Qp Au (Ae (Ao (fun hc5=>A7 (Ao (fun hc6=>Ad (Qp (Qf Vx) (Qp B7 ?_))) fun hc6=>Ad (Qp Ap (Qp Au (Ae (Ao (fun hc7=>Ad (Qp (Qf Vx) (Qp B7 ?_))) fun hc7=>Rf (Ad (Qp (Qf Vx) (Qp B7 ?_))))))))) fun hc5=>?_))))
 ·
  refine Qp (Ai (n:=p.args.length) tok rfl rfl rfl (by simp)) ?_;refine Qp Gb (Qp Au (Ra (Qr (.bool _) ?_)));simp only [Ag,Uy,hc1,hc2,hc5,hc6,Q5,Sk,Md,Pw,↓reduceIte,B0,Bool.or_self]
 ·
  refine Qp (Ai (n:=p.args.length) tok rfl rfl rfl (by simp)) ?_;refine Qp Ap (Qp Au (Ra (Qr (.bool _) ?_)))
  (exfalso;clear hl;simp_all;done)
 ·
  refine Qp (Ai (n:=p.args.length) tok rfl rfl rfl (by simp)) ?_;refine Qp Ap (Qp Au (Rb (Qr (.bool _) ?_)))
  (exfalso;clear hl;simp_all;done)
 refine AW.region (Qp Ap (Qp Au (Ae (Ao (fun hc8=>Ad (Qp (Qf Vx) (Qp B7 ?_))) fun hc8=>Ad (Qp Ap (Qp Au (Ae (Ao (fun hc9=>Ad (Qp (Qf Vx) (Qp B7 ?_))) fun hc9=>Rf (Ad (Qp (Qf Vx) (Qp B7 ?_)))))))))))
 ·
  refine Qp (Ai (n:=p.args.length) tok rfl rfl rfl (by simp)) ?_;refine Qp Gb (Qp Au (Ra (Qr (.bool _) ?_)));simp only [Ag,Uy,hc1,hc2,hc5,hc8,Q5,Sk,Md,Pw,↓reduceIte,B0,Bool.or_self]
 ·
  refine Qp (Ai (n:=p.args.length) tok rfl rfl rfl (by simp)) ?_;refine Qp Ap (Qp Au (Ra (Qr (.bool _) ?_)));simp only [Ag,Uy,hc1,hc2,hc5,hc8,hc9,Q5,Sk,Md,Pw,↓reduceIte,B0,Bool.or_self]
 refine Qp (Ai (n:=p.args.length) tok rfl rfl rfl (by simp)) ?_;refine Qp Ap (Qp Au (Rb (Qr (.bool _) ?_)));simp only [Ag,Uy,hc1,hc2,hc5,hc8,hc9,Q5,Sk,Md,Pw,↓reduceIte,B0,Bool.or_self]
theorem eI (u:Bool)(n m:Int):An Tryz.prog 185 [.bool u,.int .i64 n,.int .i64 m] (.bool (mZ u n m)):=by
 refine An.body (n:=17) tok Tryz.func185 rfl rfl rfl fun H=>?_
 refine Ad (Qp Au (Bs (Qp A9 (Qp A9 (Qg [] Qw Am (Qg [(9,_)] Qw Bp (Qg [(10,_)] Qw A9 (Qg [] Qw Am (Qg [] Qw Am (AOL.Aal (y:=.bool _) _ [(12,_),(13,_)] rfl (uB.all ⟨Ent.Aak _ _,Ent.Aak _ _,trivial⟩) (fun hG=>Ss rfl rfl) rfl ?_))))))))));refine Qg [(11,_),(14,_)] Qw Cf (Qp Ea (Qp Au (Rb (Qr (.bool _) ?_))));rfl
theorem n9_node (p:Pt)(hc:Cg p.cond≤1048576)(hl:p.args.length≤1048576):An Tryz.prog 113 [.agg (cPt p)] (.int .i64 (yJ p)):=by
 refine An.body (n:=100) tok Tryz.func113 rfl rfl rfl fun H=>?_
 refine Ad (Qp (Ed Cu) (Qp Al (Ae (Rd (Qp (Qf Cu) (Qp Bf (Qp Bp (Qp A9 ?_))))))));refine Qg [] Qw (Qf Cu) (Qg [(11,_)] Qw Bf (Qg [(12,_)] Qw Do (Qp Cf (Ae (Ao (fun hc1=>Ad (Qp Al (Rc (Qr (Iq _) ?_)))) fun hc1=>A7 (Rd (Qp (Bo Cu) (Qp (Qc rfl (n9_ari p hl)) (Qp Ew (Ae (Ao (fun hc2=>Ad (Qp Al (Rc (Qr (Iq _) ?_)))) fun hc2=>A7 (AW.seq ?_))))))))))))
 · exact Eq.trans rfl (congrArg (fun q:Int=>AV.int .i64 q) (nd_1 hc1)).symm
 · exact Eq.trans rfl (congrArg (fun q:Int=>AV.int .i64 q) (nd_2 hc1 hc2)).symm
 refine Gi ?_;refine Qn 0 rfl (Bo Cu) (Qn 1 rfl (Qc rfl (nN _)) (Qn 2 rfl (Bo Cu) (Qn 3 rfl (Qc rfl (Ze _)) (Qn 4 rfl A9 (Qo 5 rfl [] Qw (Bo Cu) (Qo 6 rfl [(23,_)] Qw (Qc rfl (S0 _)) (Qn 7 rfl Cf (Qn 8 rfl (Bo Cu) (Qn 9 rfl (Qc rfl (n9_con _)) (Qn 10 rfl Au (Qn 11 rfl Au (Qn 12 rfl Au ?_))))))))))));refine Ej ?_;refine A5 (AW.seq (AW.seq ?_));refine Gi ?_;refine Qn 0 rfl A9 (Qn 1 rfl (Qf gjx) (Qn 2 rfl Bf (Qn 3 rfl (Qc rfl (eI _ _ _)) (Qn 4 rfl A9 (Qo 5 rfl [] Qw A9 (Qo 6 rfl [] Qw (Qf ghz) (Qo 7 rfl [(34,_)] Qw Bf ?_)))))));refine Hb.pure _ _ 8 _ _ rfl (by kernel_rfl) (by kernel_rfl) rfl (.opt _ (.bool _) [(33,_),(35,_)] rfl (uB.all ⟨Ent.Aak _ _,Ent.Aak _ _,trivial⟩) (fun hG=>Qc rfl (eI _ _ _)) rfl) ?_;refine Qn 9 rfl Cf (Qn 10 rfl A9 (Qo 11 rfl [] Qw A9 (Qo 12 rfl [] Qw (Qf uL) (Qo 13 rfl [(40,_)] Qw Bf ?_))));refine Hb.pure _ _ 14 _ _ rfl (by kernel_rfl) (by kernel_rfl) rfl (.opt _ (.bool _) [(39,_),(41,_)] rfl (uB.all ⟨Ent.Aak _ _,Ent.Aak _ _,trivial⟩) (fun hG=>Qc rfl (eI _ _ _)) rfl) ?_;refine Qn 15 rfl Cf (Qn 16 rfl A9 (Qo 17 rfl [] Qw (Bo Cu) (Qo 18 rfl [(45,_)] Qw (Qc rfl (S0 _)) (Qo 19 rfl [] Qw (Qf gjy) (Qo 20 rfl [(47,_)] Qw Bf ?_)))));refine Hb.pure _ _ 21 _ _ rfl (by kernel_rfl) (by kernel_rfl) rfl (.opt _ (.bool _) [(46,_),(48,_)] rfl (uB.all ⟨Ent.Aak _ _,Ent.Aak _ _,trivial⟩) (fun hG=>Qc rfl (eI _ _ _)) rfl) ?_;refine Qn 22 rfl Cf ?_;refine Ej ?_;refine A5 (Ao (fun hc3=>Ad (Qp Al (Rc (Qr (Iq _) ?_)))) fun hc3=>A7 (Rd (Qp A9 (Ae (Ao (fun hc4=>Ad (Qp bB (Qp Py ?_))) fun hc4=>A7 (Rd (Qp A9 (Qp Ew (Qp A9 (Qg [] Qw (Qf gjx) (Qg [(61,_)] Qw Bf (Qg [(62,_)] Qw Bu (Qg [(63,_)] Qw A9 ?_)))))))))))))
 · exact Eq.trans rfl (congrArg (fun q:Int=>AV.int .i64 q) (nd_3 hc1 hc2 hc3)).symm
 ·
  refine Qp (Qc rfl (e8c25 p.cond hc)) (Qp Al (Bs (Qp Am (Qp Bu (Ae (Ao (fun hc5=>Ad (Qp Am (Qp Al (Rc (Qr (Iq _) ?_))))) fun hc5=>A7 (Rd (Qp A9 (Qp Ew (Qp A9 (Qg [] Qw (Qf gjx) (Qg [(61,_)] Qw Bf (Qg [(62,_)] Qw Bu (Qg [(63,_)] Qw A9 ?_))))))))))))))
  · exact Eq.trans rfl (congrArg (fun q:Int=>AV.int .i64 q) (nd_4 hc1 hc2 hc3 hc4 hc5)).symm
  refine Qg [] Qw (Qf ghz) (Qg [(65,_)] Qw Bf (Qg [(66,_)] Qw Bu (Qg [(64,_),(67,_)] Qw Cf (Qp Ea (Qp A9 (Qg [] Qw A9 (Qg [(71,_)] Qw Ew (Qg [(72,_)] Qw A9 (Qg [] Qw (Qf uL) ?_)))))))));refine Qg [(74,_)] Qw Bf (Qg [(75,_)] Qw Bu (Qg [(73,_),(76,_)] Qw Ea (Qp Cf (Qp A9 (Qg [] Qw (Bo Cu) ?_)))));refine Qg [(80,_)] Qw (Qc rfl (S0 _)) (Qg [(81,_)] Qw Ew (Qg [(82,_)] Qw A9 (Qg [] Qw (Qf gjy) (Qg [(84,_)] Qw Bf (Qg [(85,_)] Qw Bu (Qg [(83,_),(86,_)] Qw Ea (Qp Cf (Qp A9 (Qg [] Qw A9 (Qg [(90,_)] Qw Ew ?_))))))))));refine Qg [(91,_)] Qw A9 (Qg [] Qw bB (Qg [(93,_)] Qw Py (Qg [] Qw (Du Ft) (AOL.Aal (y:=.bool _) _ [(94,_),(95,_)] rfl (uB.all ⟨Ent.Aak _ _,Ent.Aak _ _,trivial⟩) (fun hG=>Qc rfl (dN p.cond Ps hc)) rfl ?_))));refine Qg [(96,_)] Qw Ew (Qg [(92,_),(97,_)] Qw Ea (Qp Cf (Ae (Ao (fun hc6=>Ad (Qp Al (Rc (Qr (Iq _) ?_)))) fun hc6=>A7 (Ad (Qp Al (Rb (Qr (Iq _) ?_))))))))
  · exact Eq.trans rfl (congrArg (fun q:Int=>AV.int .i64 q) ((nd_n hc1 hc2 hc3 (by rw [hc5];simp)).trans (if_pos hc6))).symm
  exact Eq.trans rfl (congrArg (fun q:Int=>AV.int .i64 q) ((nd_n hc1 hc2 hc3 (by rw [hc5];simp)).trans (Bi hc6))).symm
 refine Qg [] Qw (Qf ghz) (Qg [(65,_)] Qw Bf (Qg [(66,_)] Qw Bu (Qg [(64,_),(67,_)] Qw Cf (Qp Ea (Qp A9 (Qg [] Qw A9 (Qg [(71,_)] Qw Ew (Qg [(72,_)] Qw A9 (Qg [] Qw (Qf uL) ?_)))))))));refine Qg [(74,_)] Qw Bf (Qg [(75,_)] Qw Bu (Qg [(73,_),(76,_)] Qw Ea (Qp Cf (Qp A9 (Qg [] Qw (Bo Cu) ?_)))));refine Qg [(80,_)] Qw (Qc rfl (S0 _)) (Qg [(81,_)] Qw Ew (Qg [(82,_)] Qw A9 (Qg [] Qw (Qf gjy) (Qg [(84,_)] Qw Bf (Qg [(85,_)] Qw Bu (Qg [(83,_),(86,_)] Qw Ea (Qp Cf (Qp A9 (Qg [] Qw A9 (Qg [(90,_)] Qw Ew ?_))))))))));refine Qg [(91,_)] Qw A9 (Qg [] Qw bB (Qg [(93,_)] Qw Py (Qg [] Qw (Du Ft) (AOL.Aal (y:=.bool _) _ [(94,_),(95,_)] rfl (uB.all ⟨Ent.Aak _ _,Ent.Aak _ _,trivial⟩) (fun hG=>Qc rfl (dN p.cond Ps hc)) rfl ?_))));refine Qg [(96,_)] Qw Ew (Qg [(92,_),(97,_)] Qw Ea (Qp Cf (Ae (Ao (fun hc7=>Ad (Qp Al (Rc (Qr (Iq _) ?_)))) fun hc7=>A7 (Ad (Qp Al (Rb (Qr (Iq _) ?_))))))))
 · exact Eq.trans rfl (congrArg (fun q:Int=>AV.int .i64 q) ((nd_n hc1 hc2 hc3 (by rw [hc4];rfl)).trans (if_pos hc7))).symm
 exact Eq.trans rfl (congrArg (fun q:Int=>AV.int .i64 q) ((nd_n hc1 hc2 hc3 (by rw [hc4];rfl)).trans (Bi hc7))).symm
theorem n9_rest (p:Pt)(hp:medP p):An Tryz.prog 52 [.agg (cPt p)] (.int .i64 (Xz p)):=by
 have hnl:(F2 p).length≤1048576:=by rw [fH];exact hp.n
 refine An.body (n:=28) tok Tryz.func52 rfl rfl rfl fun H=>?_
 refine Ad (Qp (Ed Cu) (Qp Al (Ae (Rd (Qp (Bo Cu) ?_)))));refine Qp (Qc rfl (n9_tot 64 p hp.n)) (Qp Do (Ae (Ao (fun hc1=>Ad (Qp Al (Rc (Qr (Iq _) ?_)))) fun hc1=>A7 (Rd (Qp (Bo Cu) (Qp (Qc rfl (n9_dep p hp.n)) (Qp Do (Ae (Ao (fun hc2=>Ad (Qp Al (Rc (Qr (Iq _) ?_)))) fun hc2=>A7 (Ad (Qp (Bo Cu) (Qp (Qc rfl (zJ p hp.n)) (Qp Sr (Ae (Rd (Qp Al (Ae (AW.block ?_))))))))))))))))))
 · exact Eq.trans rfl (congrArg (fun q:Int=>AV.int .i64 q) (rr_1 hc1)).symm
 · exact Eq.trans rfl (congrArg (fun q:Int=>AV.int .i64 q) (rr_2 hc1 hc2)).symm
 refine AW.Aam (fun (k:Nat)=>(⟨[(3,.sl 14 ((F2 p).map K8)),(4,.int .i64 (k:Int))],H,28⟩:St)) (fun k=>k≤(F2 p).length∧((F2 p).take k).any (fun q=>yJ q != 0)=false) (fun k=>(F2 p).length-k) (0) ?_ Bv ?_
 · exact ⟨Dh _,by simp⟩
 rintro k hR;refine Rd (Qp Am (Qp Fh ?_));refine Qp (Ai (n:=(F2 p).length) tok rfl rfl rfl (by simp)) ?_;refine Qp Bp (Ae (Ao (fun hc3=>?_) fun hc3=>?_))
 ·
  obtain ⟨a,ha⟩:=By hc3;have hlt:=Bj ha;have hm:=B6 ha;refine A7 (AW.seq (AW.block (Ad (Qp Fh (Qp Am ?_)))));refine Qp (Aa (c:=Cu) tok rfl rfl rfl rfl rfl rfl (by omega) (Ub ha)) ?_;refine Qp (Bo Cu) (Qp (Qc rfl (n9_node a (hp.len a hm).1 (hp.len a hm).2)) (Qp Al (Bs (Qp Am (Qp Bu (Ae (Ao (fun hc4=>Ad (Qp Am (Qp Al (Ra (Av (B9 (Av (Qr (Iq _) ?_)))))))) fun hc4=>Rf (AW.region (Qp Am (Qp Dl (Qp Al (Ae ?_))))))))))))
  · exact Eq.trans rfl (congrArg (fun q:Int=>AV.int .i64 q) ((rr_3 hc1 hc2).trans (bV ha hR.2 hc4))).symm
  refine ⟨k+1,?_,?_,Bv⟩
  · exact ⟨hlt,Gu hR.2 ha hc4⟩
  omega
 have hte:=Cn hc3;have hall:=hR.2;rw [hte] at hall;refine AW.exit ?_;refine Bk (Ri (Ad (Qp Al (Rb ?_))));refine Qr (Iq _) ?_;exact Eq.trans rfl (congrArg (fun q:Int=>AV.int .i64 q) ((rr_3 hc1 hc2).trans (Za hall))).symm
theorem n9_prp (l:List Pt)(hl:l.length≤1048576):An Tryz.prog 54 [.sl 14 (l.map K8)] (.bool (jA l)):=by
 refine An.body (n:=16) tok Tryz.func54 rfl rfl rfl fun H=>?_
 refine Ad (Qp Au (Ae (Rd (Qp Al (Ae (AW.block ?_))))));refine AW.Aam (fun (k:Nat)=>(⟨[(0,.sl 14 (l.map K8)),(3,.int .i64 (k:Int))],H,16⟩:St)) (fun k=>k≤l.length∧(l.take k).any (fun q=>decide (8≤q.op))=false) (fun k=>l.length-k) (0) ?_ Bv ?_
 · exact ⟨Dh _,by simp⟩
 rintro k hR;refine Rd (Qp Am (Qp Fh ?_));refine Qp (Ai (n:=l.length) tok rfl rfl rfl (by simp)) ?_;refine Qp Bp (Ae (Ao (fun hc1=>?_) fun hc1=>?_))
 ·
  obtain ⟨a,ha⟩:=By hc1;have hlt:=Bj ha;have hm:=B6 ha;refine A7 (AW.seq (AW.block (Ad (Qp Fh (Qp Am ?_)))));refine Qp (Aa (c:=Cu) tok rfl rfl rfl rfl rfl rfl (by omega) (map_at2 ha)) ?_;refine Qp (Qf Cu) (Qp Bf (Qp Gb (Ae (Ao (fun hc2=>Ad (Qp Au (Ra (Av (B9 (Av (Qr (.bool _) ?_))))))) fun hc2=>Rf (AW.region (Qp Am (Qp Dl (Qp Al (Ae ?_)))))))))
  · exact Eq.trans rfl (congrArg (fun q:Bool=>AV.bool q) (prp_no ha hc2)).symm
  refine ⟨k+1,?_,?_,Bv⟩
  · exact ⟨hlt,Gu hR.2 ha hc2⟩
  omega
 have hte:=Cn hc1;have hall:=hR.2;rw [hte] at hall;refine AW.exit ?_;refine Bk (Ri (Ad (Qp Au (Rb ?_))));refine Qr (.bool _) ?_;exact Eq.trans rfl (congrArg (fun q:Bool=>AV.bool q) ((congrArg not hall:jA l=true))).symm
theorem uS (p:Pt)(hp:medP p):An Tryz.prog 18 [.agg (cPt p)] (.int .i64 (sM p)):=by
 have hnl:(F2 p).length≤1048576:=by rw [fH];exact hp.n
 refine An.body (n:=59) tok Tryz.func18 rfl rfl rfl fun H=>?_
 refine Ad (Qp (Ed Cu) (Qp Al (Ae (Rd (Qp (Bo Cu) (Qp (Qc rfl (n9_rest p hp)) (Qp Al (Bs (Qp Am (Qp Bu (Ae (Ao (fun hc1=>Ad (Qp Am (Qp Al (Rc (Qr (Iq _) ?_))))) fun hc1=>?_))))))))))))
 · exact Eq.trans rfl (congrArg (fun q:Int=>AV.int .i64 q) (cr_1 hc1)).symm
 refine A7 (Ad (Qp (Bo Cu) (Qp (Qc rfl (zJ p hp.n)) (Qp Sr (Ae (Rd (Qp Fh (Qp (Qc rfl (n9_prp (F2 p) hnl)) (Qp Ew (Ae (Ao (fun hc2=>Ad (Qp Al (Rc (Qr (Iq _) ?_)))) fun hc2=>A7 (Ad (Qp Al (Qp Al (Ae (Rd (Qp Al (Ae (AW.block ?_)))))))))))))))))))
 · exact Eq.trans rfl (congrArg (fun q:Int=>AV.int .i64 q) (cr_2 hc1 hc2)).symm
 refine AW.Aam (fun (q:Nat×Int×Int)=>(⟨[(4,.sl 14 ((F2 p).map K8)),(5,.int .i64 q.2.1),(6,.int .i64 q.2.2),(7,.int .i64 (q.1:Int))],H,59⟩:St)) (fun q=>q.1≤(F2 p).length∧Yg 0 0 (F2 p)=Yg q.2.1 q.2.2 ((F2 p).drop q.1)∧0≤q.2.1∧q.2.1≤q.1∧0≤q.2.2∧q.2.2≤q.1) (fun q=>(F2 p).length-q.1) ((0,0,0)) ?_ Bv ?_
 · exact ⟨Dh _,rfl,Uh _,Uh _,Uh _,Uh _⟩
 rintro q hR;refine Rd (Qp Am (Qp Fh ?_));refine Qp (Ai (n:=(F2 p).length) tok rfl rfl rfl (by simp)) ?_;refine Qp Bp (Ae (Ao (fun hc3=>?_) fun hc3=>?_))
 ·
  obtain ⟨a,ha⟩:=By hc3;have hlt:=Bj ha;have hm:=B6 ha;obtain ⟨hb0,hb1,hb2,hb3⟩:=hR.2.2;refine A7 (AW.seq (AW.block (Rd (Qp Fh (Qp Am ?_)))));refine Qp (Aa (c:=Cu) tok rfl rfl rfl rfl rfl rfl (by omega) (Ub ha)) ?_;refine Qp (Bo Cu) (Qp (Qc rfl (nN _)) (Ae (Ao (fun hc4=>Rd (Qp Fh (Qp Am ?_))) fun hc4=>A7 (Ad (Qp Fh (Qp Am ?_))))))
  ·
   refine Qp (Aa (c:=Cu) tok rfl rfl rfl rfl rfl rfl (by omega) (Ub ha)) ?_;refine Qp (Qf ghz) (Qp Bf (Qp Am (Qp Bu (Ae (Ao (fun hc5=>Ad (Qp Al (Rc (Av (Rj (Av (Qr (Iq _) ?_))))))) fun hc5=>A7 (AW.region (Qp Am (Qp Dl (Qp Al (Bs (Qp Fh (Qp Am ?_))))))))))))
   · exact Eq.trans rfl (congrArg (fun q:Int=>AV.int .i64 q) ((cr_3 hc1 hc2).trans (hR.2.1.trans (goC_1 ha hc4 hc5)))).symm
   refine Qp (Aa (c:=Cu) tok rfl rfl rfl rfl rfl rfl (by omega) (Ub ha)) ?_;refine Qp (Bo Cu) (Qp (Qc rfl (Ze _)) (Qp A9 (Qg [] Qw Fh (Qg [] Qw Am ?_))));refine AOL.Aal (y:=.ptr _) _ [(44,_),(45,_)] rfl (uB.all ⟨Ent.Aak _ _,Ent.Aak _ _,trivial⟩) (fun hG=>Aa (c:=Cu) tok rfl rfl rfl rfl rfl rfl (by omega) (Ub ha)) rfl ?_;refine Qg [(46,_)] Qw (Bo Cu) (Qg [(47,_)] Qw (Qc rfl (S0 _)) (Qp Cf (Ae (Ao (fun hc6=>Rd (Qp Fh (Qp Am ?_))) fun hc6=>Rf (AW.region (Qp Am (Qp Dl (Qp Al (Ae ?_)))))))))
   ·
    refine Qp (Aa (c:=Cu) tok rfl rfl rfl rfl rfl rfl (by omega) (Ub ha)) ?_;refine Qp (Qf uL) (Qp Bf (Qp Am (Qp Bu (Ae (Ao (fun hc7=>Ad (Qp Al (Rc (Rj (Av (Qr (Iq _) ?_)))))) fun hc7=>A7 (AW.region (Qp Am (Qp Dl (Qp Al (Rk (AW.region (Qp Am (Qp Dl (Qp Al (Ae ?_)))))))))))))))
    · exact Eq.trans rfl (congrArg (fun q:Int=>AV.int .i64 q) ((cr_3 hc1 hc2).trans (hR.2.1.trans (goC_2 ha (by rw [hc5,N5]) hc6 hc7)))).symm
    refine ⟨(q.1+1,q.2.1+1,q.2.2+1),?_,?_,Bv⟩
    · exact ⟨hlt,hR.2.1.trans (goC_yy ha hc4 hc5 hc6 hc7),by simp only;omega⟩
    simp only;omega
   refine ⟨(q.1+1,q.2.1+1,q.2.2),?_,?_,Bv⟩
   · exact ⟨hlt,hR.2.1.trans (goC_yn ha hc4 hc5 hc6),by simp only;omega⟩
   simp only;omega
  refine Qp (Aa (c:=Cu) tok rfl rfl rfl rfl rfl rfl (by omega) (Ub ha)) ?_;refine Qp (Bo Cu) (Qp (Qc rfl (Ze _)) (Qp A9 (Qg [] Qw Fh (Qg [] Qw Am ?_))));refine AOL.Aal (y:=.ptr _) _ [(44,_),(45,_)] rfl (uB.all ⟨Ent.Aak _ _,Ent.Aak _ _,trivial⟩) (fun hG=>Aa (c:=Cu) tok rfl rfl rfl rfl rfl rfl (by omega) (Ub ha)) rfl ?_;refine Qg [(46,_)] Qw (Bo Cu) (Qg [(47,_)] Qw (Qc rfl (S0 _)) (Qp Cf (Ae (Ao (fun hc8=>Rd (Qp Fh (Qp Am ?_))) fun hc8=>Rf (AW.region (Qp Am (Qp Dl (Qp Al (Ae ?_)))))))))
  ·
   refine Qp (Aa (c:=Cu) tok rfl rfl rfl rfl rfl rfl (by omega) (Ub ha)) ?_;refine Qp (Qf uL) (Qp Bf (Qp Am (Qp Bu (Ae (Ao (fun hc9=>Ad (Qp Al (Rc (Rj (Av (Qr (Iq _) ?_)))))) fun hc9=>A7 (AW.region (Qp Am (Qp Dl (Qp Al (Rk (AW.region (Qp Am (Qp Dl (Qp Al (Ae ?_)))))))))))))))
   · exact Eq.trans rfl (congrArg (fun q:Int=>AV.int .i64 q) ((cr_3 hc1 hc2).trans (hR.2.1.trans (goC_2 ha (by rw [hc4];rfl) hc8 hc9)))).symm
   refine ⟨(q.1+1,q.2.1,q.2.2+1),?_,?_,Bv⟩
   · exact ⟨hlt,hR.2.1.trans (goC_ny ha hc4 hc8 hc9),by simp only;omega⟩
   simp only;omega
  refine ⟨(q.1+1,q.2.1,q.2.2),?_,?_,Bv⟩
  · exact ⟨hlt,hR.2.1.trans (goC_nn ha hc4 hc8),by simp only;omega⟩
  simp only;omega
 have hde:=D8 hc3;have hall:=hR.2.1;rw [hde,Yg] at hall;refine AW.exit ?_;refine Bk (Ri (Ad (Qp Al (Rb ?_))));refine Qr (Iq _) ?_;exact Eq.trans rfl (congrArg (fun q:Int=>AV.int .i64 q) ((cr_3 hc1 hc2).trans hall)).symm
theorem n9_Same (p q:Pt)(hp:medP p)(hq:medP q):An Tryz.prog 51 [.agg (cPt p),.agg (cPt q)] (.bool (smP p q)):=by
 revert q
 induction p using Pt.ind
 rename_i p ih;intro q hq;have hal:=Mw p;have hpn:=hp.n;have hql:=Mw q;have hqn:=hq.n;refine An.body (n:=75) tok Tryz.func51 rfl rfl rfl fun H=>?_
 refine Ad (Qp (Ed Cu) (Qp (Ed Cu) (Qp Au (Ae (Rd (Qp (Qf Cu) (Qp Bf (Qp (Qf Cu) (Qp Bf (Qp Bu (Qp A9 (Qg [] Qw (Qf gjx) (Qg [(12,_)] Qw Bf (Qg [] Qw (Qf gjx) (Qg [(14,_)] Qw Bf (AOL.Aal (y:=.bool _) _ [(13,_),(15,_)] rfl (uB.all ⟨Ent.Aak _ _,Ent.Aak _ _,trivial⟩) (fun hG=>Js rfl rfl) rfl ?_))))))))))))))));refine Qp Cf (Qp A9 (Qg [] Qw (Qf ghz) (Qg [(19,_)] Qw Bf (Qg [] Qw (Qf ghz) (Qg [(21,_)] Qw Bf (AOL.Aal (y:=.bool _) _ [(20,_),(22,_)] rfl (uB.all ⟨Ent.Aak _ _,Ent.Aak _ _,trivial⟩) (fun hG=>Js rfl rfl) rfl ?_))))));refine Qp Cf (Qp A9 (Qg [] Qw (Qf uL) (Qg [(26,_)] Qw Bf (Qg [] Qw (Qf uL) (Qg [(28,_)] Qw Bf (AOL.Aal (y:=.bool _) _ [(27,_),(29,_)] rfl (uB.all ⟨Ent.Aak _ _,Ent.Aak _ _,trivial⟩) (fun hG=>Js rfl rfl) rfl ?_))))));refine Qp Cf (Qp A9 (Qg [] Qw (Qf gjy) (Qg [(33,_)] Qw Bf (Qg [] Qw (Qf gjy) (Qg [(35,_)] Qw Bf (AOL.Aal (y:=.bool _) _ [(34,_),(36,_)] rfl (uB.all ⟨Ent.Aak _ _,Ent.Aak _ _,trivial⟩) (fun hG=>Js rfl rfl) rfl ?_))))));refine Qp Cf (Qp A9 (Qg [] Qw bB (Qg [(40,_)] Qw Py (Qg [] Qw bB (Qg [(42,_)] Qw Py (AOL.Aal (y:=.bool _) _ [(41,_),(43,_)] rfl (uB.all ⟨Ent.Aak _ _,Ent.Aak _ _,trivial⟩) (fun hG=>Qc rfl (dN p.cond q.cond (hp.cond p (qZ p)))) rfl ?_))))));refine Qg [(44,_)] Qw Ew (Qp Cf (Qp A9 (Qg [] Qw (Qf Vx) (Qg [(48,_)] Qw B7 ?_))));refine AOL.Aal (y:=Iq _) _ [(49,_)] rfl (uB.all ⟨Ent.Aak _ _,trivial⟩) (fun hG=>Ai (n:=p.args.length) tok rfl rfl rfl (by simp)) rfl ?_;refine Qg [] Qw (Qf Vx) (Qg [(51,_)] Qw B7 ?_);refine AOL.Aal (y:=Iq _) _ [(52,_)] rfl (uB.all ⟨Ent.Aak _ _,trivial⟩) (fun hG=>Ai (n:=q.args.length) tok rfl rfl rfl (by simp)) rfl ?_;refine AOL.Aal (y:=.bool _) _ [(50,_),(53,_)] rfl (uB.all ⟨Ent.Aak _ _,Ent.Aak _ _,trivial⟩) (fun hG=>Js rfl rfl) rfl ?_;refine Qp Cf (Ae (Ao (fun hc1=>Ad (Qp Au (Rc (Qr (.bool _) ?_)))) fun hc1=>?_))
 · exact Eq.trans rfl (congrArg (fun q:Bool=>AV.bool q) ((gD p q).trans (if_pos hc1))).symm
 have hlen:=hdP_len hc1;refine A7 (Rd (Qp Al (Ae (AW.block ?_))));refine AW.Aam (fun (k:Nat)=>(⟨[(2,.ptr (cPt p)),(3,.ptr (cPt q)),(5,.int .i64 (k:Int))],H,75⟩:St)) (fun k=>k≤p.args.length∧T6 p.args q.args=T6 (p.args.drop k) (q.args.drop k)) (fun k=>p.args.length-k) (0) ?_ Bv ?_
 · exact ⟨Dh _,rfl⟩
 rintro k hR;refine Rd (Qp Am (Qp (Qf Vx) (Qp B7 ?_)));refine Qp (Ai (n:=p.args.length) tok rfl rfl rfl (by simp)) ?_;refine Qp Bp (Ae (Ao (fun hc2=>?_) fun hc2=>?_))
 ·
  obtain ⟨x,hax⟩:=By hc2;have hltx:=Bj hax;have hmx:=B6 hax;have hay:=List.getElem?_eq_getElem (l:=q.args) (i:=k) (by omega);generalize q.args[k]=y at hay;refine A7 (AW.seq (AW.block (AW.seq ?_)));refine Gi ?_;refine Qn 0 rfl (Qf Vx) (Qn 1 rfl B7 (Qn 2 rfl Am ?_));refine Qn 3 rfl (Aa (c:=Cu) tok rfl rfl rfl rfl rfl rfl (by omega) (Um hax)) ?_;refine Qn 4 rfl (Bo Cu) (Qn 5 rfl (Qf Vx) (Qn 6 rfl B7 (Qn 7 rfl Am ?_)));refine Qn 8 rfl (Aa (c:=Cu) tok rfl rfl rfl rfl rfl rfl (by omega) (Um hay)) ?_;refine Qn 9 rfl (Bo Cu) (Qn 10 rfl (Qc rfl (ih x hmx (qT hp hmx) y (qT hq (B6 hay)))) (Qn 11 rfl Ew ?_));refine Ej ?_;refine A5 (Ao (fun hc3=>Ad (Qp Au (Ra (Av (B9 (Av (Qr (.bool _) ?_))))))) fun hc3=>Rf (AW.region (Qp Am (Qp Dl (Qp Al (Ae ?_))))))
  · exact Eq.trans rfl (congrArg (fun q:Bool=>AV.bool q) ((gD p q).trans ((Bi hc1).trans (hR.2.trans (smPs_no hax hay hc3))))).symm
  refine ⟨k+1,?_,?_,Bv⟩
  · exact ⟨hltx,hR.2.trans (smPs_on hax hay hc3)⟩
  omega
 have hde:=D8 hc2;have hall:=hR.2;rw [hde,T6] at hall;refine AW.exit ?_;refine Bk (Ri (Ad (Qp Au (Rb ?_))));refine Qr (.bool _) ?_;exact Eq.trans rfl (congrArg (fun q:Bool=>AV.bool q) ((gD p q).trans ((Bi hc1).trans hall))).symm
theorem lU (x y:List Int)(hx:x.length≤1048576)(hy:y.length≤1048576):An Tryz.prog 50 [.sl 1 (x.map cI),.sl 1 (y.map cI)] (.bool (siB x y)):=by
 refine An.body (n:=26) tok Tryz.func50 rfl rfl rfl fun H=>?_
 refine Ad (Qp Au (Ae (Rd (Qp Fh ?_))));refine Qp (Ai (n:=x.length) tok rfl rfl rfl (by simp)) ?_;refine Qp Fh ?_;refine Qp (Ai (n:=y.length) tok rfl rfl rfl (by simp)) ?_;refine Qp Bu (Ae (Ao (fun hc1=>Ad (Qp Au (Rc (Qr (.bool _) ?_)))) fun hc1=>?_))
 · exact Eq.trans rfl (congrArg (fun q:Bool=>AV.bool q) ((if_pos hc1:siB x y=false))).symm
 have hlen:x.length=y.length:=by simp at hc1;omega
 refine A7 (Rd (Qp Al (Ae (AW.block ?_))));refine AW.Aam (fun (k:Nat)=>(⟨[(0,.sl 1 (x.map cI)),(1,.sl 1 (y.map cI)),(5,.int .i64 (k:Int))],H,26⟩:St)) (fun k=>k≤x.length∧yP x y=yP (x.drop k) (y.drop k)) (fun k=>x.length-k) (0) ?_ Bv ?_
 · exact ⟨Dh _,rfl⟩
 rintro k hR;refine Rd (Qp Am (Qp Fh ?_));refine Qp (Ai (n:=x.length) tok rfl rfl rfl (by simp)) ?_;refine Qp Bp (Ae (Ao (fun hc2=>?_) fun hc2=>?_))
 ·
  obtain ⟨a,ha⟩:=By hc2;have hlt:=Bj ha;have hm:=B6 ha;have hay:=List.getElem?_eq_getElem (l:=y) (i:=k) (by omega);generalize y[k]=c at hay;refine A7 (AW.seq (AW.block (AW.seq ?_)));refine Gi ?_;refine Qn 0 rfl Fh (Qn 1 rfl Am ?_);refine Qn 2 rfl (Aa (c:=[Iq _]) tok rfl rfl rfl rfl rfl rfl (by omega) (xK ha)) ?_;refine Qn 3 rfl Bf (Qn 4 rfl Fh (Qn 5 rfl Am ?_));refine Qn 6 rfl (Aa (c:=[Iq _]) tok rfl rfl rfl rfl rfl rfl (by omega) (xK hay)) ?_;refine Qn 7 rfl Bf (Qn 8 rfl Bu ?_);refine Ej ?_;refine A5 (Ao (fun hc3=>Ad (Qp Au (Ra (Av (B9 (Av (Qr (.bool _) ?_))))))) fun hc3=>Rf (AW.region (Qp Am (Qp Dl (Qp Al (Ae ?_))))))
  · exact Eq.trans rfl (congrArg (fun q:Bool=>AV.bool q) (((Bi hc1).trans (hR.2.trans (siL_no ha hay hc3)):siB x y=false))).symm
  refine ⟨k+1,?_,?_,Bv⟩
  · exact ⟨hlt,hR.2.trans (siL_on ha hay hc3)⟩
  omega
 have hde:=D8 hc2;have hall:=hR.2;rw [hde,yP] at hall;refine AW.exit ?_;refine Bk (Ri (Ad (Qp Au (Rb ?_))));refine Qr (.bool _) ?_;exact Eq.trans rfl (congrArg (fun q:Bool=>AV.bool q) (((Bi hc1).trans hall:siB x y=true))).symm
set_option maxHeartbeats 3200000
set_option maxRecDepth 20000

theorem ex_at {l:List Ex}{k:Nat}{a:Ex}(h:l[k]? = some a):(l.map M2)[k]? = some (cE a):=by rw [List.getElem?_map,h];exact congrArg some (O6 a)
theorem n3_ss (s:e8Sc)(hl:s.fields.length≤1048576):An Tryz.prog 63 [.agg (F1 s),.agg (F1 s)] (.bool true):=by
 refine An.body (n:=38) tok Tryz.func63 rfl rfl rfl fun H=>?_
 refine Ad (Qp (Ed Ji) (Qp (Ed Ji) (Qp Au (Ae (Rd (Qp (Qf Ji) (Qp C9 (Qp (Qf Ji) (Qp C9 (Qp (Cs rfl rfl) (Qp A9 (Qg [] Qw (Qf [_]) (Qg [(12,_)] Qw B7 ?_)))))))))))));refine AOL.Aal (y:=Iq _) _ [(13,_)] rfl (uB.all ⟨Ent.Aak _ _,trivial⟩) (fun hG=>Ai (n:=s.fields.length) tok rfl rfl rfl (by simp)) rfl ?_;refine Qg [] Qw (Qf [_]) (Qg [(15,_)] Qw B7 ?_);refine AOL.Aal (y:=Iq _) _ [(16,_)] rfl (uB.all ⟨Ent.Aak _ _,trivial⟩) (fun hG=>Ai (n:=s.fields.length) tok rfl rfl rfl (by simp)) rfl ?_;refine AOL.Aal (y:=.bool _) _ [(14,_),(17,_)] rfl (uB.all ⟨Ent.Aak _ _,Ent.Aak _ _,trivial⟩) (fun hG=>Js rfl rfl) rfl ?_;refine Qp Cf (Ae (Ao (fun hc1=>?_) fun hc1=>A7 (Rd (Qp Al (Ae (AW.block ?_))))))
 · simp [] at hc1
 refine AW.Aam (fun (k:Nat)=>(⟨[(2,.ptr (F1 s)),(3,.ptr (F1 s)),(5,.int .i64 (k:Int))],H,38⟩:St)) (fun k=>k≤s.fields.length) (fun k=>s.fields.length-k) (0) ?_ Bv ?_
 · exact Dh _
 rintro k hR;refine Rd (Qp Am (Qp (Qf [_]) (Qp B7 ?_)));refine Qp (Ai (n:=s.fields.length) tok rfl rfl rfl (by simp)) ?_;refine Qp Bp (Ae (Ao (fun hc2=>?_) fun hc2=>AW.exit ?_))
 ·
  obtain ⟨a,ha⟩:=By hc2;have hlt:=Bj ha;have hm:=B6 ha;refine A7 (AW.seq (AW.block (AW.seq ?_)));refine Gi ?_;refine Qn 0 rfl (Qf [_]) (Qn 1 rfl B7 (Qn 2 rfl Am ?_));refine Qn 3 rfl (Aa (c:=H6) tok rfl rfl rfl rfl rfl rfl (by omega) (Ct ha)) ?_;refine Qn 4 rfl (Bo H6) (Qn 5 rfl (Qf [_]) (Qn 6 rfl B7 (Qn 7 rfl Am ?_)));refine Qn 8 rfl (Aa (c:=H6) tok rfl rfl rfl rfl rfl rfl (by omega) (Ct ha)) ?_;refine Qn 9 rfl (Bo H6) (Qn 10 rfl (F5 tok rfl rfl rfl rfl rfl) ?_);refine Ej ?_;refine A5 (Ao (fun hc3=>?_) fun hc3=>Rf (AW.region (Qp Am (Qp Dl (Qp Al (Ae ?_))))))
  · simp [] at hc3
  refine ⟨k+1,?_,?_,Bv⟩
  · exact hlt
  omega
 refine Bk (Ri (Ad (Qp Au (Rb ?_))));refine Qr (.bool _) ?_;rfl
theorem n3_same (T:List e8Sc)(hl:T.length≤1048576)(hf:∀s∈T,s.fields.length≤1048576):An Tryz.prog 21 [.sl 2 (T.map F1),.sl 2 (T.map F1)] (.bool true):=by
 refine An.body (n:=27) tok Tryz.func21 rfl rfl rfl fun H=>?_
 refine Ad (Qp Au (Ae (Rd (Qp Fh ?_))));refine Qp (Ai (n:=T.length) tok rfl rfl rfl (by simp)) ?_;refine Qp Fh ?_;refine Qp (Ai (n:=T.length) tok rfl rfl rfl (by simp)) ?_;refine Qp Bu (Ae (Ao (fun hc1=>?_) fun hc1=>A7 (Rd (Qp Al (Ae (AW.block ?_))))))
 · simp [] at hc1
 refine AW.Aam (fun (k:Nat)=>(⟨[(0,.sl 2 (T.map F1)),(1,.sl 2 (T.map F1)),(5,.int .i64 (k:Int))],H,27⟩:St)) (fun k=>k≤T.length) (fun k=>T.length-k) (0) ?_ Bv ?_
 · exact Dh _
 rintro k hR;refine Rd (Qp Am (Qp Fh ?_));refine Qp (Ai (n:=T.length) tok rfl rfl rfl (by simp)) ?_;refine Qp Bp (Ae (Ao (fun hc2=>?_) fun hc2=>AW.exit ?_))
 ·
  obtain ⟨a,ha⟩:=By hc2;have hlt:=Bj ha;have hm:=B6 ha;refine A7 (AW.seq (AW.block (AW.seq ?_)));refine Gi ?_;refine Qn 0 rfl Fh (Qn 1 rfl Am ?_);refine Qn 2 rfl (Aa (c:=Ji) tok rfl rfl rfl rfl rfl rfl (by omega) (Ct ha)) ?_;refine Qn 3 rfl (Bo Ji) (Qn 4 rfl Fh (Qn 5 rfl Am ?_));refine Qn 6 rfl (Aa (c:=Ji) tok rfl rfl rfl rfl rfl rfl (by omega) (Ct ha)) ?_;refine Qn 7 rfl (Bo Ji) (Qn 8 rfl (Qc rfl (n3_ss a (hf a hm))) (Qn 9 rfl Ew ?_));refine Ej ?_;refine A5 (Ao (fun hc3=>?_) fun hc3=>Rf (AW.region (Qp Am (Qp Dl (Qp Al (Ae ?_))))))
  · cases hc3
  refine ⟨k+1,?_,?_,Bv⟩
  · exact hlt
  omega
 refine Bk (Ri (Ad (Qp Au (Rb ?_))));refine Qr (.bool _) ?_;rfl
theorem n4_sq (q:Qy)(hq:medQ q):An Tryz.prog 16 [.agg (cQy q),.agg (cQy q)] (.bool true):=by
 have hv:=hq.v;have hr:=hq.r;refine An.body (n:=83) tok Tryz.func16 rfl rfl rfl fun H=>?_
 refine Ad (Qp (Ed Fu) (Qp (Ed Fu) (Qp Au (Ae (Rd (Qp (Qf Fu) (Qp C9 (Qp (Qf Fu) (Qp C9 (Qp (Cs rfl rfl) (Qp A9 (Qg [] Qw (Qf gkx) (Qg [(13,_)] Qw B7 ?_)))))))))))));refine AOL.Aal (y:=Iq _) _ [(14,_)] rfl (uB.all ⟨Ent.Aak _ _,trivial⟩) (fun hG=>Ai (n:=q.vars.length) tok rfl rfl rfl (by simp)) rfl ?_;refine Qg [] Qw (Qf gkx) (Qg [(16,_)] Qw B7 ?_);refine AOL.Aal (y:=Iq _) _ [(17,_)] rfl (uB.all ⟨Ent.Aak _ _,trivial⟩) (fun hG=>Ai (n:=q.vars.length) tok rfl rfl rfl (by simp)) rfl ?_;refine AOL.Aal (y:=.bool _) _ [(15,_),(18,_)] rfl (uB.all ⟨Ent.Aak _ _,Ent.Aak _ _,trivial⟩) (fun hG=>Js rfl rfl) rfl ?_;refine Qp Cf (Qp A9 (Qg [] Qw (Qf [_,Iq _,_,Iq _,Iq _,Iq _,Iq _,Iq _,_,Iq _,Iq _,Iq _,Iq _,Iq _,.str _,_]) (Qg [(22,_)] Qw B7 (Qg [] Qw (Qf [_,Iq _,_,Iq _,Iq _,Iq _,Iq _,Iq _,_,Iq _,Iq _,Iq _,Iq _,Iq _,.str _,_]) (Qg [(24,_)] Qw B7 (AOL.Aal (y:=.bool _) _ [(23,_),(25,_)] rfl (uB.all ⟨Ent.Aak _ _,Ent.Aak _ _,trivial⟩) (fun hG=>Qc rfl (lU q.key q.key hq.k hq.k)) rfl ?_))))));refine Qg [(26,_)] Qw Ew (Qp Cf (Qp A9 (Qg [] Qw (Qf [Iq _,_,Iq _,Iq _,Iq _,Iq _,Iq _,_,Iq _,Iq _,Iq _,Iq _,Iq _,.str _,_]) (Qg [(30,_)] Qw (Bo Cu) (Qg [] Qw (Qf [Iq _,_,Iq _,Iq _,Iq _,Iq _,Iq _,_,Iq _,Iq _,Iq _,Iq _,Iq _,.str _,_]) (Qg [(32,_)] Qw (Bo Cu) (AOL.Aal (y:=.bool _) _ [(31,_),(33,_)] rfl (uB.all ⟨Ent.Aak _ _,Ent.Aak _ _,trivial⟩) (fun hG=>Qc rfl (n9_Same q.pattern q.pattern hq.p hq.p)) rfl ?_)))))));refine Qg [(34,_)] Qw Ew (Qp Cf (Qp A9 (Qg [] Qw (Qf [_]) (Qg [(38,_)] Qw B7 ?_))));refine AOL.Aal (y:=Iq _) _ [(39,_)] rfl (uB.all ⟨Ent.Aak _ _,trivial⟩) (fun hG=>Ai (n:=q.returns.length) tok rfl rfl rfl (by simp)) rfl ?_;refine Qg [] Qw (Qf [_]) (Qg [(41,_)] Qw B7 ?_);refine AOL.Aal (y:=Iq _) _ [(42,_)] rfl (uB.all ⟨Ent.Aak _ _,trivial⟩) (fun hG=>Ai (n:=q.returns.length) tok rfl rfl rfl (by simp)) rfl ?_;refine AOL.Aal (y:=.bool _) _ [(40,_),(43,_)] rfl (uB.all ⟨Ent.Aak _ _,Ent.Aak _ _,trivial⟩) (fun hG=>Js rfl rfl) rfl ?_;refine Qp Cf (Ae (Ao (fun hc1=>?_) fun hc1=>A7 (Rd (Qp Al (Ae (AW.block ?_))))))
 · simp [wK,wR] at hc1
 refine AW.Aam (fun (k:Nat)=>(⟨[(2,.ptr (cQy q)),(3,.ptr (cQy q)),(5,.int .i64 (k:Int))],H,83⟩:St)) (fun k=>k≤q.vars.length) (fun k=>q.vars.length-k) (0) ?_ Bv ?_
 · exact Dh _
 rintro k hR;refine Rd (Qp Am (Qp (Qf gkx) (Qp B7 ?_)));refine Qp (Ai (n:=q.vars.length) tok rfl rfl rfl (by simp)) ?_;refine Qp Bp (Ae (Ao (fun hc2=>?_) fun hc2=>AW.exit ?_))
 ·
  obtain ⟨a,ha⟩:=By hc2;have hlt:=Bj ha;have hm:=B6 ha;refine A7 (AW.seq (AW.block (AW.seq ?_)));refine Gi ?_;refine Qn 0 rfl (Qf gkx) (Qn 1 rfl B7 (Qn 2 rfl Am ?_));refine Qn 3 rfl (Aa (c:=H6) tok rfl rfl rfl rfl rfl rfl (by omega) (Ct ha)) ?_;refine Qn 4 rfl (Bo H6) (Qn 5 rfl (Qf gkx) (Qn 6 rfl B7 (Qn 7 rfl Am ?_)));refine Qn 8 rfl (Aa (c:=H6) tok rfl rfl rfl rfl rfl rfl (by omega) (Ct ha)) ?_;refine Qn 9 rfl (Bo H6) (Qn 10 rfl (F5 tok rfl rfl rfl rfl rfl) ?_);refine Ej ?_;refine A5 (Ao (fun hc3=>?_) fun hc3=>Rf (AW.region (Qp Am (Qp Dl (Qp Al (Ae ?_))))))
  · simp [] at hc3
  refine ⟨k+1,?_,?_,Bv⟩
  · exact hlt
  omega
 refine Bk (Ri (Rd (Qp Al (Ae (AW.block ?_)))));refine AW.Aam (fun (k:Nat)=>(⟨[(2,.ptr (cQy q)),(3,.ptr (cQy q)),(6,.int .i64 (k:Int))],H,83⟩:St)) (fun k=>k≤q.returns.length) (fun k=>q.returns.length-k) (0) ?_ Bv ?_
 · exact Dh _
 rintro k hR;refine Rd (Qp Am (Qp (Qf [_]) (Qp B7 ?_)));refine Qp (Ai (n:=q.returns.length) tok rfl rfl rfl (by simp)) ?_;refine Qp Bp (Ae (Ao (fun hc4=>?_) fun hc4=>AW.exit ?_))
 ·
  obtain ⟨a,ha⟩:=By hc4;have hlt:=Bj ha;have hm:=B6 ha;refine A7 (AW.seq (AW.block (AW.seq ?_)));refine Gi ?_;refine Qn 0 rfl (Qf [_]) (Qn 1 rfl B7 (Qn 2 rfl Am ?_));refine Qn 3 rfl (Aa (c:=Ft) tok rfl rfl rfl rfl rfl rfl (by omega) (ex_at ha)) ?_;refine Qn 4 rfl Py (Qn 5 rfl (Qf [_]) (Qn 6 rfl B7 (Qn 7 rfl Am ?_)));refine Qn 8 rfl (Aa (c:=Ft) tok rfl rfl rfl rfl rfl rfl (by omega) (ex_at ha)) ?_;refine Qn 9 rfl Py (Qn 10 rfl (Qc rfl (dN a a (hq.e a hm))) (Qn 11 rfl Ew ?_));refine Ej ?_;refine A5 (Ao (fun hc5=>?_) fun hc5=>Rf (AW.region (Qp Am (Qp Dl (Qp Al (Ae ?_))))))
  · rw [Oj] at hc5;cases hc5
  refine ⟨k+1,?_,?_,Bv⟩
  · exact hlt
  omega
 refine Bk (Ri (Ad (Qp Au (Rb ?_))));refine Qr (.bool _) ?_;rfl
theorem n4_sp (p:Pg)(hp:medG p):An Tryz.prog 24 [.agg (cPg p),.agg (cPg p)] (.bool true):=by
 have hql:=hp.q;refine An.body (n:=40) tok Tryz.func24 rfl rfl rfl fun H=>?_
 refine Ad (Qp (Ed [_,_]) (Qp (Ed [_,_]) (Qp Au (Ae (Rd (Qp (Qf [_,_]) (Qp B7 (Qp (Qf [_,_]) (Qp B7 (Qp (Qc rfl (n3_same p.types hp.t hp.f)) (Qp Ew (Qp A9 (Qg [] Qw (Qf [_]) (Qg [(13,_)] Qw B7 ?_))))))))))))));refine AOL.Aal (y:=Iq _) _ [(14,_)] rfl (uB.all ⟨Ent.Aak _ _,trivial⟩) (fun hG=>Ai (n:=p.queries.length) tok rfl rfl rfl (by simp)) rfl ?_;refine Qg [] Qw (Qf [_]) (Qg [(16,_)] Qw B7 ?_);refine AOL.Aal (y:=Iq _) _ [(17,_)] rfl (uB.all ⟨Ent.Aak _ _,trivial⟩) (fun hG=>Ai (n:=p.queries.length) tok rfl rfl rfl (by simp)) rfl ?_;refine AOL.Aal (y:=.bool _) _ [(15,_),(18,_)] rfl (uB.all ⟨Ent.Aak _ _,Ent.Aak _ _,trivial⟩) (fun hG=>Js rfl rfl) rfl ?_;refine Qp Cf (Ae (Ao (fun hc1=>?_) fun hc1=>A7 (Rd (Qp Al (Ae (AW.block ?_))))))
 · simp [] at hc1
 refine AW.Aam (fun (k:Nat)=>(⟨[(2,.ptr (cPg p)),(3,.ptr (cPg p)),(5,.int .i64 (k:Int))],H,40⟩:St)) (fun k=>k≤p.queries.length) (fun k=>p.queries.length-k) (0) ?_ Bv ?_
 · exact Dh _
 rintro k hR;refine Rd (Qp Am (Qp (Qf [_]) (Qp B7 ?_)));refine Qp (Ai (n:=p.queries.length) tok rfl rfl rfl (by simp)) ?_;refine Qp Bp (Ae (Ao (fun hc2=>?_) fun hc2=>AW.exit ?_))
 ·
  obtain ⟨a,ha⟩:=By hc2;have hlt:=Bj ha;have hm:=B6 ha;refine A7 (AW.seq (AW.block (AW.seq ?_)));refine Gi ?_;refine Qn 0 rfl (Qf [_]) (Qn 1 rfl B7 (Qn 2 rfl Am ?_));refine Qn 3 rfl (Aa (c:=Fu) tok rfl rfl rfl rfl rfl rfl (by omega) (Ct ha)) ?_;refine Qn 4 rfl (Bo Fu) (Qn 5 rfl (Qf [_]) (Qn 6 rfl B7 (Qn 7 rfl Am ?_)));refine Qn 8 rfl (Aa (c:=Fu) tok rfl rfl rfl rfl rfl rfl (by omega) (Ct ha)) ?_;refine Qn 9 rfl (Bo Fu) (Qn 10 rfl (Qc rfl (n4_sq a (hp.m a hm))) (Qn 11 rfl Ew ?_));refine Ej ?_;refine A5 (Ao (fun hc3=>?_) fun hc3=>Rf (AW.region (Qp Am (Qp Dl (Qp Al (Ae ?_))))))
  · cases hc3
  refine ⟨k+1,?_,?_,Bv⟩
  · exact hlt
  omega
 refine Bk (Ri (Ad (Qp Au (Rb ?_))));refine Qr (.bool _) ?_;rfl


theorem GS.refl (s:St):GS s s:=fun g a w h=>⟨g,h,Ext.refl g w⟩
theorem AW.ghostPost {P:Program}{c:Code}{Q:Exit→St→Prop}{s:St}(h:AW P c (fun e s=>∃s',GS s s'∧Q e s') s):AW P c Q s:=by
 intro Q' g a w hG hQ;refine h Q' g a w hG fun e g' s' a' w' h1 h2 ⟨s2,h3,h4⟩=>?_
 obtain ⟨g2,k1,k2⟩:=h3 g' a' w' h1;exact hQ e g2 s2 a' w' k1 (h2.trans k2) h4

section
variable {P:Program} {T:List (Nat×TD)} {d:Option Nat} {ty:TypeId} {pos:String} {aft:Array Edge} {gd:Option (Nat×Bool)} {ρ:Operand→AV} {K:List HO→Prop}
theorem Kp {t e z:Nat}{td te:TD}{vs:Array Value}{es:List (List AV)}(hT:H5 P T)(ht:Br T t=some td)(hk:td.kind = .slice e)(hte:Br T e=some te)(hz:te.size=z)
    (hb:Nat.ble (1*z) 16777216=true) (hl:Nat.beq vs.toList.length z=true) (hs:Bc (vs.toList.map AV.val)=true) (hp:Nat.blt 0 z=true) (hes:[vs.toList.map AV.val]=es):Cz P ⟨d,.buildSlice t 1 #[(0,.const (.agg vs))],ty,pos,aft,gd⟩ ρ K (.sl z es):=by
  have h:=Ak (d:=d) (ty:=ty) (pos:=pos) (aft:=aft) (gd:=gd) (K:=K) (ρ:=fun _=>.agg (vs.toList.map AV.val)) (parts:=#[(0,.const (.agg vs))]) (n:=1) (es:=es) hT ht hk hte hz rfl hb
    (by simp only [Tt,Ch,D9,Nat.beq_refl,K5,Dq,hs,hl]) hp (by subst hes;rfl)
  intro g w a H next Q hr hH hK hn
  refine h g w a H next Q (fun y hy=>?_) hH hK hn
  simp only [Op.operands,List.map_toArray,E7,Di,List.mem_toArray,N6] at hy;subst hy;refine .agg vs _ (by simp) (fun i x hi=>?_);rw [List.getElem?_map] at hi;cases hv:vs.toList[i]? with
  | none=>rw [hv] at hi;cases hi
  | some u=>
    rw [hv] at hi;cases hi
    have:vs.getD i undef=u:=by
      rw [Jg];have:vs[i]? = some u:=by simpa using hv
      rw [this];rfl
    rw [this];exact .val _
end
end Go.Proofs.YtckhoadldibflaaGreatDoor
