/-
  Several texts in one: R13w, R20w, X12, V5. No condition.
-/
import Derived.Test.YtckhoadldibflaaGreatDoorK01
import Derived.Test.YtckhoadldibflaaGreatDoorK08
import Derived.Test.YtckhoadldibflaaGreatDoorK13
import Derived.Test.YtckhoadldibflaaGreatDoorK09
import Derived.Test.YtckhoadldibflaaGreatDoorK10
import Derived.KernelRfl
import Derived.Test.YtckhoadldibflaaGreatDoorK05
set_option linter.unusedVariables false
set_option linter.unusedSimpArgs false
namespace Go.Proofs.YtckhoadldibflaaGreatDoor
open Go Go.Aw
set_option maxHeartbeats 12800000
set_option maxRecDepth 20000

theorem oS {p a:Pt}(hp:medP p)(h:a∈p.args):medP a:=⟨by have:=Pm h;have:=hp.n;omega,fun q hq=>hp.cond q (tO h hq)⟩
theorem smPs_on {l m:List Pt}{k:Nat}{x y:Pt}(hx:l[k]? = some x)(hy:m[k]? = some y)(h:(!smP x y)=false):S9 (l.drop k) (m.drop k)=S9 (l.drop (k+1)) (m.drop (k+1)):=by
 rw [A5 hx,A5 hy,S9];exact Bl h
theorem smPs_no {l m:List Pt}{k:Nat}{x y:Pt}(hx:l[k]? = some x)(hy:m[k]? = some y)(h:(!smP x y)=true):S9 (l.drop k) (m.drop k)=false:=by
 rw [A5 hx,A5 hy,S9];exact if_pos h
theorem siL_on {l m:List Int}{k:Nat}{x y:Int}(hx:l[k]? = some x)(hy:m[k]? = some y)(h:(x != y)=false):wU (l.drop k) (m.drop k)=wU (l.drop (k+1)) (m.drop (k+1)):=by
 rw [A5 hx,A5 hy,wU];exact Bl h
theorem siL_no {l m:List Int}{k:Nat}{x y:Int}(hx:l[k]? = some x)(hy:m[k]? = some y)(h:(x != y)=true):wU (l.drop k) (m.drop k)=false:=by
 rw [A5 hx,A5 hy,wU];exact if_pos h
theorem zM {l:List Pt}{k:Nat}{a:Pt}(h:l[k]? = some a):(l.map Lw)[k]? = some (cPt a):=Vu h
theorem prp_no {l:List Pt}{k:Nat}{a:Pt}(h:l[k]? = some a)(hp:decide (8≤a.op)=true):iL l=false:=by
 unfold iL;rw [show l.any (fun q=>decide (8≤q.op))=true from List.any_eq_true.2 ⟨a,B4 h,hp⟩];rfl
theorem n9_tot (L:Nat)(p:Pt)(hp:Gx p≤1048576):Ap Tryz.prog 111 [.agg (cPt p),.int .i64 (L:Int)] (.int .i64 (Lv L p:Nat)):=by
 induction p using Pt.ind
 rename_i p ih;have hal:=Od p;refine Ap.body (n:=29) tok Tryz.func111 rfl rfl rfl fun H=>?_
 refine Ae (Qp (Gc C5) (Qp Al (Bs (Qp Al (Ag (Bk (Qp Al (Ag (AW.block ?_)))))))));refine AW.Aag (fun (q:Nat×Nat)=>(⟨[(1,.int .i64 (L:Int)),(2,.ptr (cPt p)),(5,.int .i64 (q.2:Int)),(6,.int .i64 (q.1:Int))],H,29⟩:St)) (fun q=>q.1≤p.args.length∧Lv L p=J1 L (p.args.drop q.1) q.2∧q.2+((p.args.drop q.1).map Gx).sum≤Gx p) (fun q=>p.args.length-q.1) ((0,1)) ?_ Cs ?_
 · exact ⟨E2 _,nN L p,by rw [Tm,Jn];omega⟩
 rintro q hR;refine Bk (Qp Ao (Qp (Qf Wf) (Qp Cw ?_)));refine Qp (Ah (n:=p.args.length) tok rfl rfl rfl (by simp)) ?_;refine Qp Bx (Qp A9 (Qg [] Qw Ao (Qg [] Qw Ao (AOL.g (y:=.bool _) _ [(13,_),(14,_)] rfl (qZ.all ⟨Ent.Aad _ _,Ent.Aad _ _,trivial⟩) (fun hG=>jF rfl rfl) rfl ?_))));refine Qp E0 (Ag (Aq (fun hc1=>?_) fun hc1=>AW.exit ?_))
 ·
  simp only [Gs] at hc1;obtain ⟨a,ha⟩:=Cc hc1.1;have hlt:=Bu ha;have hm:=B4 ha;have hsa:=Pm hm;have hle:q.2≤L:=by have:=Ir hc1.2;omega
  have h1:=fY q.2 ha;have h2:=iR L a;have h3:=hR.2.1;rw [A5 ha,J1,if_pos hle] at h3;have h4:=hR.2.2;refine Bg (AW.seq (AW.block (AW.region (Qp Ao (Qp (Qf Wf) (Qp Cw (Qp Ao ?_)))))));refine Qp (Aa (c:=C5) tok rfl rfl rfl rfl rfl rfl (by omega) (Vu ha)) ?_;refine Qp (B0 C5) (Qp Ao ?_);refine Qp (Qc rfl (ih a hm (by omega))) ?_;refine Qp E9 (Qp Al (Rk (AW.region (Qp Ao (Qp E9 (Qp Al (Ag ?_)))))));refine ⟨(q.1+1,q.2+Lv L a),?_,?_,Cs⟩
  · exact ⟨hlt,h3,by simp only;omega⟩
  simp only;omega
 refine Bq (Ri (Ae (Qp Ao (Qp Al (Rb ?_)))));refine Qr (Iq _) ?_
 have hx:q.2=Lv L p:=by
  rw [hR.2.1];simp only [Bool.and_eq_false_iff] at hc1;rcases hc1 with hc1 | hc1
  · rw [E3 hc1,J1]
  exact (mI (by have:=Lt hc1;omega)).symm
 exact Eq.trans rfl (congrArg (fun q:Nat=>AV.int .i64 (q:Int)) hx)
theorem n9_dep (p:Pt)(hp:Gx p≤1048576):Ap Tryz.prog 112 [.agg (cPt p)] (.int .i64 (Zs p:Nat)):=by
 induction p using Pt.ind
 rename_i p ih;have hal:=Od p;refine Ap.body (n:=22) tok Tryz.func112 rfl rfl rfl fun H=>?_
 refine Ae (Qp (Gc C5) (Qp Al (Bs (Qp Al (Ag (Bk (Qp Al (Ag (AW.block ?_)))))))));refine AW.Aag (fun (q:Nat×Nat)=>(⟨[(1,.ptr (cPt p)),(3,.int .i64 (q.2:Int)),(4,.int .i64 (q.1:Int))],H,22⟩:St)) (fun q=>q.1≤p.args.length∧q.2=Se (p.args.take q.1)) (fun q=>p.args.length-q.1) ((0,0)) ?_ Cs ?_
 · exact ⟨E2 _,by rw [List.take_zero,Se]⟩
 rintro q hR;refine Bk (Qp Ao (Qp (Qf Wf) (Qp Cw ?_)));refine Qp (Ah (n:=p.args.length) tok rfl rfl rfl (by simp)) ?_;refine Qp Bx (Ag (Aq (fun hc1=>?_) fun hc1=>?_))
 ·
  obtain ⟨a,ha⟩:=Cc hc1;have hlt:=Bu ha;have hm:=B4 ha;have hsa:=Pm hm;refine Bg (AW.seq (AW.block (AW.region (Qp Ao (Qp (Qf Wf) (Qp Cw (Qp Ao ?_)))))));refine Qp (Aa (c:=C5) tok rfl rfl rfl rfl rfl rfl (by omega) (Vu ha)) ?_;refine Qp (B0 C5) ?_;refine Qp (Qc rfl (ih a hm (by omega))) ?_;refine Qp (Y1 rfl rfl) (Qp Al (Rk (AW.region (Qp Ao (Qp E9 (Qp Al (Ag ?_)))))));refine ⟨(q.1+1,max q.2 (Zs a)),?_,?_,GS.weaken ⟨rfl,congrArg (AV.int .i64) (iG q.2 (Zs a)),rfl,trivial⟩ (.refl _)⟩
  · exact ⟨hlt,by simp only;rw [Eu ha,Uz,hR.2]⟩
  simp only;omega
 have hte:=Dm hc1;have hde:=hR.2;rw [hte] at hde;refine AW.exit ?_;refine Bq (Ri (Ae (Qp Ao ?_)));refine Qp (oE rfl rfl rfl (by have:=dp_le p;rw [Zf,←hde] at this;constructor <;> omega)) ?_;refine Qp Al (Rb (Qr (Iq _) ?_));exact Eq.trans rfl (congrArg (fun q:Nat=>AV.int .i64 (q:Int)) (show q.2+1=Zs p by rw [Zf,hde]))
theorem uG (p:Pt)(hp:Gx p≤1048576):Ap Tryz.prog 53 [.agg (cPt p)] (.sl 14 ((E1 p).map Lw)):=by
 induction p using Pt.ind
 rename_i p ih;have hal:=Od p;refine Ap.body (n:=23) tok Tryz.func53 rfl rfl rfl fun H=>?_
 refine Ae (Qp (Gc C5) (Qp (Ck (z:=14) rfl) (Bs (Qp (B0 C5) (Qe (F4 (es:=[C5]) tok rfl rfl rfl rfl rfl rfl rfl rfl rfl) ?_)))));rintro _ _ ⟨v6,rfl,rfl⟩;refine Qp (A6 (v:=.row _ _ _) rfl) (Ag (Bk (Qp Al (Ag (AW.block ?_)))));refine AW.Aag (fun (q:Nat×List (List AV)×Value)=>(⟨[(1,.ptr (cPt p)),(3,.row q.2.2 14 q.2.1),(4,.int .i64 (q.1:Int))],.row q.2.2 q.2.1.length 38 14::H,23⟩:St)) (fun q=>q.1≤p.args.length∧q.2.1=(p::(p.args.take q.1).flatMap E1).map Lw∧q.2.1.length=1+((p.args.take q.1).map Gx).sum) (fun q=>p.args.length-q.1) ((0,[cPt p],v6)) ?_ Cs ?_
 · exact ⟨E2 _,by simp [Tw],rfl⟩
 rintro q hR;refine Bk (Qp Ao (Qp (Qf Wf) (Qp Cw ?_)));refine Qp (Ah (n:=p.args.length) tok rfl rfl rfl (by simp)) ?_;refine Qp Bx (Ag (Aq (fun hc1=>?_) fun hc1=>?_))
 ·
  obtain ⟨a,ha⟩:=Cc hc1;have hlt:=Bu ha;have hm:=B4 ha;have hsa:=Pm hm;have hsc:∀c∈q.2.1,Bb c=true:=by rw [hR.2.1];exact scPt _
  have hz:=oF (p:=p) ha;have hz2:=hR.2.2;have hz3:=dX a;refine Bg (AW.seq (AW.block (AW.region (Qp (A1 (v:=.row _ _ _) rfl) (Qp (Qf Wf) (Qp Cw (Qp Ao ?_)))))));refine Qp (Aa (c:=C5) tok rfl rfl rfl rfl rfl rfl (by omega) (Vu ha)) ?_;refine Qp (B0 C5) ?_;refine Qp (Qc rfl (ih a hm (by omega))) ?_;refine Qe (Dh (k:=0) tok rfl rfl rfl rfl rfl rfl rfl rfl (scPt _) (hsc) (by simp;omega) (by simp [maxLen];omega)) ?_;rintro _ _ ⟨v21,rfl,rfl⟩;refine Qp (A6 (v:=.row _ _ _) rfl) (Rk (AW.region (Qp Ao (Qp E9 (Qp Al (Ag ?_))))));refine ⟨(q.1+1,q.2.1++(E1 a).map Lw,v21),?_,?_,Cs⟩
  · exact ⟨hlt,by simp only;rw [Eu ha,hR.2.1];simp,by simp only;rw [Eu ha,D9,hR.2.2];simp;omega⟩
  simp only;omega
 have hte:=Dm hc1;have hde:=hR.2.1;rw [hte] at hde;refine AW.exit ?_;refine Bq (Ri (Ae ?_));refine Qp (A1 (v:=.row _ _ _) rfl) ?_;refine AOL.ghost (GS.unrow 22 rfl) ?_;refine Qp eN (Rb ?_);refine ⟨.inr rfl,[.sl _ _],.cons (.tmp _ _ rfl) <| .nil,.cons _ (.refl _),?_⟩;exact Eq.trans rfl (congrArg (AV.sl 14) (hde.trans (congrArg (List.map Lw) (Nu p).symm)))
theorem eL (p:Pt):Ap Tryz.prog 56 [.agg (cPt p)] (.bool (Py p)):=by
 refine Ap.body (n:=11) tok Tryz.func56 rfl rfl rfl fun H=>?_
 refine Ae (Qp (Gc C5) (Qp A0 (Bs (Qp (Qf C5) (Qp Bi (Qp Av (Qp A9 (Qg [] Qw (Qf C5) (Qg [(7,_)] Qw Bi (Qg [(8,_)] Qw Av (Qp B9 (Qp A0 (Rb (Qr (.bool _) ?_))))))))))))));rfl
theorem Ue (p:Pt):Ap Tryz.prog 57 [.agg (cPt p)] (.bool (Oi p)):=by
 refine Ap.body (n:=11) tok Tryz.func57 rfl rfl rfl fun H=>?_
 refine Ae (Qp (Gc C5) (Qp A0 (Bs (Qp (Qf C5) (Qp Bi (Qp Av (Qp A9 (Qg [] Qw (Qf C5) (Qg [(7,_)] Qw Bi (Qg [(8,_)] Qw Av (Qp B9 (Qp A0 (Rb (Qr (.bool _) ?_))))))))))))));rfl
theorem kU (p:Pt):Ap Tryz.prog 55 [.agg (cPt p)] (.bool (O6 p)):=by
 refine Ap.body (n:=10) tok Tryz.func55 rfl rfl rfl fun H=>?_
 refine Ae (Qp (Gc C5) (Qp A0 (Bs (Qp (Qf C5) (Qp Bi (Qp Av (Qp A9 (Qg [] Qw (B0 C5) (Qg [(7,_)] Qw (Qc rfl (eL _)) (Qp B9 (Qp A0 (Rb (Qr (.bool _) ?_)))))))))))));rfl
theorem n9_con (p:Pt):Ap Tryz.prog 184 [.agg (cPt p)] (.bool (kX p)):=by
 refine Ap.body (n:=10) tok Tryz.func184 rfl rfl rfl fun H=>?_
 refine Ae (Qp (Gc C5) (Qp A0 (Bs (Qp (B0 C5) (Qp (Qc rfl (kU _)) (Qp A9 (Qg [] Qw (Qf C5) (Qg [(6,_)] Qw Bi (Qg [(7,_)] Qw Av (Qp B9 (Qp A0 (Rb (Qr (.bool _) ?_)))))))))))));rfl
theorem n9_ari (p:Pt)(hl:p.args.length≤1048576):Ap Tryz.prog 183 [.agg (cPt p)] (.bool (Tv p)):=by
 refine Ap.body (n:=29) tok Tryz.func183 rfl rfl rfl fun H=>?_
 refine Ae (Qp (Gc C5) (Qp A0 (Ag (Bk (Qp (Qf C5) (Qp Bi (Ag (AW.block (Ae (Qp Av (Qp A0 (Ag (Aq (fun hc1=>Ae (Qp (Qf Wf) (Qp Cw ?_))) fun hc1=>?_)))))))))))))
 ·
  refine Qp (Ah (n:=p.args.length) tok rfl rfl rfl (by simp)) ?_;refine Qp Av (Qp A0 (Ra (Qr (.bool _) ?_)));simp only [Ai,Tv,hc1,O4,Rn,Lb,Oz,↓reduceIte,Bz,Bool.or_self]
 refine Bk (Qp Av (Qp A0 (Ag (Aq (fun hc2=>Bg (Aq (fun hc3=>Ae (Qp (Qf Wf) (Qp Cw ?_))) fun hc3=>Ae (Qp Av (Qp A0 (Ag (Aq (fun hc4=>Ae (Qp (Qf Wf) (Qp Cw ?_))) fun hc4=>Rf (Ae (Qp (Qf Wf) (Qp Cw ?_))))))))) fun hc2=>?_))))
 ·
  refine Qp (Ah (n:=p.args.length) tok rfl rfl rfl (by simp)) ?_;refine Qp H6 (Qp A0 (Ra (Qr (.bool _) ?_)));simp only [Ai,Tv,hc1,hc2,hc3,O4,Rn,Lb,Oz,↓reduceIte,Bz,Bool.or_self]
 ·
  refine Qp (Ah (n:=p.args.length) tok rfl rfl rfl (by simp)) ?_;refine Qp Av (Qp A0 (Ra (Qr (.bool _) ?_)))
  (exfalso;clear hl;simp_all;done)
 ·
  refine Qp (Ah (n:=p.args.length) tok rfl rfl rfl (by simp)) ?_;refine Qp Av (Qp A0 (Rb (Qr (.bool _) ?_)))
  (exfalso;clear hl;simp_all;done)
 refine Ae (Qp Av (Qp A0 (Ag (Aq (fun hc5=>Bg (Aq (fun hc6=>Ae (Qp (Qf Wf) (Qp Cw ?_))) fun hc6=>Ae (Qp Av (Qp A0 (Ag (Aq (fun hc7=>Ae (Qp (Qf Wf) (Qp Cw ?_))) fun hc7=>Rf (Ae (Qp (Qf Wf) (Qp Cw ?_))))))))) fun hc5=>?_))))
 ·
  refine Qp (Ah (n:=p.args.length) tok rfl rfl rfl (by simp)) ?_;refine Qp H6 (Qp A0 (Ra (Qr (.bool _) ?_)));simp only [Ai,Tv,hc1,hc2,hc5,hc6,O4,Rn,Lb,Oz,↓reduceIte,Bz,Bool.or_self]
 ·
  refine Qp (Ah (n:=p.args.length) tok rfl rfl rfl (by simp)) ?_;refine Qp Av (Qp A0 (Ra (Qr (.bool _) ?_)))
  (exfalso;clear hl;simp_all;done)
 ·
  refine Qp (Ah (n:=p.args.length) tok rfl rfl rfl (by simp)) ?_;refine Qp Av (Qp A0 (Rb (Qr (.bool _) ?_)))
  (exfalso;clear hl;simp_all;done)
 refine AW.region (Qp Av (Qp A0 (Ag (Aq (fun hc8=>Ae (Qp (Qf Wf) (Qp Cw ?_))) fun hc8=>Ae (Qp Av (Qp A0 (Ag (Aq (fun hc9=>Ae (Qp (Qf Wf) (Qp Cw ?_))) fun hc9=>Rf (Ae (Qp (Qf Wf) (Qp Cw ?_)))))))))))
 ·
  refine Qp (Ah (n:=p.args.length) tok rfl rfl rfl (by simp)) ?_;refine Qp H6 (Qp A0 (Ra (Qr (.bool _) ?_)));simp only [Ai,Tv,hc1,hc2,hc5,hc8,O4,Rn,Lb,Oz,↓reduceIte,Bz,Bool.or_self]
 ·
  refine Qp (Ah (n:=p.args.length) tok rfl rfl rfl (by simp)) ?_;refine Qp Av (Qp A0 (Ra (Qr (.bool _) ?_)));simp only [Ai,Tv,hc1,hc2,hc5,hc8,hc9,O4,Rn,Lb,Oz,↓reduceIte,Bz,Bool.or_self]
 refine Qp (Ah (n:=p.args.length) tok rfl rfl rfl (by simp)) ?_;refine Qp Av (Qp A0 (Rb (Qr (.bool _) ?_)));simp only [Ai,Tv,hc1,hc2,hc5,hc8,hc9,O4,Rn,Lb,Oz,↓reduceIte,Bz,Bool.or_self]
theorem eP (u:Bool)(n m:Int):Ap Tryz.prog 185 [.bool u,.int .i64 n,.int .i64 m] (.bool (kE u n m)):=by
 refine Ap.body (n:=17) tok Tryz.func185 rfl rfl rfl fun H=>?_
 refine Ae (Qp A0 (Bs (Qp A9 (Qp A9 (Qg [] Qw Ao (Qg [(9,_)] Qw Bx (Qg [(10,_)] Qw A9 (Qg [] Qw Ao (Qg [] Qw Ao (AOL.g (y:=.bool _) _ [(12,_),(13,_)] rfl (qZ.all ⟨Ent.Aad _ _,Ent.Aad _ _,trivial⟩) (fun hG=>Rw rfl rfl) rfl ?_))))))))));refine Qg [(11,_),(14,_)] Qw B9 (Qp E0 (Qp A0 (Rb (Qr (.bool _) ?_))));rfl
theorem n9_node (p:Pt)(hc:Bw p.cond≤1048576)(hl:p.args.length≤1048576):Ap Tryz.prog 113 [.agg (cPt p)] (.int .i64 (sT p)):=by
 refine Ap.body (n:=100) tok Tryz.func113 rfl rfl rfl fun H=>?_
 refine Ae (Qp (Gc C5) (Qp Al (Ag (Bk (Qp (Qf C5) (Qp Bi (Qp Bx (Qp A9 ?_))))))));refine Qg [] Qw (Qf C5) (Qg [(11,_)] Qw Bi (Qg [(12,_)] Qw Ej (Qp B9 (Ag (Aq (fun hc1=>Ae (Qp Al (Rc (Qr (Iq _) ?_)))) fun hc1=>Bg (Bk (Qp (B0 C5) (Qp (Qc rfl (n9_ari p hl)) (Qp Et (Ag (Aq (fun hc2=>Ae (Qp Al (Rc (Qr (Iq _) ?_)))) fun hc2=>Bg (AW.seq ?_))))))))))))
 · exact Eq.trans rfl (congrArg (fun q:Int=>AV.int .i64 q) (nd_1 hc1)).symm
 · exact Eq.trans rfl (congrArg (fun q:Int=>AV.int .i64 q) (nd_2 hc1 hc2)).symm
 refine Ol ?_;refine Qn 0 rfl (B0 C5) (Qn 1 rfl (Qc rfl (kU _)) (Qn 2 rfl (B0 C5) (Qn 3 rfl (Qc rfl (eL _)) (Qn 4 rfl A9 (Qo 5 rfl [] Qw (B0 C5) (Qo 6 rfl [(23,_)] Qw (Qc rfl (Ue _)) (Qn 7 rfl B9 (Qn 8 rfl (B0 C5) (Qn 9 rfl (Qc rfl (n9_con _)) (Qn 10 rfl A0 (Qn 11 rfl A0 (Qn 12 rfl A0 ?_))))))))))));refine Hs ?_;refine Bh (AW.seq (AW.seq ?_));refine Ol ?_;refine Qn 0 rfl A9 (Qn 1 rfl (Qf giy) (Qn 2 rfl Bi (Qn 3 rfl (Qc rfl (eP _ _ _)) (Qn 4 rfl A9 (Qo 5 rfl [] Qw A9 (Qo 6 rfl [] Qw (Qf wQ) (Qo 7 rfl [(34,_)] Qw Bi ?_)))))));refine Gz.pure _ _ 8 _ _ rfl (by kernel_rfl) (by kernel_rfl) rfl (.opt _ (.bool _) [(33,_),(35,_)] rfl (qZ.all ⟨Ent.Aad _ _,Ent.Aad _ _,trivial⟩) (fun hG=>Qc rfl (eP _ _ _)) rfl) ?_;refine Qn 9 rfl B9 (Qn 10 rfl A9 (Qo 11 rfl [] Qw A9 (Qo 12 rfl [] Qw (Qf rW) (Qo 13 rfl [(40,_)] Qw Bi ?_))));refine Gz.pure _ _ 14 _ _ rfl (by kernel_rfl) (by kernel_rfl) rfl (.opt _ (.bool _) [(39,_),(41,_)] rfl (qZ.all ⟨Ent.Aad _ _,Ent.Aad _ _,trivial⟩) (fun hG=>Qc rfl (eP _ _ _)) rfl) ?_;refine Qn 15 rfl B9 (Qn 16 rfl A9 (Qo 17 rfl [] Qw (B0 C5) (Qo 18 rfl [(45,_)] Qw (Qc rfl (Ue _)) (Qo 19 rfl [] Qw (Qf giz) (Qo 20 rfl [(47,_)] Qw Bi ?_)))));refine Gz.pure _ _ 21 _ _ rfl (by kernel_rfl) (by kernel_rfl) rfl (.opt _ (.bool _) [(46,_),(48,_)] rfl (qZ.all ⟨Ent.Aad _ _,Ent.Aad _ _,trivial⟩) (fun hG=>Qc rfl (eP _ _ _)) rfl) ?_;refine Qn 22 rfl B9 ?_;refine Hs ?_;refine Bh (Aq (fun hc3=>Ae (Qp Al (Rc (Qr (Iq _) ?_)))) fun hc3=>Bg (Bk (Qp A9 (Ag (Aq (fun hc4=>Ae (Qp S4 (Qp Nh ?_))) fun hc4=>Bg (Bk (Qp A9 (Qp Et (Qp A9 (Qg [] Qw (Qf giy) (Qg [(61,_)] Qw Bi (Qg [(62,_)] Qw Br (Qg [(63,_)] Qw A9 ?_)))))))))))))
 · exact Eq.trans rfl (congrArg (fun q:Int=>AV.int .i64 q) (nd_3 hc1 hc2 hc3)).symm
 ·
  refine Qp (Qc rfl (e8c25 p.cond hc)) (Qp Al (Bs (Qp Ao (Qp Br (Ag (Aq (fun hc5=>Ae (Qp Ao (Qp Al (Rc (Qr (Iq _) ?_))))) fun hc5=>Bg (Bk (Qp A9 (Qp Et (Qp A9 (Qg [] Qw (Qf giy) (Qg [(61,_)] Qw Bi (Qg [(62,_)] Qw Br (Qg [(63,_)] Qw A9 ?_))))))))))))))
  · exact Eq.trans rfl (congrArg (fun q:Int=>AV.int .i64 q) (nd_4 hc1 hc2 hc3 hc4 hc5)).symm
  refine Qg [] Qw (Qf wQ) (Qg [(65,_)] Qw Bi (Qg [(66,_)] Qw Br (Qg [(64,_),(67,_)] Qw B9 (Qp E0 (Qp A9 (Qg [] Qw A9 (Qg [(71,_)] Qw Et (Qg [(72,_)] Qw A9 (Qg [] Qw (Qf rW) ?_)))))))));refine Qg [(74,_)] Qw Bi (Qg [(75,_)] Qw Br (Qg [(73,_),(76,_)] Qw E0 (Qp B9 (Qp A9 (Qg [] Qw (B0 C5) ?_)))));refine Qg [(80,_)] Qw (Qc rfl (Ue _)) (Qg [(81,_)] Qw Et (Qg [(82,_)] Qw A9 (Qg [] Qw (Qf giz) (Qg [(84,_)] Qw Bi (Qg [(85,_)] Qw Br (Qg [(83,_),(86,_)] Qw E0 (Qp B9 (Qp A9 (Qg [] Qw A9 (Qg [(90,_)] Qw Et ?_))))))))));refine Qg [(91,_)] Qw A9 (Qg [] Qw S4 (Qg [(93,_)] Qw Nh (Qg [] Qw (E4 Ie) (AOL.g (y:=.bool _) _ [(94,_),(95,_)] rfl (qZ.all ⟨Ent.Aad _ _,Ent.Aad _ _,trivial⟩) (fun hG=>Qc rfl (bD p.cond Un hc)) rfl ?_))));refine Qg [(96,_)] Qw Et (Qg [(92,_),(97,_)] Qw E0 (Qp B9 (Ag (Aq (fun hc6=>Ae (Qp Al (Rc (Qr (Iq _) ?_)))) fun hc6=>Bg (Ae (Qp Al (Rb (Qr (Iq _) ?_))))))))
  · exact Eq.trans rfl (congrArg (fun q:Int=>AV.int .i64 q) ((nd_n hc1 hc2 hc3 (by rw [hc5];simp)).trans (if_pos hc6))).symm
  exact Eq.trans rfl (congrArg (fun q:Int=>AV.int .i64 q) ((nd_n hc1 hc2 hc3 (by rw [hc5];simp)).trans (Bl hc6))).symm
 refine Qg [] Qw (Qf wQ) (Qg [(65,_)] Qw Bi (Qg [(66,_)] Qw Br (Qg [(64,_),(67,_)] Qw B9 (Qp E0 (Qp A9 (Qg [] Qw A9 (Qg [(71,_)] Qw Et (Qg [(72,_)] Qw A9 (Qg [] Qw (Qf rW) ?_)))))))));refine Qg [(74,_)] Qw Bi (Qg [(75,_)] Qw Br (Qg [(73,_),(76,_)] Qw E0 (Qp B9 (Qp A9 (Qg [] Qw (B0 C5) ?_)))));refine Qg [(80,_)] Qw (Qc rfl (Ue _)) (Qg [(81,_)] Qw Et (Qg [(82,_)] Qw A9 (Qg [] Qw (Qf giz) (Qg [(84,_)] Qw Bi (Qg [(85,_)] Qw Br (Qg [(83,_),(86,_)] Qw E0 (Qp B9 (Qp A9 (Qg [] Qw A9 (Qg [(90,_)] Qw Et ?_))))))))));refine Qg [(91,_)] Qw A9 (Qg [] Qw S4 (Qg [(93,_)] Qw Nh (Qg [] Qw (E4 Ie) (AOL.g (y:=.bool _) _ [(94,_),(95,_)] rfl (qZ.all ⟨Ent.Aad _ _,Ent.Aad _ _,trivial⟩) (fun hG=>Qc rfl (bD p.cond Un hc)) rfl ?_))));refine Qg [(96,_)] Qw Et (Qg [(92,_),(97,_)] Qw E0 (Qp B9 (Ag (Aq (fun hc7=>Ae (Qp Al (Rc (Qr (Iq _) ?_)))) fun hc7=>Bg (Ae (Qp Al (Rb (Qr (Iq _) ?_))))))))
 · exact Eq.trans rfl (congrArg (fun q:Int=>AV.int .i64 q) ((nd_n hc1 hc2 hc3 (by rw [hc4];rfl)).trans (if_pos hc7))).symm
 exact Eq.trans rfl (congrArg (fun q:Int=>AV.int .i64 q) ((nd_n hc1 hc2 hc3 (by rw [hc4];rfl)).trans (Bl hc7))).symm
theorem n9_rest (p:Pt)(hp:medP p):Ap Tryz.prog 52 [.agg (cPt p)] (.int .i64 (Wp p)):=by
 have hnl:(E1 p).length≤1048576:=by rw [dX];exact hp.n
 refine Ap.body (n:=28) tok Tryz.func52 rfl rfl rfl fun H=>?_
 refine Ae (Qp (Gc C5) (Qp Al (Ag (Bk (Qp (B0 C5) ?_)))));refine Qp (Qc rfl (n9_tot 64 p hp.n)) (Qp Ej (Ag (Aq (fun hc1=>Ae (Qp Al (Rc (Qr (Iq _) ?_)))) fun hc1=>Bg (Bk (Qp (B0 C5) (Qp (Qc rfl (n9_dep p hp.n)) (Qp Ej (Ag (Aq (fun hc2=>Ae (Qp Al (Rc (Qr (Iq _) ?_)))) fun hc2=>Bg (Ae (Qp (B0 C5) (Qp (Qc rfl (uG p hp.n)) (Qp eN (Ag (Bk (Qp Al (Ag (AW.block ?_))))))))))))))))))
 · exact Eq.trans rfl (congrArg (fun q:Int=>AV.int .i64 q) (rr_1 hc1)).symm
 · exact Eq.trans rfl (congrArg (fun q:Int=>AV.int .i64 q) (rr_2 hc1 hc2)).symm
 refine AW.Aag (fun (k:Nat)=>(⟨[(3,.sl 14 ((E1 p).map Lw)),(4,.int .i64 (k:Int))],H,28⟩:St)) (fun k=>k≤(E1 p).length∧((E1 p).take k).any (fun q=>sT q != 0)=false) (fun k=>(E1 p).length-k) (0) ?_ Cs ?_
 · exact ⟨E2 _,by simp⟩
 rintro k hR;refine Bk (Qp Ao (Qp G4 ?_));refine Qp (Ah (n:=(E1 p).length) tok rfl rfl rfl (by simp)) ?_;refine Qp Bx (Ag (Aq (fun hc3=>?_) fun hc3=>?_))
 ·
  obtain ⟨a,ha⟩:=Cc hc3;have hlt:=Bu ha;have hm:=B4 ha;refine Bg (AW.seq (AW.block (Ae (Qp G4 (Qp Ao ?_)))));refine Qp (Aa (c:=C5) tok rfl rfl rfl rfl rfl rfl (by omega) (S8 ha)) ?_;refine Qp (B0 C5) (Qp (Qc rfl (n9_node a (hp.len a hm).1 (hp.len a hm).2)) (Qp Al (Bs (Qp Ao (Qp Br (Ag (Aq (fun hc4=>Ae (Qp Ao (Qp Al (Ra (Be (Db (Be (Qr (Iq _) ?_)))))))) fun hc4=>Rf (AW.region (Qp Ao (Qp E9 (Qp Al (Ag ?_))))))))))))
  · exact Eq.trans rfl (congrArg (fun q:Int=>AV.int .i64 q) ((rr_3 hc1 hc2).trans (aN ha hR.2 hc4))).symm
  refine ⟨k+1,?_,?_,Cs⟩
  · exact ⟨hlt,Jg hR.2 ha hc4⟩
  omega
 have hte:=Dm hc3;have hall:=hR.2;rw [hte] at hall;refine AW.exit ?_;refine Bq (Ri (Ae (Qp Al (Rb ?_))));refine Qr (Iq _) ?_;exact Eq.trans rfl (congrArg (fun q:Int=>AV.int .i64 q) ((rr_3 hc1 hc2).trans (X5 hall))).symm
theorem n9_prp (l:List Pt)(hl:l.length≤1048576):Ap Tryz.prog 54 [.sl 14 (l.map Lw)] (.bool (iL l)):=by
 refine Ap.body (n:=16) tok Tryz.func54 rfl rfl rfl fun H=>?_
 refine Ae (Qp A0 (Ag (Bk (Qp Al (Ag (AW.block ?_))))));refine AW.Aag (fun (k:Nat)=>(⟨[(0,.sl 14 (l.map Lw)),(3,.int .i64 (k:Int))],H,16⟩:St)) (fun k=>k≤l.length∧(l.take k).any (fun q=>decide (8≤q.op))=false) (fun k=>l.length-k) (0) ?_ Cs ?_
 · exact ⟨E2 _,by simp⟩
 rintro k hR;refine Bk (Qp Ao (Qp G4 ?_));refine Qp (Ah (n:=l.length) tok rfl rfl rfl (by simp)) ?_;refine Qp Bx (Ag (Aq (fun hc1=>?_) fun hc1=>?_))
 ·
  obtain ⟨a,ha⟩:=Cc hc1;have hlt:=Bu ha;have hm:=B4 ha;refine Bg (AW.seq (AW.block (Ae (Qp G4 (Qp Ao ?_)))));refine Qp (Aa (c:=C5) tok rfl rfl rfl rfl rfl rfl (by omega) (zM ha)) ?_;refine Qp (Qf C5) (Qp Bi (Qp H6 (Ag (Aq (fun hc2=>Ae (Qp A0 (Ra (Be (Db (Be (Qr (.bool _) ?_))))))) fun hc2=>Rf (AW.region (Qp Ao (Qp E9 (Qp Al (Ag ?_)))))))))
  · exact Eq.trans rfl (congrArg (fun q:Bool=>AV.bool q) (prp_no ha hc2)).symm
  refine ⟨k+1,?_,?_,Cs⟩
  · exact ⟨hlt,Jg hR.2 ha hc2⟩
  omega
 have hte:=Dm hc1;have hall:=hR.2;rw [hte] at hall;refine AW.exit ?_;refine Bq (Ri (Ae (Qp A0 (Rb ?_))));refine Qr (.bool _) ?_;exact Eq.trans rfl (congrArg (fun q:Bool=>AV.bool q) ((congrArg not hall:iL l=true))).symm
theorem vJ (p:Pt)(hp:medP p):Ap Tryz.prog 18 [.agg (cPt p)] (.int .i64 (mF p)):=by
 have hnl:(E1 p).length≤1048576:=by rw [dX];exact hp.n
 refine Ap.body (n:=59) tok Tryz.func18 rfl rfl rfl fun H=>?_
 refine Ae (Qp (Gc C5) (Qp Al (Ag (Bk (Qp (B0 C5) (Qp (Qc rfl (n9_rest p hp)) (Qp Al (Bs (Qp Ao (Qp Br (Ag (Aq (fun hc1=>Ae (Qp Ao (Qp Al (Rc (Qr (Iq _) ?_))))) fun hc1=>?_))))))))))))
 · exact Eq.trans rfl (congrArg (fun q:Int=>AV.int .i64 q) (cr_1 hc1)).symm
 refine Bg (Ae (Qp (B0 C5) (Qp (Qc rfl (uG p hp.n)) (Qp eN (Ag (Bk (Qp G4 (Qp (Qc rfl (n9_prp (E1 p) hnl)) (Qp Et (Ag (Aq (fun hc2=>Ae (Qp Al (Rc (Qr (Iq _) ?_)))) fun hc2=>Bg (Ae (Qp Al (Qp Al (Ag (Bk (Qp Al (Ag (AW.block ?_)))))))))))))))))))
 · exact Eq.trans rfl (congrArg (fun q:Int=>AV.int .i64 q) (cr_2 hc1 hc2)).symm
 refine AW.Aag (fun (q:Nat×Int×Int)=>(⟨[(4,.sl 14 ((E1 p).map Lw)),(5,.int .i64 q.2.1),(6,.int .i64 q.2.2),(7,.int .i64 (q.1:Int))],H,59⟩:St)) (fun q=>q.1≤(E1 p).length∧Wx 0 0 (E1 p)=Wx q.2.1 q.2.2 ((E1 p).drop q.1)∧0≤q.2.1∧q.2.1≤q.1∧0≤q.2.2∧q.2.2≤q.1) (fun q=>(E1 p).length-q.1) ((0,0,0)) ?_ Cs ?_
 · exact ⟨E2 _,rfl,R0 _,R0 _,R0 _,R0 _⟩
 rintro q hR;refine Bk (Qp Ao (Qp G4 ?_));refine Qp (Ah (n:=(E1 p).length) tok rfl rfl rfl (by simp)) ?_;refine Qp Bx (Ag (Aq (fun hc3=>?_) fun hc3=>?_))
 ·
  obtain ⟨a,ha⟩:=Cc hc3;have hlt:=Bu ha;have hm:=B4 ha;obtain ⟨hb0,hb1,hb2,hb3⟩:=hR.2.2;refine Bg (AW.seq (AW.block (Bk (Qp G4 (Qp Ao ?_)))));refine Qp (Aa (c:=C5) tok rfl rfl rfl rfl rfl rfl (by omega) (S8 ha)) ?_;refine Qp (B0 C5) (Qp (Qc rfl (kU _)) (Ag (Aq (fun hc4=>Bk (Qp G4 (Qp Ao ?_))) fun hc4=>Bg (Ae (Qp G4 (Qp Ao ?_))))))
  ·
   refine Qp (Aa (c:=C5) tok rfl rfl rfl rfl rfl rfl (by omega) (S8 ha)) ?_;refine Qp (Qf wQ) (Qp Bi (Qp Ao (Qp Br (Ag (Aq (fun hc5=>Ae (Qp Al (Rc (Be (Rj (Be (Qr (Iq _) ?_))))))) fun hc5=>Bg (AW.region (Qp Ao (Qp E9 (Qp Al (Bs (Qp G4 (Qp Ao ?_))))))))))))
   · exact Eq.trans rfl (congrArg (fun q:Int=>AV.int .i64 q) ((Aab hc1 hc2).trans (hR.2.1.trans (goC_1 ha hc4 hc5)))).symm
   refine Qp (Aa (c:=C5) tok rfl rfl rfl rfl rfl rfl (by omega) (S8 ha)) ?_;refine Qp (B0 C5) (Qp (Qc rfl (eL _)) (Qp A9 (Qg [] Qw G4 (Qg [] Qw Ao ?_))));refine AOL.g (y:=.ptr _) _ [(44,_),(45,_)] rfl (qZ.all ⟨Ent.Aad _ _,Ent.Aad _ _,trivial⟩) (fun hG=>Aa (c:=C5) tok rfl rfl rfl rfl rfl rfl (by omega) (S8 ha)) rfl ?_;refine Qg [(46,_)] Qw (B0 C5) (Qg [(47,_)] Qw (Qc rfl (Ue _)) (Qp B9 (Ag (Aq (fun hc6=>Bk (Qp G4 (Qp Ao ?_))) fun hc6=>Rf (AW.region (Qp Ao (Qp E9 (Qp Al (Ag ?_)))))))))
   ·
    refine Qp (Aa (c:=C5) tok rfl rfl rfl rfl rfl rfl (by omega) (S8 ha)) ?_;refine Qp (Qf rW) (Qp Bi (Qp Ao (Qp Br (Ag (Aq (fun hc7=>Ae (Qp Al (Rc (Rj (Be (Qr (Iq _) ?_)))))) fun hc7=>Bg (AW.region (Qp Ao (Qp E9 (Qp Al (Rk (AW.region (Qp Ao (Qp E9 (Qp Al (Ag ?_)))))))))))))))
    · exact Eq.trans rfl (congrArg (fun q:Int=>AV.int .i64 q) ((Aab hc1 hc2).trans (hR.2.1.trans (goC_2 ha (by rw [hc5,Ox]) hc6 hc7)))).symm
    refine ⟨(q.1+1,q.2.1+1,q.2.2+1),?_,?_,Cs⟩
    · exact ⟨hlt,hR.2.1.trans (goC_yy ha hc4 hc5 hc6 hc7),by simp only;omega⟩
    simp only;omega
   refine ⟨(q.1+1,q.2.1+1,q.2.2),?_,?_,Cs⟩
   · exact ⟨hlt,hR.2.1.trans (goC_yn ha hc4 hc5 hc6),by simp only;omega⟩
   simp only;omega
  refine Qp (Aa (c:=C5) tok rfl rfl rfl rfl rfl rfl (by omega) (S8 ha)) ?_;refine Qp (B0 C5) (Qp (Qc rfl (eL _)) (Qp A9 (Qg [] Qw G4 (Qg [] Qw Ao ?_))));refine AOL.g (y:=.ptr _) _ [(44,_),(45,_)] rfl (qZ.all ⟨Ent.Aad _ _,Ent.Aad _ _,trivial⟩) (fun hG=>Aa (c:=C5) tok rfl rfl rfl rfl rfl rfl (by omega) (S8 ha)) rfl ?_;refine Qg [(46,_)] Qw (B0 C5) (Qg [(47,_)] Qw (Qc rfl (Ue _)) (Qp B9 (Ag (Aq (fun hc8=>Bk (Qp G4 (Qp Ao ?_))) fun hc8=>Rf (AW.region (Qp Ao (Qp E9 (Qp Al (Ag ?_)))))))))
  ·
   refine Qp (Aa (c:=C5) tok rfl rfl rfl rfl rfl rfl (by omega) (S8 ha)) ?_;refine Qp (Qf rW) (Qp Bi (Qp Ao (Qp Br (Ag (Aq (fun hc9=>Ae (Qp Al (Rc (Rj (Be (Qr (Iq _) ?_)))))) fun hc9=>Bg (AW.region (Qp Ao (Qp E9 (Qp Al (Rk (AW.region (Qp Ao (Qp E9 (Qp Al (Ag ?_)))))))))))))))
   · exact Eq.trans rfl (congrArg (fun q:Int=>AV.int .i64 q) ((Aab hc1 hc2).trans (hR.2.1.trans (goC_2 ha (by rw [hc4];rfl) hc8 hc9)))).symm
   refine ⟨(q.1+1,q.2.1,q.2.2+1),?_,?_,Cs⟩
   · exact ⟨hlt,hR.2.1.trans (goC_ny ha hc4 hc8 hc9),by simp only;omega⟩
   simp only;omega
  refine ⟨(q.1+1,q.2.1,q.2.2),?_,?_,Cs⟩
  · exact ⟨hlt,hR.2.1.trans (goC_nn ha hc4 hc8),by simp only;omega⟩
  simp only;omega
 have hde:=E3 hc3;have hall:=hR.2.1;rw [hde,Wx] at hall;refine AW.exit ?_;refine Bq (Ri (Ae (Qp Al (Rb ?_))));refine Qr (Iq _) ?_;exact Eq.trans rfl (congrArg (fun q:Int=>AV.int .i64 q) ((Aab hc1 hc2).trans hall)).symm
theorem n9_Same (p q:Pt)(hp:medP p)(hq:medP q):Ap Tryz.prog 51 [.agg (cPt p),.agg (cPt q)] (.bool (smP p q)):=by
 revert q
 induction p using Pt.ind
 rename_i p ih;intro q hq;have hal:=Od p;have hpn:=hp.n;have hql:=Od q;have hqn:=hq.n;refine Ap.body (n:=75) tok Tryz.func51 rfl rfl rfl fun H=>?_
 refine Ae (Qp (Gc C5) (Qp (Gc C5) (Qp A0 (Ag (Bk (Qp (Qf C5) (Qp Bi (Qp (Qf C5) (Qp Bi (Qp Br (Qp A9 (Qg [] Qw (Qf giy) (Qg [(12,_)] Qw Bi (Qg [] Qw (Qf giy) (Qg [(14,_)] Qw Bi (AOL.g (y:=.bool _) _ [(13,_),(15,_)] rfl (qZ.all ⟨Ent.Aad _ _,Ent.Aad _ _,trivial⟩) (fun hG=>Ik rfl rfl) rfl ?_))))))))))))))));refine Qp B9 (Qp A9 (Qg [] Qw (Qf wQ) (Qg [(19,_)] Qw Bi (Qg [] Qw (Qf wQ) (Qg [(21,_)] Qw Bi (AOL.g (y:=.bool _) _ [(20,_),(22,_)] rfl (qZ.all ⟨Ent.Aad _ _,Ent.Aad _ _,trivial⟩) (fun hG=>Ik rfl rfl) rfl ?_))))));refine Qp B9 (Qp A9 (Qg [] Qw (Qf rW) (Qg [(26,_)] Qw Bi (Qg [] Qw (Qf rW) (Qg [(28,_)] Qw Bi (AOL.g (y:=.bool _) _ [(27,_),(29,_)] rfl (qZ.all ⟨Ent.Aad _ _,Ent.Aad _ _,trivial⟩) (fun hG=>Ik rfl rfl) rfl ?_))))));refine Qp B9 (Qp A9 (Qg [] Qw (Qf giz) (Qg [(33,_)] Qw Bi (Qg [] Qw (Qf giz) (Qg [(35,_)] Qw Bi (AOL.g (y:=.bool _) _ [(34,_),(36,_)] rfl (qZ.all ⟨Ent.Aad _ _,Ent.Aad _ _,trivial⟩) (fun hG=>Ik rfl rfl) rfl ?_))))));refine Qp B9 (Qp A9 (Qg [] Qw S4 (Qg [(40,_)] Qw Nh (Qg [] Qw S4 (Qg [(42,_)] Qw Nh (AOL.g (y:=.bool _) _ [(41,_),(43,_)] rfl (qZ.all ⟨Ent.Aad _ _,Ent.Aad _ _,trivial⟩) (fun hG=>Qc rfl (bD p.cond q.cond (hp.cond p (nF p)))) rfl ?_))))));refine Qg [(44,_)] Qw Et (Qp B9 (Qp A9 (Qg [] Qw (Qf Wf) (Qg [(48,_)] Qw Cw ?_))));refine AOL.g (y:=Iq _) _ [(49,_)] rfl (qZ.all ⟨Ent.Aad _ _,trivial⟩) (fun hG=>Ah (n:=p.args.length) tok rfl rfl rfl (by simp)) rfl ?_;refine Qg [] Qw (Qf Wf) (Qg [(51,_)] Qw Cw ?_);refine AOL.g (y:=Iq _) _ [(52,_)] rfl (qZ.all ⟨Ent.Aad _ _,trivial⟩) (fun hG=>Ah (n:=q.args.length) tok rfl rfl rfl (by simp)) rfl ?_;refine AOL.g (y:=.bool _) _ [(50,_),(53,_)] rfl (qZ.all ⟨Ent.Aad _ _,Ent.Aad _ _,trivial⟩) (fun hG=>Ik rfl rfl) rfl ?_;refine Qp B9 (Ag (Aq (fun hc1=>Ae (Qp A0 (Rc (Qr (.bool _) ?_)))) fun hc1=>?_))
 · exact Eq.trans rfl (congrArg (fun q:Bool=>AV.bool q) ((eI p q).trans (if_pos hc1))).symm
 have hlen:=hdP_len hc1;refine Bg (Bk (Qp Al (Ag (AW.block ?_))));refine AW.Aag (fun (k:Nat)=>(⟨[(2,.ptr (cPt p)),(3,.ptr (cPt q)),(5,.int .i64 (k:Int))],H,75⟩:St)) (fun k=>k≤p.args.length∧S9 p.args q.args=S9 (p.args.drop k) (q.args.drop k)) (fun k=>p.args.length-k) (0) ?_ Cs ?_
 · exact ⟨E2 _,rfl⟩
 rintro k hR;refine Bk (Qp Ao (Qp (Qf Wf) (Qp Cw ?_)));refine Qp (Ah (n:=p.args.length) tok rfl rfl rfl (by simp)) ?_;refine Qp Bx (Ag (Aq (fun hc2=>?_) fun hc2=>?_))
 ·
  obtain ⟨x,hax⟩:=Cc hc2;have hltx:=Bu hax;have hmx:=B4 hax;have hay:=List.getElem?_eq_getElem (l:=q.args) (i:=k) (by omega);generalize q.args[k]=y at hay;refine Bg (AW.seq (AW.block (AW.seq ?_)));refine Ol ?_;refine Qn 0 rfl (Qf Wf) (Qn 1 rfl Cw (Qn 2 rfl Ao ?_));refine Qn 3 rfl (Aa (c:=C5) tok rfl rfl rfl rfl rfl rfl (by omega) (Vu hax)) ?_;refine Qn 4 rfl (B0 C5) (Qn 5 rfl (Qf Wf) (Qn 6 rfl Cw (Qn 7 rfl Ao ?_)));refine Qn 8 rfl (Aa (c:=C5) tok rfl rfl rfl rfl rfl rfl (by omega) (Vu hay)) ?_;refine Qn 9 rfl (B0 C5) (Qn 10 rfl (Qc rfl (ih x hmx (oS hp hmx) y (oS hq (B4 hay)))) (Qn 11 rfl Et ?_));refine Hs ?_;refine Bh (Aq (fun hc3=>Ae (Qp A0 (Ra (Be (Db (Be (Qr (.bool _) ?_))))))) fun hc3=>Rf (AW.region (Qp Ao (Qp E9 (Qp Al (Ag ?_))))))
  · exact Eq.trans rfl (congrArg (fun q:Bool=>AV.bool q) ((eI p q).trans ((Bl hc1).trans (hR.2.trans (smPs_no hax hay hc3))))).symm
  refine ⟨k+1,?_,?_,Cs⟩
  · exact ⟨hltx,hR.2.trans (smPs_on hax hay hc3)⟩
  omega
 have hde:=E3 hc2;have hall:=hR.2;rw [hde,S9] at hall;refine AW.exit ?_;refine Bq (Ri (Ae (Qp A0 (Rb ?_))));refine Qr (.bool _) ?_;exact Eq.trans rfl (congrArg (fun q:Bool=>AV.bool q) ((eI p q).trans ((Bl hc1).trans hall))).symm
theorem gJ (x y:List Int)(hx:x.length≤1048576)(hy:y.length≤1048576):Ap Tryz.prog 50 [.sl 1 (x.map cI),.sl 1 (y.map cI)] (.bool (siB x y)):=by
 refine Ap.body (n:=26) tok Tryz.func50 rfl rfl rfl fun H=>?_
 refine Ae (Qp A0 (Ag (Bk (Qp G4 ?_))));refine Qp (Ah (n:=x.length) tok rfl rfl rfl (by simp)) ?_;refine Qp G4 ?_;refine Qp (Ah (n:=y.length) tok rfl rfl rfl (by simp)) ?_;refine Qp Br (Ag (Aq (fun hc1=>Ae (Qp A0 (Rc (Qr (.bool _) ?_)))) fun hc1=>?_))
 · exact Eq.trans rfl (congrArg (fun q:Bool=>AV.bool q) ((if_pos hc1:siB x y=false))).symm
 have hlen:x.length=y.length:=by simp at hc1;omega
 refine Bg (Bk (Qp Al (Ag (AW.block ?_))));refine AW.Aag (fun (k:Nat)=>(⟨[(0,.sl 1 (x.map cI)),(1,.sl 1 (y.map cI)),(5,.int .i64 (k:Int))],H,26⟩:St)) (fun k=>k≤x.length∧wU x y=wU (x.drop k) (y.drop k)) (fun k=>x.length-k) (0) ?_ Cs ?_
 · exact ⟨E2 _,rfl⟩
 rintro k hR;refine Bk (Qp Ao (Qp G4 ?_));refine Qp (Ah (n:=x.length) tok rfl rfl rfl (by simp)) ?_;refine Qp Bx (Ag (Aq (fun hc2=>?_) fun hc2=>?_))
 ·
  obtain ⟨a,ha⟩:=Cc hc2;have hlt:=Bu ha;have hm:=B4 ha;have hay:=List.getElem?_eq_getElem (l:=y) (i:=k) (by omega);generalize y[k]=c at hay;refine Bg (AW.seq (AW.block (AW.seq ?_)));refine Ol ?_;refine Qn 0 rfl G4 (Qn 1 rfl Ao ?_);refine Qn 2 rfl (Aa (c:=[Iq _]) tok rfl rfl rfl rfl rfl rfl (by omega) (uY ha)) ?_;refine Qn 3 rfl Bi (Qn 4 rfl G4 (Qn 5 rfl Ao ?_));refine Qn 6 rfl (Aa (c:=[Iq _]) tok rfl rfl rfl rfl rfl rfl (by omega) (uY hay)) ?_;refine Qn 7 rfl Bi (Qn 8 rfl Br ?_);refine Hs ?_;refine Bh (Aq (fun hc3=>Ae (Qp A0 (Ra (Be (Db (Be (Qr (.bool _) ?_))))))) fun hc3=>Rf (AW.region (Qp Ao (Qp E9 (Qp Al (Ag ?_))))))
  · exact Eq.trans rfl (congrArg (fun q:Bool=>AV.bool q) (((Bl hc1).trans (hR.2.trans (siL_no ha hay hc3)):siB x y=false))).symm
  refine ⟨k+1,?_,?_,Cs⟩
  · exact ⟨hlt,hR.2.trans (siL_on ha hay hc3)⟩
  omega
 have hde:=E3 hc2;have hall:=hR.2;rw [hde,wU] at hall;refine AW.exit ?_;refine Bq (Ri (Ae (Qp A0 (Rb ?_))));refine Qr (.bool _) ?_;exact Eq.trans rfl (congrArg (fun q:Bool=>AV.bool q) (((Bl hc1).trans hall:siB x y=true))).symm
set_option maxHeartbeats 3200000
set_option maxRecDepth 20000

theorem ex_at {l:List Ex}{k:Nat}{a:Ex}(h:l[k]? = some a):(l.map M5)[k]? = some (cE a):=by rw [List.getElem?_map,h];exact congrArg some (Qt a)
theorem vI (q:Qy)(hq:medQ q):Ap Tryz.prog 16 [.agg (cQy q),.agg (cQy q)] (.bool true):=by
 have hv:=hq.v;have hr:=hq.r;refine Ap.body (n:=83) tok Tryz.func16 rfl rfl rfl fun H=>?_
 refine Ae (Qp (Gc It) (Qp (Gc It) (Qp A0 (Ag (Bk (Qp (Qf It) (Qp Hc (Qp (Qf It) (Qp Hc (Qp (Dk rfl rfl) (Qp A9 (Qg [] Qw (Qf pB) (Qg [(13,_)] Qw Cw ?_)))))))))))));refine AOL.g (y:=Iq _) _ [(14,_)] rfl (qZ.all ⟨Ent.Aad _ _,trivial⟩) (fun hG=>Ah (n:=q.vars.length) tok rfl rfl rfl (by simp)) rfl ?_;refine Qg [] Qw (Qf pB) (Qg [(16,_)] Qw Cw ?_);refine AOL.g (y:=Iq _) _ [(17,_)] rfl (qZ.all ⟨Ent.Aad _ _,trivial⟩) (fun hG=>Ah (n:=q.vars.length) tok rfl rfl rfl (by simp)) rfl ?_;refine AOL.g (y:=.bool _) _ [(15,_),(18,_)] rfl (qZ.all ⟨Ent.Aad _ _,Ent.Aad _ _,trivial⟩) (fun hG=>Ik rfl rfl) rfl ?_;refine Qp B9 (Qp A9 (Qg [] Qw (Qf gjy) (Qg [(22,_)] Qw Cw (Qg [] Qw (Qf gjy) (Qg [(24,_)] Qw Cw (AOL.g (y:=.bool _) _ [(23,_),(25,_)] rfl (qZ.all ⟨Ent.Aad _ _,Ent.Aad _ _,trivial⟩) (fun hG=>Qc rfl (gJ q.key q.key hq.k hq.k)) rfl ?_))))));refine Qg [(26,_)] Qw Et (Qp B9 (Qp A9 (Qg [] Qw (Qf gky) (Qg [(30,_)] Qw (B0 C5) (Qg [] Qw (Qf gky) (Qg [(32,_)] Qw (B0 C5) (AOL.g (y:=.bool _) _ [(31,_),(33,_)] rfl (qZ.all ⟨Ent.Aad _ _,Ent.Aad _ _,trivial⟩) (fun hG=>Qc rfl (n9_Same q.pattern q.pattern hq.p hq.p)) rfl ?_)))))));refine Qg [(34,_)] Qw Et (Qp B9 (Qp A9 (Qg [] Qw (Qf [_]) (Qg [(38,_)] Qw Cw ?_))));refine AOL.g (y:=Iq _) _ [(39,_)] rfl (qZ.all ⟨Ent.Aad _ _,trivial⟩) (fun hG=>Ah (n:=q.returns.length) tok rfl rfl rfl (by simp)) rfl ?_;refine Qg [] Qw (Qf [_]) (Qg [(41,_)] Qw Cw ?_);refine AOL.g (y:=Iq _) _ [(42,_)] rfl (qZ.all ⟨Ent.Aad _ _,trivial⟩) (fun hG=>Ah (n:=q.returns.length) tok rfl rfl rfl (by simp)) rfl ?_;refine AOL.g (y:=.bool _) _ [(40,_),(43,_)] rfl (qZ.all ⟨Ent.Aad _ _,Ent.Aad _ _,trivial⟩) (fun hG=>Ik rfl rfl) rfl ?_;refine Qp B9 (Ag (Aq (fun hc1=>?_) fun hc1=>Bg (Bk (Qp Al (Ag (AW.block ?_))))))
 · simp [tY,tP] at hc1
 refine AW.Aag (fun (k:Nat)=>(⟨[(2,.ptr (cQy q)),(3,.ptr (cQy q)),(5,.int .i64 (k:Int))],H,83⟩:St)) (fun k=>k≤q.vars.length) (fun k=>q.vars.length-k) (0) ?_ Cs ?_
 · exact E2 _
 rintro k hR;refine Bk (Qp Ao (Qp (Qf pB) (Qp Cw ?_)));refine Qp (Ah (n:=q.vars.length) tok rfl rfl rfl (by simp)) ?_;refine Qp Bx (Ag (Aq (fun hc2=>?_) fun hc2=>AW.exit ?_))
 ·
  obtain ⟨a,ha⟩:=Cc hc2;have hlt:=Bu ha;have hm:=B4 ha;refine Bg (AW.seq (AW.block (AW.seq ?_)));refine Ol ?_;refine Qn 0 rfl (Qf pB) (Qn 1 rfl Cw (Qn 2 rfl Ao ?_));refine Qn 3 rfl (Aa (c:=Jz) tok rfl rfl rfl rfl rfl rfl (by omega) (Dv ha)) ?_;refine Qn 4 rfl (B0 Jz) (Qn 5 rfl (Qf pB) (Qn 6 rfl Cw (Qn 7 rfl Ao ?_)));refine Qn 8 rfl (Aa (c:=Jz) tok rfl rfl rfl rfl rfl rfl (by omega) (Dv ha)) ?_;refine Qn 9 rfl (B0 Jz) (Qn 10 rfl (Fm tok rfl rfl rfl rfl rfl) ?_);refine Hs ?_;refine Bh (Aq (fun hc3=>?_) fun hc3=>Rf (AW.region (Qp Ao (Qp E9 (Qp Al (Ag ?_))))))
  · simp [] at hc3
  refine ⟨k+1,?_,?_,Cs⟩
  · exact hlt
  omega
 refine Bq (Ri (Bk (Qp Al (Ag (AW.block ?_)))));refine AW.Aag (fun (k:Nat)=>(⟨[(2,.ptr (cQy q)),(3,.ptr (cQy q)),(6,.int .i64 (k:Int))],H,83⟩:St)) (fun k=>k≤q.returns.length) (fun k=>q.returns.length-k) (0) ?_ Cs ?_
 · exact E2 _
 rintro k hR;refine Bk (Qp Ao (Qp (Qf [_]) (Qp Cw ?_)));refine Qp (Ah (n:=q.returns.length) tok rfl rfl rfl (by simp)) ?_;refine Qp Bx (Ag (Aq (fun hc4=>?_) fun hc4=>AW.exit ?_))
 ·
  obtain ⟨a,ha⟩:=Cc hc4;have hlt:=Bu ha;have hm:=B4 ha;refine Bg (AW.seq (AW.block (AW.seq ?_)));refine Ol ?_;refine Qn 0 rfl (Qf [_]) (Qn 1 rfl Cw (Qn 2 rfl Ao ?_));refine Qn 3 rfl (Aa (c:=Ie) tok rfl rfl rfl rfl rfl rfl (by omega) (ex_at ha)) ?_;refine Qn 4 rfl Nh (Qn 5 rfl (Qf [_]) (Qn 6 rfl Cw (Qn 7 rfl Ao ?_)));refine Qn 8 rfl (Aa (c:=Ie) tok rfl rfl rfl rfl rfl rfl (by omega) (ex_at ha)) ?_;refine Qn 9 rfl Nh (Qn 10 rfl (Qc rfl (bD a a (hq.e a hm))) (Qn 11 rfl Et ?_));refine Hs ?_;refine Bh (Aq (fun hc5=>?_) fun hc5=>Rf (AW.region (Qp Ao (Qp E9 (Qp Al (Ag ?_))))))
  · rw [Ni] at hc5;cases hc5
  refine ⟨k+1,?_,?_,Cs⟩
  · exact hlt
  omega
 refine Bq (Ri (Ae (Qp A0 (Rb ?_))));refine Qr (.bool _) ?_;rfl


theorem GS.refl (s:St):GS s s:=fun g a w h=>⟨g,h,Ext.refl g w⟩
theorem AW.ghostPost {P:Program}{c:Code}{Q:Exit→St→Prop}{s:St}(h:AW P c (fun e s=>∃s',GS s s'∧Q e s') s):AW P c Q s:=by
 intro Q' g a w hG hQ;refine h Q' g a w hG fun e g' s' a' w' h1 h2 ⟨s2,h3,h4⟩=>?_
 obtain ⟨g2,k1,k2⟩:=h3 g' a' w' h1;exact hQ e g2 s2 a' w' k1 (h2.trans k2) h4

section
variable {P:Program} {T:List (Nat×TD)} {d:Option Nat} {ty:TypeId} {pos:String} {aft:Array Edge} {gd:Option (Nat×Bool)} {ρ:Operand→AV} {K:List HO→Prop}
theorem Jp {t e z:Nat}{td te:TD}{vs:Array Value}{es:List (List AV)}(hT:Hl P T)(ht:Bj T t=some td)(hk:td.kind = .slice e)(hte:Bj T e=some te)(hz:te.size=z)
    (hb:Nat.ble (1*z) 16777216=true) (hl:Nat.beq vs.toList.length z=true) (hs:Bb (vs.toList.map AV.val)=true) (hp:Nat.blt 0 z=true) (hes:[vs.toList.map AV.val]=es):Cm P ⟨d,.buildSlice t 1 #[(0,.const (.agg vs))],ty,pos,aft,gd⟩ ρ K (.sl z es):=by
  have h:=Aj (d:=d) (ty:=ty) (pos:=pos) (aft:=aft) (gd:=gd) (K:=K) (ρ:=fun _=>.agg (vs.toList.map AV.val)) (parts:=#[(0,.const (.agg vs))]) (n:=1) (es:=es) hT ht hk hte hz rfl hb
    (by simp only [Tp,B2,Dx,Nat.beq_refl,Lk,C3,hs,hl]) hp (by subst hes;rfl)
  intro g w a H next Q hr hH hK hn
  refine h g w a H next Q (fun y hy=>?_) hH hK hn
  simp only [Op.operands,List.map_toArray,Dn,C8,List.mem_toArray,My] at hy;subst hy;refine .agg vs _ (by simp) (fun i x hi=>?_);rw [List.getElem?_map] at hi;cases hv:vs.toList[i]? with
  | none=>rw [hv] at hi;cases hi
  | some u=>
    rw [hv] at hi;cases hi
    have:vs.getD i undef=u:=by
      rw [Hf];have:vs[i]? = some u:=by simpa using hv
      rw [this];rfl
    rw [this];exact .val _
end
set_option maxHeartbeats 3200000
set_option maxRecDepth 20000

theorem fF (read:Syn→PS→Syn×PS)(z:Syn)(st:PS):L4 read z st=if ((Hm st).bad != 0) then (z,Hm st) else ((read z (adv (Hv st))).1,Hj (read z (adv (Hv st))).2):=rfl
theorem Us (read:Syn→PS→Syn×PS)(z:Syn)(st:PS)(bp bo:Nat)(R:List HO)(f:Nat)(hf:Sj Tryz.prog f=true)(first cap:List AV)(hlt:st.pos<st.toks.length)(hS:O1 st)
  (hcl:(Hm st).bad=0→Bp Tryz.prog f (.box bp 223 (cP (adv (Hv st))) :: .box bo 25 (cSyn z)::R) (first ++ []++cap) (fun r H'=>r = .tuple []∧H' = .box bp 223 (cP (read z (adv (Hv st))).2) :: .box bo 25 (cSyn (read z (adv (Hv st))).1)::R)) :
  Bp Tryz.prog 226 (.box bp 223 (cP st) :: .box bo 25 (cSyn z)::R) [.val (.pointer (some ⟨bp,0,none⟩)),.fn (.func f) first cap] (fun r H'=>r = .tuple []∧H' = .box bp 223 (cP (L4 read z st).2) :: .box bo 25 (cSyn (L4 read z st).1)::R):=by
 refine vM st (read z (adv (Hv st))).2 (L4 read z st).2 bp (.box bo 25 (cSyn z)::R) (.box bo 25 (cSyn (L4 read z st).1)::R) f hf first cap hlt hS (fun hb=>?_) (fun hb=>?_)
 ·
  have e:L4 read z st=((read z (adv (Hv st))).1,Hj (read z (adv (Hv st))).2):=by rw [fF,hb];rfl
  refine Bp.mono' (hcl hb) fun r K hk=>⟨?_,by rw [e]⟩
  rw [hk.2,e]
 have e:L4 read z st=(z,Hm st):=by rw [fF,if_pos (by simpa using hb)]
 rw [e];exact ⟨rfl,rfl⟩
theorem X2 {D:Int}{st:PS}(hD:0≤D)(h:okD D st)(hb:(Hm st).bad=0):okD (D+1) (adv (Hv st)):=by
 obtain ⟨h1,h2,h3⟩:=h
 have hd:¬64≤st.depth:=fun hd=>by
  unfold Hm at hb;rw [if_pos (decide_eq_true hd)] at hb;exact absurd (Y9 (e:=12) (by decide) st) (by simp [hb])
 have e1:(Hv st).depth=st.depth+1:=cZ (by omega) (by omega);exact ⟨h1,show D+1≤(Hv st).depth by omega,show (Hv st).depth≤64 by omega⟩
theorem zJ (k:Nat)(h:k<4):∃s,totL[k]? = some s∧(Ii.drop (k*2)).take 2 = [AV.str s.1,.int .i64 s.2]∧s.1.length≤1048576:=by
 match k,h with
 | 0,_=>exact ⟨_,rfl,rfl,by decide⟩
 | 1,_=>exact ⟨_,rfl,rfl,by decide⟩
 | 2,_=>exact ⟨_,rfl,rfl,by decide⟩
 | 3,_=>exact ⟨_,rfl,rfl,by decide⟩

theorem sD (st:PS)(bp:Nat)(z:Syn)(bo:Nat)(R:List HO)(D:Int)(hD:0≤D)(E:PS→Syn×PS)(hFE:Cq E)(hE:∀(st:PS) (bp:Nat),okD (D+1) st→Bc Tryz.prog 164 bp 223 (cP st) (cP (E st).2) [.val (.pointer (some ⟨bp,0,none⟩))] (.agg (cSyn (E st).1)))(hO:okD (D+1) st):Bp Tryz.prog 328 (.box bp 223 (cP st) :: .box bo 25 (cSyn z)::R) [.ptr [.val (.pointer (some ⟨bp,0,none⟩))],.val (.pointer (some ⟨bo,0,none⟩))] (fun r H'=>r = .tuple []∧H' = .box bp 223 (cP (Ce F2 (E st).2)) :: .box bo 25 (cSyn (E st).1)::R):=by
 have hS:=((hFE.okD (by omega) hO).1);refine Bp.body (n:=6) tok Tryz.func328 rfl rfl rfl ?_;refine Ae (Qp Il (lV ((hE st bp hO).at (k:=0) (H2:=_::_::_) rfl rfl) ?_));refine Bt 1 Au (_::_::_) (Ag (AW.region (Qp Il ?_)));refine Rt (Cu rfl ((Dc _ _ _ (by simpa using hS) (by first | assumption | decide)).at (k:=0) (H2:=_::_::_) rfl rfl)) ?_;refine AOL.nil ?_;refine ⟨.inl rfl,[],.nil,_,.refl _,?_⟩;exact ⟨rfl,rfl⟩
theorem Y4 {α:Type}{p:α→Bool}{l:List α}{k:Nat}(hk:¬k<l.length)(hn:∀j y,j<k→l[j]? = some y→p y=false):l.find? p=none:=
 bK fun j y hj hy=>hn j y (by omega) hy

theorem p_unit (st:PS)(bp:Nat)(D:Int)(hD:0≤D)(E:PS→Syn×PS)(hFE:Cq E)(hE:∀(st:PS) (bp:Nat),okD (D+1) st→Bc Tryz.prog 164 bp 223 (cP st) (cP (E st).2) [.val (.pointer (some ⟨bp,0,none⟩))] (.agg (cSyn (E st).1)))(hO:okD D st):Bc Tryz.prog 322 bp 223 (cP st) (cP ((In E st).2)) [.val (.pointer (some ⟨bp,0,none⟩))] (.agg (cSyn (In E st).1)):=by
 intro H;have hS:=hO.1;refine Bp.body (n:=83) tok Tryz.func322 rfl rfl rfl ?_;refine Ae (Qp (Tr (v:=.val _) (cs:=[_]) rfl rfl rfl) (Ed Kz fun b2=>Bs (Qp Il ?_)));refine AOL.Aae (Cj (k:=1) (by kernel_rfl) rfl rfl (J4 _ _)) rfl rfl ?_;refine Qp Al (Ag (Bk (Qp Il ?_)));refine AOL.Aae (Cj (k:=1) (by kernel_rfl) rfl rfl (zS _ _ _ (by simpa using hS) (by first | assumption | decide))) rfl rfl ?_;refine Ag (Aq (fun hc1=>?_) fun hc1=>?_)
 ·
  try simp only [Dp,Eo] at hc1
  refine Ae (Ed Kz fun b4=>Bs (Qp Il (Qp (Bn (l:=[]) (l':=[.ptr _,.val _]) rfl rfl) ?_)));refine Rt (Cu rfl (Bp.front2 (R:=_::_) 0 1 rfl rfl rfl (Us (fun _ s=>((E s).1,Ce F2 (E s).2)) Mz st bp b4 _ 328 (by kernel_rfl) [] [.ptr [.val (.pointer (some ⟨bp,0,none⟩))],.val (.pointer (some ⟨b4,0,none⟩))] (Wb hc1) hS (fun hb=>sD _ bp Mz b4 _ D hD E hFE hE (X2 hD hO hb))))) ?_;refine Bs (AOL.Aae (Ax (k:=1) (l:=Au) tok rfl rfl rfl rfl rfl) rfl rfl ?_);refine Bt 2 Au (_::_::_::_) (Rc ?_);refine ⟨.inr rfl,[.agg Au],.cons (.box _ _ _ 2 _ _ _ _ rfl rfl rfl rfl rfl rfl) <| .nil,_,.cons_cons _ (.cons _ (.cons _ (.refl _))),?_⟩;refine ⟨?_,congrArg (fun c=>HO.box bp 223 c::H) ?_⟩
  ·
   try simp only [Ai,In,cSyn,Dn,C8,Ba,hc1,↓reduceIte,Bz,Ew,Ef]
   try rfl
  try simp only [cP,In,hc1,↓reduceIte,Bz,Ew,Ef]
  try rfl
 try simp only [Dp,Eo] at hc1
 refine Bg (Bk ?_);refine Qp (Vh (l:=Ii) tok (⟨_,by simp [globals],fun _ h=>h⟩) rfl rfl rfl rfl) ?_;refine Qp Ao (Ag (AW.block ?_));refine AW.Aag (fun (k:Nat)=>(⟨[(1,.ptr [.val (.pointer (some ⟨bp,0,none⟩))]),(2,.val (.pointer (some ⟨b2,0,none⟩))),(3,.int .i64 (Cy st)),(19,.agg Ii),(20,.int .i64 (k:Int))],.box b2 25 (cSyn Mz) :: .box bp 223 (cP st)::H,83⟩:St)) (fun k=>k≤4∧∀j y,j<k→totL[j]? = some y→Hn y.1 st=false) (fun k=>4-k) (0) ?_ Cs ?_
 · exact ⟨E2 _,fun j y hj=>absurd hj (Nat.not_lt_zero _)⟩
 rintro k hR;refine Ae (Qp Bx (Re (Aq (fun hc2=>?_) fun hc2=>?_)))
 ·
  try simp only [Dp,Eo] at hc2
  have hk:k<4:=by have:=Ir hc2;omega
  refine (zJ k hk).elim fun x hx3=>?_
  have hx:=hx3.1;have hx2:=hx3.2.1;have hwx:=hx3.2.2;refine Bg (AW.seq (AW.block (Ae ?_)));refine Qp (cF (l:=[.str x.1,.int .i64 x.2]) tok rfl rfl rfl rfl rfl rfl (by omega) (by omega) (by show k*2+2≤8;omega) (hx2)) ?_;refine Ed [.str [],.int .i64 0] fun b6=>?_
  refine Bt 0 Jz (_::_::_::_) ?_;refine AOL.ghost (GS.freeze (t:=6) 0 rfl rfl) ?_;refine Bs (Qp Il (Qp (Qf Jz) (Qp Hc ?_)));refine Rt (Cu rfl ((Df _ _ _ (by simpa using hS) (by first | assumption | decide)).at (k:=1) (H2:=_::_::_) rfl rfl)) ?_;refine Ag (Aq (fun hc3=>?_) fun hc3=>?_)
  ·
   try simp only [Dp,Eo] at hc3
   have hfd:totL.find? (fun s=>Hn s.1 st)=some x:=Ti hR.2 hx hc3;refine AW.ghost (GS.Aai (H2:=_::_::_) 1 rfl (congrArg cP (E5 hc3)) rfl) ?_;refine Ae (Qp (Qf [Iq _]) (Qp Bi (Qp Ao (Qp (E4 Au) (Ed Kz fun b7=>?_)))));refine Bt 0 Au (_::_::_::_) (Bs (Qp Il ?_));refine Rt (Cu rfl (Bp.front2 (R:=_::_) 0 1 rfl rfl rfl (iW (adv st) bp (⟨16,[],[],x.2,[],Cy st⟩) b7 (by simpa using hS) _))) ?_;refine Bs (Qp Il ?_);refine Rt (Cu rfl ((Dc _ _ _ (by simpa using hS) (by first | assumption | decide)).at (k:=0) (H2:=_::_::_::_) rfl rfl)) ?_;refine Bs (Qp Il ?_);refine Rt (Cu rfl ((Yd _ _ (by simpa using hS)).at (k:=0) (H2:=_::_::_::_) rfl rfl)) ?_;refine Qp (Aj (es:=[Au]) tok rfl rfl rfl rfl rfl rfl rfl rfl rfl) (Qp B7 ?_);refine Bt 1 Au (_::_::_::_) (Bs (Qp Il ?_));refine Rt (Cu rfl ((Dc _ _ _ (by simpa using hS) (by first | assumption | decide)).at (k:=0) (H2:=_::_::_::_) rfl rfl)) ?_;refine Bs (AOL.Aae (Ax (k:=1) (l:=Au) tok rfl rfl rfl rfl rfl) rfl rfl ?_);refine Bt 2 Au (_::_::_::_) (Ra (Be (Db (Be ?_))));refine ⟨.inr rfl,[.agg Au],.cons (.box _ _ _ 2 _ _ _ _ rfl rfl rfl rfl rfl rfl) <| .nil,_,.cons_cons _ (.cons _ (.cons _ (.refl _))),?_⟩;refine ⟨?_,congrArg (fun c=>HO.box bp 223 c::H) ?_⟩
   ·
    try simp only [Ai,In,hfd,cSyn,Dn,C8,Ba,hc1,hc2,hc3,↓reduceIte,Bz,Ew,Ef]
    try rfl
   try simp only [cP,In,hfd,hc1,hc2,hc3,↓reduceIte,Bz,Ew,Ef]
   try rfl
  try simp only [Dp,Eo] at hc3
  refine AW.ghost (GS.Aai (H2:=_::_::_) 1 rfl (congrArg cP (Fy hc3)) rfl) ?_;refine Rf (AW.region (Qp E9 (Qp Ao (Ag ?_))));refine ⟨k+1,?_,?_,Cs⟩
  · exact ⟨hk,fun j y hj hy=>by rcases Nat.lt_succ_iff_lt_or_eq.1 hj with h | rfl;exact hR.2 j y h hy;rw [hx] at hy;cases hy;exact hc3⟩
  omega
 try simp only [Dp,Eo] at hc2
 have hkn:¬k<4:=by have:=Lt hc2;omega
 have hfd:totL.find? (fun s=>Hn s.1 st)=none:=Y4 (k:=k) hkn hR.2;refine AW.exit ?_;refine Bq (Ri (AW.seq (AW.block (Ae (Qp Il ?_)))));refine Rt (Cu rfl ((Df _ _ _ (by simpa using hS) (by first | assumption | decide)).at (k:=1) (H2:=_::_::_) rfl rfl)) ?_;refine Qp A0 (Ag (Aq (fun hc4=>?_) fun hc4=>?_))
 ·
  try simp only [Dp,Eo] at hc4
  refine AW.ghost (GS.Aai (H2:=_::_::_) 1 rfl (congrArg cP (E5 hc4)) rfl) ?_;refine Ae (Qp Ao (Qp (E4 Au) (Ed Kz fun b8=>?_)));refine Bt 0 Au (_::_::_::_) (Bs (Qp Il ?_));refine Rt (Cu rfl (Bp.front2 (R:=_::_) 0 1 rfl rfl rfl (iW (adv st) bp (⟨16,[],[],1,[],Cy st⟩) b8 (by simpa using hS) _))) ?_;refine Bs (Qp Il ?_);refine Rt (Cu rfl ((Dc _ _ _ (by simpa using hS) (by first | assumption | decide)).at (k:=0) (H2:=_::_::_::_) rfl rfl)) ?_;refine Bs (AOL.Aae (Ax (k:=1) (l:=Au) tok rfl rfl rfl rfl rfl) rfl rfl ?_);refine Bt 2 Au (_::_::_::_) (Ra ?_);refine ⟨.inr rfl,[.agg Au],.cons (.box _ _ _ 2 _ _ _ _ rfl rfl rfl rfl rfl rfl) <| .nil,_,.cons_cons _ (.cons _ (.cons _ (.refl _))),?_⟩;refine ⟨?_,congrArg (fun c=>HO.box bp 223 c::H) ?_⟩
  ·
   try simp only [Ai,In,hfd,cSyn,Dn,C8,Ba,hc1,hc2,hc4,↓reduceIte,Bz,Ew,Ef]
   try rfl
  try simp only [cP,In,hfd,hc1,hc2,hc4,↓reduceIte,Bz,Ew,Ef]
  try rfl
 try simp only [Dp,Eo] at hc4
 refine AW.ghost (GS.Aai (H2:=_::_::_) 1 rfl (congrArg cP (Fy hc4)) rfl) ?_;refine Ae (Qp Il ?_);refine Rt (Cu rfl ((Df _ _ _ (by simpa using hS) (by first | assumption | decide)).at (k:=1) (H2:=_::_::_) rfl rfl)) ?_;refine Qp A0 (Ag (Aq (fun hc5=>?_) fun hc5=>?_))
 ·
  try simp only [Dp,Eo] at hc5
  refine AW.ghost (GS.Aai (H2:=_::_::_) 1 rfl (congrArg cP (E5 hc5)) rfl) ?_;refine Ae (Qp Il ?_);refine Rt (Cu rfl ((Dc _ _ _ (by simpa using hS) (by first | assumption | decide)).at (k:=1) (H2:=_::_::_) rfl rfl)) ?_;refine Bs (Qp Il ?_);refine Rt (Cu rfl ((N5 _ _ (by simpa using hS)).at (k:=1) (H2:=_::_::_) rfl rfl)) ?_;refine Qp Ao (Qp (E4 Au) (Ed Kz fun b9=>?_));refine Bt 0 Au (_::_::_::_) ?_;refine AOL.ghost (GS.freeze (t:=9) 0 rfl rfl) ?_;refine Bs (Qp Il ?_);refine Rt (Cu rfl ((Dc _ _ _ (by simpa using hS) (by first | assumption | decide)).at (k:=1) (H2:=_::_::_) rfl rfl)) ?_;refine Bs (Qp (B0 Au) ?_);refine Bt 0 Au (_::_::_) (Ra ?_);refine ⟨.inr rfl,[.agg Au],.cons (.box _ _ _ 0 _ _ _ _ rfl rfl rfl rfl rfl rfl) <| .nil,_,.cons _ (.refl _),?_⟩;refine ⟨?_,congrArg (fun c=>HO.box bp 223 c::H) ?_⟩
  ·
   try simp only [Ai,In,hfd,cSyn,Dn,C8,Ba,hc1,hc2,hc4,hc5,↓reduceIte,Bz,Ew,Ef]
   try rfl
  try simp only [cP,In,hfd,hc1,hc2,hc4,hc5,↓reduceIte,Bz,Ew,Ef]
  try rfl
 try simp only [Dp,Eo] at hc5
 refine AW.ghost (GS.Aai (H2:=_::_::_) 1 rfl (congrArg cP (Fy hc5)) rfl) ?_;refine Ae (Qp Il ?_);refine AOL.Aae (Cj (k:=1) (by kernel_rfl) rfl rfl (lD _ _ _ (by simpa using hS))) rfl rfl ?_;refine Qp A0 (Ag (Aq (fun hc6=>?_) fun hc6=>?_))
 ·
  try simp only [Dp,Eo] at hc6
  refine Ae (Qp Il ?_);refine Rt (Cu rfl ((N5 _ _ (by simpa using hS)).at (k:=1) (H2:=_::_::_) rfl rfl)) ?_;refine Qp Ao (Qp (E4 Au) (Ed Kz fun b10=>?_));refine Bt 0 Au (_::_::_::_) (Bs (Qp Il ?_));refine Rt (Cu rfl ((Dc _ _ _ (by simpa using hS) (by first | assumption | decide)).at (k:=2) (H2:=_::_::_::_) rfl rfl)) ?_;refine Ag (Bk (Qp Il ?_));refine Rt (Cu rfl ((Df _ _ _ (by simpa using hS) (by first | assumption | decide)).at (k:=2) (H2:=_::_::_::_) rfl rfl)) ?_;refine Ag (Aq (fun hc7=>?_) fun hc7=>?_)
  ·
   try simp only [Dp,Eo] at hc7
   refine AW.ghost (GS.Aai (H2:=_::_::_::_) 2 rfl (congrArg cP (E5 hc7)) rfl) ?_;refine AW.region (Qp B7 ?_);refine Bt 0 Au (_::_::_::_) (Bs (AOL.Aae (Ax (k:=0) (l:=Au) tok rfl rfl rfl rfl rfl) rfl rfl ?_));refine Bt 1 Au (_::_::_::_) (Ra ?_);refine ⟨.inr rfl,[.agg Au],.cons (.box _ _ _ 1 _ _ _ _ rfl rfl rfl rfl rfl rfl) <| .nil,_,.cons _ (.cons _ (.refl _)),?_⟩;refine ⟨?_,congrArg (fun c=>HO.box bp 223 c::H) ?_⟩
   ·
    try simp only [Ai,In,hfd,cSyn,Dn,C8,Ba,hc1,hc2,hc4,hc5,hc6,hc7,↓reduceIte,Bz,Ew,Ef]
    try rfl
   try simp only [cP,In,hfd,hc1,hc2,hc4,hc5,hc6,hc7,↓reduceIte,Bz,Ew,Ef]
   try rfl
  try simp only [Dp,Eo] at hc7
  refine AW.ghost (GS.Aai (H2:=_::_::_::_) 2 rfl (congrArg cP (Fy hc7)) rfl) ?_;refine AW.region (Qp Il ?_);refine Rt (Cu rfl ((N5 _ _ (by simpa using hS)).at (k:=2) (H2:=_::_::_::_) rfl rfl)) ?_;refine Qp B7 ?_;refine Bt 0 Au (_::_::_::_) (Bs (AOL.Aae (Ax (k:=0) (l:=Au) tok rfl rfl rfl rfl rfl) rfl rfl ?_));refine Bt 1 Au (_::_::_::_) (Ra ?_);refine ⟨.inr rfl,[.agg Au],.cons (.box _ _ _ 1 _ _ _ _ rfl rfl rfl rfl rfl rfl) <| .nil,_,.cons _ (.cons _ (.refl _)),?_⟩;refine ⟨?_,congrArg (fun c=>HO.box bp 223 c::H) ?_⟩
  ·
   try simp only [Ai,In,hfd,cSyn,Dn,C8,Ba,hc1,hc2,hc4,hc5,hc6,hc7,↓reduceIte,Bz,Ew,Ef]
   try rfl
  try simp only [cP,In,hfd,hc1,hc2,hc4,hc5,hc6,hc7,↓reduceIte,Bz,Ew,Ef]
  try rfl
 try simp only [Dp,Eo] at hc6
 refine Rf (Ae (Qp Il ?_));refine Rt (Cu rfl ((Yd _ _ (by simpa using hS)).at (k:=1) (H2:=_::_::_) rfl rfl)) ?_;refine Bt 0 Au (_::_::_) (Rb ?_);refine ⟨.inr rfl,[.agg Au],.cons (.box _ _ _ 0 _ _ _ _ rfl rfl rfl rfl rfl rfl) <| .nil,_,.cons _ (.refl _),?_⟩;refine ⟨?_,congrArg (fun c=>HO.box bp 223 c::H) ?_⟩
 ·
  try simp only [Ai,In,hfd,cSyn,Dn,C8,Ba,hc1,hc2,hc4,hc5,hc6,↓reduceIte,Bz,Ew,Ef]
  try rfl
 try simp only [cP,In,hfd,hc1,hc2,hc4,hc5,hc6,↓reduceIte,Bz,Ew,Ef]
 try rfl
end Go.Proofs.YtckhoadldibflaaGreatDoor
