/-
  Several texts in one: R12w, R13w, R20w, R33w. No condition.
-/
import Derived.Test.YtckhoadldibflaaGreatDoorK01
import Derived.Test.YtckhoadldibflaaGreatDoorK06
import Derived.Test.YtckhoadldibflaaGreatDoorK17
import Derived.KernelRfl
import Derived.Test.YtckhoadldibflaaGreatDoorK07
import Derived.Test.YtckhoadldibflaaGreatDoorK14
import Derived.Test.YtckhoadldibflaaGreatDoorK15
import Derived.Test.YtckhoadldibflaaGreatDoorK04
set_option linter.unusedVariables false
set_option linter.unusedSimpArgs false
set_option maxHeartbeats 6400000
set_option maxRecDepth 20000
namespace Go.Proofs.YtckhoadldibflaaGreatDoor
open Go Go.Aw
abbrev Sv (q:Pg×Int×Int):AV:=AV.tuple [.agg (cPg q.1),.int .i64 q.2.1,.int .i64 q.2.2]
theorem kM (t:Syn)(ht:Jv t):An Tryz.prog 22 [.agg (cSyn t)] (.tuple [.agg (cPg (bM t).1),.int .i64 (bM t).2.1,.int .i64 (bM t).2.2]):=by
 have hkl:=aL ht;have htp:=typ_ts t;refine Fb 82 Tryz.func22 rfl fun H=>?_
 refine Aa (Qp (Hu Ai) (D5 [.sl 2 [],.sl 18 []] fun b2=>Qp Aq (Qp Aq (Ax (B5 (Qp (Cm Ai) (Qp (Qc rfl (vF t ht)) (Qp Cb (Bh (fun hc1=>Aa (Qp (Fj [_,_]) ?_)) fun hc1=>B2 (Aa (Qp (Cm Ai) (Qp (Qc rfl (rf_types t ht)) (Qp Oz (Qp Qxs (Qp (Ch (v:=.agg Id) rfl rfl) (D5 lN fun b6=>Qp lK ?_))))))))))))))))
 .
  refine By 0 [_,_] (_::_) (Qp Aq (Qp Aq (Rc ?_)));refine Yx [.agg [_,_],Iq _,Iq _] (Zd 0) S1 ?_;exact Ye Sv (pp_1 hc1)
 refine By 0 Id (_::_::_) ?_;refine Kc 6 0 rfl ?_;refine Ax (B5 (Qp (Qf [Iq _]) (Qp B6 (Qp Cb (Bh (fun hc2=>AW.seq ?_) fun hc2=>B2 (Aa (Qp K7 ?_)))))))
 .
  refine Mo ?_;refine Qn 0 rfl (Fj [_,_]) (Qn 1 rfl (Qf Id) (Qn 2 rfl B6 (Qn 3 rfl (Qf [Iq _]) (Qn 4 rfl B6 ?_))));refine Oj 5 rfl (Kt 0 (.agg _) [_,_] (_::_) rfl) ?_;refine Qn 6 rfl Aq (Qn 7 rfl Aq ?_);refine Ig ?_;refine Av (lW ?_);refine Yx [.agg [_,_],Iq _,Iq _] (Zd 0) S1 ?_;exact Ye Sv (pp_2 hc1 hc2)
 refine Qp (Jz (l0:=[.sl 2 [],.val (.slice none 0 0)]) (l:=[_,_]) tok rfl rfl (by kernel_rfl) rfl) ?_;refine D5 [.sl 2 [],.sl 18 []] fun b7=>?_
 refine By 0 [_,_] (_::_::_) ?_;refine AOL.ghost (GS.cellRow 0 1 40 18 rfl rfl rfl rfl) ?_;refine B7 (Qe (Iz) ?_);rintro _ _ ⟨b32,rfl,rfl⟩;refine Qp Sa (Ax (B5 (Qp (Qf Ot) (Qp Dd ?_))));refine Qp (E6 t.kids.length rfl rfl (by simp)) ?_;refine Qp Ap (Ax (AW.block ?_));refine AW.Aad (fun (q:Nat×List Qy×List (List AV)×List Ag×Value)=>(⟨[(1,.ptr (cSyn t)),(2,.val (.pointer (some ⟨b2,0,none⟩))),(3,.int .i64 0),(4,.int .i64 0),(5,.sl 2 ((Ih t).1.map Lz)),(7,.val (.pointer (some ⟨b7,0,none⟩))),(8,.val (.map (some b32))),(34,.sl 6 (t.kids.map C6)),(35,.int .i64 t.kids.length),(36,.int .i64 (q.1:Int))],.smap b32 (U3 q.2.2.2.1) :: .row q.2.2.2.2 q.2.2.1.length 40 18 :: .box b7 59 [.sl 2 ((Ih t).1.map Lz),.row q.2.2.2.2 18 q.2.2.1] :: .box b2 59 [.sl 2 [],.sl 18 []]::H,82⟩:St)) (fun q=>q.1<=t.kids.length/\En (Ih t).1 [] t.kids=En (Ih t).1 q.2.1 (t.kids.drop q.1)/\q.2.1.length<=16/\q.2.2.1=q.2.1.map cQy/\q.2.2.2.1=q.2.1.map (·.name)) (fun q=>t.kids.length-q.1) ((0,[],[],[],.slice none 0 0)) ?_ C2 ?_
 . exact ⟨A9 _,rfl,A9 _,rfl,rfl⟩
 rintro q hR;refine Aa (Qp Cn (Re (Hb (fun hc3=>?_) fun hc3=>?_)))
 .
  obtain ⟨a,ha⟩:=Cj hc3;have hlt:=Bz ha;have hm:=Aj ha;have ho16:=hR.2.2.1;have hrw:=hR.2.2.2.1;have hnw:=hR.2.2.2.2;have hrl:q.2.2.1.length=q.2.1.length:=by rw [hrw,Bt]
  have hso:∀c∈q.2.2.1,A0 c=true:=by rw [hrw];exact scQy _
  have hma:=yJ ht hm;refine B2 (AW.seq (AW.block (Aa ?_)));refine Qp (Eh Ai rfl rfl (by omega) (Io ha)) ?_;refine Qp (Cm Ai) ?_;refine D5 I6 fun b10=>?_
  refine By 0 Ai (_::_::_::_::_::_) ?_;refine Kc 10 0 rfl ?_;refine Ax (B5 (Qp (Qf Ai) (Qp B6 (Qp Cb (Bh (fun hc4=>AW.exit (Ri (AW.region (Qp Gw (Qp Ap (Ax ?_)))))) fun hc4=>?_)))))
  .
   refine ⟨(q.1+1,q.2.1,q.2.2.1,q.2.2.2.1,q.2.2.2.2),?_,?_,C2⟩
   . exact ⟨hlt,hR.2.1.trans (prg_skip ha hc4),hR.2.2⟩
   simp only;omega
  have hqa:=nG (bG hc1) ha (by simpa using hc4);refine B2 (B5 (Qp Cw (Sw 2 (.row _ _ _) rfl (Qp (G6 (n:=q.2.1.length) tok rfl rfl rfl (hrl)) (Qp Bl (Bh (fun hc5=>AW.seq ?_) fun hc5=>B2 (B5 (Qp Bx (Qp (Qf X6) (Qp Gr ?_))))))))))
  .
   refine Mo ?_;refine Qn 0 rfl (Fj [_,_]) (Qn 1 rfl (Qf [Iq _]) (Qn 2 rfl B6 ?_));refine Oj 3 rfl (Kt 3 (.agg _) [_,_] (_::_::_::_::_) rfl) ?_;refine Qn 4 rfl Aq (Qn 5 rfl Aq ?_);refine Ig ?_;refine Av (lW (Rj (A7 ?_)));refine Yx [.agg [_,_],Iq _,Iq _] (Zd 3) S4 ?_;exact Ye Sv (pp_e hc1 hc2 (hR.2.1.trans (prg_5 ha hc4 hc5)) rfl)
  refine AOL.Aag (Mn (i:=0) (ks:=q.2.2.2.1) tok rfl rfl rfl rfl rfl (by kernel_rfl) rfl rfl rfl) rfl rfl ?_;refine Bh (fun hc6=>?_) fun hc6=>?_
  .
   have hc6n:(q.2.1.map (·.name)).contains a.text=true:=by rw [<-hnw];exact hc6
   refine AW.seq ?_;refine Mo ?_;refine Qn 0 rfl (Fj [_,_]) (Qn 1 rfl (Qf [Iq _]) (Qn 2 rfl B6 ?_));refine Oj 3 rfl (Kt 3 (.agg _) [_,_] (_::_::_::_::_) rfl) ?_;refine Qn 4 rfl Aq (Qn 5 rfl Aq ?_);refine Ig ?_;refine Av (lW (Rj (A7 ?_)));refine Yx [.agg [_,_],Iq _,Iq _] (Zd 3) S4 ?_;exact Ye Sv (pp_e hc1 hc2 (hR.2.1.trans (prg_7 ha hc4 hc5 hc6n)) rfl)
  have hc6n:(q.2.1.map (·.name)).contains a.text=false:=by rw [<-hnw];exact hc6
  refine B2 (Aa (Qp Bx (Qp (Qf X6) (Qp Gr (Rt (O7 (i:=0) (H2:=_::_::_::_::_) tok rfl rfl rfl rfl rfl rfl rfl rfl (hc6) rfl) (B7 (Qp K7 (Qp (Cm Ai) (Qp (Qc rfl (vI (Ih t).1 htp a ⟨hma,hqa⟩)) (Qp Oz (Qp (Ch (v:=.agg J5) rfl rfl) (Qp (Ch (v:=.agg Id) rfl rfl) (D5 ghz fun b11=>D5 lN fun b12=>?_)))))))))))));refine By 1 J5 (_::_::_::_::_::_::_) ?_;refine By 0 Id (_::_::_::_::_::_::_) ?_;refine Kc 12 0 rfl ?_;refine Kc 11 0 rfl ?_;refine Ax (B5 (Qp (Qf [Iq _]) (Qp B6 (Qp Cb (Bh (fun hc7=>AW.seq ?_) fun hc7=>?_)))))
  .
   refine Mo ?_;refine Qn 0 rfl (Fj [_,_]) (Qn 1 rfl (Qf Id) (Qn 2 rfl B6 (Qn 3 rfl (Qf [Iq _]) (Qn 4 rfl B6 ?_))));refine Oj 5 rfl (Kt 3 (.agg _) [_,_] (_::_::_::_::_) rfl) ?_;refine Qn 6 rfl Aq (Qn 7 rfl Aq ?_);refine Ig ?_;refine Av (lW (Rj (A7 ?_)));refine Yx [.agg [_,_],Iq _,Iq _] (Zd 3) S4 ?_;exact Ye Sv (pp_e hc1 hc2 (hR.2.1.trans (prg_f ha hc4 hc5 hc6n hc7)) hc7)
  have hqn:=qry_name hc7;refine B2 (AW.region (Qp Cw (Sw 2 (.row _ _ _) rfl (Qp (Cm J5) (Qp (Jh [J5] rfl) ?_)))));refine Qe (W0 1 rfl (Et rfl) (hso) (by simp;omega) (by simp [maxLen];omega)) ?_;rintro _ _ ⟨v78,rfl,rfl⟩;refine Qp Cw ?_;refine By 2 [_,_] (_::_::_::_::_) (Rk (AW.region (Qp Gw (Qp Ap (Ax ?_)))));refine ⟨(q.1+1,q.2.1 ++ [(Ec (Ih t).1 a).1],q.2.2.1 ++ [cQy (Ec (Ih t).1 a).1],q.2.2.2.1 ++ [a.text],v78),?_,?_,C2⟩
  . exact ⟨hlt,hR.2.1.trans (prg_on ha hc4 hc5 hc6n hc7),by simp only [Au,Hl];exact len16 ho16 hc5,by simp [hrw],by simp [hnw,hqn.1]⟩
  simp only;omega
 have hde:=Fw hc3;have hall:=hR.2.1;rw [hde] at hall;refine AW.exit ?_;refine B1 (Ri (Aa ?_));refine AOL.ghost (GS.cell (H2:=_::_::_::_::_) 2 1 rfl rfl rfl rfl Eu) ?_;refine Sb 2 [_,_] rfl ?_;refine By 3 [_,_] (_::_::_::_::_) (Qp Aq (Qp Aq (Rb ?_)));refine Yx [.agg [_,_],Iq _,Iq _] (Zd 3) S4 ?_;exact Eq.trans (congrArg (fun l:List (List AV)=>AV.tuple [.agg [.sl 2 ((Ih t).1.map Lz),.sl 18 l],.int .i64 0,.int .i64 0]) hR.2.2.2.1) (congrArg (fun q:Pg×Int×Int=>AV.tuple [.agg (cPg q.1),.int .i64 q.2.1,.int .i64 q.2.2]) (pp_y hc1 hc2 (hall.trans (by rw [En])))).symm
theorem med_arg {p a:Pt}(hp:medP p)(h:a∈p.args):medP a:=⟨by have:=Mb h;have:=hp.n;omega,fun q hq=>hp.cond q (jR h hq)⟩
theorem smPs_on {l m:List Pt}{k:Nat}{x y:Pt}(hx:l[k]? = some x)(hy:m[k]? = some y)(h:(!smP x y)=false):bB (l.drop k) (m.drop k)=bB (l.drop (k+1)) (m.drop (k+1)):=by
 rw [A2 hx,A2 hy,bB];exact Bo h
theorem smPs_no {l m:List Pt}{k:Nat}{x y:Pt}(hx:l[k]? = some x)(hy:m[k]? = some y)(h:(!smP x y)=true):bB (l.drop k) (m.drop k)=false:=by
 rw [A2 hx,A2 hy,bB];exact if_pos h
theorem siL_on {l m:List Int}{k:Nat}{x y:Int}(hx:l[k]? = some x)(hy:m[k]? = some y)(h:(x != y)=false):siL (l.drop k) (m.drop k)=siL (l.drop (k+1)) (m.drop (k+1)):=by
 rw [A2 hx,A2 hy,siL];exact Bo h
theorem siL_no {l m:List Int}{k:Nat}{x y:Int}(hx:l[k]? = some x)(hy:m[k]? = some y)(h:(x != y)=true):siL (l.drop k) (m.drop k)=false:=by
 rw [A2 hx,A2 hy,siL];exact if_pos h
theorem all_snoc {α:Type}{l:List α}{k:Nat}{a:α}{p:α->Bool}(h:(l.take k).all p=true)(ha:l[k]? = some a)(hp:p a=true):(l.take (k+1)).all p=true:=by
 rw [List.take_add_one,ha];simp [h,hp]
theorem all_no {α:Type}{l:List α}{k:Nat}{a:α}{p:α->Bool}(ha:l[k]? = some a)(hp:p a=false):l.all p=false:=by
 rw [rA];intro h;rw [Fu.1 h a (Aj ha)] at hp;cases hp
theorem n9_tot (L:Nat)(p:Pt)(hp:Iw p<=1048576):An Tryz.prog 111 [.agg (cPt p),.int .i64 (L:Int)] (.int .i64 (X8 L p:Nat)):=by
 induction p using Pt.ind
 rename_i p ih;have hal:=N4 p;refine Fb 29 Tryz.func111 rfl fun H=>?_
 refine Aa (Qp (Hu Fq) (Qp Aq (B7 (Qp Aq (Ax (B5 (Qp Aq (Ax (AW.block ?_)))))))));refine AW.Aad (fun (q:Nat×Nat)=>(⟨[(1,.int .i64 (L:Int)),(2,.ptr (cPt p)),(5,.int .i64 (q.2:Int)),(6,.int .i64 (q.1:Int))],H,29⟩:St)) (fun q=>q.1<=p.args.length/\X8 L p=Nt L (p.args.drop q.1) q.2/\q.2+((p.args.drop q.1).map Iw).sum<=Iw p) (fun q=>p.args.length-q.1) ((0,1)) ?_ C2 ?_
 . exact ⟨A9 _,totP_eq L p,by rw [Qt,Lc];omega⟩
 rintro q hR;refine B5 (Qp Ap (Qp (Qf pG) (Qp Dd ?_)));refine Qp (E6 p.args.length rfl rfl (by simp)) ?_;refine Qp Cn (Qp Cc (Qg [] Qw Ap (Qg [] Qw Ap (Qg [(13,_),(14,_)] Yw Ys (Qp Ju (Bh (fun hc1=>?_) fun hc1=>AW.exit ?_))))))
 .
  simp only [Cd] at hc1;obtain ⟨a,ha⟩:=Cj hc1.1;have hlt:=Bz ha;have hm:=Aj ha;have hsa:=Mb hm;have hle:q.2<=L:=by have:=Ey hc1.2;omega
  have h1:=vB q.2 ha;have h2:=tot_spec L a;have h3:=hR.2.1;rw [A2 ha,Nt,if_pos hle] at h3;have h4:=hR.2.2;refine B2 (AW.seq (AW.block (AW.region (Qp Ap (Qp (Qf pG) (Qp Dd (Qp Ap ?_)))))));refine Qp (Eh Fq rfl rfl (by omega) (Vw ha)) ?_;refine Qp (Cm Fq) (Qp Ap ?_);refine Qp (Qc rfl (ih a hm (by omega))) ?_;refine Qp Gw (Qp Aq (Rk (AW.region (Qp Ap (Qp Gw (Qp Aq (Ax ?_)))))));refine ⟨(q.1+1,q.2+X8 L a),?_,?_,C2⟩
  . exact ⟨hlt,h3,by simp only;omega⟩
  simp only;omega
 refine B1 (Ri (Aa (Qp Ap (Qp Aq (Rb ?_)))));refine Qr (Iq _) ?_
 have hx:q.2=X8 L p:=by
  rw [hR.2.1];simp only [Bool.and_eq_false_iff] at hc1;rcases hc1 with hc1 | hc1
  . rw [Fw hc1,Nt]
  exact (zS (by have:=G3 hc1;omega)).symm
 exact Eq.trans rfl (congrArg (fun q:Nat=>AV.int .i64 (q:Int)) hx)
theorem n9_dep (p:Pt)(hp:Iw p<=1048576):An Tryz.prog 112 [.agg (cPt p)] (.int .i64 (mJ p:Nat)):=by
 induction p using Pt.ind
 rename_i p ih;have hal:=N4 p;refine Fb 22 Tryz.func112 rfl fun H=>?_
 refine Aa (Qp (Hu Fq) (Qp Aq (B7 (Qp Aq (Ax (B5 (Qp Aq (Ax (AW.block ?_)))))))));refine AW.Aad (fun (q:Nat×Nat)=>(⟨[(1,.ptr (cPt p)),(3,.int .i64 (q.2:Int)),(4,.int .i64 (q.1:Int))],H,22⟩:St)) (fun q=>q.1<=p.args.length/\q.2=Y1 (p.args.take q.1)) (fun q=>p.args.length-q.1) ((0,0)) ?_ C2 ?_
 . exact ⟨A9 _,by rw [Wu,Y1]⟩
 rintro q hR;refine B5 (Qp Ap (Qp (Qf pG) (Qp Dd ?_)));refine Qp (E6 p.args.length rfl rfl (by simp)) ?_;refine Qp Cn (Bh (fun hc1=>?_) fun hc1=>?_)
 .
  obtain ⟨a,ha⟩:=Cj hc1;have hlt:=Bz ha;have hm:=Aj ha;have hsa:=Mb hm;refine B2 (AW.seq (AW.block (AW.region (Qp Ap (Qp (Qf pG) (Qp Dd (Qp Ap ?_)))))));refine Qp (Eh Fq rfl rfl (by omega) (Vw ha)) ?_;refine Qp (Cm Fq) ?_;refine Qp (Qc rfl (ih a hm (by omega))) ?_;refine Qp (lV rfl rfl) (Qp Aq (Rk (AW.region (Qp Ap (Qp Gw (Qp Aq (Ax ?_)))))));refine ⟨(q.1+1,max q.2 (mJ a)),?_,?_,GS.weaken ⟨rfl,congrArg (AV.int .i64) (uA q.2 (mJ a)),rfl,trivial⟩ (.refl _)⟩
  . exact ⟨hlt,by simp only;rw [C9 ha,bV,hR.2]⟩
  simp only;omega
 have hte:=Ds hc1;have hde:=hR.2;rw [hte] at hde;refine AW.exit ?_;refine B1 (Ri (Aa (Qp Ap ?_)));refine Qp (P_add rfl rfl rfl (by have:=dp_le p;rw [iG,<-hde] at this;constructor <;> omega)) ?_;refine Qp Aq (Rb (Qr (Iq _) ?_));exact Eq.trans rfl (congrArg (fun q:Nat=>AV.int .i64 (q:Int)) (show q.2+1=mJ p by rw [iG,hde]))
theorem n9_nds (p:Pt)(hp:Iw p<=1048576):An Tryz.prog 53 [.agg (cPt p)] (.sl 14 ((F2 p).map Oq)):=by
 induction p using Pt.ind
 rename_i p ih;have hal:=N4 p;refine Fb 23 Tryz.func53 rfl fun H=>?_
 refine Aa (Qp (Hu Fq) (Qp (B8 (z:=14) rfl) (B7 (Qp (Cm Fq) (Qe (Hv (es:=[Fq]) tok rfl rfl rfl rfl rfl rfl rfl rfl rfl) ?_)))));rintro _ _ ⟨v6,rfl,rfl⟩;refine Qp (Ba (v:=.row _ _ _) rfl) (Ax (B5 (Qp Aq (Ax (AW.block ?_)))));refine AW.Aad (fun (q:Nat×List (List AV)×Value)=>(⟨[(1,.ptr (cPt p)),(3,.row q.2.2 14 q.2.1),(4,.int .i64 (q.1:Int))],.row q.2.2 q.2.1.length 38 14::H,23⟩:St)) (fun q=>q.1<=p.args.length/\q.2.1=(p::(p.args.take q.1).flatMap F2).map Oq/\q.2.1.length=1+((p.args.take q.1).map Iw).sum) (fun q=>p.args.length-q.1) ((0,[cPt p],v6)) ?_ C2 ?_
 . exact ⟨A9 _,by simp [Xk],rfl⟩
 rintro q hR;refine B5 (Qp Ap (Qp (Qf pG) (Qp Dd ?_)));refine Qp (E6 p.args.length rfl rfl (by simp)) ?_;refine Qp Cn (Bh (fun hc1=>?_) fun hc1=>?_)
 .
  obtain ⟨a,ha⟩:=Cj hc1;have hlt:=Bz ha;have hm:=Aj ha;have hsa:=Mb hm;have hsc:∀c∈q.2.1,A0 c=true:=by rw [hR.2.1];exact scPt _
  have hz:=sz_part (p:=p) ha;have hz2:=hR.2.2;have hz3:=jQ a;refine B2 (AW.seq (AW.block (AW.region (Qp (A1 (v:=.row _ _ _) rfl) (Qp (Qf pG) (Qp Dd (Qp Ap ?_)))))));refine Qp (Eh Fq rfl rfl (by omega) (Vw ha)) ?_;refine Qp (Cm Fq) ?_;refine Qp (Qc rfl (ih a hm (by omega))) ?_;refine Qe (W0 0 rfl (scPt _) (hsc) (by simp;omega) (by simp [maxLen];omega)) ?_;rintro _ _ ⟨v21,rfl,rfl⟩;refine Qp (Ba (v:=.row _ _ _) rfl) (Rk (AW.region (Qp Ap (Qp Gw (Qp Aq (Ax ?_))))));refine ⟨(q.1+1,q.2.1++(F2 a).map Oq,v21),?_,?_,C2⟩
  . exact ⟨hlt,by simp only;rw [C9 ha,hR.2.1];simp,by simp only;rw [C9 ha,Au,hR.2.2];simp;omega⟩
  simp only;omega
 have hte:=Ds hc1;have hde:=hR.2.1;rw [hte] at hde;refine AW.exit ?_;refine B1 (Ri (Aa ?_));refine Qp (A1 (v:=.row _ _ _) rfl) ?_;refine AOL.ghost (GS.unrow 22 rfl) ?_;refine Qp lK (Rb ?_);refine Yx [.sl _ _] Ze S1 ?_;exact Eq.trans rfl (congrArg (AV.sl 14) (hde.trans (congrArg (List.map Oq) (Mx p).symm)))
theorem n9_Same (p q:Pt)(hp:medP p)(hq:medP q):An Tryz.prog 51 [.agg (cPt p),.agg (cPt q)] (.bool (smP p q)):=by
 revert q
 induction p using Pt.ind
 rename_i p ih;intro q hq;have hal:=N4 p;have hpn:=hp.n;have hql:=N4 q;have hqn:=hq.n;refine Fb 75 Tryz.func51 rfl fun H=>?_
 refine Aa (Qp (Hu Fq) (Qp (Hu Fq) (Qp Bc (Ax (B5 (Qp (Qf Fq) (Qp B6 (Qp (Qf Fq) ?_))))))));refine Qp B6 (Qp Cb (Qp Cc (Qg [] Qw (Qf gjx) (Qg [(12,_)] Qw B6 (Qg [] Qw (Qf gjx) (Qg [(14,_)] Qw B6 (Qg [(13,_),(15,_)] Yw Cb (Qp E5 (Qp Cc (Qg [] Qw (Qf gix) (Qg [(19,_)] Qw B6 (Qg [] Qw (Qf gix) (Qg [(21,_)] Qw B6 ?_)))))))))))));refine Qg [(20,_),(22,_)] Yw Cb (Qp E5 (Qp Cc (Qg [] Qw (Qf gjy) (Qg [(26,_)] Qw B6 (Qg [] Qw (Qf gjy) (Qg [(28,_)] Qw B6 (Qg [(27,_),(29,_)] Yw Cb (Qp E5 (Qp Cc (Qg [] Qw (Qf gkz) (Qg [(33,_)] Qw B6 (Qg [] Qw (Qf gkz) (Qg [(35,_)] Qw B6 ?_)))))))))))));refine Qg [(34,_),(36,_)] Yw Cb (Qp E5 (Qp Cc (Qg [] Qw fM (Qg [(40,_)] Qw Rl (Qg [] Qw fM (Qg [(42,_)] Qw Rl (Qg [(41,_),(43,_)] Yw (Qc rfl (e8c20 p.cond q.cond (hp.cond p (Rv p)))) (Qg [(44,_)] Qw Ix (Qp E5 (Qp Cc (Qg [] Qw (Qf pG) (Qg [(48,_)] Qw Dd ?_))))))))))));refine Yh [(49,_)] Qw (fun hG=>E6 p.args.length rfl rfl (by simp)) ?_;refine Qg [] Qw (Qf pG) (Qg [(51,_)] Qw Dd ?_);refine Yh [(52,_)] Qw (fun hG=>E6 q.args.length rfl rfl (by simp)) ?_;refine Qg [(50,_),(53,_)] Yw Cb (Qp E5 (Bh (fun hc1=>Aa (Qp Bc (Rc (Qr (.bool _) ?_)))) fun hc1=>?_))
 . exact Ye AV.bool ((qQ p q).trans (if_pos hc1))
 have hlen:=hdP_len hc1;refine B2 (B5 (Qp Aq (Ax (AW.block ?_))));refine AW.Aad (fun (k:Nat)=>(⟨[(2,.ptr (cPt p)),(3,.ptr (cPt q)),(5,.int .i64 (k:Int))],H,75⟩:St)) (fun k=>k<=p.args.length/\bB p.args q.args=bB (p.args.drop k) (q.args.drop k)) (fun k=>p.args.length-k) (0) ?_ C2 ?_
 . exact ⟨A9 _,rfl⟩
 rintro k hR;refine B5 (Qp Ap (Qp (Qf pG) (Qp Dd ?_)));refine Qp (E6 p.args.length rfl rfl (by simp)) ?_;refine Qp Cn (Bh (fun hc2=>?_) fun hc2=>?_)
 .
  obtain ⟨x,hax⟩:=Cj hc2;have hltx:=Bz hax;have hmx:=Aj hax;have hay:=List.getElem?_eq_getElem (l:=q.args) (i:=k) (by omega);generalize q.args[k]=y at hay;refine B2 (AW.seq (AW.block (AW.seq ?_)));refine Mo ?_;refine Qn 0 rfl (Qf pG) (Qn 1 rfl Dd (Qn 2 rfl Ap ?_));refine Qn 3 rfl (Eh Fq rfl rfl (by omega) (Vw hax)) ?_;refine Qn 4 rfl (Cm Fq) (Qn 5 rfl (Qf pG) (Qn 6 rfl Dd (Qn 7 rfl Ap ?_)));refine Qn 8 rfl (Eh Fq rfl rfl (by omega) (Vw hay)) ?_;refine Qn 9 rfl (Cm Fq) (Qn 10 rfl (Qc rfl (ih x hmx (med_arg hp hmx) y (med_arg hq (Aj hay)))) (Qn 11 rfl Ix ?_));refine Ig ?_;refine Av (Hb (fun hc3=>Aa (Qp Bc (Ra (A7 (Dz (A7 (Qr (.bool _) ?_))))))) fun hc3=>Rf (AW.region (Qp Ap (Qp Gw (Qp Aq (Ax ?_))))))
  . exact Ye AV.bool ((qQ p q).trans ((Bo hc1).trans (hR.2.trans (smPs_no hax hay hc3))))
  refine ⟨k+1,?_,?_,C2⟩
  . exact ⟨hltx,hR.2.trans (smPs_on hax hay hc3)⟩
  omega
 have hde:=Fw hc2;have hall:=hR.2;rw [hde,bB] at hall;refine AW.exit ?_;refine B1 (Ri (Aa (Qp Bc (Rb ?_))));refine Qr (.bool _) ?_;exact Ye AV.bool ((qQ p q).trans ((Bo hc1).trans hall))
theorem uD (x y:List Int)(hx:x.length<=1048576)(hy:y.length<=1048576):An Tryz.prog 50 [.sl 1 (x.map cI),.sl 1 (y.map cI)] (.bool (siB x y)):=by
 refine Fb 26 Tryz.func50 rfl fun H=>?_
 refine Aa (Qp Bc (Ax (B5 (Qp K7 ?_))));refine Qp (E6 x.length rfl rfl (by simp)) ?_;refine Qp K7 ?_;refine Qp (E6 y.length rfl rfl (by simp)) ?_;refine Qp Cb (Bh (fun hc1=>Aa (Qp Bc (Rc (Qr (.bool _) ?_)))) fun hc1=>?_)
 . exact Ye AV.bool ((if_pos hc1:siB x y=false))
 have hlen:x.length=y.length:=by simp at hc1;omega
 refine B2 (B5 (Qp Aq (Ax (AW.block ?_))));refine AW.Aad (fun (k:Nat)=>(⟨[(0,.sl 1 (x.map cI)),(1,.sl 1 (y.map cI)),(5,.int .i64 (k:Int))],H,26⟩:St)) (fun k=>k<=x.length/\siL x y=siL (x.drop k) (y.drop k)) (fun k=>x.length-k) (0) ?_ C2 ?_
 . exact ⟨A9 _,rfl⟩
 rintro k hR;refine B5 (Qp Ap (Qp K7 ?_));refine Qp (E6 x.length rfl rfl (by simp)) ?_;refine Qp Cn (Bh (fun hc2=>?_) fun hc2=>?_)
 .
  obtain ⟨a,ha⟩:=Cj hc2;have hlt:=Bz ha;have hm:=Aj ha;have hay:=List.getElem?_eq_getElem (l:=y) (i:=k) (by omega);generalize y[k]=c at hay;refine B2 (AW.seq (AW.block (AW.seq ?_)));refine Mo ?_;refine Qn 0 rfl K7 (Qn 1 rfl Ap ?_);refine Qn 2 rfl (Eh [Iq _] rfl rfl (by omega) (si_get ha)) ?_;refine Qn 3 rfl B6 (Qn 4 rfl K7 (Qn 5 rfl Ap ?_));refine Qn 6 rfl (Eh [Iq _] rfl rfl (by omega) (si_get hay)) ?_;refine Qn 7 rfl B6 (Qn 8 rfl Cb ?_);refine Ig ?_;refine Av (Hb (fun hc3=>Aa (Qp Bc (Ra (A7 (Dz (A7 (Qr (.bool _) ?_))))))) fun hc3=>Rf (AW.region (Qp Ap (Qp Gw (Qp Aq (Ax ?_))))))
  . exact Ye AV.bool (((Bo hc1).trans (hR.2.trans (siL_no ha hay hc3)):siB x y=false))
  refine ⟨k+1,?_,?_,C2⟩
  . exact ⟨hlt,hR.2.trans (siL_on ha hay hc3)⟩
  omega
 have hde:=Fw hc2;have hall:=hR.2;rw [hde,siL] at hall;refine AW.exit ?_;refine B1 (Ri (Aa (Qp Bc (Rb ?_))));refine Qr (.bool _) ?_;exact Ye AV.bool (((Bo hc1).trans hall:siB x y=true))
theorem n9_Few (p:Pt)(hp:medP p):An Tryz.prog 70 [.agg (cPt p)] (.bool (fewP p)):=by
 have hnl:(F2 p).length<=1048576:=by rw [jQ];exact hp.n
 refine Fb 28 Tryz.func70 rfl fun H=>?_
 refine Aa (Qp (Hu Fq) (Qp Bc (Ax (B5 (Qp (Cm Fq) ?_)))));refine Qp (Qc rfl (n9_tot 150 p hp.n)) (Qp Gx (Qp Cc (Qg [] Qw (Cm Fq) (Qg [(9,_)] Qw (Qc rfl (n9_dep p hp.n)) (Qg [(10,_)] Qw Gx (Qp E5 (Bh (fun hc1=>Aa (Qp Bc (Rc (Qr (.bool _) ?_)))) fun hc1=>B2 (Aa (Qp (Cm Fq) (Qp (Qc rfl (n9_nds p hp.n)) (Qp lK (Ax (B5 (Qp Aq (Ax (AW.block ?_))))))))))))))))
 . exact Ye AV.bool ((if_pos hc1:fewP p=false))
 refine AW.Aad (fun (k:Nat)=>(⟨[(3,.sl 14 ((F2 p).map Oq)),(4,.int .i64 (k:Int))],H,28⟩:St)) (fun k=>k<=(F2 p).length/\((F2 p).take k).all (fun q=>fewX q.cond)=true) (fun k=>(F2 p).length-k) (0) ?_ C2 ?_
 . exact ⟨A9 _,by simp⟩
 rintro k hR;refine B5 (Qp Ap (Qp K7 ?_));refine Qp (E6 ((F2 p).length) rfl rfl (by simp)) ?_;refine Qp Cn (Bh (fun hc2=>?_) fun hc2=>?_)
 .
  obtain ⟨a,ha⟩:=Cj hc2;have hlt:=Bz ha;have hm:=Aj ha;refine B2 (AW.seq (AW.block (Aa (Qp K7 (Qp Ap ?_)))));refine Qp (Eh Fq rfl rfl (by omega) (nd_at ha)) ?_;refine Qp fM (Qp Rl (Qp (Qc rfl (c34 a.cond (hp.cond a hm))) (Qp Ix (Bh (fun hc3=>Aa (Qp Bc (Ra (A7 (Dz (A7 (Qr (.bool _) ?_))))))) fun hc3=>Rf (AW.region (Qp Ap (Qp Gw (Qp Aq (Ax ?_)))))))))
  . exact Ye AV.bool (((Bo hc1).trans (all_no ha (by unfold fewX;simpa only [Bool.not_eq_eq_eq_not,Bu] using hc3)):fewP p=false))
  refine ⟨k+1,?_,?_,C2⟩
  . exact ⟨hlt,all_snoc hR.2 ha (by simpa [fewX] using hc3)⟩
  omega
 have hte:=Ds hc2;have hall:=hR.2;rw [hte] at hall;refine AW.exit ?_;refine B1 (Ri (Aa (Qp Bc (Rb ?_))));refine Qr (.bool _) ?_;exact Ye AV.bool (((Bo hc1).trans hall:fewP p=true))
theorem mR {l:List Ex}{k:Nat}{a:Ex}(h:l[k]? = some a):(l.map H8)[k]? = some (cE a):=by rw [List.getElem?_map,h];exact congrArg some (Nb a)
theorem n3_ss (s:e8Sc)(hl:s.fields.length<=1048576):An Tryz.prog 63 [.agg (Lz s),.agg (Lz s)] (.bool true):=by
 refine Fb 38 Tryz.func63 rfl fun H=>?_
 refine Aa (Qp (Hu Nd) (Qp (Hu Nd) (Qp Bc (Ax (B5 (Qp (Qf Nd) (Qp Gr (Qp (Qf Nd) (Qp Gr (Qp (Fh rfl rfl) (Qp Cc (Qg [] Qw (Qf [_]) (Qg [(12,_)] Qw Dd ?_)))))))))))));refine Yh [(13,_)] Qw (fun hG=>E6 s.fields.length rfl rfl (by simp)) ?_;refine Qg [] Qw (Qf [_]) (Qg [(15,_)] Qw Dd ?_);refine Yh [(16,_)] Qw (fun hG=>E6 s.fields.length rfl rfl (by simp)) ?_;refine Qg [(14,_),(17,_)] Yw Cb (Qp E5 (Bh (fun hc1=>?_) fun hc1=>B2 (B5 (Qp Aq (Ax (AW.block ?_))))))
 . simp [] at hc1
 refine AW.Aad (fun (k:Nat)=>(⟨[(2,.ptr (Lz s)),(3,.ptr (Lz s)),(5,.int .i64 (k:Int))],H,38⟩:St)) (fun k=>k<=s.fields.length) (fun k=>s.fields.length-k) (0) ?_ C2 ?_
 . exact A9 _
 rintro k hR;refine B5 (Qp Ap (Qp (Qf [_]) (Qp Dd ?_)));refine Qp (E6 s.fields.length rfl rfl (by simp)) ?_;refine Qp Cn (Bh (fun hc2=>?_) fun hc2=>AW.exit ?_)
 .
  obtain ⟨a,ha⟩:=Cj hc2;have hlt:=Bz ha;have hm:=Aj ha;refine B2 (AW.seq (AW.block (AW.seq ?_)));refine Mo ?_;refine Qn 0 rfl (Qf [_]) (Qn 1 rfl Dd (Qn 2 rfl Ap ?_));refine Qn 3 rfl (Eh Iv rfl rfl (by omega) (Cp ha)) ?_;refine Qn 4 rfl (Cm Iv) (Qn 5 rfl (Qf [_]) (Qn 6 rfl Dd (Qn 7 rfl Ap ?_)));refine Qn 8 rfl (Eh Iv rfl rfl (by omega) (Cp ha)) ?_;refine Qn 9 rfl (Cm Iv) (Qn 10 rfl (Lf tok rfl rfl rfl rfl rfl) ?_);refine Ig ?_;refine Av (Hb (fun hc3=>?_) fun hc3=>Rf (AW.region (Qp Ap (Qp Gw (Qp Aq (Ax ?_))))))
  . simp [] at hc3
  refine ⟨k+1,?_,?_,C2⟩
  . exact hlt
  omega
 refine B1 (Ri (Aa (Qp Bc (Rb ?_))));refine Qr (.bool _) ?_;rfl
theorem n3_same (T:List e8Sc)(hl:T.length<=1048576)(hf:∀s∈T,s.fields.length<=1048576):An Tryz.prog 21 [.sl 2 (T.map Lz),.sl 2 (T.map Lz)] (.bool true):=by
 refine Fb 27 Tryz.func21 rfl fun H=>?_
 refine Aa (Qp Bc (Ax (B5 (Qp K7 ?_))));refine Qp (E6 T.length rfl rfl (by simp)) ?_;refine Qp K7 ?_;refine Qp (E6 T.length rfl rfl (by simp)) ?_;refine Qp Cb (Bh (fun hc1=>?_) fun hc1=>B2 (B5 (Qp Aq (Ax (AW.block ?_)))))
 . simp [] at hc1
 refine AW.Aad (fun (k:Nat)=>(⟨[(0,.sl 2 (T.map Lz)),(1,.sl 2 (T.map Lz)),(5,.int .i64 (k:Int))],H,27⟩:St)) (fun k=>k<=T.length) (fun k=>T.length-k) (0) ?_ C2 ?_
 . exact A9 _
 rintro k hR;refine B5 (Qp Ap (Qp K7 ?_));refine Qp (E6 T.length rfl rfl (by simp)) ?_;refine Qp Cn (Bh (fun hc2=>?_) fun hc2=>AW.exit ?_)
 .
  obtain ⟨a,ha⟩:=Cj hc2;have hlt:=Bz ha;have hm:=Aj ha;refine B2 (AW.seq (AW.block (AW.seq ?_)));refine Mo ?_;refine Qn 0 rfl K7 (Qn 1 rfl Ap ?_);refine Qn 2 rfl (Eh Nd rfl rfl (by omega) (Cp ha)) ?_;refine Qn 3 rfl (Cm Nd) (Qn 4 rfl K7 (Qn 5 rfl Ap ?_));refine Qn 6 rfl (Eh Nd rfl rfl (by omega) (Cp ha)) ?_;refine Qn 7 rfl (Cm Nd) (Qn 8 rfl (Qc rfl (n3_ss a (hf a hm))) (Qn 9 rfl Ix ?_));refine Ig ?_;refine Av (Hb (fun hc3=>?_) fun hc3=>Rf (AW.region (Qp Ap (Qp Gw (Qp Aq (Ax ?_))))))
  . cases hc3
  refine ⟨k+1,?_,?_,C2⟩
  . exact hlt
  omega
 refine B1 (Ri (Aa (Qp Bc (Rb ?_))));refine Qr (.bool _) ?_;rfl
theorem n4_sq (q:Qy)(hq:medQ q):An Tryz.prog 16 [.agg (cQy q),.agg (cQy q)] (.bool true):=by
 have hv:=hq.v;have hr:=hq.r;refine Fb 83 Tryz.func16 rfl fun H=>?_
 refine Aa (Qp (Hu J5) (Qp (Hu J5) (Qp Bc (Ax (B5 (Qp (Qf J5) (Qp Gr (Qp (Qf J5) (Qp Gr (Qp (Fh rfl rfl) (Qp Cc (Qg [] Qw (Qf ggy) (Qg [(13,_)] Qw Dd ?_)))))))))))));refine Yh [(14,_)] Qw (fun hG=>E6 q.vars.length rfl rfl (by simp)) ?_;refine Qg [] Qw (Qf ggy) (Qg [(16,_)] Qw Dd ?_);refine Yh [(17,_)] Qw (fun hG=>E6 q.vars.length rfl rfl (by simp)) ?_;refine Qg [(15,_),(18,_)] Yw Cb (Qp E5 (Qp Cc (Qg [] Qw (Qf giz) (Qg [(22,_)] Qw Dd (Qg [] Qw (Qf giz) (Qg [(24,_)] Qw Dd ?_))))));refine Qg [(23,_),(25,_)] Yw (Qc rfl (uD q.key q.key hq.k hq.k)) (Qg [(26,_)] Qw Ix (Qp E5 (Qp Cc (Qg [] Qw (Qf gjz) (Qg [(30,_)] Qw (Cm Fq) (Qg [] Qw (Qf gjz) (Qg [(32,_)] Qw (Cm Fq) (Qg [(31,_),(33,_)] Yw (Qc rfl (n9_Same q.pattern q.pattern hq.p hq.p)) (Qg [(34,_)] Qw Ix (Qp E5 (Qp Cc (Qg [] Qw (Qf [_]) (Qg [(38,_)] Qw Dd ?_)))))))))))));refine Yh [(39,_)] Qw (fun hG=>E6 q.returns.length rfl rfl (by simp)) ?_;refine Qg [] Qw (Qf [_]) (Qg [(41,_)] Qw Dd ?_);refine Yh [(42,_)] Qw (fun hG=>E6 q.returns.length rfl rfl (by simp)) ?_;refine Qg [(40,_),(43,_)] Yw Cb (Qp E5 (Bh (fun hc1=>?_) fun hc1=>B2 (B5 (Qp Aq (Ax (AW.block ?_))))))
 . simp [siB_refl,smP_refl] at hc1
 refine AW.Aad (fun (k:Nat)=>(⟨[(2,.ptr (cQy q)),(3,.ptr (cQy q)),(5,.int .i64 (k:Int))],H,83⟩:St)) (fun k=>k<=q.vars.length) (fun k=>q.vars.length-k) (0) ?_ C2 ?_
 . exact A9 _
 rintro k hR;refine B5 (Qp Ap (Qp (Qf ggy) (Qp Dd ?_)));refine Qp (E6 q.vars.length rfl rfl (by simp)) ?_;refine Qp Cn (Bh (fun hc2=>?_) fun hc2=>AW.exit ?_)
 .
  obtain ⟨a,ha⟩:=Cj hc2;have hlt:=Bz ha;have hm:=Aj ha;refine B2 (AW.seq (AW.block (AW.seq ?_)));refine Mo ?_;refine Qn 0 rfl (Qf ggy) (Qn 1 rfl Dd (Qn 2 rfl Ap ?_));refine Qn 3 rfl (Eh Iv rfl rfl (by omega) (Cp ha)) ?_;refine Qn 4 rfl (Cm Iv) (Qn 5 rfl (Qf ggy) (Qn 6 rfl Dd (Qn 7 rfl Ap ?_)));refine Qn 8 rfl (Eh Iv rfl rfl (by omega) (Cp ha)) ?_;refine Qn 9 rfl (Cm Iv) (Qn 10 rfl (Lf tok rfl rfl rfl rfl rfl) ?_);refine Ig ?_;refine Av (Hb (fun hc3=>?_) fun hc3=>Rf (AW.region (Qp Ap (Qp Gw (Qp Aq (Ax ?_))))))
  . simp [] at hc3
  refine ⟨k+1,?_,?_,C2⟩
  . exact hlt
  omega
 refine B1 (Ri (B5 (Qp Aq (Ax (AW.block ?_)))));refine AW.Aad (fun (k:Nat)=>(⟨[(2,.ptr (cQy q)),(3,.ptr (cQy q)),(6,.int .i64 (k:Int))],H,83⟩:St)) (fun k=>k<=q.returns.length) (fun k=>q.returns.length-k) (0) ?_ C2 ?_
 . exact A9 _
 rintro k hR;refine B5 (Qp Ap (Qp (Qf [_]) (Qp Dd ?_)));refine Qp (E6 q.returns.length rfl rfl (by simp)) ?_;refine Qp Cn (Bh (fun hc4=>?_) fun hc4=>AW.exit ?_)
 .
  obtain ⟨a,ha⟩:=Cj hc4;have hlt:=Bz ha;have hm:=Aj ha;refine B2 (AW.seq (AW.block (AW.seq ?_)));refine Mo ?_;refine Qn 0 rfl (Qf [_]) (Qn 1 rfl Dd (Qn 2 rfl Ap ?_));refine Qn 3 rfl (Eh Ko rfl rfl (by omega) (mR ha)) ?_;refine Qn 4 rfl Rl (Qn 5 rfl (Qf [_]) (Qn 6 rfl Dd (Qn 7 rfl Ap ?_)));refine Qn 8 rfl (Eh Ko rfl rfl (by omega) (mR ha)) ?_;refine Qn 9 rfl Rl (Qn 10 rfl (Qc rfl (e8c20 a a (hq.e a hm))) (Qn 11 rfl Ix ?_));refine Ig ?_;refine Av (Hb (fun hc5=>?_) fun hc5=>Rf (AW.region (Qp Ap (Qp Gw (Qp Aq (Ax ?_))))))
  . rw [Uf] at hc5;cases hc5
  refine ⟨k+1,?_,?_,C2⟩
  . exact hlt
  omega
 refine B1 (Ri (Aa (Qp Bc (Rb ?_))));refine Qr (.bool _) ?_;rfl
theorem n4_sp (p:Pg)(hp:medG p):An Tryz.prog 24 [.agg (cPg p),.agg (cPg p)] (.bool true):=by
 have hql:=hp.q;refine Fb 40 Tryz.func24 rfl fun H=>?_
 refine Aa (Qp (Hu [_,_]) (Qp (Hu [_,_]) (Qp Bc (Ax (B5 (Qp (Qf [_,_]) (Qp Dd (Qp (Qf [_,_]) (Qp Dd (Qp (Qc rfl (n3_same p.types hp.t hp.f)) (Qp Ix (Qp Cc (Qg [] Qw (Qf [_]) (Qg [(13,_)] Qw Dd ?_))))))))))))));refine Yh [(14,_)] Qw (fun hG=>E6 p.queries.length rfl rfl (by simp)) ?_;refine Qg [] Qw (Qf [_]) (Qg [(16,_)] Qw Dd ?_);refine Yh [(17,_)] Qw (fun hG=>E6 p.queries.length rfl rfl (by simp)) ?_;refine Qg [(15,_),(18,_)] Yw Cb (Qp E5 (Bh (fun hc1=>?_) fun hc1=>B2 (B5 (Qp Aq (Ax (AW.block ?_))))))
 . simp [] at hc1
 refine AW.Aad (fun (k:Nat)=>(⟨[(2,.ptr (cPg p)),(3,.ptr (cPg p)),(5,.int .i64 (k:Int))],H,40⟩:St)) (fun k=>k<=p.queries.length) (fun k=>p.queries.length-k) (0) ?_ C2 ?_
 . exact A9 _
 rintro k hR;refine B5 (Qp Ap (Qp (Qf [_]) (Qp Dd ?_)));refine Qp (E6 p.queries.length rfl rfl (by simp)) ?_;refine Qp Cn (Bh (fun hc2=>?_) fun hc2=>AW.exit ?_)
 .
  obtain ⟨a,ha⟩:=Cj hc2;have hlt:=Bz ha;have hm:=Aj ha;refine B2 (AW.seq (AW.block (AW.seq ?_)));refine Mo ?_;refine Qn 0 rfl (Qf [_]) (Qn 1 rfl Dd (Qn 2 rfl Ap ?_));refine Qn 3 rfl (Eh J5 rfl rfl (by omega) (Cp ha)) ?_;refine Qn 4 rfl (Cm J5) (Qn 5 rfl (Qf [_]) (Qn 6 rfl Dd (Qn 7 rfl Ap ?_)));refine Qn 8 rfl (Eh J5 rfl rfl (by omega) (Cp ha)) ?_;refine Qn 9 rfl (Cm J5) (Qn 10 rfl (Qc rfl (n4_sq a (hp.m a hm))) (Qn 11 rfl Ix ?_));refine Ig ?_;refine Av (Hb (fun hc3=>?_) fun hc3=>Rf (AW.region (Qp Ap (Qp Gw (Qp Aq (Ax ?_))))))
  . cases hc3
  refine ⟨k+1,?_,?_,C2⟩
  . exact hlt
  omega
 refine B1 (Ri (Aa (Qp Bc (Rb ?_))));refine Qr (.bool _) ?_;rfl
theorem fG {V:List Va}{v:Int}(h0:0<=v)(h1:v<(V.length:Int)):V[v.toNat]? = some ((V[v.toNat]?).getD va0):=by
 rw [List.getElem?_eq_getElem (show v.toNat<V.length by omega)];rfl
theorem sc_in {T:List e8Sc}{V:List Va}(hrv:RvOK T V){v:Int}(h0:0<=v)(h1:v<(V.length:Int)):0<=((V[v.toNat]?).getD va0).type/\T[((V[v.toNat]?).getD va0).type.toNat]? = some (X1 T V v)/\(X1 T V v).fields.length<=1048576/\X1 T V v∈T:=by
 have h:=hrv.ty _ (Aj (fG h0 h1))
 have hs:T[((V[v.toNat]?).getD va0).type.toNat]? = some (X1 T V v):=by
  unfold X1;rw [List.getElem?_eq_getElem (show ((V[v.toNat]?).getD va0).type.toNat<T.length by omega)];rfl
 exact ⟨h.1,hs,hrv.fl _ (Aj hs),Aj hs⟩
theorem fi_in {T:List e8Sc}{V:List Va}{v f:Int}(h0:0<=f)(h1:f<((X1 T V v).fields.length:Int)):(X1 T V v).fields[f.toNat]? = some (((X1 T V v).fields[f.toNat]?).getD fi0):=by
 rw [List.getElem?_eq_getElem (show f.toNat<(X1 T V v).fields.length by omega)];rfl
theorem fg1 {v f:Int}{n:Nat}(hG:N0 [(((decide (v<0)||decide ((n:Int)<=v))||decide (f<0)),false)]):0<=v/\v<(n:Int)/\0<=f:=by
 have h:((decide (v<0)||decide ((n:Int)<=v))||decide (f<0))=false:=hG _ (I7 ..);simp only [Eb,It] at h;omega
theorem fld_no {T:List e8Sc}{V:List Va}{v f:Int}(h:Uz T V v f=false):0<=v/\v<(V.length:Int)/\0<=f/\f<((X1 T V v).fields.length:Int):=by
 unfold Uz at h;simp only [Eb,It] at h;omega
theorem fnm_len {T:List e8Sc}{V:List Va}(hrv:RvOK T V)(hsn:∀s∈T,Th s){v f:Int}(h:Uz T V v f=false):(pD T V v f).length<=1048576:=by
 obtain ⟨h1,h2,h3,h4⟩:=fld_no h;exact (hsn _ (sc_in hrv h1 h2).2.2.2).2.2 _ (Aj (fi_in h3 h4))
theorem knm_at {k:Int}(h0:0<=k)(h2:k<=2):([.str [105,110,116],.str [98,111,111,108],.str [115,116,114,105,110,103]]:List AV)[k.toNat]? = some (.str (knm k)):=by
 have:k=0\/k=1\/k=2:=by omega
 rcases this with rfl | rfl | rfl <;> rfl
abbrev lX (q:Ag×Bool):AV:=AV.tuple [.str q.1,.bool q.2]
abbrev Xc (q:Int×Bool):AV:=AV.tuple [.int .i64 q.1,.bool q.2]
theorem kN (T:List e8Sc)(V:List Va)(hrv:RvOK T V)(v f:Int):An Tryz.prog 132 [.agg (cNm T V),.int .i64 v,.int .i64 f] (.tuple [.str (aE T V v f).1,.bool (aE T V v f).2]):=by
 have hvl:=hrv.vl;refine Fb 52 Tryz.func132 rfl fun H=>?_
 refine Aa (Qp (Hu [_,_]) (Qp Lu (Qp Bc (Re (AW.seq ?_)))));refine Mo ?_;refine Qn 0 rfl Ap (Qn 1 rfl Cn (Qn 2 rfl Cc (Qo 3 rfl [] Qw Ap (Qo 4 rfl [] Qw (Qf [_]) (Qo 5 rfl [(12,_)] Qw Dd ?_)))));refine Yo 6 rfl [(13,_)] Qw (fun hG=>E6 V.length rfl rfl (by simp)) ?_;refine Qo 7 rfl [(11,_),(14,_)] Yw Kv (Qn 8 rfl E5 (Qn 9 rfl Cc (Qo 10 rfl [] Qw Ap (Qo 11 rfl [(18,_)] Qw Cn (Qn 12 rfl E5 (Qn 13 rfl Cc (Qo 14 rfl [] Qw Ap (Qo 15 rfl [] Qw (Qf [_,_]) (Qo 16 rfl [(23,_)] Qw Dd (Qo 17 rfl [] Qw (Qf [_]) (Qo 18 rfl [(25,_)] Qw Dd (Qo 19 rfl [] Qw Ap ?_))))))))))));refine Yo 20 rfl [(26,_),(27,_)] (Yv rfl Es Es) (fun hG=>Eh Iv rfl rfl ((fg1 hG).1) (Cp (fG (fg1 hG).1 (fg1 hG).2.1))) ?_;refine Qo 21 rfl [(28,_)] Qw (Qf [Iq _]) (Qo 22 rfl [(29,_)] Qw B6 (Yo 23 rfl [(24,_),(30,_)] (Yv rfl Es Es) (fun hG=>Eh Nd rfl rfl ((sc_in hrv (fg1 hG).1 (fg1 hG).2.1).1) (Cp (sc_in hrv (fg1 hG).1 (fg1 hG).2.1).2.1)) ?_));refine Qo 24 rfl [(31,_)] Qw (Qf [_]) (Qo 25 rfl [(32,_)] Qw Dd ?_);refine Yo 26 rfl [(33,_)] Qw (fun hG=>E6 ((X1 T V v).fields.length) rfl rfl (by simp)) ?_;refine Qo 27 rfl [(22,_),(34,_)] Yw Kv (Qn 28 rfl E5 ?_);refine Ig ?_;refine Av (Hb (fun hc1=>Aa (Qp Lu (Qp Bc (Rc (O0 (.str _) (.bool _) ?_))))) fun hc1=>?_)
 . exact Ye lX ((if_pos hc1:aE T V v f=([],false)))
 have hc1n:Uz T V v f=false:=hc1;have hfg:=fld_no hc1n;have hsi:=sc_in hrv hfg.1 hfg.2.1;refine B2 (AW.seq ?_);refine Mo ?_;refine Qn 0 rfl (Qf [_,_]) (Qn 1 rfl Dd (Qn 2 rfl (Qf [_]) (Qn 3 rfl Dd (Qn 4 rfl Ap ?_))));refine Qn 5 rfl (Eh Iv rfl rfl (hfg.1) (Cp (fG hfg.1 hfg.2.1))) (Qn 6 rfl (Qf [Iq _]) (Qn 7 rfl B6 (Qn 8 rfl (Eh Nd rfl rfl (hsi.1) (Cp hsi.2.1)) (Qn 9 rfl (Qf [_]) (Qn 10 rfl Dd (Qn 11 rfl Ap ?_))))));refine Qn 12 rfl (Eh Iv rfl rfl (hfg.2.2.1) (Cp (fi_in hfg.2.2.1 hfg.2.2.2))) (Qn 13 rfl (Qf Iv) (Qn 14 rfl Gr (Qn 15 rfl Lu (Qn 16 rfl Bc ?_))));refine Ig ?_;refine Av (AW.ret (O0 (.str _) (.bool _) ?_));exact Ye lX ((Bo hc1:aE T V v f=(pD T V v f,true)))
theorem fC (x:Vl)(h0:0<=x.kind)(h2:x.kind<=2):An Tryz.prog 131 [.agg (cV x)] (.agg (cSyn (fQ x))):=by
 refine Fb 15 Tryz.func131 rfl fun H=>?_
 refine Aa (Qp (Hu Yc) ?_);refine D5 I6 fun b2=>?_
 refine B7 (Qp Qf6 (Qp B6 (Qp Qf7 (Qp Gr (Qp (Fj Ai) ?_)))));refine D5 I6 fun b3=>?_
 refine By 0 Ai (_::_::_) (B7 (Qp (gU (l:=[.str _,.str _,.str _]) tok rfl rfl rfl rfl) (Qp wW (Qp B6 ?_))));refine Qp (U6 (c:=.str (knm x.kind)) tok rfl rfl rfl rfl rfl rfl rfl (h0) (by omega) (knm_at h0 h2)) ?_;refine Qp Cw ?_;refine By 0 Ai (_::_::_) (B7 (Sb 0 Ai rfl ?_));refine By 1 Ai (_::_::_) (Rb ?_);refine Yx [.agg Ai] (Zb 1) S2 ?_;rfl
theorem use_6 {T:List e8Sc}{V:List Va}{e:Ex}(h:Y6 T V e=true):U4 T V e=(6,false):=by rw [qV,if_pos h]
theorem use_n {T:List e8Sc}{V:List Va}{e:Ex}(h:Y6 T V e=false):U4 T V e=Sm T V e.args (aM T V e):=by rw [qV,Bo h]
theorem has_1 {T:List e8Sc}{V:List Va}{e:Ex}(h:((e.op==1)||(e.op==4))=true):Y6 T V e=Uz T V e.var e.field/\aM T V e=X7 (pD T V e.var e.field):=by unfold Y6 aM;rw [if_pos h,if_pos h];exact ⟨rfl,rfl⟩
theorem has_2 {T:List e8Sc}{V:List Va}{e:Ex}(h:((e.op==1)||(e.op==4))=false)(h2:((e.op==2)||(e.op==3))=true):Y6 T V e=decide ((V.length:Int)<=e.var)/\aM T V e=true:=by unfold Y6 aM;rw [Bo h,Bo h,if_pos h2];exact ⟨rfl,rfl⟩
theorem has_3 {T:List e8Sc}{V:List Va}{e:Ex}(h:((e.op==1)||(e.op==4))=false)(h2:((e.op==2)||(e.op==3))=false):Y6 T V e=false/\aM T V e=true:=by unfold Y6 aM;rw [Bo h,Bo h,Bo h2];exact ⟨rfl,rfl⟩
theorem pB {T:List e8Sc}{V:List Va}{v f:Int}(h:Uz T V v f=false):aE T V v f=(pD T V v f,true):=Bo h
theorem fldS_2 {T:List e8Sc}{V:List Va}{v f:Int}:(!(aE T V v f).2)=Uz T V v f:=by
 unfold aE;cases Uz T V v f <;> rfl
theorem useL_on {T:List e8Sc}{V:List Va}{l:List Ex}{k:Nat}{a:Ex}{b:Bool}(ha:l[k]? = some a)(h:((U4 T V a).1 != 0)=false):Sm T V (l.drop k) b=Sm T V (l.drop (k+1)) (b&&(U4 T V a).2):=by rw [A2 ha,Sm,Bo h]
theorem useL_no {T:List e8Sc}{V:List Va}{l:List Ex}{k:Nat}{a:Ex}{b:Bool}(ha:l[k]? = some a)(h:((U4 T V a).1 != 0)=true):Sm T V (l.drop k) b=((U4 T V a).1,false):=by rw [A2 ha,Sm,if_pos h]
theorem e_at {l:List Ex}{k:Nat}{a:Ex}(h:l[k]? = some a):(l.map H8)[k]? = some (cE a):=by rw [List.getElem?_map,h];exact congrArg some (Nb a)
theorem rf_uses (T:List e8Sc)(V:List Va)(hrv:RvOK T V)(hsn:∀s∈T,Th s)(e:Ex)(hs:B3 e<=1048576):An Tryz.prog 128 [.agg (cNm T V),.agg (cE e)] (.tuple [.int .i64 (U4 T V e).1,.bool (U4 T V e).2]):=by
 induction e using Ex.ind
 rename_i e ih;have hal:=Xf e hs;have hvl:=hrv.vl;refine Fb 63 Tryz.func128 rfl fun H=>?_
 refine Aa (Qp (Hu [_,_]) (Qp Qbe (Qp Aq (Qp Bc (B7 (Qp Bc (Ax ?_)))))));refine AW.Aai (fun (m:Bool)=>(⟨[(2,.ptr (cNm T V)),(3,.ptr (cE e)),(4,.int .i64 0),(5,.bool false),(6,.bool m)],H,63⟩:St)) (fun m=>Y6 T V e=false/\m=aM T V e) ?_ ?_
 .
  refine Aa (Qp fM (Qp B6 (Ax (AW.block ?_))));refine AW.Aai (fun (b:Bool)=>(⟨[(2,.ptr (cNm T V)),(3,.ptr (cE e)),(4,.int .i64 0),(5,.bool false),(6,.bool true),(14,.int .i64 e.op),(15,.bool b)],H,63⟩:St)) (fun b=>b=((e.op==1)||(e.op==4))) ?_ ?_
  .
   refine Aa (Qp Bl (Qp Bc (Bh (fun hc1=>B2 ?_) fun hc1=>AW.region (Qp Bl (Qp Bc (Ax ?_))))))
   .
    refine ⟨(e.op==1),?_,C2⟩;rw [hc1];rfl
   refine ⟨(e.op==4),?_,C2⟩;rw [hc1];rfl
  rintro b hb;refine Hb (fun hc2=>Aa (Qp (Cm [_,_]) (Qp wV (Qp B6 (Qp Qf3 (Qp B6 (Qp (Qc rfl (kN T V hrv e.var e.field)) (Qp Oz (Qp xE (Qp lL (Qp Lu (Qp Bc (Ax (B5 (Qp Cc (Qp Ix (Bh (fun hc3=>?_) fun hc3=>?_))))))))))))))))) fun hc2=>?_
  .
   have h3:Y6 T V e=true:=by rw [(has_1 (hb.symm.trans hc2)).1,<-fldS_2];exact hc3
   refine Aa (Qp Aq (Qp Bc (Rc (Dz (A7 (O0 (Iq _) (.bool _) ?_))))));exact Ye Xc (use_6 h3)
  .
   have h3n:Uz T V e.var e.field=false:=by rw [<-fldS_2];exact hc3
   have hfl:(aE T V e.var e.field).1.length<=1048576:=by rw [pB h3n];exact fnm_len hrv hsn h3n
   refine B2 (AW.region (Qp H7 (Qp (Qc rfl (c20 (aE T V e.var e.field).1 hfl)) (Qp Bl (Qp Bc (Rk ?_))))));refine ⟨(Hf (aE T V e.var e.field).1==0),?_,C2⟩;subst hc2;exact ⟨(has_1 hb.symm).1.trans h3n,by rw [pB h3n,(has_1 hb.symm).2];rfl⟩
  refine AW.Aai (fun (d:Bool)=>(⟨[(2,.ptr (cNm T V)),(3,.ptr (cE e)),(4,.int .i64 0),(5,.bool false),(6,.bool true),(32,.bool d)],H,63⟩:St)) (fun d=>d=((e.op==2)||(e.op==3))) ?_ ?_
  .
   refine Aa (Qp Bl (Qp Bc (Bh (fun hc4=>B2 ?_) fun hc4=>AW.region (Qp Bl (Qp Bc (Ax ?_))))))
   .
    refine ⟨(e.op==2),?_,C2⟩;rw [hc4];rfl
   refine ⟨(e.op==3),?_,C2⟩;rw [hc4];rfl
  rintro d hd;refine Hb (fun hc5=>Aa (Qp wV (Qp B6 (Qp (Qf [_]) (Qp Dd ?_))))) fun hc5=>Rf ?_
  .
   refine Qp (E6 V.length rfl rfl (by simp)) ?_;refine Qp Kv (Bh (fun hc6=>Aa (Qp Aq (Qp Bc (Ra (O0 (Iq _) (.bool _) ?_))))) fun hc6=>Rf ?_)
   . exact Ye Xc (use_6 ((has_2 (by rw [<-hb];exact hc2) (by rw [<-hd];exact hc5)).1.trans hc6))
   refine ⟨true,?_,C2⟩;subst hc5;rw [hc2] at hb;exact ⟨(has_2 hb.symm hd.symm).1.trans hc6,(has_2 hb.symm hd.symm).2.symm⟩
  refine ⟨true,?_,C2⟩;rw [hc2] at hb;rw [hc5] at hd;exact ⟨(has_3 hb.symm hd.symm).1,(has_3 hb.symm hd.symm).2.symm⟩
 rintro m hM;have hun:=use_n hM.1;have hmn:=hM.2;refine B5 (Qp oE (Qp Dd ?_));refine Qp (E6 e.args.length rfl rfl (by simp)) ?_;refine Qp Ap (Ax (AW.block ?_));refine AW.Aad (fun (q:Nat×Bool)=>(⟨[(2,.ptr (cNm T V)),(3,.ptr (cE e)),(4,.int .i64 0),(5,.bool false),(6,.bool q.2),(42,.sl 8 (e.args.map H8)),(43,.int .i64 e.args.length),(44,.int .i64 (q.1:Int))],H,63⟩:St)) (fun q=>q.1<=e.args.length/\U4 T V e=Sm T V (e.args.drop q.1) q.2) (fun q=>e.args.length-q.1) ((0,m)) ?_ C2 ?_
 . exact ⟨A9 _,by rw [hun,<-hmn];rfl⟩
 rintro q hR;refine Aa (Qp Cn (Re (Hb (fun hc7=>?_) fun hc7=>?_)))
 .
  obtain ⟨a,ha⟩:=Cj hc7;have hlt:=Bz ha;have hm:=Aj ha;refine B2 (AW.seq (AW.block (Aa ?_)));refine Qp (Eh Ko rfl rfl (by omega) (e_at ha)) ?_;refine Qp Rl (D5 ggz fun b10=>?_);refine By 0 Ko (_::_) ?_;refine Kc 10 0 rfl ?_;refine B7 (Qp (Cm [_,_]) (Qp Rl ?_));refine Qp (Qc rfl (ih a hm (by have:=K1 hm;omega))) ?_;refine Qp Oz (Qp Lv (Qp lL (Qp Aq (Qp Bc (Ax (B5 (Qp Ap (Qp Cb ?_))))))));refine Bh (fun hc8=>Aa (Qp Ap (Qp Aq (Qp Bc (Rc (Rj (A7 (O0 (Iq _) (.bool _) ?_)))))))) fun hc8=>B2 (AW.region (Qp Cc (Qp Cc (Qg [] Qw Cc (Qp Ju (Qp Bc (Rk (AW.region (Qp Gw (Qp Ap (Ax ?_)))))))))))
  . exact Ye Xc (hR.2.trans (useL_no ha hc8))
  refine ⟨(q.1+1,q.2&&(U4 T V a).2),?_,?_,C2⟩
  . exact ⟨hlt,hR.2.trans (useL_on ha hc8)⟩
  simp only;omega
 have hde:=Fw hc7;have hall:=hR.2;rw [hde] at hall;refine AW.exit ?_;refine B1 (Ri (Aa (Qp Cc (Qp Aq (Qp Bc (Rb ?_))))));refine O0 (Iq _) (.bool _) ?_;exact Ye Xc ((hall.trans (by rw [Sm]):U4 T V e=(0,q.2)))
end Go.Proofs.YtckhoadldibflaaGreatDoor
