/-
  Several texts in one: R5w, R6w, At, R7w, EW1, EW4, EW13. No condition.
-/
import Derived.Test.YtckhoadldibflaaGreatDoorK01
import Derived.Test.YtckhoadldibflaaGreatDoorK05
import Derived.Test.YtckhoadldibflaaGreatDoorK13
import Derived.KernelRfl
import Derived.Test.YtckhoadldibflaaGreatDoorK06
import Derived.Test.YtckhoadldibflaaGreatDoorK02
import Derived.Test.YtckhoadldibflaaGreatDoorTab
set_option linter.unusedVariables false
set_option linter.unusedSimpArgs false
set_option maxHeartbeats 6400000
set_option maxRecDepth 20000
namespace Go.Proofs.YtckhoadldibflaaGreatDoor
open Go Go.Aw
theorem rf_events (t:Syn)(ht:Wg t)(hc:Al t .pats=0):An Tryz.prog 95 [.agg (cSyn t)] (.sl 6 ((O2 t).map C6)):=by
 induction t using Syn.ind
 rename_i t ih;refine Fb 45 Tryz.func95 rfl fun H=>?_
 refine Aa (Qp (Hu Ai) (Qp (B8 (z:=6) rfl) (Ax (B5 (Qp (Qf Ai) (Qp B6 (Ax (AW.block (Aa (Qp Bl (Qp Bc (Bh (fun hc1=>Aa (Qp (Cm Ai) (Qp (Jh [Ai] rfl) (Qp lK (Ra (Qr (.sl _ _) ?_)))))) fun hc1=>?_))))))))))))
 . exact Ye (AV.sl 6) (evs_1 hc1)
 have h5:t.kind≠5:=by simpa using hc1
 refine Aa (Qp Bl (Qp Bc (Bh (fun hc2=>?_) fun hc2=>Aa (Qp Bl (Qp Bc (Bh (fun hc3=>?_) fun hc3=>?_))))))
 .
  have h2:=Ma hc (.inl (by simpa using hc2));have hg0:=He (t:=t) (k:=0) (by omega);have hg1:=He (t:=t) (k:=1) (by omega);have hb2:=ev_kid (N7 ht (Aj hg0));refine AW.seq ?_;refine Mo ?_;refine Qn 0 rfl (Qf Ot) (Qn 1 rfl Dd ?_);refine Qn 2 rfl (Eh Ai rfl rfl (by decide) (Io hg1)) ?_;refine Qn 3 rfl (Cm Ai) (Qn 5 rfl (Qf Ot) (Qn 6 rfl Dd ?_));refine Qn 7 rfl (Eh Ai rfl rfl (by decide) (Io hg0)) ?_;refine Qn 8 rfl (Cm Ai) (Qn 9 rfl (Qc rfl (ih _ (Aj hg0) (N7 ht (Aj hg0)) (Xy hc h5 hg0 fun _=>rfl))) ?_);refine rT 4 rfl (Hv (es:=[Ai]) tok rfl rfl rfl rfl rfl rfl rfl rfl rfl) ?_;rintro _ _ ⟨v18,rfl,rfl⟩;refine rT 10 rfl (W0 0 rfl (scSyn _) (Et rfl) (by simp at hb2 ⊢;omega) (by simp [maxLen] at hb2 ⊢;omega)) ?_;rintro _ _ ⟨v24,rfl,rfl⟩;refine Qn 11 rfl (Ba (v:=.row _ _ _) rfl) ?_;refine Ig ?_;refine Av ?_;refine AW.ghost (GS.unrow 2 rfl) ?_;refine AW.ret (Dz (A7 ?_));refine Yx [.sl _ _] Ze S1 ?_;exact Ye (AV.sl 6) (evs_2 hc1 hc2 (by omega))
 .
  have h2:=Ma hc (.inr (by simpa using hc3));have hg0:=He (t:=t) (k:=0) (by omega);refine Aa (Qp (Qf Ot) (Qp Dd ?_));refine Qp (Eh Ai rfl rfl (by decide) (Io hg0)) ?_;refine Qp (Cm Ai) (Qp (Qc rfl (ih _ (Aj hg0) (N7 ht (Aj hg0)) (Xy hc h5 hg0 fun _=>rfl))) ?_);refine Qp lK (Ra (Qr (.sl _ _) ?_));exact Ye (fun q:List Syn=>AV.sl 6 (q.map C6)) (evs_3 hc1 hc2 hc3 (by omega))
 have hn:¬(t.kind=10\/t.kind=12):=fun hq=>hq.elim (by simpa using hc2) (by simpa using hc3)
 have hkl:=dI ht;refine Rf (Aa (Qp Sa ?_));refine AOL.ghost (GS.row (t:=3) 25 6 rfl) ?_;refine Ax (B5 (Qp (Qf Ot) (Qp Dd ?_)));refine Qp (E6 t.kids.length rfl rfl (by simp)) ?_;refine Qp Ap (Ax (AW.block ?_));refine AW.Aad (fun (p:Nat×List (List AV)×Value)=>(⟨[(1,.ptr (cSyn t)),(3,.row p.2.2 6 p.2.1),(33,.sl 6 (t.kids.map C6)),(34,.int .i64 t.kids.length),(35,.int .i64 (p.1:Int))],.row p.2.2 p.2.1.length 25 6::H,45⟩:St)) (fun p=>p.1<=t.kids.length/\p.2.1=((t.kids.take p.1).flatMap O2).map C6) (fun p=>t.kids.length-p.1) ((0,[],.slice none 0 0)) ?_ C2 ?_
 . exact ⟨A9 _,rfl⟩
 rintro p hR;refine Aa (Qp Cn (Re (Hb (fun hc4=>?_) fun hc4=>?_)))
 .
  obtain ⟨a,ha⟩:=Cj hc4;have hlt:=Bz ha;have hm:=Aj ha;have hsc:∀c∈p.2.1,A0 c=true:=by rw [hR.2];exact scSyn _
  have hb1:p.2.1.length<=1000000:=by rw [hR.2];exact ev_part ht _
  have hb2:=ev_kid (N7 ht hm);refine B2 (AW.seq (AW.block (Aa ?_)));refine Qp (Eh Ai rfl rfl (by omega) (Io ha)) ?_;refine Qp (Cm Ai) ?_;refine D5 I6 fun b5=>?_
  refine By 0 Ai (_::_::_) ?_;refine Kc 5 0 rfl ?_;refine Ax (AW.region (Qp (A1 (v:=.row _ _ _) rfl) (Qp (Cm Ai) (Qp (Qc rfl (ih a hm (N7 ht hm) (Xy hc h5 ha fun hq=>absurd hq hn))) ?_))));refine Qe (W0 0 rfl (scSyn _) (hsc) (by simp at hb1 hb2 ⊢;omega) (by simp [maxLen] at hb1 hb2 ⊢;omega)) ?_;rintro _ _ ⟨v42,rfl,rfl⟩;refine Qp (Ba (v:=.row _ _ _) rfl) (Rk (AW.region (Qp Gw (Qp Ap (Ax ?_)))));refine ⟨(p.1+1,p.2.1++(O2 a).map C6,v42),?_,?_,C2⟩
  . exact ⟨hlt,by simp only;rw [C9 ha,hR.2];simp⟩
  simp only;omega
 have hte:=Ds hc4;have hall:=hR.2;rw [hte] at hall;refine AW.exit ?_;refine B1 (Ri (Aa ?_));refine Qp (A1 (v:=.row _ _ _) rfl) ?_;refine AOL.ghost (GS.unrow 44 rfl) ?_;refine Qp lK (Rb ?_);refine Yx [.sl _ _] Ze S1 ?_;exact (congrArg (AV.sl 6) hall).trans (congrArg (fun q:List Syn=>AV.sl 6 (q.map C6)) (evs_4 hc1 hc2 hc3)).symm
theorem rf_ops  : An Tryz.prog 130 [] (.mapv opL):=by
 refine Fb 3 Tryz.func130 rfl fun H=>?_
 refine Aa (Qp Sa (B7 (Qe (bL) ?_)));rintro _ _ ⟨b1,rfl,rfl⟩;refine Rt (E1 (i:=0) (x:=Iq _) (H2:=_::_) tok rfl rfl rfl rfl rfl rfl rfl rfl rfl rfl) (Rt (E1 (i:=0) (x:=Iq _) (H2:=_::_) tok rfl rfl rfl rfl rfl rfl rfl rfl rfl rfl) (Rt (E1 (i:=0) (x:=Iq _) (H2:=_::_) tok rfl rfl rfl rfl rfl rfl rfl rfl rfl rfl) (Rt (E1 (i:=0) (x:=Iq _) (H2:=_::_) tok rfl rfl rfl rfl rfl rfl rfl rfl rfl rfl) (Rt (E1 (i:=0) (x:=Iq _) (H2:=_::_) tok rfl rfl rfl rfl rfl rfl rfl rfl rfl rfl) (Rt (E1 (i:=0) (x:=Iq _) (H2:=_::_) tok rfl rfl rfl rfl rfl rfl rfl rfl rfl rfl) (Rt (E1 (i:=0) (x:=Iq _) (H2:=_::_) tok rfl rfl rfl rfl rfl rfl rfl rfl rfl rfl) (Rt (E1 (i:=0) (x:=Iq _) (H2:=_::_) tok rfl rfl rfl rfl rfl rfl rfl rfl rfl rfl) ?_)))))));refine AOL.ghost (GS.freezeMap (t:=1) 0 rfl rfl) ?_;refine Qp (A1 (v:=.mapv _) rfl) (Qp (Ba (v:=.mapv _) rfl) (Rb (Qr (.mapv _) ?_)));rfl
theorem vJ (T:List e8Sc)(V:List Va)(s:Nx)(hs:0<=s.scopes/\s.scopes<=3000000)(p:Pt)(bp pp:Nat)(H:List HO):Cf Tryz.prog 171 (.box pp 38 (cPt p) :: .box bp 159 (bP T V s)::H) [.val (.pointer (some ⟨bp,0,none⟩)),.val (.pointer (some ⟨pp,0,none⟩))] (fun r H'=>r = .tuple []/\H' = .box pp 38 (cPt { p with scope:=s.scopes }) :: .box bp 159 (bP T V ⟨s.next,s.scopes+1⟩)::H):=by
 refine Jg 18 Tryz.func171 rfl ?_;refine Aa (Qp Bx (Qp Bx ?_));refine Qp (Ad rfl) ?_;refine Qp Cw ?_;refine Sw 1 (Iq _) rfl ?_;refine Qp (Ad rfl) ?_;refine Qp Cw ?_;refine By 0 Fq (_::_::_) ?_;refine Ax (AW.region (Qp Bx ?_));refine Qp (Ad rfl) ?_;refine Qp Cw ?_;refine Sw 1 (Iq _) rfl ?_;refine Qp Gw ?_;refine Qp (Ad rfl) ?_;refine Qp Cw ?_;refine By 1 [_,_,_,_,Iq _,Iq _] (_::_::_) ?_;refine AOL.nil ?_;refine ⟨.inl rfl,[],.nil,_,.refl _,?_⟩;exact ⟨rfl,rfl⟩
theorem rf_bind (T:List e8Sc)(V:List Va)(s:Nx)(hs:0<=s.next/\s.next<=3000000)(p:Pt)(bp pp:Nat)(hrv:RvOK T V)(t:Syn)(ht:Wg t)(hw:0<t.kids.length->(G4 T V (Bi t 0)).err=0)(H:List HO):Cf Tryz.prog 170 (.box pp 38 (cPt p) :: .box bp 159 (bP T V s)::H) [.val (.pointer (some ⟨bp,0,none⟩)),.val (.pointer (some ⟨pp,0,none⟩)),.agg (cSyn t)] (fun r H'=>r = .tuple []/\H' = .box pp 38 (cPt { p with type:=Sr (Jx T) t.text,var:=s.next,cond:=Mh T V t }) :: .box bp 159 (bP T V ⟨s.next+1,s.scopes⟩)::H):=by
 refine Jg 47 Tryz.func170 rfl ?_;refine Aa (Qp (Hu Ai) (Re (Rm 1 rfl (Qn 0 rfl Bx (Qn 1 rfl Bx (Qn 2 rfl Bx (Qn 3 rfl Bx (Qn 4 rfl (Ad rfl) (Qn 5 rfl Cw (Qn 6 rfl (Lw (.smapv _) rfl) (Qn 7 rfl (Qf X6) (Qn 8 rfl Gr ?_))))))))))));refine Qn 9 rfl (rQ (es:=Sl (Jx T)) tok rfl rfl rfl rfl rfl (by kernel_rfl) rfl rfl (Wh _ _ rfl)) ?_;refine Qn 10 rfl Bx (Qn 11 rfl (Ad rfl) (Qn 12 rfl Cw (Qn 13 rfl (Lw (Iq _) rfl) (Qn 14 rfl (Qc rfl (vK)) (Qn 15 rfl (Ad rfl) (Qn 16 rfl Cw ?_))))));refine Xa 17 rfl (Kt 0 (Iq _) Fq (_::_::_) rfl) (by rintro _ _ ⟨rfl,rfl⟩;simp) ?_;rintro _ _ ⟨rfl,rfl⟩;refine Qn 18 rfl (Ad rfl) (Qn 19 rfl Cw ?_);refine Xa 20 rfl (Kt 0 (Iq _) Fq (_::_::_) rfl) (by rintro _ _ ⟨rfl,rfl⟩;simp) ?_;rintro _ _ ⟨rfl,rfl⟩;refine Qn 21 rfl (Ad rfl) (Qn 22 rfl Cw ?_);refine fY 23 rfl (Kt 0 (.agg _) Fq (_::_::_) rfl) ?_;rintro _ _ ⟨rfl,rfl⟩;refine Av (Aa (Qp Bx (Qp (Ad rfl) (Qp Cw (Sw 1 (Iq _) rfl (Qp Gw (Qp (Ad rfl) (Qp Cw ?_))))))));refine By 1 [_,_,_,_,Iq _,Iq _] (_::_::_) (B7 (Qp (Qf Ot) (Qp Dd ?_)));refine Qp (E6 t.kids.length rfl rfl (by simp)) ?_;refine Qp Gx (Bh (fun hc1=>?_) fun hc1=>AW.skip ?_)
 .
  have h0:0<t.kids.length:=by have:=Ey hc1;omega
  refine AW.region (Qp Bx (Qp Bx (Qp (Qf Ot) (Qp Dd ?_))));refine Qp (Eh Ai rfl rfl (by decide) (Io (He h0))) ?_;refine Qp (Cm Ai) ?_;refine AOL.Aag (Cu (k:=1) (by kernel_rfl) rfl rfl (qH T V ⟨s.next+1,s.scopes⟩ bp hrv (Bi t 0) (pP ht h0) (hw h0))) rfl rfl ?_;refine Qp (Ad rfl) (Qp Cw ?_);refine By 0 Fq (_::_::_) (AOL.nil ?_);refine ⟨.inl rfl,[],.nil,_,.refl _,?_⟩;exact ⟨rfl,congrArg (fun q:Ex=>(.box pp 38 (cPt { p with type:=Sr (Jx T) t.text,var:=s.next,cond:=q }) :: .box bp 159 (bP T V ⟨s.next+1,s.scopes⟩)::H:List HO)) (cond_1 hc1).symm⟩
 refine ⟨.inl rfl,[],.nil,_,.refl _,?_⟩;exact ⟨rfl,congrArg (fun q:Ex=>(.box pp 38 (cPt { p with type:=Sr (Jx T) t.text,var:=s.next,cond:=q }) :: .box bp 159 (bP T V ⟨s.next+1,s.scopes⟩)::H:List HO)) (cond_2 hc1).symm⟩
theorem rf_allP (T:List e8Sc)(V:List Va)(s:Nx)(bp:Nat)(l:List Syn)(hl:l.length<=1048576)(hs:NxOK s (Ij l))(hf:∀a∈l,∀s:Nx,NxOK s (Ki a)->Bk Tryz.prog 99 bp 159 (bP T V s) (bP T V (Kk T V a s).2) [.val (.pointer (some ⟨bp,0,none⟩)),.agg (cSyn a)] (.agg (cPt (Kk T V a s).1))):Bk Tryz.prog 172 bp 159 (bP T V s) (bP T V (Gn T V l s).2) [.sl 6 (l.map C6),.fn (.func 99) [.val (.pointer (some ⟨bp,0,none⟩))] []] (.sl 14 ((Gn T V l s).1.map Oq)):=by
 intro H;refine Jg 22 Tryz.func172 rfl ?_;refine Aa (Qp (B8 (z:=14) rfl) (B7 (Qp Sa ?_)));refine AOL.ghost (GS.row (t:=5) 38 14 rfl) ?_;refine Ax (B5 (Qp K7 ?_));refine Qp (E6 l.length rfl rfl (by simp)) ?_;refine Qp Ap (Ax (AW.block ?_));refine AW.Aad (fun (q:Nat×List (List AV)×Value×Nx)=>(⟨[(0,.sl 6 (l.map C6)),(1,.fn (.func 99) [.val (.pointer (some ⟨bp,0,none⟩))] []),(5,.row q.2.2.1 14 q.2.1),(8,.sl 6 (l.map C6)),(9,.int .i64 l.length),(10,.int .i64 (q.1:Int))],.row q.2.2.1 q.2.1.length 38 14 :: .box bp 159 (bP T V q.2.2.2)::H,22⟩:St)) (fun q=>q.1<=l.length/\NxOK q.2.2.2 (Ij (l.drop q.1))/\q.2.1=(Gn T V (l.take q.1) s).1.map Oq/\q.2.2.2=(Gn T V (l.take q.1) s).2/\q.2.1.length<=q.1) (fun q=>l.length-q.1) ((0,[],.slice none 0 0,s)) ?_ C2 ?_
 . exact ⟨A9 _,hs,rfl,rfl,Br _⟩
 rintro q hR;refine Aa (Qp Cn (Re (Hb (fun hc1=>?_) fun hc1=>?_)))
 .
  obtain ⟨a,ha⟩:=Cj hc1;have hlt:=Bz ha;have hm:=Aj ha;have hsc:∀c∈q.2.1,A0 c=true:=by rw [hR.2.2.1];exact scPt _
  have hnx:=nx_on (T:=T) (V:=V) ha hR.2.1;have hql:=hR.2.2.2.2;refine B2 (AW.seq (AW.block (Aa ?_)));refine Qp (Eh Ai rfl rfl (by omega) (Io ha)) ?_;refine Qp (Cm Ai) ?_;refine D5 I6 fun b7=>?_
  refine By 0 Ai (_::_::_::_) ?_;refine Kc 7 0 rfl ?_;refine Ax (AW.region (Qp (A1 (v:=.row _ _ _) rfl) (Qp (A1 (v:=.fn _ _ _) rfl) (Qp (Cm Ai) ?_))));refine Rt (Lt (by kernel_rfl) rfl rfl rfl ((hf a hm q.2.2.2 hnx.1).at (k:=1) (H2:=_::_::_) rfl rfl)) ?_;refine Qp (Jh [Fq] rfl) ?_;refine Qe (W0 0 rfl (Et rfl) (hsc) (by simp;omega) (by simp [maxLen];omega)) ?_;rintro _ _ ⟨v19,rfl,rfl⟩;refine Qp (Ba (v:=.row _ _ _) rfl) (Rk (AW.region (Qp Gw (Qp Ap (Ax ?_)))));refine ⟨(q.1+1,q.2.1 ++ [cPt (Kk T V a q.2.2.2).1],v19,(Kk T V a q.2.2.2).2),?_,?_,C2⟩
  . exact ⟨hlt,hnx.2,by simp only;rw [uZ ha,hR.2.2.1,<-hR.2.2.2.1];simp [Xk],by simp only;rw [uZ ha,<-hR.2.2.2.1],by simp;omega⟩
  simp only;omega
 have hte:=Ds hc1;have hall:=hR.2.2.1;have hst:=hR.2.2.2.1;rw [hte] at hall hst;refine AW.exit ?_;refine B1 (Ri (Aa ?_));refine Qp (A1 (v:=.row _ _ _) rfl) ?_;refine AOL.ghost (GS.unrow 21 rfl) ?_;refine Qp lK (Rb ?_);refine ⟨.inr rfl,[.sl _ _],Ze,_,S1,?_⟩;exact ⟨Eq.trans rfl (congrArg (AV.sl 14) hall),congrArg (fun x:Nx=>(.box bp 159 (bP T V x)::H:List HO)) hst⟩
theorem zF (T:List e8Sc)(V:List Va)(s:Nx)(bp:Nat)(hrv:RvOK T V)(t:Syn)(ht:Wg t)(hc:Al t .pats=0)(hw:(G4 T V t).err=0)(hs:NxOK s (Ki t)):Bk Tryz.prog 99 bp 159 (bP T V s) (bP T V (Kk T V t s).2) [.val (.pointer (some ⟨bp,0,none⟩)),.agg (cSyn t)] (.agg (cPt (Kk T V t s).1)):=by
 intro H
 revert H
 revert s
 induction t using Syn.ind
 rename_i t ih;intro s hs H;have hrg:=dB hc;have hnx:=nxn_ok hs;refine Jg 59 Tryz.func99 rfl ?_;refine Aa (Qp (Hu Ai) (D5 ghx fun b4=>Re ?_));refine Mo ?_;refine Qn 0 rfl (Qc rfl (rf_ops)) (Qn 1 rfl (Qf Ai) (Qn 2 rfl B6 (Qn 3 rfl (Zz tok rfl rfl rfl rfl rfl rfl (op_get hrg.1 hrg.2)) (Qn 4 rfl (Fj Fq) ?_))));refine rT 5 rfl (Ke (l:=ghx) (by kernel_rfl)) ?_;rintro _ _ ⟨b5,rfl,rfl⟩;refine Oj 6 rfl (Kt 0 (.agg _) Fq (_::_::_::_) rfl) ?_;refine Ig ?_;refine Av (Aa (Qp (Qf Ot) (Qp Dd (Qp lK (Ax ?_)))));refine AW.Aai (fun (q:Pt×Nx×List Syn)=>(⟨[(0,.val (.pointer (some ⟨bp,0,none⟩))),(4,.val (.pointer (some ⟨b4,0,none⟩))),(5,.val (.pointer (some ⟨b5,0,none⟩))),(6,.sl 6 (q.2.2.map C6))],.box b5 38 (cPt q.1) :: .box bp 159 (bP T V q.2.1) :: .box b4 38 (cPt pt0)::H,59⟩:St)) (fun q=>q.1=Ow T V t s []/\q.2.1=Yi t s/\q.2.2=D7 t) ?_ ?_
 .
  refine Aa (Qp (Qf Ai) (Qp B6 (Ax (AW.block (Aa (Qp Bl (Qp Bc (Bh (fun hc1=>Aa (Qp Bx (Qp (Cm Ai) ?_))) fun hc1=>Aa (Qp Bl (Qp Bc (Bh (fun hc2=>?_) fun hc2=>Aa (Qp Bl (Qp Bc (Bh (fun hc3=>Aa (Qp Bx ?_)) fun hc3=>Aa (Qp Bl (Qp Bc (Bh (fun hc4=>?_) fun hc4=>Rf ?_)))))))))))))))))
  .
   refine Rt (Dq rfl (Cf.front2 (R:=_::_) 2 0 rfl rfl rfl (rf_bind T V s ⟨hs.a,by have:=hs.c;omega⟩ ⟨t.kind-5,[],0,0,0,0,rC⟩ bp b5 hrv t ht (fun h=>aK hw h) _))) ?_;refine Ax (AW.region (Qp (B8 (z:=6) rfl) (Rk ?_)));refine ⟨(⟨t.kind-5,[],Sr (Jx T) t.text,s.next,0,0,Mh T V t⟩,⟨s.next+1,s.scopes⟩,[]),?_,GS.trans (GS.refl _) C2⟩;exact ⟨pn_5 hc1,(nxn_5 hc1).symm,(pk_5 hc1).symm⟩
  .
   have h2:=Ma hc (.inl (by simpa using hc2));have h1:1<t.kids.length:=by omega
   refine Aa (Qp Bx ?_);refine Rt (Dq rfl (Cf.front2 (R:=_::_) 2 0 rfl rfl rfl (vJ T V s ⟨hs.b,by have:=hs.d;omega⟩ ⟨t.kind-5,[],0,0,0,0,rC⟩ bp b5 _))) ?_;refine B7 (Qp Bx (Qp (Qf Ot) (Qp Dd ?_)));refine Qp (Eh Ai rfl rfl (by decide) (Io (He h1))) ?_;refine Qp (Cm Ai) ?_;refine Rt (Dq rfl (Cf.front2 (R:=_::_) 1 0 rfl rfl rfl (rf_bind T V ⟨s.next,s.scopes+1⟩ ⟨hs.a,by have:=hs.c;simp only;omega⟩ ⟨t.kind-5,[],0,0,s.scopes,0,rC⟩ bp b5 hrv (Bi t 1) (pP ht h1) (fun h=>aK (aK hw h1) h) _))) ?_;refine Ax (AW.region (Qp (Qf Ot) (Qp Dd ?_)));refine Qp (O9 (l:=0) (h:=1) tok rfl rfl rfl rfl rfl (rfl) (⟨_,rfl⟩) (by decide) (by rw [Bt];omega) ((by rw [Qt,<-List.map_take]))) ?_;refine Qp lK (Rk ?_);refine ⟨(⟨t.kind-5,[],Sr (Jx T) (Bi t 1).text,s.next,s.scopes,0,Mh T V (Bi t 1)⟩,⟨s.next+1,s.scopes+1⟩,t.kids.take 1),?_,GS.trans (GS.refl _) C2⟩;exact ⟨pn_10 hc1 hc2,(nxn_10 hc2).symm,(pk_10 hc1 hc2).symm⟩
  .
   refine Rt (Dq rfl (Cf.front2 (R:=_::_) 2 0 rfl rfl rfl (vJ T V s ⟨hs.b,by have:=hs.d;omega⟩ ⟨t.kind-5,[],0,0,0,0,rC⟩ bp b5 _))) ?_;refine Ax (AW.region (Qp (Qf Zw) (Qp B6 (Qp Cw ?_))));refine By 0 Fq (_::_::_::_) (Rk ?_);refine ⟨(⟨t.kind-5,[],0,0,s.scopes,t.num,rC⟩,⟨s.next,s.scopes+1⟩,t.kids),?_,GS.trans (GS.refl _) C2⟩;exact ⟨pn_11 hc1 hc2 hc3,(nxn_11 hc3).symm,(pk_o hc1 hc2 (by have h:t.kind=11:=(by simpa using hc3);simp [h])).symm⟩
  .
   have h2:=Ma hc (.inr (by simpa using hc4));have h1:1<t.kids.length:=by omega
   refine Aa (Qp Bx (Qp (Qf Ot) (Qp Dd ?_)));refine Qp (Eh Ai rfl rfl (by decide) (Io (He h1))) ?_;refine Qp (Cm Ai) ?_;refine AOL.Aag (Cu (k:=2) (by kernel_rfl) rfl rfl (qH T V s bp hrv (Bi t 1) (pP ht h1) (aK hw h1))) rfl rfl ?_;refine Qp Cw ?_;refine By 0 Fq (_::_::_::_) (Ax (AW.region (Qp (Qf Ot) (Qp Dd ?_))));refine Qp (O9 (l:=0) (h:=1) tok rfl rfl rfl rfl rfl (rfl) (⟨_,rfl⟩) (by decide) (by rw [Bt];omega) ((by rw [Qt,<-List.map_take]))) ?_;refine Qp lK (Rk ?_);refine ⟨(⟨t.kind-5,[],0,0,0,0,F1 T V (Bi t 1)⟩,s,t.kids.take 1),?_,GS.trans (GS.perm (List.Perm.cons _ (List.Perm.swap _ _ _))) C2⟩;exact ⟨pn_12 hc1 hc2 hc3 hc4,(nxn_o hc1 hc2 hc3).symm,(pk_12 hc1 hc4).symm⟩
  refine ⟨(⟨t.kind-5,[],0,0,0,0,rC⟩,s,t.kids),?_,GS.trans (GS.perm (List.Perm.cons _ (List.Perm.swap _ _ _))) C2⟩;exact ⟨(ptn_o hc1 hc2 hc3 hc4).symm,(nxn_o hc1 hc2 hc3).symm,(pk_o hc1 hc2 hc4).symm⟩
 rintro ⟨p,s1,ks⟩ hQ;obtain ⟨h1,h2,h3⟩:=hQ;simp only at h1 h2 h3;subst h1 h2 h3;have hnk:NxOK (Yi t s) (Ij (D7 t)):=by have h:=gB t;have h9:=hnx.1;exact ⟨h9.a,h9.b,by have:=h9.c;omega,by have:=h9.d;omega⟩
 refine Aa (Qp K7 (Qp Bx (Qp (B9 (l:=[.val _]) (l':=[]) rfl rfl) (wX ((rf_allP T V _ bp (D7 t) (pk_len ht) hnk (fun a ha s hs=>fun R=>ih a (Vu ha) (N7 ht (Vu ha)) (Vt hc ha) ((Lp hw).2 a (Vu ha)) s hs R)).at (k:=1) (H2:=_::_::_::_) rfl rfl) ?_))));refine Qp Cw ?_;refine By 0 Fq (_::_::_::_) (B7 (Sb 0 Fq rfl ?_));refine By 2 Fq (_::_::_::_) (Rb ?_);refine ⟨.inr rfl,[.agg Fq],.cons (.box _ _ _ 2 _ _ _ _ rfl rfl rfl rfl rfl rfl) <| .nil,_,.cons _ (.cons_cons _ (.cons _ (.refl _))),?_⟩;exact ⟨Eq.trans rfl (congrArg (fun q:Pt×Nx=>AV.agg (cPt q.1)) (aV t s).symm),congrArg (fun q:Pt×Nx=>(.box bp 159 (bP T V q.2)::H:List HO)) (aV t s).symm⟩
end Go.Proofs.YtckhoadldibflaaGreatDoor
namespace Go.Aw
open Go
section
variable {P:Program} {T:List (Nat×TD)} {d:Option Nat} {ty:TypeId} {pos:String} {aft:Array Edge} {gd:Option (Nat×Bool)} {ρ:Operand->AV}
end
end Go.Aw
namespace Go.Proofs.YtckhoadldibflaaGreatDoor
open Go Go.Aw
theorem vR (H:List HO)(n:Nat)(h0:0<n)(hn:n<=1048576):Cf Tryz.prog 167 H [.sl 1 [[.int .i64 (-1)]],.int .i64 (n:Int)] (fun r H'=>∃b,r = .val (.slice (some ⟨b,0,none⟩) n n)/\H' = .box b 3 (bI (jT n))::H):=by
 have hmx:1048576<=maxLen:=by decide
 refine Jg 48 Tryz.func167 rfl ?_;refine Aa (Qp (B8 (z:=1) rfl) (Ax (B5 (Qp Ap (Qp Cn (Bh (fun hc1=>?_) fun hc1=>?_))))))
 .
  have:=Ey hc1;omega
 refine B2 (Aa (Qp K7 (Qp (E6 1 rfl rfl (rfl)) (Qp (gW (m:=1) tok rfl rfl rfl rfl rfl (rfl)) (Qp Ap (Qp (gW (m:=(n:Int)) tok rfl rfl rfl rfl rfl (u64_in hn)) (Qp (Qc rfl (kMul1 n hn)) (Qp Oz (Qp (Ch (v:=.int .u64 _) rfl rfl) (Qp (Ch (v:=.int .u64 _) rfl rfl) (Qp (Ba (v:=.int .u64 _) rfl) (Qp (Ba (v:=.int .u64 _) rfl) (Ax (B5 (Qp (A1 (v:=.int .u64 _) rfl) (Qp Gx (Qp Cc (Qg [] Qw (A1 (v:=.int .u64 _) rfl) (Qg [(24,_)] Qw Gx (Qp E5 (Bh (fun hc2=>?_) fun hc2=>B2 (Aa (Qp (A1 (v:=.int .u64 _) rfl) (Qp (gW (m:=(n:Int)) tok rfl rfl rfl rfl rfl (i64_in hn)) ?_))))))))))))))))))))))))
 . exact absurd hc2 (by simp;omega)
 refine Qe (rL (n:=n) tok rfl rfl rfl rfl rfl rfl rfl (by show 8*n<=_;omega) (by omega)) ?_;rintro _ _ ⟨b30,rfl,rfl⟩;refine Qp Sa ?_;refine AOL.ghost (GS.cells 0 rfl ((bI_zero n).trans (congrArg bI (show List.replicate n 0=Pw n 0 by simp [Pw])))) ?_;refine B7 (Qp Bx (Qp K7 ?_));refine Rt (E_copySl (k:=0) (m:=1) (cs':=bI (Pw n 1)) (H2:=_::_) tok rfl rfl rfl rfl rfl rfl rfl (by simp) (Et rfl) (Nat.min_eq_left (by show 1<=n;omega)) (by rw [hU,kL (by omega)];omega) (yZ h0) rfl) ?_;refine Qp Aq (Re (AW.block ?_));refine AW.Aad (fun (k:Nat)=>(⟨[(7,.val (.slice (some ⟨b30,0,none⟩) n n)),(8,.int .i64 (k:Int))],.box b30 3 (bI (Pw n k))::H,48⟩:St)) (fun k=>1<=k/\k<=n) (fun k=>n-k) (1) ?_ C2 ?_
 . exact ⟨Br _,h0⟩
 rintro k hR;refine B5 (Qp Ap (Qp Bx (Qp (P_len_val tok rfl rfl rfl) (Qp Cn (Bh (fun hc3=>?_) fun hc3=>?_)))))
 .
  have hlt:k<n:=by have:=Ey hc3;omega
  refine B2 (AW.block ?_);refine Mo ?_;refine Qn 0 rfl Ap (Qn 1 rfl Bx (Qn 2 rfl Ap ?_));refine Qn 3 rfl (eG (l:=k) (h:=n) (o':=k) tok rfl rfl rfl rfl rfl (⟨_,rfl⟩) (rfl) (by omega) (by omega) (by omega) (by omega) (by simp)) ?_;refine Qn 4 rfl Bx (Qn 5 rfl Ap ?_);refine Qn 6 rfl (eG (l:=0) (h:=k) (o':=0) tok rfl rfl rfl rfl rfl (rfl) (⟨_,rfl⟩) (by omega) (by omega) (by omega) (by omega) (rfl)) ?_;refine Oj 7 rfl (E_copyVal (k:=0) (m:=min k (n-k)) (cs':=bI (Pw n (k+min k (n-k)))) (H2:=_::_) tok rfl rfl rfl rfl rfl rfl rfl (bI_sc _) (by first | rfl | (simp only [Nat.sub_zero];done) | (simp only [Nat.sub_zero];rfl)) (by rw [hU,kL hR.2];omega) (by rw [hU,kL hR.2];omega) (repL_copy (by omega) (by omega)) rfl) ?_;refine Qn 8 rfl Gw (Qn 9 rfl Aq ?_);refine Ig ?_;refine J1 (Av ?_);refine ⟨k+min k (n-k),?_,?_,C2⟩
  . omega
  omega
 have hkn:k=n:=by have:=G3 hc3;omega
 refine AW.exit ?_;refine B1 (Ri (Aa (Qp Bx (Qp Sa (Rb ?_)))));refine ⟨.inr rfl,[.val _],Ze,_,S0,?_⟩;exact ⟨b30,rfl,congrArg (fun l=>HO.box b30 3 (bI l)::H) ((congrArg (Pw n) hkn).trans (repL_full n))⟩
abbrev rU (q:List Int×Bool):AV:=AV.tuple [.sl 1 (q.1.map cI),.bool q.2]
theorem rf_key (T:List e8Sc)(V:List Va)(s:Nx)(bp:Nat)(hrv:RvOK T V)(n:Ag)(hT:0<T.length):Bk Tryz.prog 97 bp 159 (bP T V s) (bP T V s) [.val (.pointer (some ⟨bp,0,none⟩)),.str n] (.tuple [.sl 1 ((Uy T V n).1.map cI),.bool (Uy T V n).2]):=by
 intro H;have htl:=hrv.tl;have hvl:=hrv.vl;refine Jg 47 Tryz.func97 rfl ?_;refine Aa (Qp (B8 (z:=1) rfl) (Qp Bc (B7 (Qp (Jh ([[Iq _]]) rfl) (Qp Bx (Qp (Ad rfl) (Qp Cw (Sw 0 (.sl _ _) rfl ?_))))))));refine Qp (E6 T.length rfl rfl (by simp)) ?_;refine Qe (Dq rfl (vR _ T.length hT hrv.tl)) ?_;rintro _ _ ⟨b15,rfl,rfl⟩;refine Qp Sa (Ax (B5 (Qp Bx (Qp (Ad rfl) (Qp Cw (Sw 1 (.sl _ _) rfl ?_))))));refine Qp (E6 V.length rfl rfl (by simp)) ?_;refine Qp Ap (Ax (AW.block ?_));refine AW.Aad (fun (q:Nat×List Int)=>(⟨[(0,.val (.pointer (some ⟨bp,0,none⟩))),(1,.str n),(6,.val (.slice (some ⟨b15,0,none⟩) T.length T.length)),(19,.sl 2 (V.map Tn)),(20,.int .i64 V.length),(21,.int .i64 (q.1:Int))],.box b15 3 (bI q.2) :: .box bp 159 (bP T V s)::H,47⟩:St)) (fun q=>q.1<=V.length/\q.2.length=T.length/\Uy T V n=Vj T n (V.drop q.1) q.2) (fun q=>V.length-q.1) ((0,jT T.length)) ?_ C2 ?_
 . exact ⟨A9 _,by simp [jT],rfl⟩
 rintro q hR;refine Aa (Qp Cn (Re (Hb (fun hc1=>?_) fun hc1=>?_)))
 .
  obtain ⟨a,ha⟩:=Cj hc1;have hlt:=Bz ha;have hm:=Aj ha;have hvt:=hrv.ty a hm;refine (dN hrv hm).elim fun sc hsc=>?_
  have hfl:=hrv.fl sc (Aj hsc);have hb:a.type.toNat<q.2.length:=by have:=hR.2.1;omega
  refine B2 (AW.seq (AW.block (Aa ?_)));refine Qp (Eh Iv rfl rfl (by omega) (Cp ha)) ?_;refine Qp (Cm Iv) (D5 gkx fun b8=>?_);refine By 0 Iv (_::_::_::_) ?_;refine Kc 8 0 rfl ?_;refine Re (Rm 1 rfl (Qn 0 rfl Bx (Qn 1 rfl (Qf [Iq _]) (Qn 2 rfl B6 (Qn 3 rfl Bx (Qn 4 rfl (Ad rfl) (Qn 5 rfl Cw (Qn 6 rfl (Lw (.sl _ _) rfl) ?_))))))));refine Qn 7 rfl (Qf [Iq _]) (Qn 8 rfl B6 (Qn 9 rfl (Eh Nd rfl rfl (hvt.1) (Cp hsc)) (Qn 10 rfl (Cm Nd) (Qn 11 rfl H7 (Qn 12 rfl (Qc rfl (Nr sc hfl n)) (Qn 13 rfl (Fm (o':=a.type.toNat) tok rfl rfl rfl rfl rfl (hvt.1) (hvt.2) (off0 _)) ?_))))));refine fY 14 rfl (Tq (k:=0) (v:=Iq _) (cs':=bI (q.2.set a.type.toNat (Js sc n))) (H2:=_::_::_) tok rfl rfl rfl rfl rfl rfl (bI_fits hb) (xG hb) rfl) ?_;rintro _ _ ⟨rfl,rfl⟩;refine Av (Aa (Qp Bx (Qp (Qf [Iq _]) (Qp B6 (Qp (Fm (o':=a.type.toNat) tok rfl rfl rfl rfl rfl (hvt.1) (hvt.2) (off0 _)) (AOL.Aag (Cr (k:=0) (c:=.int .i64 (Js sc n)) tok rfl rfl rfl (mA hb)) rfl rfl (Qp Cn (Bh (fun hc2=>Aa (Qp (B8 (z:=1) rfl) (Qp Bc (Ra (A7 (Dz (A7 ?_))))))) fun hc2=>Rf (AW.region (Qp Gw (Qp Ap (Ax ?_))))))))))))
  .
   refine ⟨.inr rfl,[.sl _ _,.bool _],Zf,_,S1,?_⟩;exact ⟨Ye rU (hR.2.2.trans (key_hit ha hsc hc2)),rfl⟩
  refine ⟨(q.1+1,q.2.set a.type.toNat (Js sc n)),?_,?_,C2⟩
  . exact ⟨hlt,by simp only [List.length_set];exact hR.2.1,hR.2.2.trans (key_on ha hsc hc2)⟩
  simp only;omega
 have hde:=Fw hc1;have hall:=hR.2.2;rw [hde] at hall;refine AW.exit ?_;refine B1 (Ri (Aa ?_));refine AOL.ghost (GS.freezeSl (t:=6) (z:=1) (es:=q.2.map cI) 0 rfl rfl (bI_flat _) (by rw [Bt];exact hR.2.1.symm) (Br _) (by unfold maxLen;omega) (uN (fun _=>rfl) _) slot_is) ?_;refine Qp K7 (Qp lK (Qp Bc (Rb ?_)));refine ⟨.inr rfl,[.sl _ _,.bool _],Zf,_,S0,?_⟩;exact ⟨Ye rU ((hall.trans (by rw [Vj]):Uy T V n=(q.2,true))),rfl⟩
theorem e8c52 (op:Int):An Tryz.prog 117 [.int .i64 op] (.tuple [.bool (Kp op).1,.bool (Kp op).2]):=by
 refine Fb 11 Tryz.func117 rfl fun H=>?_
 refine Aa (Qp Bc (Qp Bc (Ax (B5 (Qp Ap (Ax (AW.block (AW.seq ?_))))))));refine Aa (Qp Bl (Qp Bc (Bh (fun hc1=>B2 (Hb (fun hc2=>Aa (Qp Bc (Qp Bc (Ra (O0 (.bool _) (.bool _) ?_))))) fun hc2=>B5 (Qp Bl (Qp Bc (Bh (fun hc3=>B2 (Hb (fun hc4=>Aa (Qp Bc (Qp Bc (Ra (O0 (.bool _) (.bool _) ?_))))) fun hc4=>Rf (Aa (Qp Bc (Qp Bc (Rb (O0 (.bool _) (.bool _) ?_))))))) fun hc3=>?_))))) fun hc1=>?_)))
 . simp_all [Ah,Kp]
 . simp_all [Ah,Kp]
 . simp_all [Ah,Kp]
 .
  refine AW.region (Qp Bl (Qp Bc (Bh (fun hc5=>Aa (Qp Bc (Qp Bc (Ra (O0 (.bool _) (.bool _) ?_))))) fun hc5=>Rf (Aa (Qp Bc (Qp Bc (Rb (O0 (.bool _) (.bool _) ?_))))))))
  . simp_all [Ah,Kp]
  simp_all [Ah,Kp]
 refine AW.region (Qp Bl (Qp Bc (Bh (fun hc6=>Aa (Qp Bc (Qp Bc (Ra (O0 (.bool _) (.bool _) ?_))))) fun hc6=>B5 (Qp Bl (Qp Bc (Bh (fun hc7=>B2 (Hb (fun hc8=>Aa (Qp Bc (Qp Bc (Ra (O0 (.bool _) (.bool _) ?_))))) fun hc8=>Rf (Aa (Qp Bc (Qp Bc (Rb (O0 (.bool _) (.bool _) ?_))))))) fun hc7=>?_))))))
 . simp_all [Ah,Kp]
 . simp_all [Ah,Kp]
 . simp_all [Ah,Kp]
 refine AW.region (Qp Bl (Qp Bc (Bh (fun hc9=>Aa (Qp Bc (Qp Bc (Ra (O0 (.bool _) (.bool _) ?_))))) fun hc9=>Rf (Aa (Qp Bc (Qp Bc (Rb (O0 (.bool _) (.bool _) ?_))))))))
 . simp_all [Ah,Kp]
 simp_all [Ah,Kp]
theorem c81 (op:Int):An Tryz.prog 116 [.int .i64 op] (.tuple [.int .i64 (Ts op),.bool (decide (0<=op/\op<=12))]):=by
 refine Fb 17 Tryz.func116 rfl fun H=>?_
 refine Aa (Qp Aq (Qp Bc (Re (AW.block (Aa (Qp Ap (Qp Cn (Qp Cc (Qg [] Qw Ap (Qg [(8,_)] Qw Gx (Qp E5 (Qp Bc (Bh (fun hc1=>Aa (Qp Aq (Qp Bc (Ra (O0 (Iq _) (.bool _) ?_))))) fun hc1=>?_)))))))))))))
 .
  simp only [G1,Eb,Ck,It,beq_iff_eq,Hm] at *;simp only [Ah,Ts,AV.tuple.injEq,List.cons.injEq,AV.int.injEq,AV.bool.injEq,true_and,and_true];refine ⟨?_,?_⟩
  .
   repeat' split
   all_goals omega
  simp <;> omega
 refine Aa (Qp Ap (Qp Cn (Qp Bc (Bh (fun hc2=>Aa (Qp Aq (Qp Bc (Ra (O0 (Iq _) (.bool _) ?_))))) fun hc2=>Aa (Qp Ap (Qp Bl (Qp Bc (Bh (fun hc3=>Aa (Qp Aq (Qp Bc (Ra (O0 (Iq _) (.bool _) ?_))))) fun hc3=>Rf (Aa (Qp Aq (Qp Bc (Rb (O0 (Iq _) (.bool _) ?_)))))))))))))
 .
  simp only [G1,Eb,Ck,It,beq_iff_eq,Hm] at *;simp only [Ah,Ts,AV.tuple.injEq,List.cons.injEq,AV.int.injEq,AV.bool.injEq,true_and,and_true];refine ⟨?_,?_⟩
  .
   repeat' split
   all_goals omega
  simp <;> omega
 .
  simp only [G1,Eb,Ck,It,beq_iff_eq,Hm] at *;simp only [Ah,Ts,AV.tuple.injEq,List.cons.injEq,AV.int.injEq,AV.bool.injEq,true_and,and_true];refine ⟨?_,?_⟩
  .
   repeat' split
   all_goals omega
  simp <;> omega
 simp only [G1,Eb,Ck,It,beq_iff_eq,Hm] at *;simp only [Ah,Ts,AV.tuple.injEq,List.cons.injEq,AV.int.injEq,AV.bool.injEq,true_and,and_true];refine ⟨?_,?_⟩
 .
  repeat' split
  all_goals omega
 simp <;> omega
theorem c107 (v:Vl):An Tryz.prog 255 [.agg (cV v)] (.int .i64 (Uk v)):=by
 refine Fb 36 Tryz.func255 rfl fun H=>?_
 refine Aa (Qp (Hu Yc) (Qp Aq (Re (AW.block (Aa (Qp wW (Qp B6 (Qp Bl ?_))))))));refine Qp Cc (Qg [] Qw Qf6 (Qg [(8,_)] Qw B6 (Qg [(9,_)] Qw Cn (Qg [(10,_)] Qw Cc (Qg [] Qw Qf6 (Qg [(12,_)] Qw B6 (Qg [(13,_)] Qw Gx (Qg [(11,_),(14,_)] Qw E5 (Qp Ju ?_)))))))));refine Qp Bc (Bh (fun hc1=>Aa (Qp Aq (Ra (Qr (Iq _) ?_)))) fun hc1=>Aa (Qp wW (Qp B6 (Qp Bl (Qp Cc (Qg [] Qw Qf6 (Qg [(22,_)] Qw B6 (Qg [(23,_)] Qw Cb (Qp Ju (Qp Cc ?_))))))))))
 .
  try simp only [Lr,Dg] at *
  (simp only [Ah,Uk];rw [if_pos hc1];done)
 refine Qg [] Qw Qf6 (Qg [(27,_)] Qw B6 (Qg [(28,_)] Qw Cb (Qp Ju (Qp Bc (Bh (fun hc2=>Aa (Qp Aq (Ra (Qr (Iq _) ?_)))) fun hc2=>?_)))))
 .
  try simp only [Lr,Dg] at *
  (simp only [Ah,Uk];rw [iN hc1];rw [if_pos hc2];done)
 refine Aa (Qp Qf7 (Qp Gr (Qp (Du tok rfl rfl rfl rfl) (Qp Gx (Qp Bc (Bh (fun hc3=>Aa (Qp Aq (Ra (Qr (Iq _) ?_)))) fun hc3=>Rf (Aa (Qp Aq (Rb (Qr (Iq _) ?_))))))))))
 .
  try simp only [Lr,Dg] at *
  (simp only [Ah,Uk];rw [iN hc1];rw [iN hc2];rw [if_pos hc3];done)
 try simp only [Lr,Dg] at *
 (simp only [Ah,Uk];rw [iN hc1];rw [iN hc2];rw [iN hc3];done)
theorem c94 (v:Vl):An Tryz.prog 189 [.agg (cV v)] (.int .i64 (F5 v)):=by
  refine Fb 18 Tryz.func189 rfl fun H=>?_
  refine AW.seq (AW.region (Qp (Hu Yc) (Qp Aq (AOL.nil (Av (AW.seq (AW.seq (AW.region (Qp wW (Qp B6 (AOL.nil (Av (AW.block (AW.seq (AW.seq (AW.region (Qp Bl (Qp Bc (AOL.nil (Av (Hb (fun hc1=>?_) fun hc1=>?_)))))))))))))))))))))
  . skip
    refine B2 (Hb (fun hc2=>?_) fun hc2=>?_)
    . skip
      refine AW.seq (AW.region (Qp Qf7 (Qp Gr ?_)));refine Qp (Fh rfl rfl) ?_;refine AOL.nil (Av (Hb (fun hc3=>?_) fun hc3=>?_))
      . skip
        refine AW.seq (AW.region (Qp Aq (AOL.nil (Av (AW.ret (Dz (A7 ?_)))))));refine Qr (Iq _) ?_
        try simp only [Lr,Dg] at *
        try simp only [A4,Bd] at *
        simp only [Ah,F5, *,Ak,↓reduceIte,Bool.true_or,M7,Kb,Sp,Gq,Dg,Oc,Qx,Bu,Bm]
      . skip
        refine Rf (AW.seq (AW.region (Qp (Cm Yc) ?_)));refine Qp (Qc rfl (c107 v)) ?_;refine Qp Aq (AOL.nil (Av (AW.ret ?_)));refine Qr (Iq _) ?_
        try simp only [Lr,Dg] at *
        try simp only [A4,Bd] at *
        simp only [Ah,F5, *,Ak,↓reduceIte,Bool.true_or,M7,Kb,Sp,Gq,Dg,Oc,Qx,Bu,Bm]
    . skip
      refine AW.seq (AW.region (Qp Bl (Qp Bc (AOL.nil (Av (Hb (fun hc4=>?_) fun hc4=>?_))))))
      . skip
        refine AW.seq (AW.region (Qp Qf6 (Qp B6 (Qp Cb (AOL.nil (Av (Hb (fun hc5=>?_) fun hc5=>?_)))))))
        . skip
          refine AW.seq (AW.region (Qp Aq (AOL.nil (Av (AW.ret (Dz (A7 ?_)))))));refine Qr (Iq _) ?_
          try simp only [Lr,Dg] at *
          (try simp only [A4,Bd] at *
           (simp_all [Ah,F5];done))
        . skip
          refine Rf (AW.seq (AW.region (Qp (Cm Yc) ?_)));refine Qp (Qc rfl (c107 v)) ?_;refine Qp Aq (AOL.nil (Av (AW.ret ?_)));refine Qr (Iq _) ?_
          try simp only [Lr,Dg] at *
          (try simp only [A4,Bd] at *
           (simp_all [Ah,F5];done))
      . skip
        refine AW.seq (AW.region (Qp Aq (AOL.nil (Av (AW.ret (Dz (A7 ?_)))))));refine Qr (Iq _) ?_
        try simp only [Lr,Dg] at *
        (try simp only [A4,Bd] at *
         (simp_all [Ah,F5];done))
  . skip
    refine AW.region (Qp Bl (Qp Bc (AOL.nil (Av (Hb (fun hc6=>?_) fun hc6=>?_)))))
    . skip
      refine AW.seq (AW.region (Qp Qf7 (Qp Gr ?_)));refine Qp (Fh rfl rfl) ?_;refine AOL.nil (Av (Hb (fun hc7=>?_) fun hc7=>?_))
      . skip
        refine AW.seq (AW.region (Qp Aq (AOL.nil (Av (AW.ret (Dz (A7 ?_)))))));refine Qr (Iq _) ?_
        try simp only [Lr,Dg] at *
        try simp only [A4,Bd] at *
        simp only [Ah,F5, *,Ak,↓reduceIte,Bool.true_or,M7,Kb,Sp,Gq,Dg,Oc,Qx,Bu,Bm]
      . skip
        refine Rf (AW.seq (AW.region (Qp (Cm Yc) ?_)));refine Qp (Qc rfl (c107 v)) ?_;refine Qp Aq (AOL.nil (Av (AW.ret ?_)));refine Qr (Iq _) ?_
        try simp only [Lr,Dg] at *
        try simp only [A4,Bd] at *
        simp only [Ah,F5, *,Ak,↓reduceIte,Bool.true_or,M7,Kb,Sp,Gq,Dg,Oc,Qx,Bu,Bm]
    . skip
      refine AW.seq (AW.region (Qp Bl (Qp Bc (AOL.nil (Av (Hb (fun hc8=>?_) fun hc8=>?_))))))
      . skip
        refine AW.seq (AW.region (Qp Qf6 (Qp B6 (Qp Cb (AOL.nil (Av (Hb (fun hc9=>?_) fun hc9=>?_)))))))
        . skip
          refine AW.seq (AW.region (Qp Aq (AOL.nil (Av (AW.ret (Dz (A7 ?_)))))));refine Qr (Iq _) ?_
          try simp only [Lr,Dg] at *
          try simp only [A4,Bd] at *
          simp only [Ah,F5, *,Ak,↓reduceIte,Bool.true_or,M7,Kb,Sp,Gq,Dg,Oc,Qx,Bu,Bm]
        . skip
          refine Rf (AW.seq (AW.region (Qp (Cm Yc) ?_)));refine Qp (Qc rfl (c107 v)) ?_;refine Qp Aq (AOL.nil (Av (AW.ret ?_)));refine Qr (Iq _) ?_
          try simp only [Lr,Dg] at *
          try simp only [A4,Bd] at *
          simp only [Ah,F5, *,Ak,↓reduceIte,Bool.true_or,M7,Kb,Sp,Gq,Dg,Oc,Qx,Bu,Bm]
      . skip
        refine AW.seq (AW.region (Qp Aq (AOL.nil (Av (AW.ret (Dz (A7 ?_)))))));refine Qr (Iq _) ?_
        try simp only [Lr,Dg] at *
        try simp only [A4,Bd] at *
        simp only [Ah,F5, *,Ak,↓reduceIte,Bool.true_or,M7,Kb,Sp,Gq,Dg,Oc,Qx,Bu,Bm]
theorem c99 (k:Int)(v:Vl):An Tryz.prog 190 [.int .i64 k,.agg (cV v)] (.bool (oT k v)):=by
 refine Fb 16 Tryz.func190 rfl fun H=>?_
 refine Aa (Qp (Hu Yc) (Qp Bc (B7 (Qp wW (Qp B6 (Qp Bl (Qp Cc (Qg [] Qw Ap (Qg [(9,_)] Qw Bl (Qp E5 (Qp Cc (Qg [] Qw Ap (Qg [(13,_)] Qw Bl (Qp E5 (Qp Bc (Rb (Qr (.bool _) ?_)))))))))))))))))
 try simp only [Lr,Dg] at *
 (simp only [Ah,oT];done)
theorem c82 (e:Ex):An Tryz.prog 118 [.agg (cE e)] (.int .i64 (Tw e)):=by
 refine Fb 32 Tryz.func118 rfl fun H=>?_
 refine Aa (Qp Qbe (Qp Aq (Ax (B5 (Qp wW (Qp (Cm Yc) ?_))))));refine Qp (Qc rfl (c94 e.val)) (Qp Aq (B7 (Qp Ap (Qp Cb (Bh (fun hc1=>Aa (Qp Ap (Qp Aq (Rc (Qr (Iq _) ?_))))) fun hc1=>B2 (B5 (Qp fM (Qp B6 (Qp Bl (Qp Cc (Qg [] Qw Qf4 (Qg [(14,_)] Qw B6 (Qg [] Qw wW ?_)))))))))))))
 .
  try simp only [Lr,Dg] at *
  (simp only [Ah,Tw];rw [if_pos hc1];done)
 refine Qg [(16,_)] Qw (Cm Yc) (Qg [(15,_),(17,_)] Yw (Qc rfl (c99 e.kind e.val)) (Qg [(18,_)] Qw Ix (Qg [(19,_)] Qw Cc (Qg [] Qw Qf4 (Qg [(21,_)] Qw B6 (Qg [(22,_)] Qw Bl (Qg [(23,_)] Qw Cc (Qg [] Qw wW (Qg [(25,_)] Qw (Cm Yc) (Qg [] Qw (Fj Yc) ?_))))))))));refine Qg [(26,_),(27,_)] Yw (Lf tok rfl rfl rfl rfl rfl) (Qg [(24,_),(28,_)] Qw Ju (Qg [(20,_),(29,_)] Qw E5 (Qp Ju (Bh (fun hc2=>Aa (Qp Aq (Rc (Qr (Iq _) ?_)))) fun hc2=>B2 (Aa (Qp Aq (Rb (Qr (Iq _) ?_))))))))
 .
  try simp only [Lr,Dg] at *
  (simp only [Ah,Tw];rw [iN hc1];rw [if_pos hc2];done)
 try simp only [Lr,Dg] at *
 (simp only [Ah,Tw];rw [iN hc1];rw [iN hc2];done)
theorem c47 (e:Ex):An Tryz.prog 68 [.agg (cE e)] (.int .i64 (In e)):=by
 refine Fb 114 Tryz.func68 rfl fun H=>?_
 refine Aa (Qp Qbe (Qp Aq (B7 (Qp fM (Qp B6 (Qp (Qc rfl (c81 e.op)) (Qp Oz (Qp Lv (Qp lL (Qp Aq (Qp Bc (Ax (B5 (Qp Cc (Qp Ix (Bh (fun hc1=>Aa (Qp Aq (Rc (Qr (Iq _) ?_)))) fun hc1=>B2 (B5 (Qp oE (Qp Dd ?_)))))))))))))))))))
 .
  try simp only [Lr,Dg] at *
  (simp only [Ah,In,Lm];rw [if_pos hc1];done)
 refine Qp (E6 e.args.length rfl rfl (by simp)) ?_;refine Qp Ap (Qp Cb (Bh (fun hc2=>Aa (Qp Aq (Rc (Qr (Iq _) ?_)))) fun hc2=>B2 (Aa (Qp fM (Qp B6 (Qp (Qc rfl (e8c52 e.op)) (Qp Oz (Qp lL (Qp lL (Qp Bc (Qp Bc (Ax (B5 (Qp Cc (Qp Cc ?_)))))))))))))))
 .
  try simp only [Lr,Dg] at *
  (simp only [Ah,In,Lm];rw [iN hc1];rw [if_pos hc2];done)
 refine Qg [] Qw wV (Qg [(31,_)] Qw B6 (Qg [(32,_)] Qw Cn (Qg [(33,_)] Qw Cc (Qg [] Qw wV (Qg [(35,_)] Qw B6 (Qg [(36,_)] Qw Kv (Qg [(34,_),(37,_)] Qw E5 (Qp Ju (Qp Cc ?_)))))))));refine Qg [] Qw Cc (Qg [(41,_)] Qw Cc (Qg [] Qw Qf3 (Qg [(43,_)] Qw B6 (Qg [(44,_)] Qw Cn (Qg [(45,_)] Qw Cc (Qg [] Qw Qf3 (Qg [(47,_)] Qw B6 (Qg [(48,_)] Qw Kv (Qg [(46,_),(49,_)] Qw E5 ?_)))))))));refine Qg [(42,_),(50,_)] Qw Ju (Qp E5 (Bh (fun hc3=>Aa (Qp Aq (Rc (Qr (Iq _) ?_)))) fun hc3=>B2 (Aa (Qp fM (Qp B6 (Qp Bl (Qp Bc (Ax (B5 (Qp Cc ?_))))))))))
 .
  try simp only [Lr,Dg] at *
  (simp only [Ah,In,Lm];rw [iN hc1];rw [iN hc2];rw [if_pos hc3];done)
 refine Qp Cc (Qg [] Qw Qf4 (Qg [(58,_)] Qw B6 (Qg [(59,_)] Qw Cn (Qg [(60,_)] Qw Cc (Qg [] Qw Qf4 (Qg [(62,_)] Qw B6 (Qg [(63,_)] Qw Gx (Qg [(61,_),(64,_)] Qw E5 (Qp Ju ?_)))))))));refine Bh (fun hc4=>Aa (Qp Aq (Rc (Qr (Iq _) ?_)))) fun hc4=>B2 (Aa (Qp Cc (Qp Cc (Qg [] Qw fM (Qg [(69,_)] Qw B6 (Qg [(70,_)] Qw Bl (Qp E5 (Qp Bc (Ax ?_)))))))))
 .
  try simp only [Lr,Dg] at *
  (simp only [Ah,In,Lm];rw [iN hc1];rw [iN hc2];rw [iN hc3];rw [if_pos hc4];done)
 refine B5 (Qp Cc (Bh (fun hc5=>?_) fun hc5=>B2 (B5 (Qp Cc (Qp Ix (Qp Cc (Qg [] Qw wV (Qg [(82,_)] Qw B6 (Qg [(83,_)] Qw Cb (Qp Ju ?_))))))))))
 .
  refine Aa (Qp Rl (Qp (Qc rfl (c82 e)) (Qp Aq (B7 (Qp Ap (Qp Cb (Bh (fun hc6=>Aa (Qp Ap (Qp Aq (Rc (Qr (Iq _) ?_))))) fun hc6=>B2 (B5 (Qp Cc (Qp Ix (Qp Cc (Qg [] Qw wV (Qg [(82,_)] Qw B6 (Qg [(83,_)] Qw Cb (Qp Ju ?_)))))))))))))))
  .
   try simp only [Lr,Dg] at *
   (simp only [Ah,In,Lm];rw [iN hc1];rw [iN hc2];rw [iN hc3];rw [iN hc4];rw [if_pos hc5];rw [if_pos hc6];done)
  refine Qp Cc (Qg [] Qw Cc (Qg [(87,_)] Qw Ix (Qg [(88,_)] Qw Cc (Qg [] Qw Qf3 (Qg [(90,_)] Qw B6 (Qg [(91,_)] Qw Cb (Qg [(89,_),(92,_)] Qw Ju (Qp E5 (Qp Cc ?_)))))))));refine Qg [] Qw Cc (Qg [(96,_)] Qw Ix (Qg [(97,_)] Qw Cc (Qg [] Qw Qf4 (Qg [(99,_)] Qw B6 (Qg [(100,_)] Qw Cb (Qg [(98,_),(101,_)] Qw Ju (Qp E5 (Qp Cc (Qg [] Qw Cc ?_)))))))));refine Qg [(105,_)] Qw Ix (Qg [(106,_)] Qw Cc (Qg [] Qw wW (Qg [(108,_)] Qw (Cm Yc) (Qg [] Qw (Fj Yc) (Qg [(109,_),(110,_)] Yw (Lf tok rfl rfl rfl rfl rfl) (Qg [(107,_),(111,_)] Qw Ju (Qp E5 (Bh (fun hc7=>Aa (Qp Aq (Rc (Qr (Iq _) ?_)))) fun hc7=>B2 (Aa (Qp Aq (Rb (Qr (Iq _) ?_))))))))))))
  .
   try simp only [Lr,Dg] at *
   (simp only [Ah,In,Lm];rw [iN hc1];rw [iN hc2];rw [iN hc3];rw [iN hc4];rw [if_pos hc5];rw [iN hc6];rw [if_pos hc7];done)
  try simp only [Lr,Dg] at *
  (simp only [Ah,In,Lm];rw [iN hc1];rw [iN hc2];rw [iN hc3];rw [iN hc4];rw [if_pos hc5];rw [iN hc6];rw [iN hc7];done)
 refine Qp Cc (Qg [] Qw Cc (Qg [(87,_)] Qw Ix (Qg [(88,_)] Qw Cc (Qg [] Qw Qf3 (Qg [(90,_)] Qw B6 (Qg [(91,_)] Qw Cb (Qg [(89,_),(92,_)] Qw Ju (Qp E5 (Qp Cc ?_)))))))));refine Qg [] Qw Cc (Qg [(96,_)] Qw Ix (Qg [(97,_)] Qw Cc (Qg [] Qw Qf4 (Qg [(99,_)] Qw B6 (Qg [(100,_)] Qw Cb (Qg [(98,_),(101,_)] Qw Ju (Qp E5 (Qp Cc (Qg [] Qw Cc ?_)))))))));refine Qg [(105,_)] Qw Ix (Qg [(106,_)] Qw Cc (Qg [] Qw wW (Qg [(108,_)] Qw (Cm Yc) (Qg [] Qw (Fj Yc) (Qg [(109,_),(110,_)] Yw (Lf tok rfl rfl rfl rfl rfl) (Qg [(107,_),(111,_)] Qw Ju (Qp E5 (Bh (fun hc8=>Aa (Qp Aq (Rc (Qr (Iq _) ?_)))) fun hc8=>B2 (Aa (Qp Aq (Rb (Qr (Iq _) ?_))))))))))))
 .
  try simp only [Lr,Dg] at *
  (simp only [Ah,In,Lm];rw [iN hc1];rw [iN hc2];rw [iN hc3];rw [iN hc4];rw [iN hc5];rw [if_pos hc8];done)
 try simp only [Lr,Dg] at *
 (simp only [Ah,In,Lm];rw [iN hc1];rw [iN hc2];rw [iN hc3];rw [iN hc4];rw [iN hc5];rw [iN hc8];done)
theorem e8c23 (e:Ex)(hs:B3 e<=1048576):An Tryz.prog 66 [.agg (cE e)] (.tuple [.int .i64 (B3 e),.int .i64 (E9 e)]):=by
 revert hs
 induction e using Ex.ind
 rename_i e ih;intro hs;refine Fb 32 Tryz.func66 rfl fun H=>?_
 refine Aa (Qp Qbe (Qp Aq (Qp Aq (B7 (Qp Aq (Qp Aq (Ax (B5 (Qp oE (Qp Dd ?_))))))))));refine Qp (E6 e.args.length rfl rfl (by simp)) ?_;refine Qp Ap (Ax (AW.block (AW.sllen 11 rfl fun hlen=>?_)));simp only [Bt,maxLen] at hlen;refine AW.Aad (fun (p:Nat×Nat×Nat)=>(⟨[(4,.int .i64 (p.2.1:Int)),(5,.int .i64 (p.2.2:Int)),(11,.sl 8 (e.args.map H8)),(12,.int .i64 e.args.length),(13,.int .i64 (p.1:Int))],H,32⟩:St)) (fun p=>p.1<=e.args.length/\B3 e=p.2.1+((e.args.drop p.1).map B3).sum/\E9 e=max p.2.2 (((e.args.drop p.1).map E9).foldr max 0)+1/\p.2.2<=1048576) (fun p=>e.args.length-p.1) ((0,1,0)) ?_ C2 ?_
 . exact ⟨A9 _,by simpa using Hi e,by simpa using bT e,A9 _⟩
 rintro p hR;refine Aa (Qp Cn (Re (Hb (fun hc1=>?_) fun hc1=>?_)))
 .
  obtain ⟨a,ha⟩:=Cj hc1;have hlt:=Bz ha;have hm:=Aj ha;have hsa:=K1 hm;have hda:=Na a;have h1:=wA p.2.1 ha;have h2:=Vg p.2.2 ha;refine B2 (AW.seq (AW.block (Aa ?_)));refine Qp (Eh Ko rfl rfl (by omega) (Rr ha)) ?_;refine Qp Rl (D5 ggz fun b7=>?_);refine By 0 Ko (_::_) ?_;refine Kc 7 0 rfl ?_;refine B7 (Qp Rl ?_);refine Qp (Qc rfl (ih a hm (by have:=K1 hm;omega))) ?_;refine Qp Oz (Qp Lv (Qp Lv (Qp Aq (Qp Aq (Ax (AW.region (Qp Ap (Qp Ap (Qp Gw (Qp Ap (Qp Ap (Qp (lV rfl rfl) (Qp Aq (Qp Aq (Rk (AW.region (Qp Gw (Qp Ap (Ax ?_)))))))))))))))))));refine ⟨(p.1+1,p.2.1+B3 a,max p.2.2 (E9 a)),?_,?_,GS.weaken ⟨rfl,congrArg (AV.int .i64) (by simp only;omega),rfl,rfl,rfl,trivial⟩ (.refl _)⟩
  . simp only;exact ⟨hlt,by omega,by omega,by omega⟩
  omega
 have hd:=Fw hc1;refine AW.exit ?_;refine B1 (Ri (Aa (Qp Ap (Qp Ap ?_))));refine Qp (P_add rfl rfl rfl (by have:=Na e;constructor <;> omega)) ?_;refine Qp Aq (Qp Aq (Rb (O0 (Iq _) (Iq _) ?_)));rw [hd] at hR;simp only [A5,List.sum_nil,List.foldr_nil] at hR;simp only [Ah,AV.tuple.injEq,List.cons.injEq,AV.int.injEq,true_and,and_true];omega
theorem c48 (L:Nat)(e:Ex)(hs:B3 e<=1048576):An Tryz.prog 121 [.agg (cE e),.int .i64 (L:Int)] (.int .i64 (I4 L e)):=by
 revert hs
 induction e using Ex.ind
 rename_i e ih;intro hs;refine Fb 29 Tryz.func121 rfl fun H=>?_
 refine Aa (Qp Qbe (Qp Aq (B7 (Qp Aq (Ax (B5 (Qp Aq (Ax (AW.block ?_)))))))));refine AW.Aad (fun (p:Nat×Nat)=>(⟨[(1,.int .i64 (L:Int)),(2,.ptr (cE e)),(5,.int .i64 (p.2:Int)),(6,.int .i64 (p.1:Int))],H,29⟩:St)) (fun p=>p.1<=e.args.length/\I4 L e=Hx L (e.args.drop p.1) p.2/\p.2+((e.args.drop p.1).map B3).sum<=B3 e/\e.args.length<=1048576) (fun p=>e.args.length-p.1) ((0,1)) ?_ C2 ?_
 . exact ⟨A9 _,by simpa using mF L e,by simpa using Nat.le_of_eq (Hi e).symm,Xf e hs⟩
 rintro p hR;refine B5 (Qp Ap (Qp oE (Qp Dd ?_)));refine Qp (E6 e.args.length rfl rfl (by simp)) ?_;refine Qp Cn (Qp Cc (Qg [] Qw Ap (Qg [] Qw Ap (Qg [(13,_),(14,_)] Yw Ys (Qp Ju (Bh (fun hc1=>?_) fun hc1=>AW.exit ?_))))))
 .
  simp only [Cd] at hc1;obtain ⟨a,ha⟩:=Cj hc1.1;have hlt:=Bz ha;have hm:=Aj ha;have hsa:=K1 hm;have hle:p.2<=L:=by simpa using hc1.2
  have h1:=wA p.2 ha;have h2:=iD L a;have h3:=hR.2.1;rw [A2 ha,Hx,if_pos hle] at h3;refine B2 (AW.seq (AW.block (AW.region (Qp Ap (Qp oE (Qp Dd (Qp Ap ?_)))))));refine Qp (Eh Ko rfl rfl (by omega) (Rr ha)) ?_;refine Qp Rl (Qp Ap ?_);refine Qp (Qc rfl (ih a hm (by have:=K1 hm;omega))) ?_;refine Qp Gw (Qp Aq (Rk (AW.region (Qp Ap (Qp Gw (Qp Aq (Ax ?_)))))));refine ⟨(p.1+1,p.2+I4 L a),?_,?_,C2⟩
  . simp only;exact ⟨hlt,h3,by omega,hR.2.2.2⟩
  omega
 refine B1 (Ri (Aa (Qp Ap (Qp Aq (Rb ?_)))));refine Qr (Iq _) ?_;simp only [Ah,AV.int.injEq,true_and];rw [hR.2.1];simp only [Bool.and_eq_false_iff] at hc1;rcases hc1 with hc1 | hc1
 . rw [Fw hc1,Hx]
 rw [oO (by simpa using hc1)]
theorem c49 (e:Ex)(hs:B3 e<=1048576):An Tryz.prog 122 [.agg (cE e)] (.int .i64 (E9 e)):=by
 revert hs
 induction e using Ex.ind
 rename_i e ih;intro hs;refine Fb 22 Tryz.func122 rfl fun H=>?_
 refine Aa (Qp Qbe (Qp Aq (B7 (Qp Aq (Ax (B5 (Qp Aq (Ax (AW.block ?_)))))))));refine AW.Aad (fun (p:Nat×Nat)=>(⟨[(1,.ptr (cE e)),(3,.int .i64 (p.2:Int)),(4,.int .i64 (p.1:Int))],H,22⟩:St)) (fun p=>p.1<=e.args.length/\E9 e=max p.2 (((e.args.drop p.1).map E9).foldr max 0)+1/\p.2<=1048576/\e.args.length<=1048576) (fun p=>e.args.length-p.1) ((0,0)) ?_ C2 ?_
 . exact ⟨A9 _,by simpa using bT e,A9 _,Xf e hs⟩
 rintro p hR;refine B5 (Qp Ap (Qp oE (Qp Dd ?_)));refine Qp (E6 e.args.length rfl rfl (by simp)) ?_;refine Qp Cn (Bh (fun hc1=>?_) fun hc1=>?_)
 .
  obtain ⟨a,ha⟩:=Cj hc1;have hlt:=Bz ha;have hm:=Aj ha;have hsa:=K1 hm;have hda:=Na a;have h2:=Vg p.2 ha;refine B2 (AW.seq (AW.block (AW.region (Qp Ap (Qp oE (Qp Dd (Qp Ap ?_)))))));refine Qp (Eh Ko rfl rfl (by omega) (Rr ha)) ?_;refine Qp Rl ?_;refine Qp (Qc rfl (ih a hm (by have:=K1 hm;omega))) ?_;refine Qp (lV rfl rfl) (Qp Aq (Rk (AW.region (Qp Ap (Qp Gw (Qp Aq (Ax ?_)))))));refine ⟨(p.1+1,max p.2 (E9 a)),?_,?_,GS.weaken ⟨rfl,congrArg (AV.int .i64) (by simp only;omega),rfl,trivial⟩ (.refl _)⟩
  . simp only;exact ⟨hlt,by omega,by omega,hR.2.2.2⟩
  omega
 have hd:=Fw hc1;refine AW.exit ?_;refine B1 (Ri (Aa (Qp Ap ?_)));refine Qp (P_add rfl rfl rfl (by have:=Na e;constructor <;> omega)) ?_;refine Qp Aq (Rb (Qr (Iq _) ?_));rw [hd] at hR;simp only [A5,List.foldr_nil] at hR;simp only [Ah,AV.int.injEq,true_and];omega
theorem e8c46 (f:Nat)(hfn:Xq Tryz.prog f=true)(cap:List AV)(fs:Ex->Int)(Pr:Ex->Prop)(hp:∀a,Pr a->∀b∈a.args,Pr b)(hf:∀a,Pr a->An Tryz.prog f (.agg (cE a)::cap) (.int .i64 (fs a)))(e:Ex)(he:Pr e):An Tryz.prog 67 [.agg (cE e),.fn (.func f) [] cap] (.int .i64 (N9 fs e)):=by
 revert he
 induction e using Ex.ind
 rename_i e ih;intro he;refine Fb 29 Tryz.func67 rfl fun H=>?_
 refine Aa (Qp Qbe (Qp Aq (Ax (B5 (Qp (A1 (v:=.fn _ _ _) rfl) (Qp Rl (Qp (R0 hfn rfl rfl rfl (hf e he)) (Qp Aq (B7 (Qp Ap (Qp Cb (Bh (fun hc1=>Aa (Qp Ap (Qp Aq (Rc (Qr (Iq _) ?_))))) fun hc1=>?_))))))))))))
 .
  simp only [Ah,AV.int.injEq,true_and];rw [dQ,if_pos hc1]
 have hn:N9 fs e=Da (N9 fs) e.args:=by rw [dQ,if_neg (by simpa using hc1)]
 refine B2 (B5 (Qp oE (Qp Dd ?_)));refine Qp (E6 e.args.length rfl rfl (by simp)) ?_;refine Qp Ap (Ax (AW.block (AW.sllen 16 rfl fun hlen=>?_)));simp only [Bt,maxLen] at hlen;refine AW.Aad (fun (p:Nat)=>(⟨[(1,.fn (.func f) [] cap),(16,.sl 8 (e.args.map H8)),(17,.int .i64 e.args.length),(18,.int .i64 (p:Int))],H,29⟩:St)) (fun p=>p<=e.args.length/\N9 fs e=Da (N9 fs) (e.args.drop p)) (fun p=>e.args.length-p) (0) ?_ C2 ?_
 . exact ⟨A9 _,by simpa using hn⟩
 rintro p hR;refine Aa (Qp Cn (Re (Hb (fun hc2=>?_) fun hc2=>?_)))
 .
  obtain ⟨a,ha⟩:=Cj hc2;have hlt:=Bz ha;have hm:=Aj ha;refine B2 (AW.seq (AW.block (Aa ?_)));refine Qp (Eh Ko rfl rfl (by omega) (Rr ha)) ?_;refine Qp Rl (D5 ggz fun b7=>?_);refine By 0 Ko (_::_) ?_;refine Kc 7 0 rfl ?_;refine B7 (Qp Rl (Qp (A1 (v:=.fn _ _ _) rfl) (Qp (Qc rfl (ih a hm (hp e he a hm))) (Qp Aq (B7 (Qp Ap (Qp Cb (Bh (fun hc3=>Aa (Qp Ap (Qp Aq (Ra (A7 (Dz (A7 (Qr (Iq _) ?_)))))))) fun hc3=>Rf (AW.region (Qp Gw (Qp Ap (Ax ?_))))))))))))
  .
   simp only [Ah,AV.int.injEq,true_and];rw [hR.2,A2 ha,Da,if_pos hc3]
  refine ⟨p+1,?_,?_,C2⟩
  . exact ⟨hlt,by rw [hR.2,A2 ha,Da,if_neg (by simpa using hc3)]⟩
  omega
 have hd:=Fw hc2;refine AW.exit ?_;refine B1 (Ri (Aa (Qp Aq (Rb ?_))));refine Qr (Iq _) ?_;simp only [Ah,AV.int.injEq,true_and];rw [hR.2,hd];rfl
theorem e8c21 (e:Ex)(hs:B3 e<=1048576):An Tryz.prog 26 [.agg (cE e)] (.int .i64 (Gk e)):=by
 refine Fb 18 Tryz.func26 rfl fun H=>?_
 refine Aa (Qp Qbe (Qp Aq (B7 (Qp Rl (Qp (Qc rfl (e8c23 e hs)) (Qp Oz (Qp Lv (Qp Lv (Qp Aq (Qp Aq (Re (AW.block (Aa (Qp Ap ?_))))))))))))));refine Qp Gx (Qp Bc (Bh (fun hc1=>Aa (Qp Aq (Ra (Qr (Iq _) ?_)))) fun hc1=>Aa (Qp Ap (Qp Gx (Qp Bc (Bh (fun hc2=>Aa (Qp Aq (Ra (Qr (Iq _) ?_)))) fun hc2=>Rf (Aa (Qp Rl ?_))))))))
 .
  try simp only [Lr,Dg] at *
  (simp only [Ah,Gk];rw [if_pos hc1];done)
 .
  try simp only [Lr,Dg] at *
  (simp only [Ah,Gk];rw [iN hc1];rw [if_pos hc2];done)
 refine Qp (Qc rfl (e8c46 68 (by kernel_rfl) [] In (fun _=>True) (fun _ _ _ _=>trivial) (fun a _=>c47 a) e trivial)) ?_;refine Qp Aq (Rb (Qr (Iq _) ?_))
 try simp only [Lr,Dg] at *
 (simp only [Ah,Gk];rw [iN hc1];rw [iN hc2];done)
theorem c34 (e:Ex)(hs:B3 e<=1048576):An Tryz.prog 71 [.agg (cE e)] (.bool (decide (B3 e<=200/\E9 e<=100))):=by
 refine Fb 11 Tryz.func71 rfl fun H=>?_
 refine Aa (Qp Qbe (Qp Bc (B7 (Qp Rl (Qp (Qc rfl (c48 200 e hs)) (Qp Ys (Qp Cc (Qg [] Qw Rl (Qg [(7,_)] Qw (Qc rfl (c49 e hs)) (Qg [(8,_)] Qw Ys (Qp Ju (Qp Bc (Rb (Qr (.bool _) ?_))))))))))))));have:=count_gt 200 e;show AV.bool _=AV.bool _
 congr 1
 rw [Bool.eq_iff_iff];simp;omega
theorem eX {a b:Ex}(h:Pj a b=false):a.args.length=b.args.length:=by
 simp [Pj] at h;omega
theorem e8c20 (a b:Ex)(hs:B3 a<=1048576):An Tryz.prog 42 [.agg (cE a),.agg (cE b)] (.bool (Ge a b)):=by
 revert b hs
 induction a using Ex.ind
 rename_i a ih;intro b hs;have hal:=Xf a hs;refine Fb 67 Tryz.func42 rfl fun H=>?_
 refine Aa (Qp Qbe (Qp Qbe (Qp Bc (Ax (B5 (Qp fM (Qp B6 (Qp fM (Qp B6 (Qp Cb (Qp Cc (Qg [] Qw wV (Qg [(12,_)] Qw B6 (Qg [] Qw wV (Qg [(14,_)] Qw B6 ?_)))))))))))))));refine Qg [(13,_),(15,_)] Yw Cb (Qp E5 (Qp Cc (Qg [] Qw Qf3 (Qg [(19,_)] Qw B6 (Qg [] Qw Qf3 (Qg [(21,_)] Qw B6 (Qg [(20,_),(22,_)] Yw Cb (Qp E5 (Qp Cc (Qg [] Qw Qf4 (Qg [(26,_)] Qw B6 (Qg [] Qw Qf4 (Qg [(28,_)] Qw B6 ?_)))))))))))));refine Qg [(27,_),(29,_)] Yw Cb (Qp E5 (Qp Cc (Qg [] Qw wW (Qg [(33,_)] Qw (Cm Yc) (Qg [] Qw wW (Qg [(35,_)] Qw (Cm Yc) (Qg [(34,_),(36,_)] Yw (Lf tok rfl rfl rfl rfl rfl) (Qp E5 (Qp Cc (Qg [] Qw oE (Qg [(40,_)] Qw Dd ?_)))))))))));refine Yh [(41,_)] Qw (fun hG=>E6 a.args.length rfl rfl (by simp)) ?_;refine Qg [] Qw oE (Qg [(43,_)] Qw Dd ?_);refine Yh [(44,_)] Qw (fun hG=>E6 b.args.length rfl rfl (by simp)) ?_;refine Qg [(42,_),(45,_)] Yw Cb (Qp E5 (Bh (fun hc1=>?_) fun hc1=>?_))
 .
  have hh:Pj a b=true:=by simpa [Pj] using hc1
  refine Aa (Qp Bc (Rc (Qr (.bool _) ?_)));rw [Py,if_pos hh];rfl
 have hh:Pj a b=false:=by simpa [Pj] using hc1
 have hlen:=eX hh;refine B2 (B5 (Qp Aq (Ax (AW.block ?_))));refine AW.Aad (fun (p:Nat)=>(⟨[(2,.ptr (cE a)),(3,.ptr (cE b)),(5,.int .i64 (p:Int))],H,67⟩:St)) (fun p=>p<=a.args.length/\Ux a.args b.args=Ux (a.args.drop p) (b.args.drop p)) (fun p=>a.args.length-p) (0) ?_ C2 ?_
 . exact ⟨A9 _,rfl⟩
 rintro p hR;refine B5 (Qp Ap (Qp oE (Qp Dd ?_)));refine Qp (E6 a.args.length rfl rfl (by simp)) ?_;refine Qp Cn (Bh (fun hc2=>?_) fun hc2=>?_)
 .
  obtain ⟨x,hx⟩:=Cj hc2;have hlt:=Bz hx;have hm:=Aj hx;obtain ⟨y,hy⟩:∃y,b.args[p]? = some y:=⟨_,List.getElem?_eq_getElem (by omega)⟩;refine B2 (AW.seq (AW.block (AW.seq ?_)));refine Mo ?_;refine Qn 0 rfl oE (Qn 1 rfl Dd (Qn 2 rfl Ap ?_));refine Qn 3 rfl (Eh Ko rfl rfl (by omega) (Rr hx)) ?_;refine Qn 4 rfl Rl (Qn 5 rfl oE (Qn 6 rfl Dd (Qn 7 rfl Ap ?_)));refine Qn 8 rfl (Eh Ko rfl rfl (by omega) (Rr hy)) ?_;refine Qn 9 rfl Rl ?_;refine Qn 10 rfl (Qc rfl (ih x hm y (by have:=K1 hm;omega))) ?_;refine Qn 11 rfl Ix ?_;refine Ig ?_;refine Av (Hb (fun hc3=>Aa (Qp Bc (Ra (A7 (Dz (A7 (Qr (.bool _) ?_))))))) fun hc3=>Rf (AW.region (Qp Ap (Qp Gw (Qp Aq (Ax ?_))))))
  . rw [Py,if_neg (by simp [hh]),hR.2,A2 hx,A2 hy];show _=AV.bool (if (!Ge x y)=true then false else _);rw [if_pos hc3];rfl
  refine ⟨p+1,?_,?_,C2⟩
  . exact ⟨hlt,by rw [hR.2,A2 hx,A2 hy,Ux];simp [hc3]⟩
  omega
 have hd:=Fw hc2;refine AW.exit ?_;refine B1 (Ri (Aa (Qp Bc (Rb ?_))));refine Qr (.bool _) ?_;rw [Py,if_neg (by simp [hh]),hR.2,hd];rfl
end Go.Proofs.YtckhoadldibflaaGreatDoor
