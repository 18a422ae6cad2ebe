/-
  Several texts in one: W13h, W13i, R11w, R12w. No condition.
-/
import Derived.Test.YtckhoadldibflaaGreatDoorK01
import Derived.Test.YtckhoadldibflaaGreatDoorK14
import Derived.KernelRfl
import Derived.Test.YtckhoadldibflaaGreatDoorK08
import Derived.Test.YtckhoadldibflaaGreatDoorK13
import Derived.Test.YtckhoadldibflaaGreatDoorK12
set_option linter.unusedVariables false
set_option linter.unusedSimpArgs false
namespace Go.Proofs.YtckhoadldibflaaGreatDoor
open Go Go.Aw
set_option maxHeartbeats 3200000
set_option maxRecDepth 20000

theorem I6 {t:Syn}{p:Pl}{e:Int}(h:Wh p t=e)(he:e≠0):Ba t p=e:=by
 rw [Vd,h,if_pos (by simpa using he)]
theorem Zj {t:Syn}{p:Pl}(h:Wh p t=0):Ba t p=Lc t 0 (t.kids.drop 0):=by
 rw [Vd,h,if_neg (by decide),Sj]
theorem O9 {t x:Syn}{k:Nat}(h:t.kids[k]? = some x):Lc t k (t.kids.drop k)=if (Ba x (Eh t k) != 0) then Ba x (Eh t k) else Lc t (k+1) (t.kids.drop (k+1)):=by
 obtain ⟨h1,rfl⟩:=List.getElem?_eq_some_iff.1 h;rw [X8 h1,Lc]
theorem Xt {t x:Syn}{k:Nat}(h:t.kids[k]? = some x):Iz t.kind (t.kids.drop k)=max (Gf x+(if Gc t.kind x.kind then 1 else 0)) (Iz t.kind (t.kids.drop (k+1))):=by
 obtain ⟨h1,rfl⟩:=List.getElem?_eq_some_iff.1 h;rw [X8 h1,Iz]
theorem bT {t:Syn}(h:G0 t=true):Gf t≤400:=by
 have h1:=U5 t;have h2:=(Ya t h).2;omega
theorem cK {t:Syn}(h:Es t):Gf t≤2000000:=by
 have h1:=U5 t;have h2:=He h;omega

theorem w_check (t:Syn)(p:Pl)(hfew:Es t):An Tryz.prog 147 [.agg (cSyn t),gY p] (.int .i64 (Ba t p)):=by
 revert p hfew
 induction t using Syn.ind
 rename_i t ih;intro p hfew;have hkl:=E3 hfew;have htx:=iM hfew;obtain ⟨f,first,cap,hv,hfn,hP⟩:=pl_fn p;rw [hv];refine An.body (n:=45) tok Tryz.func147 rfl rfl rfl fun H=>?_
 refine Ad (Qp (Ed Aq) (Qp Al (Re (AW.block (Ad ?_)))));refine Qp (A0 (v:=.fn _ _ _) rfl) (Qp (Qf Aq) (Qp Bf (Qp (Om hfn rfl rfl rfl (hP t.kind)) (Qp Ew (Qp Au (Ae (Ao (fun hc1=>Ad (Qp Al (Ra (Qr (Iq _) ?_)))) fun hc1=>Ad (Qp (Bo Aq) (Qp (Qc rfl (w_shaped t)) (Qp Ew (Qp Au (Ae (Ao (fun hc2=>Ad (Qp Al (Ra (Qr (Iq _) ?_)))) fun hc2=>?_)))))))))))))
 ·
  have h9:Ba t p=1:=I6 (if_pos hc1) (by decide);rw [h9];rfl
 ·
  have h9:Ba t p=15:=I6 ((Bi hc1).trans (if_pos hc2)) (by decide);rw [h9];rfl
 refine Ad (Qp (Bo Aq) (Qp (Qc rfl (w_named t htx.1 htx.2)) (Qp Ew (Qp Au (Ae (Ao (fun hc3=>Ad (Qp Al (Ra (Qr (Iq _) ?_)))) fun hc3=>Rf (Rd (Qp (Bo Aq) (Qp (Qc rfl (uQ t)) (Qp Al (Bs (Qp Am (Qp Bu (Ae (Ao (fun hc4=>Ad (Qp Am (Qp Al (Rc (Qr (Iq _) ?_))))) fun hc4=>?_)))))))))))))))
 ·
  have h9:Ba t p=8:=I6 (((Bi hc1).trans (Bi hc2)).trans (if_pos hc3)) (by decide);rw [h9];rfl
 ·
  have h9:Ba t p=Dn t:=I6 (((Bi hc1).trans (Bi hc2)).trans (Bi hc3)) (by simpa using hc4);rw [h9];rfl
 have h0:Wh p t=0:=by unfold Wh;rw [Bi hc1,Bi hc2,Bi hc3];simpa using hc4
 refine A7 (Rd (Qp (Qf Ef) (Qp B7 ?_)));refine Qp (Ai (n:=t.kids.length) tok rfl rfl rfl (by simp)) ?_;refine Qp Am (Ae (AW.block ?_));refine AW.Aam (fun (k:Nat)=>(⟨[(2,.ptr (cSyn t)),(29,.sl 6 (t.kids.map Cr)),(30,.int .i64 t.kids.length),(31,.int .i64 (k:Int))],H,45⟩:St)) (fun k=>k≤t.kids.length∧Ba t p=Lc t k (t.kids.drop k)) (fun k=>t.kids.length-k) (0) ?_ Bv ?_
 · exact ⟨Dh _,Zj h0⟩
 rintro k hR;refine Ad (Qp Bp (Re (Ao (fun hc5=>?_) fun hc5=>?_)))
 ·
  obtain ⟨x,hx⟩:=mH (l:=t.kids) (k:=k) (by have:=Gv hc5;omega);have hlt:=Mf hx;have hm:=B6 hx;refine A7 (AW.seq (AW.block (Ad (Qp Am ?_))));refine Qp (Aa (c:=Aq) tok rfl rfl rfl rfl rfl rfl (by omega) (Cl hx)) ?_;refine Qp (Bo Aq) (Dt L7 fun b7=>Qp Al ?_);refine Bt 0 Aq (_::_) ?_;refine AOL.ghost (GS.freeze (t:=7) 0 rfl rfl) ?_;refine Re ?_;refine Gi ?_;refine Qn 0 rfl (Bo Aq) (Qn 1 rfl (Bo Aq) (Qn 2 rfl Am ?_));refine Qn 3 rfl (Qc rfl (w_kid t k hlt (by omega))) ?_;refine Qn 4 rfl (Qc rfl (ih x hm (Eh t k) (C4 hfew hm))) (Qn 5 rfl Al ?_);refine Ej ?_;refine A5 (Ad (Qp Am (Qp Bu (Ae (Ao (fun hc6=>Ad (Qp Am (Qp Al (Ra (Av (B9 (Av (Qr (Iq _) ?_)))))))) fun hc6=>Rf (AW.region (Qp Dl (Qp Am (Ae ?_)))))))))
  ·
   have h9:Ba t p=Ba x (Eh t k):=by rw [hR.2,O9 hx,if_pos hc6]
   rw [h9];rfl
  refine ⟨k+1,?_,?_,Bv⟩
  · exact ⟨hlt,by rw [hR.2,O9 hx,Bi hc6]⟩
  omega
 have hk:t.kids.length≤k:=by have:=If hc5;omega
 refine AW.exit ?_;refine Bk (Ri (Ad (Qp Al (Rb ?_))));refine Qr (Iq _) ?_;have h9:Ba t p=0:=by rw [hR.2,O7 hk,Lc]
 rw [h9];rfl
theorem w_depth (t:Syn)(hfew:Es t):An Tryz.prog 148 [.agg (cSyn t)] (.int .i64 (Gf t:Int)):=by
 revert hfew
 induction t using Syn.ind
 rename_i t ih;intro hfew;have hkl:=E3 hfew;refine An.body (n:=43) tok Tryz.func148 rfl rfl rfl fun H=>?_
 refine Ad (Qp (Ed Aq) (Qp Al (Bs (Qp Al (Ae (Rd (Qp (Qf Ef) (Qp B7 ?_))))))));refine Qp (Ai (n:=t.kids.length) tok rfl rfl rfl (by simp)) ?_;refine Qp Am (Ae (AW.block ?_));refine AW.Aam (fun (p:Nat×Nat)=>(⟨[(1,.ptr (cSyn t)),(3,.int .i64 (p.2:Int)),(8,.sl 6 (t.kids.map Cr)),(9,.int .i64 t.kids.length),(10,.int .i64 (p.1:Int))],H,43⟩:St)) (fun p=>p.1≤t.kids.length∧Iz t.kind t.kids=max p.2 (Iz t.kind (t.kids.drop p.1))∧p.2≤5000000) (fun p=>t.kids.length-p.1) ((0,0)) ?_ Bv ?_
 · exact ⟨Dh _,by simp,Dh _⟩
 rintro p hR;refine Ad (Qp Bp (Re (Ao (fun hc1=>?_) fun hc1=>?_)))
 ·
  obtain ⟨x,hx⟩:=mH (l:=t.kids) (k:=p.1) (by have:=Gv hc1;omega);have hlt:=Mf hx;have hm:=B6 hx;have hdx:=cK (C4 hfew hm);have hd2:=Xt hx;refine A7 (AW.seq (AW.block (Ad ?_)));refine Qp (Aa (c:=Aq) tok rfl rfl rfl rfl rfl rfl (by omega) (Cl hx)) ?_;refine Qp (Bo Aq) (Dt L7 fun b5=>?_);refine Bt 0 Aq (_::_) ?_;refine AOL.ghost (GS.freeze (t:=5) 0 rfl rfl) ?_;refine Bs (Qp (Bo Aq) (Qp (Qc rfl (ih x hm (C4 hfew hm))) (Qp Al (Ae (Rd (Qp (Qf Aq) (Qp Bf (Qp (Qf Aq) (Qp Bf (Qp (Qc rfl (jM t.kind x.kind)) (Ae (Ao (fun hc2=>?_) fun hc2=>?_))))))))))))
  ·
   rw [if_pos hc2] at hd2;refine AW.region (Qp Am (Qp Dl (Qp Al (Ae (AW.region (Qp Am (Qp Am (Qp (Tu rfl rfl) (Qp Al (Rk (AW.region (Qp Dl (Qp Am (Ae ?_))))))))))))));refine ⟨(p.1+1,max p.2 (Gf x+1)),?_,?_,GS.weaken ⟨rfl,congrArg (AV.int .i64) (by simp only;omega),rfl,rfl,rfl,trivial⟩ (.refl _)⟩
   · exact ⟨hlt,by simp only;omega,by simp only;omega⟩
   simp only;omega
  rw [Bi hc2] at hd2;refine A7 (AW.region (Qp Am (Qp Am (Qp (Tu rfl rfl) (Qp Al (Rk (AW.region (Qp Dl (Qp Am (Ae ?_))))))))));refine ⟨(p.1+1,max p.2 (Gf x)),?_,?_,GS.weaken ⟨rfl,congrArg (AV.int .i64) (by simp only;omega),rfl,rfl,rfl,trivial⟩ (.refl _)⟩
  · exact ⟨hlt,by simp only;omega,by simp only;omega⟩
  simp only;omega
 have hk:t.kids.length≤p.1:=by have:=If hc1;omega
 have he:=hR.2.1;rw [O7 hk,Iz] at he;have hfd:=cK hfew;have hde:=cN t;refine AW.exit ?_;refine Bk (Ri (Rd (Qp (Qf Aq) (Qp Bf (Qp Ap (Qp A9 ?_))))));refine Qg [] Qw (Qf Aq) (Qg [(31,_)] Qw Bf ?_);refine Qg [(32,_)] Qw (Qc rfl (w_pats t.kind)) (Qg [(33,_)] Qw A9 (Qg [] Qw (Qf Aq) (Qg [(35,_)] Qw Bf (Qg [(36,_)] Qw Bu (Qg [(34,_),(37,_)] Qw Ea (Qp Cf (Ae (Ao (fun hc3=>AW.region (Qp Am (Qp Dl (Qp Al (Bs (Qp Am (Qp Al (Rb (Qr (Iq _) ?_))))))))) fun hc3=>?_))))))))
 ·
  have h9:Gf t=p.2+1:=by rw [hde,if_pos hc3];omega
  rw [h9];rfl
 refine A7 (Ad (Qp Am (Qp Al (Rb (Qr (Iq _) ?_)))));have h9:Gf t=p.2:=by rw [hde,Bi hc3];omega
 rw [h9];rfl
set_option maxHeartbeats 3200000
set_option maxRecDepth 20000

theorem jR {t x:Syn}{k:Nat}{n:Int}(h:t.kids[k]? = some x)(hn:decide (n≤200)=true):I1 (t.kids.drop k) n=I1 (t.kids.drop (k+1)) (IntKind.i64.wrap (n+Iu x)):=by
 obtain ⟨h1,rfl⟩:=List.getElem?_eq_some_iff.1 h;rw [X8 h1,I1,if_pos hn]
theorem iI {l:List Syn}{n:Int}(hn:decide (n≤200)=false):I1 l n=n:=by
 cases l with
 | nil=>rw [I1]
 | cons x r=>rw [I1,if_neg (by rw [hn];decide)]
theorem oS {t x:Syn}{k:Nat}{d:Int}(h:t.kids[k]? = some x):Ui (t.kids.drop k) d=Ui (t.kids.drop (k+1)) (max d (Sv x)):=by
 obtain ⟨h1,rfl⟩:=List.getElem?_eq_some_iff.1 h;rw [X8 h1,Ui]
theorem eA {t x:Syn}{k:Nat}(h:t.kids[k]? = some x):Z2 (t.kids.drop k)=if !(G0 x) then false else Z2 (t.kids.drop (k+1)):=by
 obtain ⟨h1,rfl⟩:=List.getElem?_eq_some_iff.1 h;rw [X8 h1,Z2]
def Pl.fine (p:Pl):Prop:=∀k,p.at k=true→0≤k∧k≤18∧k≠4
theorem Ur:Pl.fine (.only 0):=fun k h=>by have:=E5 h;omega
theorem Xo:Pl.fine (.only 3):=fun k h=>by have:=E5 h;omega
theorem U6 {t:Syn}{p:Pl}(h:Ba t p=0)(hf:G0 t=true):(Ah t).length≤100000:=by
 have h1:=tH t p h hf;have h2:=(Ya t hf).2;omega

theorem f_total (t:Syn):An Tryz.prog 38 [.agg (cSyn t),.int .i64 200] (.int .i64 (Iu t)):=by
 skip
 induction t using Syn.ind
 rename_i t ih
 skip
 refine An.body (n:=29) tok Tryz.func38 rfl rfl rfl fun H=>?_
 refine Ad (Qp (Ed Aq) (Qp Al (Bs (Qp Al (Ae (Rd (Qp Al (Ae (AW.block ?_)))))))));refine AW.Aam (fun (p:Nat×Int)=>(⟨[(1,.int .i64 200),(2,.ptr (cSyn t)),(5,.int .i64 p.2),(6,.int .i64 (p.1:Int))],H,29⟩:St)) (fun p=>p.1≤t.kids.length∧Iu t=I1 (t.kids.drop p.1) p.2) (fun p=>t.kids.length-p.1) ((0,1)) ?_ Bv ?_
 · exact ⟨Dh _,by rw [bZ,Sj]⟩
 rintro p hR;refine Rd (Qp Am (Qp (Qf Ef) (Qp B7 (AOL.know 9 rfl fun hml=>?_))));simp only [D9,maxLen] at hml;refine Qp (Ai (n:=t.kids.length) tok rfl rfl rfl (by simp)) ?_;refine Qp Bp (Qp A9 (Qg [] Qw Am (Qg [] Qw Am (AOL.Aal (y:=.bool _) _ [(13,_),(14,_)] rfl (uB.all ⟨Ent.Aak _ _,Ent.Aak _ _,trivial⟩) (fun hG=>jT rfl rfl) rfl ?_))));refine Qp Ea (Ae (Ao (fun hc1=>?_) fun hc1=>?_))
 ·
  rw [G2] at hc1;obtain ⟨x,hx⟩:=mH (l:=t.kids) (k:=p.1) (by have:=Gv hc1.1;omega);have hlt:=Mf hx;have hm:=B6 hx;refine A7 (AW.seq (AW.block (AW.region (Qp Am (Qp (Qf Ef) (Qp B7 (Qp Am ?_)))))));refine Qp (Aa (c:=Aq) tok rfl rfl rfl rfl rfl rfl (by omega) (Cl hx)) ?_;refine Qp (Bo Aq) (Qp Am (Qp (Qc rfl (ih x hm)) (Qp (fR rfl rfl) (Qp Al (Rk (AW.region (Qp Am (Qp Dl (Qp Al (Ae ?_))))))))));refine ⟨(p.1+1,IntKind.i64.wrap (p.2+Iu x)),?_,?_,Bv⟩
  · exact ⟨hlt,by rw [hR.2,jR hx hc1.2]⟩
  simp only;omega
 rw [Bool.and_eq_false_iff] at hc1;refine AW.exit ?_;refine Bk (Ri (Ad (Qp Am (Qp Al (Rb ?_)))));refine Qr (Iq _) ?_
 have h9:Iu t=p.2:=by
  rw [hR.2];rcases hc1 with h | h
  · rw [O7 (by have:=If h;omega),I1]
  exact iI h
 rw [h9];rfl
theorem f_depth (t:Syn):An Tryz.prog 39 [.agg (cSyn t)] (.int .i64 (Sv t)):=by
 skip
 induction t using Syn.ind
 rename_i t ih
 skip
 refine An.body (n:=22) tok Tryz.func39 rfl rfl rfl fun H=>?_
 refine Ad (Qp (Ed Aq) (Qp Al (Bs (Qp Al (Ae (Rd (Qp Al (Ae (AW.block ?_)))))))));refine AW.Aam (fun (p:Nat×Int)=>(⟨[(1,.ptr (cSyn t)),(3,.int .i64 p.2),(4,.int .i64 (p.1:Int))],H,22⟩:St)) (fun p=>p.1≤t.kids.length∧Ui t.kids 0=Ui (t.kids.drop p.1) p.2) (fun p=>t.kids.length-p.1) ((0,0)) ?_ Bv ?_
 · exact ⟨Dh _,by rw [Sj]⟩
 rintro p hR;refine Rd (Qp Am (Qp (Qf Ef) (Qp B7 (AOL.know 7 rfl fun hml=>?_))));simp only [D9,maxLen] at hml;refine Qp (Ai (n:=t.kids.length) tok rfl rfl rfl (by simp)) ?_;refine Qp Bp (Ae (Ao (fun hc1=>?_) fun hc1=>?_))
 ·
  obtain ⟨x,hx⟩:=mH (l:=t.kids) (k:=p.1) (by have:=Gv hc1;omega);have hlt:=Mf hx;have hm:=B6 hx;refine A7 (AW.seq (AW.block (AW.region (Qp Am (Qp (Qf Ef) (Qp B7 (Qp Am ?_)))))));refine Qp (Aa (c:=Aq) tok rfl rfl rfl rfl rfl rfl (by omega) (Cl hx)) ?_;refine Qp (Bo Aq) (Qp (Qc rfl (ih x hm)) (Qp (Tu rfl rfl) (Qp Al (Rk (AW.region (Qp Am (Qp Dl (Qp Al (Ae ?_)))))))));refine ⟨(p.1+1,max p.2 (Sv x)),?_,?_,Bv⟩
  · exact ⟨hlt,by rw [hR.2,oS hx]⟩
  simp only;omega
 have hk:t.kids.length≤p.1:=by have:=If hc1;omega
 refine AW.exit ?_;refine Bk (Ri (Ad (Qp Am ?_)));refine Qp (fR rfl rfl) (Qp Al (Rb (Qr (Iq _) ?_)));have h9:Sv t=IntKind.i64.wrap (p.2+1):=by rw [vD,hR.2,O7 hk,Ui]
 rw [h9];rfl
theorem f_few (t:Syn):An Tryz.prog 11 [.agg (cSyn t)] (.bool (G0 t)):=by
 skip
 induction t using Syn.ind
 rename_i t ih
 skip
 refine An.body (n:=38) tok Tryz.func11 rfl rfl rfl fun H=>?_
 refine Ad (Qp (Ed Aq) (Qp Au (Ae (Rd (Qp (Qf Ik) (Qp C9 (Qp (Bx (n:=t.text.length) tok rfl rfl rfl (rfl)) (Qp Do (Qp A9 (Qg [] Qw (Qf Po) (Qg [(9,_)] Qw C9 (AOL.Aal (y:=Iq _) _ [(10,_)] rfl (uB.all ⟨Ent.Aak _ _,trivial⟩) (fun hG=>Bx (n:=t.name.length) tok rfl rfl rfl (rfl)) rfl ?_))))))))))));refine Qg [(11,_)] Qw Do (Qp Cf (Qp A9 (Qg [] Qw (Bo Aq) ?_)));refine Qg [(15,_)] Qw (Qc rfl (f_total t)) (Qg [(16,_)] Qw Do (Qp Cf (Qp A9 (Qg [] Qw (Bo Aq) (Qg [(20,_)] Qw (Qc rfl (f_depth t)) (Qg [(21,_)] Qw Do (Qp Cf (Ae (Ao (fun hc1=>Ad (Qp Au (Rc (Qr (.bool _) ?_)))) fun hc1=>A7 (Rd (Qp Al (Ae (AW.block ?_)))))))))))))
 ·
  have h9:G0 t=false:=by rw [gP,if_pos hc1]
  rw [h9];rfl
 refine AW.Aam (fun (k:Nat)=>(⟨[(1,.ptr (cSyn t)),(3,.int .i64 (k:Int))],H,38⟩:St)) (fun k=>k≤t.kids.length∧G0 t=Z2 (t.kids.drop k)) (fun k=>t.kids.length-k) (0) ?_ Bv ?_
 · exact ⟨Dh _,by rw [gP,Bi hc1,Sj]⟩
 rintro k hR;refine Rd (Qp Am (Qp (Qf Ef) (Qp B7 (AOL.know 26 rfl fun hml=>?_))));simp only [D9,maxLen] at hml;refine Qp (Ai (n:=t.kids.length) tok rfl rfl rfl (by simp)) ?_;refine Qp Bp (Ae (Ao (fun hc2=>?_) fun hc2=>?_))
 ·
  obtain ⟨x,hx⟩:=mH (l:=t.kids) (k:=k) (by have:=Gv hc2;omega);have hlt:=Mf hx;have hm:=B6 hx;refine A7 (AW.seq (AW.block (Ad (Qp (Qf Ef) (Qp B7 (Qp Am ?_))))));refine Qp (Aa (c:=Aq) tok rfl rfl rfl rfl rfl rfl (by omega) (Cl hx)) ?_;refine Qp (Bo Aq) (Qp (Qc rfl (ih x hm)) (Qp Ew (Ae (Ao (fun hc3=>Ad (Qp Au (Ra (Av (B9 (Av (Qr (.bool _) ?_))))))) fun hc3=>Rf (AW.region (Qp Am (Qp Dl (Qp Al (Ae ?_)))))))))
  ·
   have h9:G0 t=false:=by rw [hR.2,eA hx,if_pos hc3]
   rw [h9];rfl
  refine ⟨k+1,?_,?_,Bv⟩
  · exact ⟨hlt,by rw [hR.2,eA hx,Bi hc3]⟩
  omega
 have hk:t.kids.length≤k:=by have:=If hc2;omega
 refine AW.exit ?_;refine Bk (Ri (Ad (Qp Au (Rb ?_))));refine Qr (.bool _) ?_;have h9:G0 t=true:=by rw [hR.2,O7 hk,Z2]
 rw [h9];rfl
theorem cQ (t:Syn)(p:Pl)(hfew:Es t)(hp:p.fine):An Tryz.prog 87 [.agg (cSyn t),gY p] (.tuple [.str (Bh t p).1,.int .i64 (Bh t p).2]):=by
 obtain ⟨f,first,cap,hv,hfn,hP⟩:=pl_fn p;have hck:=w_check t p hfew;rw [hv] at hck ⊢;refine An.body (n:=30) tok Tryz.func87 rfl rfl rfl fun H=>?_
 refine Ad (Qp (Ed Aq) (Qp D1 (Qp Al (Ae (Rd (Qp (Bo Aq) (Qp (A0 (v:=.fn _ _ _) rfl) (Qp (Qc rfl (hck)) (Qp Al (Bs (Qp Am (Qp Bu (Ae (Ao (fun hc1=>Ad (Qp Am (Qp D1 (Qp Al (Rc (M6 (.str _) (Iq _) ?_)))))) fun hc1=>?_))))))))))))))
 ·
  have h9:Bh t p=([],Ba t p):=if_pos hc1;rw [h9];rfl
 have h0:Ba t p=0:=by simpa using hc1
 have hkd:=hp _ (Gg (Gk h0).1).1;have hwl:=med_big h0 hfew;refine A7 (Rd (Qp (Bo Aq) (Qp (Qc rfl (w_depth t hfew)) (Qp Do (Ae (Ao (fun hc2=>Ad (Qp D1 (Qp Al (Rc (M6 (.str _) (Iq _) ?_))))) fun hc2=>A7 (Ad (Qe (Dc rfl (w_new _)) ?_))))))))
 ·
  have h9:Bh t p=([],12):=(Bi hc1).trans (if_pos hc2);rw [h9];rfl
 rintro _ _ ⟨b17,rfl,rfl⟩;refine Qp Qk (Bs (Qp Bw (Qp (Bo Aq) ?_)));refine Qe (Dc rfl (node_ok b17 t p h0 hfew hkd.1 hkd.2.1 hkd.2.2 [] _ _ (.inl rfl) _ (by show 0+(Ah t).length≤cD;unfold cD;omega))) ?_;rintro _ _ ⟨v20,a20,rfl,ha20,rfl⟩;refine Ae (Rd (Qp Bw (Qp (Aj rfl) (Qp Cc (mW (k_blen b17 216 _ _ _ _ _) (Qp Do (Ae (Ao (fun hc3=>Ad (Qp D1 (Qp Al (Rc ?_)))) fun hc3=>A7 (Ad (Qp Bw (Qp (Aj rfl) (Qp Cc (mW (k_string b17 216 _ _ _ _ _) (Qp D1 (Qp Al (Rb ?_))))))))))))))))
 ·
  refine ⟨.inr rfl,H6,.cons (.tmp _ _ rfl) <| .cons (.tmp _ _ rfl) <| .nil,.cons _ (.cons _ (.refl _)),?_⟩;have h9:Bh t p=([],13):=((Bi hc1).trans (Bi hc2)).trans (if_pos hc3);rw [h9];rfl
 refine ⟨.inr rfl,H6,.cons (.tmp _ _ rfl) <| .cons (.tmp _ _ rfl) <| .nil,.cons _ (.cons _ (.refl _)),?_⟩;have h9:Bh t p=(Ah t,0):=((Bi hc1).trans (Bi hc2)).trans (Bi hc3);rw [h9];rfl
theorem vY (t:Syn)(hfew:Es t):An Tryz.prog 36 [.agg (cSyn t)] (.tuple [.str (Bh t (.only 0)).1,.int .i64 (Bh t (.only 0)).2]):=by
 refine An.body (n:=9) tok Tryz.func36 rfl rfl rfl fun H=>?_
 refine Ad (Qp (Ed Aq) (Qp D1 (Qp Al (Re ?_))));refine Gi ?_;refine Qn 0 rfl (Bo Aq) (Qn 1 rfl (Qc rfl (Rw _)) (Qn 2 rfl (Qc rfl (cQ t (.only 0) hfew Ur)) (Qn 3 rfl uM (Qn 4 rfl Ib (Qn 5 rfl D1 (Qn 6 rfl Al ?_))))));refine Ej ?_;refine A5 (AW.ret (M6 (.str _) (Iq _) ?_));rfl
theorem m_Query (t:Syn)(hfew:Es t):An Tryz.prog 45 [.agg (cSyn t)] (.tuple [.str (Bh t (.only 3)).1,.int .i64 (Bh t (.only 3)).2]):=by
 refine An.body (n:=9) tok Tryz.func45 rfl rfl rfl fun H=>?_
 refine Ad (Qp (Ed Aq) (Qp D1 (Qp Al (Re ?_))));refine Gi ?_;refine Qn 0 rfl (Bo Aq) (Qn 1 rfl (Qc rfl (Rw _)) (Qn 2 rfl (Qc rfl (cQ t (.only 3) hfew Xo)) (Qn 3 rfl uM (Qn 4 rfl Ib (Qn 5 rfl D1 (Qn 6 rfl Al ?_))))));refine Ej ?_;refine A5 (AW.ret (M6 (.str _) (Iq _) ?_));rfl
set_option maxHeartbeats 6400000
set_option maxRecDepth 20000

theorem xF (t:Syn)(ht:Es t):An Tryz.prog 58 [.agg (cSyn t)] (.int .i64 (Bh t (.only 0)).2):=by
 refine An.body (n:=11) tok Tryz.func58 rfl rfl rfl fun H=>?_
 refine Ad (Qp (Ed Aq) (Qp Al (Bs (Qp (Bo Aq) (Qp (Qc rfl (vY t ht)) (Qp Lm (Qp uM (Qp Ib (Qp D1 (Qp Al (Bs (Qp Am (Qp Al (Rb (Qr (Iq _) ?_)))))))))))))));rfl
theorem kM (T:List e8Sc)(hl:T.length≤1048576)(hs:∀s∈T,Zd s)(t:Syn)(ht:Es t):An Tryz.prog 14 [.sl 2 (T.map F1),.agg (cSyn t)] (.tuple [.agg (cQy (Pu T t).1),.int .i64 (Pu T t).2.1,.int .i64 (Pu T t).2.2]):=by
 refine An.body (n:=37) tok Tryz.func14 rfl rfl rfl fun H=>?_
 refine Ad (Qp (Ed Aq) (Dt cL fun b4=>Qp Al (Qp Al (Ae (Rd (Qp Fh (Qp (Qc rfl (e8c57 T hl hs)) (Qp Al (Bs (Qp Am (Qp Bu (Ae (Ao (fun hc1=>Ad (Qp (Du Fu) (Qp Am ?_))) fun hc1=>?_)))))))))))))
 ·
  refine Bt 0 Fu (_::_) ?_;refine Qp Al (Qp Al (Rc ?_));refine ⟨.inr rfl,[.agg Fu,Iq _,Iq _],.cons (.box _ _ _ 0 _ _ _ _ rfl rfl rfl rfl rfl rfl) <| .cons (.tmp _ _ rfl) <| .cons (.tmp _ _ rfl) <| .nil,.cons _ (.refl _),?_⟩;exact Eq.trans rfl (congrArg (fun q:Qy×Int×Int=>AV.tuple [.agg (cQy q.1),.int .i64 q.2.1,.int .i64 q.2.2]) (qp_1 T t hc1)).symm
 refine A7 (Rd (Qp (Bo Aq) (Qp (Qc rfl (m_Query t ht)) (Qp Lm (Qp uM (Qp Ib (Qp D1 (Qp Al (Bs (Qp Am (Qp Bu (Ae (Ao (fun hc2=>Ad (Qp (Du Fu) ?_)) fun hc2=>A7 (Ad (Qp Fh (Qp (Bo Aq) (Qp (Qc rfl (kN T (nT hc1) t ⟨ht,G4 hc2⟩)) (Qp Lm (Qp (B2 (v:=.agg Fu) rfl rfl) (Qp (B2 (v:=.agg Ga) rfl rfl) (Dt cL fun b10=>Dt bC fun b11=>?_)))))))))))))))))))))
 ·
  refine Bt 0 Fu (_::_) ?_;refine Qp Al (Qp Al (Rc ?_));refine ⟨.inr rfl,[.agg Fu,Iq _,Iq _],.cons (.box _ _ _ 0 _ _ _ _ rfl rfl rfl rfl rfl rfl) <| .cons (.tmp _ _ rfl) <| .cons (.tmp _ _ rfl) <| .nil,.cons _ (.refl _),?_⟩;exact Eq.trans rfl (congrArg (fun q:Qy×Int×Int=>AV.tuple [.agg (cQy q.1),.int .i64 q.2.1,.int .i64 q.2.2]) (qp_2 T t hc1 hc2)).symm
 refine Bt 1 Fu (_::_::_::_) ?_;refine Bt 0 Ga (_::_::_::_) ?_;refine AOL.ghost (GS.freeze (t:=11) 0 rfl rfl) ?_;refine AOL.ghost (GS.freeze (t:=10) 0 rfl rfl) ?_;refine Re ?_;refine Gi ?_;refine Qn 0 rfl (Bo Fu) (Qn 1 rfl (Qf Ga) (Qn 2 rfl Bf (Qn 3 rfl (Qf [Iq _]) (Qn 4 rfl Bf ?_))));refine Jj 5 rfl (A6 (k:=0) (v:=.agg _) (cs':=Fu) (H2:=_::_) tok rfl rfl rfl rfl (rfl) rfl rfl rfl rfl) ?_;refine Qn 6 rfl Al (Qn 7 rfl Al ?_);refine Ej ?_;refine A5 (AW.ret ?_);refine ⟨.inr rfl,[.agg Fu,Iq _,Iq _],.cons (.box _ _ _ 0 _ _ _ _ rfl rfl rfl rfl rfl rfl) <| .cons (.tmp _ _ rfl) <| .cons (.tmp _ _ rfl) <| .nil,.cons _ (.refl _),?_⟩;exact Eq.trans rfl (congrArg (fun q:Qy×Int×Int=>AV.tuple [.agg (cQy q.1),.int .i64 q.2.1,.int .i64 q.2.2]) (tR T t hc1 hc2)).symm
theorem rf_types (t:Syn)(ht:Es t):An Tryz.prog 59 [.agg (cSyn t)] (.tuple [.sl 2 ((C8 t).1.map F1),.agg (Pz (C8 t).2)]):=by
 have hkl:=E3 ht;refine An.body (n:=85) tok Tryz.func59 rfl rfl rfl fun H=>?_
 refine Ad (Qp (Ed Aq) (Qp (Be (z:=2) rfl) (Dt bC fun b3=>Bs (Qp Qk ?_))));refine AOL.ghost (GS.row (t:=4) 69 2 rfl) ?_;refine Bs (Qe (Is) ?_);rintro _ _ ⟨b12,rfl,rfl⟩;refine Qp Qk (Ae (Rd (Qp (Qf Ef) (Qp B7 ?_))));refine Qp (Ai (n:=t.kids.length) tok rfl rfl rfl (by simp)) ?_;refine Qp Am (Ae (AW.block ?_));refine AW.Aam (fun (q:Nat×List e8Sc×List (List AV)×List A1×Value)=>(⟨[(1,.ptr (cSyn t)),(2,.sl 2 []),(3,.val (.pointer (some ⟨b3,0,none⟩))),(4,.row q.2.2.2.2 2 q.2.2.1),(5,.val (.map (some b12))),(14,.sl 6 (t.kids.map Cr)),(15,.int .i64 t.kids.length),(16,.int .i64 (q.1:Int))],.smap b12 (Sl q.2.2.2.1) :: .row q.2.2.2.2 q.2.2.1.length 69 2 :: .box b3 94 bC::H,85⟩:St)) (fun q=>q.1≤t.kids.length∧Gd [] t.kids=Gd q.2.1 (t.kids.drop q.1)∧q.2.1.length≤16∧q.2.2.1=q.2.1.map F1∧q.2.2.2.1=G8 q.2.1) (fun q=>t.kids.length-q.1) ((0,[],[],[],.slice none 0 0)) ?_ Bv ?_
 · exact ⟨Dh _,rfl,Dh _,rfl,rfl⟩
 rintro q hR;refine Ad (Qp Bp (Re (Ao (fun hc1=>?_) fun hc1=>?_)))
 ·
  obtain ⟨a,ha⟩:=By hc1;have hlt:=Bj ha;have hm:=B6 ha;have ho16:=hR.2.2.1;have hrw:=hR.2.2.2.1;have hnw:=hR.2.2.2.2;have hrl:q.2.2.1.length=q.2.1.length:=by rw [hrw,D9]
  have hso:∀c∈q.2.2.1,Bc c=true:=by rw [hrw];exact scSc _
  have hma:=C4 ht hm;have hak:=E3 hma;refine A7 (AW.seq (AW.block (Ad ?_)));refine Qp (Aa (c:=Aq) tok rfl rfl rfl rfl rfl rfl (by omega) (Bz ha)) ?_;refine Qp (Bo Aq) (Dt L7 fun b7=>?_);refine Bt 0 Aq (_::_::_::_::_) ?_;refine AOL.ghost (GS.freeze (t:=7) 0 rfl rfl) ?_;refine Ae (Rd (Qp (Qf Aq) (Qp Bf (Qp Bu (Ae (Ao (fun hc2=>AW.exit (Ri (AW.region (Qp Dl (Qp Am (Ae ?_)))))) fun hc2=>A7 (Rd (Qp (A0 (v:=.row _ _ _) rfl) (Qp (Ec (n:=q.2.1.length) tok rfl rfl rfl (hrl)) (Qp Ap (Ae (Ao (fun hc3=>AW.seq ?_) fun hc3=>A7 (Rd (Qp Bw (Qp (Qf Ik) (Qp C9 ?_))))))))))))))))
  ·
   refine ⟨(q.1+1,q.2.1,q.2.2.1,q.2.2.2.1,q.2.2.2.2),?_,?_,Bv⟩
   · exact ⟨hlt,hR.2.1.trans (jU ha hc2),hR.2.2⟩
   simp only;omega
  ·
   refine Gi ?_;refine Qn 0 rfl (Qf [Iq _]) (Qn 1 rfl Bf (Qn 2 rfl (Du Ga) (Qn 3 rfl (Be (z:=2) rfl) ?_)));refine Jj 4 rfl (A6 (k:=2) (v:=.agg _) (cs':=Ga) (H2:=_::_::_::_) tok rfl rfl rfl rfl (rfl) rfl rfl rfl rfl) ?_;refine Ej ?_;refine A5 (Su (Rj (Av ?_)));refine ⟨.inr rfl,[.sl _ _,.agg Ga],.cons (.tmp _ _ rfl) <| .cons (.box _ _ _ 2 _ _ _ _ rfl rfl rfl rfl rfl rfl) <| .nil,.cons _ (.cons _ (.cons _ (.refl _))),?_⟩;exact Eq.trans rfl (congrArg (fun q:List e8Sc×Fa=>AV.tuple [.sl 2 (q.1.map F1),.agg (Pz q.2)]) (hR.2.1.trans (typ_5 ha hc2 hc3))).symm
  refine AOL.Aan (Ni (i:=0) (ks:=q.2.2.2.1) tok rfl rfl rfl rfl rfl (by kernel_rfl) rfl rfl rfl) rfl rfl ?_;refine Ae (Ao (fun hc4=>?_) fun hc4=>?_)
  ·
   have hc4n:(G8 q.2.1).contains a.text=true:=by rw [←hnw];exact hc4
   refine AW.seq ?_;refine Gi ?_;refine Qn 0 rfl (Qf [Iq _]) (Qn 1 rfl Bf (Qn 2 rfl (Du Ga) (Qn 3 rfl (Be (z:=2) rfl) ?_)));refine Jj 4 rfl (A6 (k:=2) (v:=.agg _) (cs':=Ga) (H2:=_::_::_::_) tok rfl rfl rfl rfl (rfl) rfl rfl rfl rfl) ?_;refine Ej ?_;refine A5 (Su (Rj (Av ?_)));refine ⟨.inr rfl,[.sl _ _,.agg Ga],.cons (.tmp _ _ rfl) <| .cons (.box _ _ _ 2 _ _ _ _ rfl rfl rfl rfl rfl rfl) <| .nil,.cons _ (.cons _ (.cons _ (.refl _))),?_⟩;exact Eq.trans rfl (congrArg (fun q:List e8Sc×Fa=>AV.tuple [.sl 2 (q.1.map F1),.agg (Pz q.2)]) (hR.2.1.trans (typ_7 ha hc2 hc3 hc4n))).symm
  have hc4n:(G8 q.2.1).contains a.text=false:=by rw [←hnw];exact hc4
  refine A7 (Ad (Qp Bw (Qp (Qf Ik) (Qp C9 (Rt (Rp (i:=0) (H2:=_::_::_::_) tok rfl rfl rfl rfl rfl rfl rfl rfl (hc4) rfl) (Bs (Qp (Qf Ik) (Qp C9 ?_))))))));refine Qp (Im (l0:=[.str [],.val (.slice none 0 0)]) (l:=Ji) tok rfl rfl (by kernel_rfl) rfl) ?_;refine Dt [.str [],.sl 2 []] fun b8=>?_
  refine Bt 0 Ji (_::_::_::_::_) ?_;refine AOL.ghost (GS.cellRow 0 1 111 2 rfl rfl rfl rfl) ?_;refine Bs (Qe (Is) ?_);rintro _ _ ⟨b42,rfl,rfl⟩;refine Qp Qk (Ae (Rd (Qp (Qf Ef) (Qp B7 ?_))));refine Qp (Ai (n:=a.kids.length) tok rfl rfl rfl (by simp)) ?_;refine Qp Am (Ae (AW.block ?_));refine AW.ghost (GS.perm (List.perm_append_comm.append_right _:(([_] ++ [_,_])++_).Perm _)) ?_;refine AW.Aam (fun (p:Nat×List Fi×List (List AV)×List A1×Value)=>(⟨[(1,.ptr (cSyn t)),(2,.sl 2 []),(3,.val (.pointer (some ⟨b3,0,none⟩))),(4,.row q.2.2.2.2 2 q.2.2.1),(5,.val (.map (some b12))),(14,.sl 6 (t.kids.map Cr)),(15,.int .i64 t.kids.length),(16,.int .i64 (q.1:Int)),(7,.ptr (cSyn a)),(8,.val (.pointer (some ⟨b8,0,none⟩))),(9,.val (.map (some b42))),(44,.sl 6 (a.kids.map Cr)),(45,.int .i64 a.kids.length),(46,.int .i64 (p.1:Int))],.row p.2.2.2.2 p.2.2.1.length 111 2 :: .box b8 69 [.str a.text,.row p.2.2.2.2 2 p.2.2.1] :: .smap b42 (Sl p.2.2.2.1) :: .smap b12 (Sl (q.2.2.2.1 ++ [a.text])) :: .row q.2.2.2.2 q.2.2.1.length 69 2 :: .box b3 94 bC::H,85⟩:St)) (fun p=>p.1≤a.kids.length∧Em [] a.kids=Em p.2.1 (a.kids.drop p.1)∧p.2.1.length≤8∧p.2.2.1=p.2.1.map lY∧p.2.2.2.1=p.2.1.map (·.name)) (fun p=>a.kids.length-p.1) ((0,[],[],[],.slice none 0 0)) ?_ Bv ?_
  · exact ⟨Dh _,rfl,Dh _,rfl,rfl⟩
  rintro p hP;refine Ad (Qp Bp (Re (Ao (fun hc5=>?_) fun hc5=>?_)))
  ·
   obtain ⟨x,hax⟩:=By hc5;have hltx:=Bj hax;have hmx:=B6 hax;have hf8:=hP.2.2.1;have hfw:=hP.2.2.2.1;have hfn:=hP.2.2.2.2;have hfl:p.2.2.1.length=p.2.1.length:=by rw [hfw,D9]
   have hsf:∀c∈p.2.2.1,Bc c=true:=by rw [hfw];exact scFi _
   refine A7 (AW.seq (AW.block (Ad ?_)));refine Qp (Aa (c:=Aq) tok rfl rfl rfl rfl rfl rfl (by omega) (Bz hax)) ?_;refine Qp (Bo Aq) (Dt L7 fun b11=>?_);refine Bt 0 Aq (_::_::_::_::_::_::_::_) ?_;refine AOL.ghost (GS.freeze (t:=11) 0 rfl rfl) ?_;refine Ae (Rd (Qp Cc (AOL.Aan (Af (k:=1) (c:=.row _ _ _) tok rfl rfl rfl rfl) rfl rfl (Qp (Ec (n:=p.2.1.length) tok rfl rfl rfl (hfl)) (Qp Ap (Ae (Ao (fun hc6=>AW.seq ?_) fun hc6=>A7 (Rd (Qp Bw (Qp (Qf Ik) (Qp C9 ?_)))))))))))
   ·
    refine Gi ?_;refine Qn 0 rfl (Qf [Iq _]) (Qn 1 rfl Bf (Qn 2 rfl (Du Ga) (Qn 3 rfl (Be (z:=2) rfl) ?_)));refine Jj 4 rfl (A6 (k:=5) (v:=.agg _) (cs':=Ga) (H2:=_::_::_::_::_::_::_) tok rfl rfl rfl rfl (rfl) rfl rfl rfl rfl) ?_;refine Ej ?_;refine A5 (Su (Rj (Av (B9 (Av (Av (B9 (Av ?_))))))));refine ⟨.inr rfl,[.sl _ _,.agg Ga],.cons (.tmp _ _ rfl) <| .cons (.box _ _ _ 5 _ _ _ _ rfl rfl rfl rfl rfl rfl) <| .nil,.cons _ (.cons _ (.cons _ (.cons _ (.cons _ (.cons _ (.refl _)))))),?_⟩;exact Eq.trans rfl (congrArg (fun q:List e8Sc×Fa=>AV.tuple [.sl 2 (q.1.map F1),.agg (Pz q.2)]) (hR.2.1.trans (typ_f ha hc2 hc3 hc4n (hP.2.1.trans (fld_5 hax hc6)) (show (5:Int)≠0 by decide)))).symm
   refine AOL.Aan (Ni (i:=2) (ks:=p.2.2.2.1) tok rfl rfl rfl rfl rfl (by kernel_rfl) rfl rfl rfl) rfl rfl ?_;refine Ae (Ao (fun hc7=>?_) fun hc7=>?_)
   ·
    have hc7n:(p.2.1.map (·.name)).contains x.text=true:=by rw [←hfn];exact hc7
    refine AW.seq ?_;refine Gi ?_;refine Qn 0 rfl (Qf [Iq _]) (Qn 1 rfl Bf (Qn 2 rfl (Du Ga) (Qn 3 rfl (Be (z:=2) rfl) ?_)));refine Jj 4 rfl (A6 (k:=5) (v:=.agg _) (cs':=Ga) (H2:=_::_::_::_::_::_::_) tok rfl rfl rfl rfl (rfl) rfl rfl rfl rfl) ?_;refine Ej ?_;refine A5 (Su (Rj (Av (B9 (Av (Av (B9 (Av ?_))))))));refine ⟨.inr rfl,[.sl _ _,.agg Ga],.cons (.tmp _ _ rfl) <| .cons (.box _ _ _ 5 _ _ _ _ rfl rfl rfl rfl rfl rfl) <| .nil,.cons _ (.cons _ (.cons _ (.cons _ (.cons _ (.cons _ (.refl _)))))),?_⟩;exact Eq.trans rfl (congrArg (fun q:List e8Sc×Fa=>AV.tuple [.sl 2 (q.1.map F1),.agg (Pz q.2)]) (hR.2.1.trans (typ_f ha hc2 hc3 hc4n (hP.2.1.trans (fld_7 hax hc6 hc7n)) (show (7:Int)≠0 by decide)))).symm
   have hc7n:(p.2.1.map (·.name)).contains x.text=false:=by rw [←hfn];exact hc7
   refine A7 (Ad (Qp Bw (Qp (Qf Ik) (Qp C9 (Rt (Rp (i:=2) (H2:=_::_::_::_::_::_::_) tok rfl rfl rfl rfl rfl rfl rfl rfl (hc7) rfl) (Ae (AW.region (Qp Cc (AOL.Aan (Af (k:=1) (c:=.row _ _ _) tok rfl rfl rfl rfl) rfl rfl (Qp (Qf Ik) (Qp C9 (Qp (Qf J8) (Qp Bf (Qp (Du H6) (Qp (Ak (es:=[H6]) tok rfl rfl rfl rfl rfl rfl rfl rfl rfl) ?_)))))))))))))));refine Qe (B8 (k:=0) tok rfl rfl rfl rfl rfl rfl rfl rfl (Dy rfl) (hsf) (by simp;omega) (by simp [maxLen];omega)) ?_;rintro _ _ ⟨v75,rfl,rfl⟩;refine Qp Cc ?_;refine Bt 1 Ji (_::_::_::_::_::_::_) (Rk (AW.region (Qp Dl (Qp Am (Ae ?_)))));refine ⟨(p.1+1,p.2.1 ++ [⟨x.text,x.num⟩],p.2.2.1 ++ [lY ⟨x.text,x.num⟩],p.2.2.2.1 ++ [x.text],v75),?_,?_,Bv⟩
   · exact ⟨hltx,hP.2.1.trans (zC hax hc6 hc7n),by simp only [Cb,K9];exact len8 hf8 hc6,by simp [hfw],by simp [hfn]⟩
   simp only;omega
  have hdx:=D8 hc5;have hfx:=hP.2.1;rw [hdx,Em] at hfx;have hfw:=hP.2.2.2.1;have htn:=typ_on ha hc2 hc3 hc4n hfx;refine AW.exit ?_;refine Bk (Ri (AW.region ?_));refine Qp (A0 (v:=.row _ _ _) rfl) ?_;refine AOL.ghost (GS.cell (H2:=_::_::_::_::_::_::_) 1 1 rfl rfl rfl rfl E9) ?_;refine AOL.Aan (A2 (k:=1) (l:=Ji) tok rfl rfl rfl rfl rfl) rfl rfl (Qp (Ak (es:=[Ji]) tok rfl rfl rfl rfl rfl rfl rfl rfl rfl) ?_);refine Qe (B8 (k:=4) tok rfl rfl rfl rfl rfl rfl rfl rfl (Dy rfl) (hso) (by simp;omega) (by simp [maxLen];omega)) ?_;rintro _ _ ⟨v81,rfl,rfl⟩;refine Qp (A8 (v:=.row _ _ _) rfl) (Rk (AW.region (Qp Dl (Qp Am (Ae ?_)))));refine ⟨(q.1+1,q.2.1 ++ [⟨a.text,p.2.1⟩],q.2.2.1 ++ [[.str a.text,.sl 2 p.2.2.1]],q.2.2.2.1 ++ [a.text],v81),?_,?_,GS.weaken ⟨rfl,rfl,rfl,rfl,rfl,rfl,rfl,rfl,trivial⟩ (.cons _ (.cons _ (.cons _ (.refl _))))⟩
  · exact ⟨hlt,hR.2.1.trans htn,by simp only [Cb,K9];exact Yu ho16 hc3,by simp [hrw,hfw,F1],by simp [hnw]⟩
  simp only;omega
 have hde:=D8 hc1;have hall:=hR.2.1;rw [hde] at hall;refine AW.exit ?_;refine Bk (Ri (Ad ?_));refine Qp (A0 (v:=.row _ _ _) rfl) ?_;refine AOL.ghost (GS.unrow 83 rfl) ?_;refine Qp (Qc rfl (Ms)) (Qp Sr ?_);refine Bt 2 Ga (_::_::_::_) (Rb ?_);refine ⟨.inr rfl,[.sl _ _,.agg Ga],.cons (.tmp _ _ rfl) <| .cons (.box _ _ _ 2 _ _ _ _ rfl rfl rfl rfl rfl rfl) <| .nil,.cons _ (.cons _ (.cons _ (.refl _))),?_⟩;exact Eq.trans (congrArg (fun l:List (List AV)=>AV.tuple [.sl 2 l,.agg (Pz Mt)]) hR.2.2.2.1) (congrArg (fun q:List e8Sc×Fa=>AV.tuple [.sl 2 (q.1.map F1),.agg (Pz q.2)]) (hall:C8 t=(q.2.1,Mt))).symm
set_option maxHeartbeats 6400000
set_option maxRecDepth 20000

theorem oH (t:Syn)(ht:Es t):An Tryz.prog 22 [.agg (cSyn t)] (.tuple [.agg (cPg (Tf t).1),.int .i64 (Tf t).2.1,.int .i64 (Tf t).2.2]):=by
 have hkl:=E3 ht;have htp:=nX t;refine An.body (n:=82) tok Tryz.func22 rfl rfl rfl fun H=>?_
 refine Ad (Qp (Ed Aq) (Dt giy fun b2=>Qp Al (Qp Al (Ae (Rd (Qp (Bo Aq) (Qp (Qc rfl (xF t ht)) (Qp Bu (Ae (Ao (fun hc1=>Ad (Qp (Du [_,_]) ?_)) fun hc1=>A7 (Ad (Qp (Bo Aq) (Qp (Qc rfl (rf_types t ht)) (Qp Lm (Qp Qxs (Qp (B2 (v:=.agg Ga) rfl rfl) (Dt bC fun b6=>Qp Sr ?_)))))))))))))))))
 ·
  refine Bt 0 [_,_] (_::_) (Qp Al (Qp Al (Rc ?_)));refine ⟨.inr rfl,[.agg [_,_],Iq _,Iq _],.cons (.box _ _ _ 0 _ _ _ _ rfl rfl rfl rfl rfl rfl) <| .cons (.tmp _ _ rfl) <| .cons (.tmp _ _ rfl) <| .nil,.cons _ (.refl _),?_⟩;exact Eq.trans rfl (congrArg (fun q:Pg×Int×Int=>AV.tuple [.agg (cPg q.1),.int .i64 q.2.1,.int .i64 q.2.2]) (pp_1 hc1)).symm
 refine Bt 0 Ga (_::_::_) ?_;refine AOL.ghost (GS.freeze (t:=6) 0 rfl rfl) ?_;refine Ae (Rd (Qp (Qf [Iq _]) (Qp Bf (Qp Bu (Ae (Ao (fun hc2=>AW.seq ?_) fun hc2=>A7 (Ad (Qp Fh ?_))))))))
 ·
  refine Gi ?_;refine Qn 0 rfl (Du [_,_]) (Qn 1 rfl (Qf Ga) (Qn 2 rfl Bf (Qn 3 rfl (Qf [Iq _]) (Qn 4 rfl Bf ?_))));refine Jj 5 rfl (A6 (k:=0) (v:=.agg _) (cs':=[_,_]) (H2:=_::_) tok rfl rfl rfl rfl (rfl) rfl rfl rfl rfl) ?_;refine Qn 6 rfl Al (Qn 7 rfl Al ?_);refine Ej ?_;refine A5 (Su ?_);refine ⟨.inr rfl,[.agg [_,_],Iq _,Iq _],.cons (.box _ _ _ 0 _ _ _ _ rfl rfl rfl rfl rfl rfl) <| .cons (.tmp _ _ rfl) <| .cons (.tmp _ _ rfl) <| .nil,.cons _ (.refl _),?_⟩;exact Eq.trans rfl (congrArg (fun q:Pg×Int×Int=>AV.tuple [.agg (cPg q.1),.int .i64 q.2.1,.int .i64 q.2.2]) (pp_2 hc1 hc2)).symm
 refine Qp (Im (l0:=[.sl 2 [],.val (.slice none 0 0)]) (l:=[_,_]) tok rfl rfl (by kernel_rfl) rfl) ?_;refine Dt giy fun b7=>?_
 refine Bt 0 [_,_] (_::_::_) ?_;refine AOL.ghost (GS.cellRow 0 1 40 18 rfl rfl rfl rfl) ?_;refine Bs (Qe (Is) ?_);rintro _ _ ⟨b32,rfl,rfl⟩;refine Qp Qk (Ae (Rd (Qp (Qf Ef) (Qp B7 ?_))));refine Qp (Ai (n:=t.kids.length) tok rfl rfl rfl (by simp)) ?_;refine Qp Am (Ae (AW.block ?_));refine AW.Aam (fun (q:Nat×List Qy×List (List AV)×List A1×Value)=>(⟨[(1,.ptr (cSyn t)),(2,.val (.pointer (some ⟨b2,0,none⟩))),(3,.int .i64 0),(4,.int .i64 0),(5,.sl 2 ((C8 t).1.map F1)),(7,.val (.pointer (some ⟨b7,0,none⟩))),(8,.val (.map (some b32))),(34,.sl 6 (t.kids.map Cr)),(35,.int .i64 t.kids.length),(36,.int .i64 (q.1:Int))],.smap b32 (Sl q.2.2.2.1) :: .row q.2.2.2.2 q.2.2.1.length 40 18 :: .box b7 59 [.sl 2 ((C8 t).1.map F1),.row q.2.2.2.2 18 q.2.2.1] :: .box b2 59 giy::H,82⟩:St)) (fun q=>q.1≤t.kids.length∧Fm (C8 t).1 [] t.kids=Fm (C8 t).1 q.2.1 (t.kids.drop q.1)∧q.2.1.length≤16∧q.2.2.1=q.2.1.map cQy∧q.2.2.2.1=q.2.1.map (·.name)) (fun q=>t.kids.length-q.1) ((0,[],[],[],.slice none 0 0)) ?_ Bv ?_
 · exact ⟨Dh _,rfl,Dh _,rfl,rfl⟩
 rintro q hR;refine Ad (Qp Bp (Re (Ao (fun hc3=>?_) fun hc3=>?_)))
 ·
  obtain ⟨a,ha⟩:=By hc3;have hlt:=Bj ha;have hm:=B6 ha;have ho16:=hR.2.2.1;have hrw:=hR.2.2.2.1;have hnw:=hR.2.2.2.2;have hrl:q.2.2.1.length=q.2.1.length:=by rw [hrw,D9]
  have hso:∀c∈q.2.2.1,Bc c=true:=by rw [hrw];exact scQy _
  have hma:=C4 ht hm;refine A7 (AW.seq (AW.block (Ad ?_)));refine Qp (Aa (c:=Aq) tok rfl rfl rfl rfl rfl rfl (by omega) (Bz ha)) ?_;refine Qp (Bo Aq) (Dt L7 fun b10=>?_);refine Bt 0 Aq (_::_::_::_::_::_) ?_;refine AOL.ghost (GS.freeze (t:=10) 0 rfl rfl) ?_;refine Ae (Rd (Qp (Qf Aq) (Qp Bf (Qp Bu (Ae (Ao (fun hc4=>AW.exit (Ri (AW.region (Qp Dl (Qp Am (Ae ?_)))))) fun hc4=>?_))))))
  ·
   refine ⟨(q.1+1,q.2.1,q.2.2.1,q.2.2.2.1,q.2.2.2.2),?_,?_,Bv⟩
   · exact ⟨hlt,hR.2.1.trans (kO ha hc4),hR.2.2⟩
   simp only;omega
  have hqa:=Wv (G4 hc1) ha (by simpa using hc4);refine A7 (Rd (Qp Cc (AOL.Aan (Af (k:=2) (c:=.row _ _ _) tok rfl rfl rfl rfl) rfl rfl (Qp (Ec (n:=q.2.1.length) tok rfl rfl rfl (hrl)) (Qp Ap (Ae (Ao (fun hc5=>AW.seq ?_) fun hc5=>A7 (Rd (Qp Bw (Qp (Qf Ik) (Qp C9 ?_)))))))))))
  ·
   refine Gi ?_;refine Qn 0 rfl (Du [_,_]) (Qn 1 rfl (Qf [Iq _]) (Qn 2 rfl Bf ?_));refine Jj 3 rfl (A6 (k:=3) (v:=.agg _) (cs':=[_,_]) (H2:=_::_::_::_::_) tok rfl rfl rfl rfl (rfl) rfl rfl rfl rfl) ?_;refine Qn 4 rfl Al (Qn 5 rfl Al ?_);refine Ej ?_;refine A5 (Su (Rj (Av ?_)));refine ⟨.inr rfl,[.agg [_,_],Iq _,Iq _],.cons (.box _ _ _ 3 _ _ _ _ rfl rfl rfl rfl rfl rfl) <| .cons (.tmp _ _ rfl) <| .cons (.tmp _ _ rfl) <| .nil,.cons _ (.cons _ (.cons _ (.cons _ (.refl _)))),?_⟩;exact Eq.trans rfl (congrArg (fun q:Pg×Int×Int=>AV.tuple [.agg (cPg q.1),.int .i64 q.2.1,.int .i64 q.2.2]) (sZ hc1 hc2 (hR.2.1.trans (prg_5 ha hc4 hc5)) rfl)).symm
  refine AOL.Aan (Ni (i:=0) (ks:=q.2.2.2.1) tok rfl rfl rfl rfl rfl (by kernel_rfl) rfl rfl rfl) rfl rfl ?_;refine Ae (Ao (fun hc6=>?_) fun hc6=>?_)
  ·
   have hc6n:(q.2.1.map (·.name)).contains a.text=true:=by rw [←hnw];exact hc6
   refine AW.seq ?_;refine Gi ?_;refine Qn 0 rfl (Du [_,_]) (Qn 1 rfl (Qf [Iq _]) (Qn 2 rfl Bf ?_));refine Jj 3 rfl (A6 (k:=3) (v:=.agg _) (cs':=[_,_]) (H2:=_::_::_::_::_) tok rfl rfl rfl rfl (rfl) rfl rfl rfl rfl) ?_;refine Qn 4 rfl Al (Qn 5 rfl Al ?_);refine Ej ?_;refine A5 (Su (Rj (Av ?_)));refine ⟨.inr rfl,[.agg [_,_],Iq _,Iq _],.cons (.box _ _ _ 3 _ _ _ _ rfl rfl rfl rfl rfl rfl) <| .cons (.tmp _ _ rfl) <| .cons (.tmp _ _ rfl) <| .nil,.cons _ (.cons _ (.cons _ (.cons _ (.refl _)))),?_⟩;exact Eq.trans rfl (congrArg (fun q:Pg×Int×Int=>AV.tuple [.agg (cPg q.1),.int .i64 q.2.1,.int .i64 q.2.2]) (sZ hc1 hc2 (hR.2.1.trans (prg_7 ha hc4 hc5 hc6n)) rfl)).symm
  have hc6n:(q.2.1.map (·.name)).contains a.text=false:=by rw [←hnw];exact hc6
  refine A7 (Ad (Qp Bw (Qp (Qf Ik) (Qp C9 (Rt (Rp (i:=0) (H2:=_::_::_::_::_) tok rfl rfl rfl rfl rfl rfl rfl rfl (hc6) rfl) (Bs (Qp Fh (Qp (Bo Aq) (Qp (Qc rfl (kN (C8 t).1 htp a ⟨hma,hqa⟩)) (Qp Lm (Qp (B2 (v:=.agg Fu) rfl rfl) (Qp (B2 (v:=.agg Ga) rfl rfl) (Dt cL fun b11=>Dt bC fun b12=>?_)))))))))))));refine Bt 1 Fu (_::_::_::_::_::_::_) ?_;refine Bt 0 Ga (_::_::_::_::_::_::_) ?_;refine AOL.ghost (GS.freeze (t:=12) 0 rfl rfl) ?_;refine AOL.ghost (GS.freeze (t:=11) 0 rfl rfl) ?_;refine Ae (Rd (Qp (Qf [Iq _]) (Qp Bf (Qp Bu (Ae (Ao (fun hc7=>AW.seq ?_) fun hc7=>?_))))))
  ·
   refine Gi ?_;refine Qn 0 rfl (Du [_,_]) (Qn 1 rfl (Qf Ga) (Qn 2 rfl Bf (Qn 3 rfl (Qf [Iq _]) (Qn 4 rfl Bf ?_))));refine Jj 5 rfl (A6 (k:=3) (v:=.agg _) (cs':=[_,_]) (H2:=_::_::_::_::_) tok rfl rfl rfl rfl (rfl) rfl rfl rfl rfl) ?_;refine Qn 6 rfl Al (Qn 7 rfl Al ?_);refine Ej ?_;refine A5 (Su (Rj (Av ?_)));refine ⟨.inr rfl,[.agg [_,_],Iq _,Iq _],.cons (.box _ _ _ 3 _ _ _ _ rfl rfl rfl rfl rfl rfl) <| .cons (.tmp _ _ rfl) <| .cons (.tmp _ _ rfl) <| .nil,.cons _ (.cons _ (.cons _ (.cons _ (.refl _)))),?_⟩;exact Eq.trans rfl (congrArg (fun q:Pg×Int×Int=>AV.tuple [.agg (cPg q.1),.int .i64 q.2.1,.int .i64 q.2.2]) (sZ hc1 hc2 (hR.2.1.trans (prg_f ha hc4 hc5 hc6n hc7)) hc7)).symm
  have hqn:=jI hc7;refine A7 (AW.region (Qp Cc (AOL.Aan (Af (k:=2) (c:=.row _ _ _) tok rfl rfl rfl rfl) rfl rfl (Qp (Bo Fu) (Qp (Ak (es:=[Fu]) tok rfl rfl rfl rfl rfl rfl rfl rfl rfl) ?_)))));refine Qe (B8 (k:=1) tok rfl rfl rfl rfl rfl rfl rfl rfl (Dy rfl) (hso) (by simp;omega) (by simp [maxLen];omega)) ?_;rintro _ _ ⟨v78,rfl,rfl⟩;refine Qp Cc ?_;refine Bt 2 [_,_] (_::_::_::_::_) (Rk (AW.region (Qp Dl (Qp Am (Ae ?_)))));refine ⟨(q.1+1,q.2.1 ++ [(C0 (C8 t).1 a).1],q.2.2.1 ++ [cQy (C0 (C8 t).1 a).1],q.2.2.2.1 ++ [a.text],v78),?_,?_,Bv⟩
  · exact ⟨hlt,hR.2.1.trans (prg_on ha hc4 hc5 hc6n hc7),by simp only [Cb,K9];exact Yu ho16 hc5,by simp [hrw],by simp [hnw,hqn.1]⟩
  simp only;omega
 have hde:=D8 hc3;have hall:=hR.2.1;rw [hde] at hall;refine AW.exit ?_;refine Bk (Ri (Ad ?_));refine AOL.ghost (GS.cell (H2:=_::_::_::_::_) 2 1 rfl rfl rfl rfl E9) ?_;refine AOL.Aan (A2 (k:=2) (l:=[_,_]) tok rfl rfl rfl rfl rfl) rfl rfl ?_;refine Bt 3 [_,_] (_::_::_::_::_) (Qp Al (Qp Al (Rb ?_)));refine ⟨.inr rfl,[.agg [_,_],Iq _,Iq _],.cons (.box _ _ _ 3 _ _ _ _ rfl rfl rfl rfl rfl rfl) <| .cons (.tmp _ _ rfl) <| .cons (.tmp _ _ rfl) <| .nil,.cons _ (.cons _ (.cons _ (.cons _ (.refl _)))),?_⟩;exact Eq.trans (congrArg (fun l:List (List AV)=>AV.tuple [.agg [.sl 2 ((C8 t).1.map F1),.sl 18 l],.int .i64 0,.int .i64 0]) hR.2.2.2.1) (congrArg (fun q:Pg×Int×Int=>AV.tuple [.agg (cPg q.1),.int .i64 q.2.1,.int .i64 q.2.2]) (pp_y hc1 hc2 (hall.trans (by rw [Fm])))).symm
end Go.Proofs.YtckhoadldibflaaGreatDoor
