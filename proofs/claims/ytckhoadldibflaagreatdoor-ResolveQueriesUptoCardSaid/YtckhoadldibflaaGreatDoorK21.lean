/-
  Several texts in one: W13u, R17w, R18w. No condition.
-/
import Derived.Test.YtckhoadldibflaaGreatDoorK01
import Derived.Test.YtckhoadldibflaaGreatDoorK20
import Derived.Test.YtckhoadldibflaaGreatDoorK14
import Derived.KernelRfl
import Derived.Test.YtckhoadldibflaaGreatDoorK19
import Derived.Test.YtckhoadldibflaaGreatDoorK10
import Derived.Test.YtckhoadldibflaaGreatDoorK09
import Derived.Test.YtckhoadldibflaaGreatDoorK16
import Derived.Test.YtckhoadldibflaaGreatDoorK12
set_option linter.unusedVariables false
set_option linter.unusedSimpArgs false
namespace Go.Proofs.YtckhoadldibflaaGreatDoor
open Go Go.Aw
set_option maxHeartbeats 12800000
set_option maxRecDepth 20000

theorem L9 {a b:Int}(h:(a==b)=true):a=b:=by simpa using h
theorem N4 {a b:Int}(h:(a==b)=false):a≠b:=by simpa using h
theorem r_write (t:Syn)(p:Pl)(h:Ba t p=0)(hf:G0 t=true)(k0:0≤t.kind)(k18:t.kind≤18)(k4:t.kind≠4):An Tryz.prog 179 [.agg (cSyn t)] (.str (Ah t)):=by
 revert h hf k0 k18 k4 p
 refine Syn.ind (P:=fun t=>∀p,Ba t p=0→G0 t=true→0≤t.kind→t.kind≤18→t.kind≠4→An Tryz.prog 179 [.agg (cSyn t)] (.str (Ah t))) (fun t ih p h hf k0 k18 k4=>?_) t;have hi:=aK h;have hx:t.text.length≤80:=(H1 hf).1;have hnm:t.name.length≤80:=(H1 hf).2.1;have hkl:=eQ hf;have hbig:=U6 h hf;have ho:=(Gk h).1;have hs:=(Gg ho).2.1;have hfl:=(Gg ho).2.2.2
 have kid:∀(j:Nat) a,t.kids[j]? = some a→a.kind≠4→WOK a:=fun j a ha h4=>by
  have ck:=Fj h ha;have kk:=iV ck.2;have hfa:=Ks hf (B6 ha);exact ⟨ih a (B6 ha) _ ck.1 hfa (by omega) kk.2 h4,U6 ck.1 hfa⟩
 have kids:t.kind≠3→∀a∈t.kids,WOK a:=fun h3 a ha=>by
  obtain ⟨j,hj⟩:=lI.1 ha;refine kid j a hj ?_;have k:=(Fj h hj).2;unfold Eh at k;rw [if_neg (show ¬(t.kind==3)=true by simpa using h3)] at k
  repeat' split at k
  all_goals first | (have:=E5 k;omega) | (have:=Wl k;omega) | (have:=Vf k;omega)
 have wl:=Vw;have wl1:=wl.1 t.num;have wl2:=wl.2.1 t.num;have wl3:=wl.2.2.1 t.num;have wl4:=wl.2.2.2 t.kind;have hil:=Lib.itoa_length_le t.num (by omega) (by omega);refine An.body (n:=165) tok Tryz.func179 rfl rfl rfl fun H=>?_
 refine Ad (Qp (Ed Aq) (Qp D1 (Ae (Rd (Qp (Qf Aq) (Qp Bf (Ae (AW.block (Ad (Qp Ap (Qp Au (Ae (Ao (fun hc1=>?_) fun hc1=>Ad (Qp Ap (Qp Au (Ae (Ao (fun hc3=>?_) fun hc3=>?_)))))))))))))))))
 ·
  have hk:=L9 hc1;have e:Ah t=(t.kids.map Ah).flatten:=by rw [Dd];unfold Df;rw [hk];rfl
  refine Ad (Qp D1 (Ae (Rd (Qp Al (Ae (AW.block ?_))))));refine AW.Aam (fun (p:Nat×A1)=>(⟨[(1,.ptr (cSyn t)),(3,.str p.2),(4,.int .i64 (p.1:Int))],H,165⟩:St)) (fun p=>p.1≤t.kids.length∧p.2++((t.kids.map Ah).drop p.1).flatten=Ah t) (fun p=>t.kids.length-p.1) ((0,[])) ?_ Bv ?_
  · exact ⟨Dh _,by rw [e];rfl⟩
  rintro p hR;refine Rd (Qp Am (Qp (Qf Ef) (Qp B7 ?_)));refine Qp (Ai (n:=t.kids.length) tok rfl rfl rfl (by simp)) ?_;refine Qp Bp (Ae (Ao (fun hc2=>?_) fun hc2=>?_))
  ·
   obtain ⟨x,hxk⟩:=mH (l:=t.kids) (k:=p.1) (by have:=Gv hc2;omega);have hlt:=Mf hxk;have hwx:=kids (by omega) x (B6 hxk);have hr:=Ow hxk;have hle:=congrArg List.length hR.2;rw [hr] at hle;simp only [Cb] at hle;refine A7 (AW.seq (AW.block (AW.region (Qp D2 (Qp (Qf Ef) (Qp B7 (Qp Am ?_)))))));refine Qp (Aa (c:=Aq) tok rfl rfl rfl rfl rfl rfl (by omega) (Cl hxk)) ?_;refine Qp (Bo Aq) (Qp (Qc rfl (hwx.1)) ?_);refine Qp (A3 rfl rfl rfl (by unfold maxLen;(try simp only [Cb,Cj,Cw]);omega)) ?_;refine Qp D1 (Rk (AW.region (Qp Am (Qp Dl (Qp Al (Ae ?_))))));refine ⟨(p.1+1,p.2++Ah x),?_,?_,Bv⟩
   · exact ⟨by omega,by rw [←hR.2,hr];simp⟩
   simp only;omega
  have hkk:(t.kids.map Ah).length≤p.1:=by have:=If hc2;rw [D9];omega
  have he:=hR.2;rw [O7 hkk,Db,Cm] at he;refine AW.exit ?_;refine Bk (Ri (Ad (Qp D2 (Qp D1 (Rb (B9 ?_))))));refine Av (Qr (.str _) ?_);rw [←he];rfl
 ·
  have hk:=L9 hc3;refine Ad (Qp (Bo Aq) ?_);refine Qp (Qc rfl (mX t hk (by omega) hx (kids (by omega)) hbig)) ?_;refine Qp D1 (Ra (Qr (.str _) ?_));rfl
 refine Ad (Qp Ap (Qp Au (Ae (Ao (fun hc4=>?_) fun hc4=>Ad (Qp Ap (Qp Au (Ae (Ao (fun hc5=>?_) fun hc5=>Ad (Qp Ap (Qp Au (Ae (Ao (fun hc6=>?_) fun hc6=>Ad (Qp Ap (Qp Au (Ae (Ao (fun hc8=>?_) fun hc8=>Ad (Qp Ap (Qp Au (Ae (Ao (fun hc9=>?_) fun hc9=>?_))))))))))))))))))))
 ·
  have hk:=L9 hc4;have e:Ah t=t.text ++ [58,32]++J6 t.num:=by rw [Dd];unfold Df;rw [hk];rfl
  refine AW.seq ?_;refine Gi ?_;refine Qn 0 rfl (Qf Ik) (Qn 1 rfl C9 ?_);refine Qn 2 rfl (A3 rfl rfl rfl (by unfold maxLen;(try simp only [Cb,Cj,Cw]);omega)) ?_;refine Qn 3 rfl (Qf J8) (Qn 4 rfl Bf (Qn 5 rfl (Qc rfl (nS t.num)) ?_));refine Qn 6 rfl (A3 rfl rfl rfl (by unfold maxLen;(try simp only [Cb,Cj,Cw]);omega)) ?_;refine Qn 7 rfl D1 ?_;refine Ej ?_;refine A5 (AW.ret (B9 (Av (Qr (.str _) ?_))));rw [e]
  try rfl
 ·
  have hk:=L9 hc5
  obtain ⟨q0,q1,r,hq⟩:∃q0 q1 r,t.kids=q0::q1::r:=by
   unfold En at hs;rw [hk] at hs
   replace hs:decide (3≤(t.kids.length:Int))=true:=hs
   simp only [Hi] at hs
   match hq:t.kids with
   | []=>rw [hq] at hs;simp at hs
   | [x]=>rw [hq] at hs;simp at hs
   | x::y::r=>exact ⟨x,y,r,rfl⟩
  have no4:∀(j:Nat) x,1≤j→t.kids[j]? = some x→x.kind≠4:=fun j x hj hx=>by
   have k:=(Fj h hx).2;unfold Eh at k;rw [hk] at k;have e3:((j:Int)==0)=false:=by simp;omega
   simp only [e3] at k
   replace k:(if ((j:Int)==1)=true then Pl.pats else Pl.exps).at x.kind=true:=k
   split at k
   · have:=Vf k;omega
   have:=Wl k;omega
  have hq1:WOK q1:=kid 1 q1 (by rw [hq];rfl) (no4 1 q1 (C6 _) (by rw [hq];rfl))
  have hqr:∀x∈r,WOK x:=fun x hx=>by
   obtain ⟨j,hj⟩:=lI.1 hx;have hj2:t.kids[j+2]? = some x:=by rw [hq];simpa using hj
   exact kid (j+2) x hj2 (no4 (j+2) x (by omega) hj2)
  have hx0:q0.text.length≤80:=(H1 (Ks hf (by rw [hq];simp))).1;refine Ad (Qp (Bo Aq) ?_);refine Qp (Qc rfl (r_asked t q0 q1 r hk hq (by omega) hx hx0 hq1 hqr hbig)) ?_;refine Qp D1 (Ra (Qr (.str _) ?_));rfl
 ·
  have hk:=L9 hc6;refine Rd (Qp (Qf Ef) (Qp B7 ?_));refine Qp (Ai (n:=t.kids.length) tok rfl rfl rfl (by simp)) ?_;refine Qp Ap (Ae (Ao (fun hc7=>?_) fun hc7=>?_))
  ·
   have e:=wt_ev0 hk (iG hc7);refine Ad (Qp (Qf Ik) (Qp C9 ?_));refine Qp (A3 rfl rfl rfl (by unfold maxLen;(try simp only [Cb,Cj,Cw]);omega)) ?_;refine Qp (Qf Po) (Qp C9 ?_);refine Qp (A3 rfl rfl rfl (by unfold maxLen;(try simp only [Cb,Cj,Cw]);omega)) ?_;refine Qp D1 (Rc (B9 (Av (Qr (.str _) ?_))));rw [e]
   try rfl
  have hp:=pE hc7;refine (mH hp).elim fun x0 h0=>?_
  have hw0:=kids (by omega) x0 (B6 h0);have hw2:=hw0.2;have e:=wt_ev1 hk h0;refine A7 (AW.seq ?_);refine Gi ?_;refine Qn 0 rfl (Qf Ik) (Qn 1 rfl C9 ?_);refine Qn 2 rfl (A3 rfl rfl rfl (by unfold maxLen;(try simp only [Cb,Cj,Cw]);omega)) ?_;refine Qn 3 rfl (Qf Po) (Qn 4 rfl C9 ?_);refine Qn 5 rfl (A3 rfl rfl rfl (by unfold maxLen;(try simp only [Cb,Cj,Cw]);omega)) ?_;refine Qn 6 rfl (A3 rfl rfl rfl (by unfold maxLen;(try simp only [Cb,Cj,Cw]);omega)) ?_;refine Qn 7 rfl (Qf Ef) (Qn 8 rfl B7 ?_);refine Qn 9 rfl (Aa (c:=Aq) tok rfl rfl rfl rfl rfl rfl (by decide) (Cl h0)) ?_;refine Qn 10 rfl (Bo Aq) (Qn 11 rfl (Qc rfl (hw0.1)) ?_);refine Qn 12 rfl (A3 rfl rfl rfl (by unfold maxLen;(try simp only [Cb,Cj,Cw]);omega)) ?_;refine Qn 13 rfl D1 ?_;refine Ej ?_;refine A5 (AW.ret (B9 (Av (Qr (.str _) ?_))));rw [e]
  try rfl
 ·
  have hk:=L9 hc8;unfold En at hs;rw [hk] at hs
  replace hs:((t.kids.length:Int)==1)=true:=hs
  refine (Yv (t:=t) (L9 hs)).elim fun x0 hq=>?_
  have h0:t.kids[0]? = some x0:=by rw [hq];rfl
  have hw0:=kids (by omega) x0 (B6 h0);have hw2:=hw0.2;have e:=tZ hk hq;refine AW.seq ?_;refine Gi ?_;refine Qn 0 rfl (Qf Ef) (Qn 1 rfl B7 ?_);refine Qn 2 rfl (Aa (c:=Aq) tok rfl rfl rfl rfl rfl rfl (by decide) (Cl h0)) ?_;refine Qn 3 rfl (Bo Aq) (Qn 4 rfl (Qc rfl (hw0.1)) ?_);refine Qn 5 rfl (A3 rfl rfl rfl (by unfold maxLen;(try simp only [Cb,Cj,Cw]);omega)) ?_;refine Qn 6 rfl (A3 rfl rfl rfl (by unfold maxLen;(try simp only [Cb,Cj,Cw]);omega)) ?_;refine Qn 7 rfl (Qf J8) (Qn 8 rfl Bf (Qn 9 rfl (Qc rfl (cM t.num hi)) ?_));refine Qn 10 rfl (A3 rfl rfl rfl (by unfold maxLen;(try simp only [Cb,Cj,Cw]);omega)) ?_;refine Qn 11 rfl (A3 rfl rfl rfl (by unfold maxLen;(try simp only [Cb,Cj,Cw]);omega)) ?_;refine Qn 12 rfl D1 ?_;refine Ej ?_;refine A5 (AW.ret (B9 (Av (Qr (.str _) ?_))));rw [e]
  try rfl
 ·
  have hk:=L9 hc9;have e:=zO hk;have hnames:=cR hfl hk;refine Ad (Qp (Bo Aq) ?_);refine Qp (Qc rfl (eB t hi (by omega) hnames)) ?_;refine Qp D1 (Ra (Qr (.str _) ?_));rw [e]
  try rfl
 refine Ad (Qp Ap (Qp Au (Ae (Ao (fun hc10=>?_) fun hc10=>Ad (Qp Ap (Qp Au (Ae (Ao (fun hc11=>?_) fun hc11=>Ad (Qp Ap (Qp Au (Ae (Ao (fun hc12=>?_) fun hc12=>Ad (Qp Ap (Qp Au (Ae (Ao (fun hc14=>?_) fun hc14=>Ad (Qp Ap (Qp Au (Ae (Ao (fun hc15=>?_) fun hc15=>?_))))))))))))))))))))
 ·
  have hk:=L9 hc10;have e:Ah t=t.text ++ [46]++t.name:=by rw [Dd];unfold Df;rw [hk];rfl
  refine Ad (Qp (Qf Ik) (Qp C9 ?_));refine Qp (A3 rfl rfl rfl (by unfold maxLen;(try simp only [Cb,Cj,Cw]);omega)) ?_;refine Qp (Qf Po) (Qp C9 ?_);refine Qp (A3 rfl rfl rfl (by unfold maxLen;(try simp only [Cb,Cj,Cw]);omega)) ?_;refine Qp D1 (Ra (Qr (.str _) ?_));rw [e]
  try rfl
 ·
  have hk:=L9 hc11;have e:Ah t = [99,111,117,110,116,40]++t.text ++ [41]:=by rw [Dd];unfold Df;rw [hk];rfl
  refine Ad (Qp (Qf Ik) (Qp C9 ?_));refine Qp (A3 rfl rfl rfl (by unfold maxLen;(try simp only [Cb,Cj,Cw]);omega)) ?_;refine Qp (A3 rfl rfl rfl (by unfold maxLen;(try simp only [Cb,Cj,Cw]);omega)) ?_;refine Qp D1 (Ra (Qr (.str _) ?_));rw [e]
  try rfl
 ·
  have hk:=L9 hc12;refine AW.seq ?_;refine Gi ?_;refine Qn 0 rfl (Qf J8) (Qn 1 rfl Bf (Qn 2 rfl (Qc rfl (lS t.num)) ?_));refine Qn 3 rfl (A3 rfl rfl rfl (by unfold maxLen;(try simp only [Cb,Cj,Cw]);omega)) ?_;refine Qn 4 rfl (Qf Ik) (Qn 5 rfl C9 ?_);refine Qn 6 rfl (A3 rfl rfl rfl (by unfold maxLen;(try simp only [Cb,Cj,Cw]);omega)) ?_;refine Qn 7 rfl (A3 rfl rfl rfl (by unfold maxLen;(try simp only [Cb,Cj,Cw]);omega)) ?_;refine Qn 8 rfl (Qf Po) (Qn 9 rfl C9 ?_);refine Qn 10 rfl (A3 rfl rfl rfl (by unfold maxLen;(try simp only [Cb,Cj,Cw]);omega)) ?_;refine Qn 11 rfl D1 ?_;refine Ej ?_;refine A5 (Rd (Qp (Qf Ef) (Qp B7 ?_)));refine Qp (Ai (n:=t.kids.length) tok rfl rfl rfl (by simp)) ?_;refine Qp Do (Ae (Ao (fun hc13=>?_) fun hc13=>?_))
  ·
   have hp:0<t.kids.length:=by have:=Gv hc13;omega
   refine (mH hp).elim fun x0 h0=>?_
   have hw0:=kids (by omega) x0 (B6 h0);have hw2:=hw0.2;have hk0:=Fj h h0;have hk13:x0.kind=13:=E5 (n:=13) (by have e0:Eh t 0 = .only 13:=by { unfold Eh;rw [hk];rfl };have:=hk0.2;rwa [e0] at this);have hfx:=(Gg (Gk hk0.1).1).2.2.2;have hnames:=cR hfx hk13;have e:=wt_tot1 hk h0;have e2:=zO hk13;have hix:=aK hk0.1;have htx:=(kF (Ks hf (B6 h0))).1;rw [e2] at e hw2;refine AW.region (Qp D2 (Qp (Qf Ef) (Qp B7 ?_)));refine Qp (Aa (c:=Aq) tok rfl rfl rfl rfl rfl rfl (by decide) (Cl h0)) ?_;refine Qp (Bo Aq) (Qp (Qc rfl (eB x0 hix htx hnames)) ?_);refine Qp (A3 rfl rfl rfl (by unfold maxLen;(try simp only [Cb,Cj,Cw]);omega)) ?_;refine Qp (A3 rfl rfl rfl (by unfold maxLen;(try simp only [Cb,Cj,Cw]);omega)) ?_;refine Qp D1 (Bs (Qp D2 ?_));refine Qp (A3 rfl rfl rfl (by unfold maxLen;(try simp only [Cb,Cj,Cw]);omega)) ?_;refine Qp D1 (Ra (Qr (.str _) ?_));rw [e]
   try rfl
  have hp:¬0<t.kids.length:=by have:=If hc13;omega
  have e:=wt_tot0 hk hp;refine A7 (Ad (Qp D2 ?_));refine Qp (A3 rfl rfl rfl (by unfold maxLen;(try simp only [Cb,Cj,Cw]);omega)) ?_;refine Qp D1 (Ra (Qr (.str _) ?_));rw [e]
  try rfl
 ·
  have hk:=L9 hc14;unfold En at hs;rw [hk] at hs
  replace hs:((t.kids.length:Int)==2)=true:=hs
  refine (iT (t:=t) (L9 hs)).elim fun x0 hx1=>?_
  refine hx1.elim fun x1 hq=>?_
  have h0:t.kids[0]? = some x0:=by rw [hq];rfl
  have h1:t.kids[1]? = some x1:=by rw [hq];rfl
  have hw0:=kids (by omega) x0 (B6 h0);have hw1:=kids (by omega) x1 (B6 h1);have hl0:=L1 t x0 (Ah x0);have hl1:=L1 t x1 (Ah x1);have hw2:=hw0.2;have hw3:=hw1.2;have e:=wt_bin hk hq;refine AW.seq ?_;refine Gi ?_;refine Qn 0 rfl (Bo Aq) (Qn 1 rfl (Qf Ef) (Qn 2 rfl B7 ?_));refine Qn 3 rfl (Aa (c:=Aq) tok rfl rfl rfl rfl rfl rfl (by decide) (Cl h0)) ?_;refine Qn 4 rfl (Bo Aq) (Qn 5 rfl (Qc rfl (Vb t x0 hw0)) ?_);refine Qn 6 rfl (A3 rfl rfl rfl (by unfold maxLen;(try simp only [Cb,Cj,Cw]);omega)) ?_;refine Qn 7 rfl (Qf J8) (Qn 8 rfl Bf (Qn 9 rfl (Qc rfl (mN t.num)) ?_));refine Qn 10 rfl (A3 rfl rfl rfl (by unfold maxLen;(try simp only [Cb,Cj,Cw]);omega)) ?_;refine Qn 11 rfl (A3 rfl rfl rfl (by unfold maxLen;(try simp only [Cb,Cj,Cw]);omega)) ?_;refine Qn 12 rfl (Bo Aq) (Qn 13 rfl (Qf Ef) (Qn 14 rfl B7 ?_));refine Qn 15 rfl (Aa (c:=Aq) tok rfl rfl rfl rfl rfl rfl (by decide) (Cl h1)) ?_;refine Qn 16 rfl (Bo Aq) (Qn 17 rfl (Qc rfl (Vb t x1 hw1)) ?_);refine Qn 18 rfl (A3 rfl rfl rfl (by unfold maxLen;(try simp only [Cb,Cj,Cw]);omega)) ?_;refine Qn 19 rfl D1 ?_;refine Ej ?_;refine A5 (AW.ret (B9 (Av (Qr (.str _) ?_))));rw [e]
  try rfl
 ·
  have hk:=L9 hc15;unfold En at hs;rw [hk] at hs
  replace hs:((t.kids.length:Int)==1)=true:=hs
  refine (Yv (t:=t) (L9 hs)).elim fun x0 hq=>?_
  have h0:t.kids[0]? = some x0:=by rw [hq];rfl
  have hw0:=kids (by omega) x0 (B6 h0);have hl0:=L1 t x0 (Ah x0);have hw2:=hw0.2;have e:=wt_not hk hq;refine AW.seq ?_;refine Gi ?_;refine Qn 0 rfl (Bo Aq) (Qn 1 rfl (Qf Ef) (Qn 2 rfl B7 ?_));refine Qn 3 rfl (Aa (c:=Aq) tok rfl rfl rfl rfl rfl rfl (by decide) (Cl h0)) ?_;refine Qn 4 rfl (Bo Aq) (Qn 5 rfl (Qc rfl (Vb t x0 hw0)) ?_);refine Qn 6 rfl (A3 rfl rfl rfl (by unfold maxLen;(try simp only [Cb,Cj,Cw]);omega)) ?_;refine Qn 7 rfl D1 ?_;refine Ej ?_;refine A5 (AW.ret (B9 (Av (Qr (.str _) ?_))));rw [e]
  try rfl
 have e:=wt_call k0 k18 ⟨N4 hc1,N4 hc3,N4 hc4,N4 hc5,N4 hc6,N4 hc8,N4 hc9,N4 hc10,N4 hc11,N4 hc12,N4 hc14,N4 hc15⟩;have hb2:=hbig;rw [e] at hb2;simp only [Cb,Cj,Cw] at hb2;have hn5:=N4 hc5;refine Rf (AW.seq ?_);refine Gi ?_;refine Qn 0 rfl (Qf Aq) (Qn 1 rfl Bf (Qn 2 rfl (Qc rfl (sX t.kind)) ?_));refine Qn 3 rfl (A3 rfl rfl rfl (by unfold maxLen;(try simp only [Cb,Cj,Cw]);omega)) ?_;refine Qn 4 rfl (Bo Aq) ?_;refine Qn 5 rfl (Qc rfl (pS t (by omega) (kids hn5) (by omega))) ?_;refine Qn 6 rfl (A3 rfl rfl rfl (by unfold maxLen;(try simp only [Cb,Cj,Cw]);omega)) ?_;refine Qn 7 rfl (A3 rfl rfl rfl (by unfold maxLen;(try simp only [Cb,Cj,Cw]);omega)) ?_;refine Qn 8 rfl D1 ?_;refine Ej ?_;refine A5 (AW.ret (Qr (.str _) ?_));rw [e]
 try rfl
theorem dK (t:Syn)(p:Pl)(hfew:G0 t=true)(hp:p.fine)(ho:p.ok):An Tryz.prog 104 [.agg (cSyn t),.int .i64 p.role] (.tuple [.str (Bh t p).1,.int .i64 (Bh t p).2]):=by
 refine An.body (n:=23) tok Tryz.func104 rfl rfl rfl fun H=>?_
 refine Ad (Qp (Ed Aq) (Qp D1 (Qp Al (Ae (Rd (Qp (Bo Aq) (Qp Am (Qp (Qc rfl (r_check t p ho hfew)) (Qp Al (Bs (Qp Am (Qp Bu (Ae (Ao (fun hc1=>Ad (Qp Am (Qp D1 (Qp Al (Rc (M6 (.str _) (Iq _) ?_)))))) fun hc1=>?_))))))))))))))
 ·
  have h9:Bh t p=([],Ba t p):=if_pos hc1;rw [h9];rfl
 have h0:Ba t p=0:=by simpa using hc1
 have hkd:=hp _ (Gg (Gk h0).1).1;have hwl:=U6 h0 hfew;refine A7 (Rd (Qp (Bo Aq) (Qp (Qc rfl (tP t hfew)) (Qp Do (Ae (Ao (fun hc2=>Ad (Qp D1 (Qp Al (Rc (M6 (.str _) (Iq _) ?_))))) fun hc2=>?_))))))
 ·
  have h9:Bh t p=([],12):=(Bi hc1).trans (if_pos hc2);rw [h9];rfl
 refine A7 (Ad (Qp (Bo Aq) (Qp (Qc rfl (r_write t p h0 hfew hkd.1 hkd.2.1 hkd.2.2)) (Qp D1 (Ae (Rd (Qp D2 (Qp (Bx tok rfl rfl rfl rfl) (Qp Do (Ae (Ao (fun hc3=>Ad (Qp D1 (Qp Al (Rc (M6 (.str _) (Iq _) ?_))))) fun hc3=>A7 (Ad (Qp D2 (Qp D1 (Qp Al (Rb (M6 (.str _) (Iq _) ?_)))))))))))))))))
 ·
  have h9:Bh t p=([],13):=((Bi hc1).trans (Bi hc2)).trans (if_pos hc3);rw [h9];rfl
 have h9:Bh t p=(Ah t,0):=((Bi hc1).trans (Bi hc2)).trans (Bi hc3);rw [h9];rfl
theorem r_Query (t:Syn)(hfew:G0 t=true):An Tryz.prog 48 [.agg (cSyn t)] (.tuple [.str (Bh t (.only 3)).1,.int .i64 (Bh t (.only 3)).2]):=by
 refine An.body (n:=8) tok Tryz.func48 rfl rfl rfl fun H=>?_
 refine Ad (Qp (Ed Aq) (Qp D1 (Qp Al (Bs (Qp (Bo Aq) (Qp (Qc rfl (dK t (.only 3) hfew Xo (.inr (.inr (.inr (.inl rfl)))))) (Qp uM (Qp Ib (Qp D1 (Qp Al (Rb (M6 (.str _) (Iq _) ?_))))))))))));rfl
theorem r_Check (t:Syn)(hfew:G0 t=true):An Tryz.prog 60 [.agg (cSyn t)] (.int .i64 (Bh t (.only 0)).2):=by
 refine An.body (n:=11) tok Tryz.func60 rfl rfl rfl fun H=>?_
 refine Ad (Qp (Ed Aq) (Qp Al (Bs (Qp (Bo Aq) (Qp (Qc rfl (dK t (.only 0) hfew Ur (.inl rfl))) (Qp Lm (Qp uM (Qp Ib (Qp D1 (Qp Al (Bs (Qp Am (Qp Al (Rb (Qr (Iq _) ?_)))))))))))))));rfl

set_option maxHeartbeats 12800000
set_option maxRecDepth 20000

theorem yU {k n:Nat}(hG:Me [(decide ((k:Int)<(n:Int)),true)]):k<n:=by
 have h:decide ((k:Int)<(n:Int))=true:=hG _ (So ..);have:=Gv h;omega
theorem kidN_of {t a:Syn}{k:Nat}(h:t.kids[k]? = some a):Bb t k=a:=by unfold Bb;rw [Nv,h];rfl
theorem tyf_end {t:Syn}{out:List e8Sc}{k:Nat}(h:(decide ((k:Int)<(t.kids.length:Int))&&((Bb t k).kind==1))=false):Cq out (t.kids.drop k)=(out,Mt):=by
 by_cases hl:k<t.kids.length
 ·
  rw [decide_eq_true (by omega),K5] at h;exact tyf_e (Cp hl) h
 rw [O7 (by omega),Cq]
theorem vK {n k:Nat}(h:k<n):(Jh n k).set k (-1)=Jh n (k+1):=by
 unfold Jh;rw [List.set_append,if_neg (by simp),gB,Nat.sub_self];obtain ⟨m,hm⟩:∃m,n-k=m+1:=⟨n-k-1,by omega⟩;rw [hm,show n-(k+1)=m by omega,List.replicate_succ,List.set_cons_zero,List.replicate_succ',J1,List.singleton_append]
theorem n4_vars (T:List e8Sc)(hT:TsOK T)(t:Syn)(ht:Es t)(hc:Ba t .pats=0):An Tryz.prog 105 [.sl 2 (T.map F1),.agg (cSyn t)] (.tuple [.sl 2 ((gS T [] (Hj t)).1.map Ls),.int .i64 (gS T [] (Hj t)).2.pos,.int .i64 (gS T [] (Hj t)).2.err]):=by
 have hel:(Hj t).length≤1048576:=by have h:=Yp t;have:=He ht;omega
 refine An.body (n:=64) tok Tryz.func105 rfl rfl rfl fun H=>?_
 refine Ad (Qp (Ed Aq) (Qp (Be (z:=2) rfl) (Qp Al (Qp Al (Bs (Qp Qk ?_))))));refine AOL.ghost (GS.row (t:=7) 50 2 rfl) ?_;refine Bs (Qp (Bo Aq) (Qp (Qc rfl (sN t ht hc)) (Qp Sr (Ae (Rd (Qp Al (Ae (AW.block ?_))))))));refine AW.Aam (fun (q:Nat×List Va×List (List AV)×Value)=>(⟨[(0,.sl 2 (T.map F1)),(4,.sl 2 []),(5,.int .i64 0),(6,.int .i64 0),(7,.row q.2.2.2 2 q.2.2.1),(8,.sl 6 ((Hj t).map Cr)),(9,.int .i64 (q.1:Int))],.row q.2.2.2 q.2.2.1.length 50 2::H,64⟩:St)) (fun q=>q.1≤(Hj t).length∧gS T [] (Hj t)=gS T q.2.1 ((Hj t).drop q.1)∧q.2.1.length=q.1∧q.2.2.1=q.2.1.map Ls∧q.1≤16) (fun q=>(Hj t).length-q.1) ((0,[],[],.slice none 0 0)) ?_ Bv ?_
 · exact ⟨Dh _,rfl,rfl,rfl,Dh _⟩
 rintro q hR;refine Rd (Qp Am (Qp Fh ?_));refine Qp (Ai (n:=(Hj t).length) tok rfl rfl rfl (by simp)) ?_;refine Qp Bp (Ae (Ao (fun hc1=>?_) fun hc1=>?_))
 ·
  obtain ⟨a,ha⟩:=By hc1;have hlt:=Bj ha;have hm:=B6 ha;have hrw:=hR.2.2.2.1;have hvl:=hR.2.2.1;have hrl:q.2.2.1.length=q.2.1.length:=by rw [hrw,D9]
  have hso:∀c∈q.2.2.1,Bc c=true:=by rw [hrw];exact scVa _
  refine A7 (AW.seq (AW.block (Rd (Qp Am (Qp Ap (Ae (Ao (fun hc2=>AW.seq ?_) fun hc2=>A7 (Ad (Qp Fh (Qp Fh (Qp Am ?_)))))))))))
  ·
   refine Gi ?_;refine Qn 0 rfl Fh (Qn 1 rfl Am ?_);refine Qn 2 rfl (Aa (c:=Aq) tok rfl rfl rfl rfl rfl rfl (by omega) (Bz ha)) ?_;refine Qn 3 rfl (Qf [Iq _]) (Qn 4 rfl Bf (Qn 5 rfl (Be (z:=2) rfl) (Qn 6 rfl Al (Qn 7 rfl Al ?_))));refine Ej ?_;refine A5 (Su (Rj (Av ?_)));refine ⟨.inr rfl,[.sl _ _,Iq _,Iq _],.cons (.tmp _ _ rfl) <| .cons (.tmp _ _ rfl) <| .cons (.tmp _ _ rfl) <| .nil,.cons _ (.refl _),?_⟩;exact Eq.trans rfl (congrArg (fun q:List Va×Fa=>AV.tuple [.sl 2 (q.1.map Ls),.int .i64 q.2.pos,.int .i64 q.2.err]) (hR.2.1.trans (vV ha (ve_5 hvl hc2) (by decide)))).symm
  refine Qp (Aa (c:=Aq) tok rfl rfl rfl rfl rfl rfl (by omega) (Bz ha)) ?_;refine Qp (Qf Ik) (Qp C9 (Qp (Qc rfl (vI T hT.tl a.text)) (Qp Al (Ae (Rd (Qp Am (Qp Bp (Ae (Ao (fun hc3=>AW.seq ?_) fun hc3=>A7 (Rd (Qp (A0 (v:=.row _ _ _) rfl) (Qp Fh (Qp Am ?_)))))))))))))
  ·
   refine Gi ?_;refine Qn 0 rfl Fh (Qn 1 rfl Am ?_);refine Qn 2 rfl (Aa (c:=Aq) tok rfl rfl rfl rfl rfl rfl (by omega) (Bz ha)) ?_;refine Qn 3 rfl (Qf [Iq _]) (Qn 4 rfl Bf (Qn 5 rfl (Be (z:=2) rfl) (Qn 6 rfl Al (Qn 7 rfl Al ?_))));refine Ej ?_;refine A5 (Su (Rj (Av ?_)));refine ⟨.inr rfl,[.sl _ _,Iq _,Iq _],.cons (.tmp _ _ rfl) <| .cons (.tmp _ _ rfl) <| .cons (.tmp _ _ rfl) <| .nil,.cons _ (.refl _),?_⟩;exact Eq.trans rfl (congrArg (fun q:List Va×Fa=>AV.tuple [.sl 2 (q.1.map Ls),.int .i64 q.2.pos,.int .i64 q.2.err]) (hR.2.1.trans (vV ha (ve_8 hvl hc2 hc3) (by decide)))).symm
  refine Qp (Aa (c:=Aq) tok rfl rfl rfl rfl rfl rfl (by omega) (Bz ha)) ?_;refine Qp (Qf Po) (Qp C9 ?_);refine AOL.ghost (GS.unrow 40 rfl) ?_;refine Qp (Qc rfl (n4_varR hrw (by omega) a.name)) ?_;refine Qp Gb (Ae (Ao (fun hc4=>AW.seq ?_) fun hc4=>A7 (AW.region (Qp (A0 (v:=.row _ _ _) rfl) (Qp Fh (Qp Am ?_))))))
  ·
   refine Gi ?_;refine Qn 0 rfl Fh (Qn 1 rfl Am ?_);refine Qn 2 rfl (Aa (c:=Aq) tok rfl rfl rfl rfl rfl rfl (by omega) (Bz ha)) ?_;refine Qn 3 rfl (Qf [Iq _]) (Qn 4 rfl Bf (Qn 5 rfl (Be (z:=2) rfl) (Qn 6 rfl Al (Qn 7 rfl Al ?_))));refine Ej ?_;refine A5 (Su (Rj (Av ?_)));refine ⟨.inr rfl,[.sl _ _,Iq _,Iq _],.cons (.tmp _ _ rfl) <| .cons (.tmp _ _ rfl) <| .cons (.tmp _ _ rfl) <| .nil,.cons _ (.refl _),?_⟩;exact Eq.trans rfl (congrArg (fun q:List Va×Fa=>AV.tuple [.sl 2 (q.1.map Ls),.int .i64 q.2.pos,.int .i64 q.2.err]) (hR.2.1.trans (vV ha (ve_7 hvl hc2 hc3 hc4) (by decide)))).symm
  refine Qp (Aa (c:=Aq) tok rfl rfl rfl rfl rfl rfl (by omega) (Bz ha)) ?_;refine Qp (Qf Po) (Qp C9 (Qp Am (Qp (Du H6) (Qp (Ak (es:=[H6]) tok rfl rfl rfl rfl rfl rfl rfl rfl rfl) ?_))));refine Qe (B8 (k:=0) tok rfl rfl rfl rfl rfl rfl rfl rfl (Dy rfl) (hso) (by simp;omega) (by simp [maxLen];omega)) ?_;rintro _ _ ⟨v62,rfl,rfl⟩;refine Qp (A8 (v:=.row _ _ _) rfl) (Rk (AW.region (Qp Am (Qp Dl (Qp Al (Ae ?_))))));refine ⟨(q.1+1,q.2.1 ++ [Ki T a],q.2.2.1 ++ [[.str a.name,.int .i64 (B4 (G8 T) a.text)]],v62),?_,?_,Bv⟩
  · exact ⟨hlt,hR.2.1.trans (vg_on ha (ve_0 hvl hc2 hc3 hc4)),by simp [hvl],by simp only;rw [hrw,Tq,←ve_v hc3];rfl,Yu hR.2.2.2.2 hc2⟩
  simp only;omega
 have hde:=D8 hc1;have hall:=hR.2.1;rw [hde] at hall;refine AW.exit ?_;refine Bk (Ri (Ad ?_));refine Qp (A0 (v:=.row _ _ _) rfl) ?_;refine AOL.ghost (GS.unrow 63 rfl) ?_;refine Qp Sr (Qp Al (Qp Al (Rb ?_)));refine ⟨.inr rfl,[.sl _ _,Iq _,Iq _],.cons (.tmp _ _ rfl) <| .cons (.tmp _ _ rfl) <| .cons (.tmp _ _ rfl) <| .nil,.cons _ (.refl _),?_⟩;exact Eq.trans (congrArg (fun l:List (List AV)=>AV.tuple [.sl 2 l,.int .i64 0,.int .i64 0]) hR.2.2.2.1) (congrArg (fun q:List Va×Fa=>AV.tuple [.sl 2 (q.1.map Ls),.int .i64 q.2.pos,.int .i64 q.2.err]) (hall:gS T [] (Hj t)=(q.2.1,Mt))).symm
theorem n4_key (T:List e8Sc)(V:List Va)(hrv:RvOK T V)(n:A1)(hT:0<T.length):An Tryz.prog 106 [.sl 2 (T.map F1),.sl 2 (V.map Ls),.str n] (.tuple [.sl 1 ((X1 T V n).1.map cI),.bool (X1 T V n).2]):=by
 have htl:=hrv.tl;have hvl:=hrv.vl;have hmx:1048576≤maxLen:=by decide
 refine An.body (n:=51) tok Tryz.func106 rfl rfl rfl fun H=>?_
 refine Ad (Qp (Be (z:=1) rfl) (Qp Au (Bs (Qp Fh ?_))));refine Qp (Ai (n:=T.length) tok rfl rfl rfl (by simp)) ?_;refine Qe (Xe (n:=T.length) tok rfl rfl rfl rfl rfl rfl rfl (by show 8*T.length≤_;omega) (by omega)) ?_;rintro _ _ ⟨b14,rfl,rfl⟩;refine Qp Qk ?_;refine AOL.ghost (GS.cells 0 rfl ((qW T.length).trans (congrArg bI (show List.replicate T.length 0=Jh T.length 0 by simp [Jh])))) ?_;refine Ae (Rd (Qp Al (Ae (AW.block ?_))));refine AW.Aam (fun (k:Nat)=>(⟨[(0,.sl 2 (T.map F1)),(1,.sl 2 (V.map Ls)),(2,.str n),(8,.val (.slice (some ⟨b14,0,none⟩) T.length T.length)),(9,.int .i64 (k:Int))],.box b14 3 (bI (Jh T.length k))::H,51⟩:St)) (fun k=>k≤T.length) (fun k=>T.length-k) (0) ?_ Bv ?_
 · exact Dh _
 rintro k hK;refine Rd (Qp Am (Qp Bw (Qp (cY tok rfl rfl rfl) (Qp Bp (Ae (Ao (fun hc1=>?_) fun hc1=>?_))))))
 ·
  have hlt0:k<T.length:=by have:=Gv hc1;omega
  refine A7 (AW.seq (AW.block (AW.region (Qp Bw (Qp Am ?_)))));refine Qp (Dm (o':=k) tok rfl rfl rfl rfl rfl (by omega) (by omega) (wT _)) ?_;refine Rt (A6 (k:=0) (v:=Iq _) (cs':=bI (Jh T.length (k+1))) (H2:=_::_) tok rfl rfl rfl rfl rfl rfl (gA (by rw [Qd (by omega)];omega)) ((gJ (by rw [Qd (by omega)];omega)).trans (congrArg bI (vK hlt0))) rfl) ?_;refine Rk (AW.region (Qp Am (Qp Dl (Qp Al (Ae ?_)))));refine ⟨k+1,?_,?_,Bv⟩
  · omega
  omega
 have hkn:k=T.length:=by have:=If hc1;omega
 subst hkn;refine AW.exit ?_;refine Bk (Ri (Rd (Qp Al (Ae (AW.block ?_)))));refine AW.ghost (GS.cells 0 rfl (congrArg bI (cU T.length))) ?_;refine AW.Aam (fun (q:Nat×List Int)=>(⟨[(0,.sl 2 (T.map F1)),(1,.sl 2 (V.map Ls)),(2,.str n),(8,.val (.slice (some ⟨b14,0,none⟩) T.length T.length)),(10,.int .i64 (q.1:Int))],.box b14 3 (bI q.2)::H,51⟩:St)) (fun q=>q.1≤V.length∧q.2.length=T.length∧X1 T V n=W0 T n (V.drop q.1) q.2) (fun q=>V.length-q.1) ((0,aX T.length)) ?_ Bv ?_
 · exact ⟨Dh _,by simp [aX],rfl⟩
 rintro q hR;refine Rd (Qp Am (Qp Fh ?_));refine Qp (Ai (n:=V.length) tok rfl rfl rfl (by simp)) ?_;refine Qp Bp (Ae (Ao (fun hc2=>?_) fun hc2=>?_))
 ·
  obtain ⟨a,ha⟩:=By hc2;have hlt:=Bj ha;have hm:=B6 ha;have hvt:=hrv.ty a hm;refine (Rr hrv hm).elim fun sc hsc=>?_
  have hfl:=hrv.fl sc (B6 hsc);have hb:a.type.toNat<q.2.length:=by have:=hR.2.1;omega
  refine A7 (AW.seq (AW.block (Ad (Qp Fh (Qp Am ?_)))));refine Qp (Aa (c:=H6) tok rfl rfl rfl rfl rfl rfl (by omega) (Ct ha)) ?_;refine Qp (Qf [Iq _]) (Qp Bf (Qp Al (Bs (Qp Bw (Qp Am (Qp Fh (Qp Am ?_)))))));refine Qp (Aa (c:=Ji) tok rfl rfl rfl rfl rfl rfl (hvt.1) (Ct hsc)) (Qp (Qf [_]) (Qp B7 (Qp D2 (Qp (Qc rfl (Zn sc.fields hfl n)) (Qp (Dm (o':=a.type.toNat) tok rfl rfl rfl rfl rfl (hvt.1) (hvt.2) (wT _)) (Rt (A6 (k:=0) (v:=Iq _) (cs':=bI (q.2.set a.type.toNat (Gj sc n))) (H2:=_::_) tok rfl rfl rfl rfl rfl rfl (gA hb) (gJ hb) rfl) (Bs (Qp Bw (Qp Am (Qp (Dm (o':=a.type.toNat) tok rfl rfl rfl rfl rfl (hvt.1) (hvt.2) (wT _)) (AOL.Aan (Af (k:=0) (c:=.int .i64 (Gj sc n)) tok rfl rfl rfl (dM hb)) rfl rfl (Qp Bp (Ae (Ao (fun hc3=>Ad (Qp (Be (z:=1) rfl) (Qp Au (Ra (Av (B9 (Av ?_))))))) fun hc3=>Rf (AW.region (Qp Am (Qp Dl (Qp Al (Ae ?_)))))))))))))))))))
  ·
   refine ⟨.inr rfl,[.sl _ _,.bool _],.cons (.tmp _ _ rfl) <| .cons (.tmp _ _ rfl) <| .nil,.cons _ (.refl _),?_⟩;exact Eq.trans rfl (congrArg (fun q:List Int×Bool=>AV.tuple [.sl 1 (q.1.map cI),.bool q.2]) (hR.2.2.trans (oZ ha hsc hc3))).symm
  refine ⟨(q.1+1,q.2.set a.type.toNat (Gj sc n)),?_,?_,Bv⟩
  · exact ⟨hlt,by simp only [List.length_set];exact hR.2.1,hR.2.2.trans (wM ha hsc hc3)⟩
  simp only;omega
 have hde:=D8 hc2;have hall:=hR.2.2;rw [hde] at hall;refine AW.exit ?_;refine Bk (Ri (Ad ?_));refine AOL.ghost (GS.freezeSl (t:=8) (z:=1) (es:=q.2.map cI) 0 rfl rfl (pU _) (by rw [D9];exact hR.2.1.symm) (C6 _) (by unfold maxLen;omega) (iB (fun _=>rfl) _) rX) ?_;refine Qp Fh (Qp Sr (Qp Au (Rb (M6 (.sl _ _) (.bool _) ?_))));exact Eq.trans rfl (congrArg (fun q:List Int×Bool=>AV.tuple [.sl 1 (q.1.map cI),.bool q.2]) ((hall.trans (by rw [W0]):X1 T V n=(q.2,true)))).symm
theorem wX (t:Syn)(hf:G0 t=true):An Tryz.prog 20 [.agg (cSyn t)] (.tuple [.sl 2 ((nW t).1.map F1),.int .i64 (nW t).2.1,.int .i64 (nW t).2.2]):=by
 have ht:=Og hf;have hkl:=E3 ht;refine An.body (n:=105) tok Tryz.func20 rfl rfl rfl fun H=>?_
 refine Ad (Qp (Ed Aq) (Qp (Be (z:=2) rfl) (Qp Al (Qp Al (Ae (Rd (Qp (Bo Aq) (Qp (Qc rfl (r_Check t hf)) (Qp Bu (Ae (Ao (fun hc1=>Ad (Qp (Be (z:=2) rfl) (Qp Al (Qp Al (Rc ?_))))) fun hc1=>A7 (Ad (Qp Qk ?_)))))))))))))
 ·
  refine ⟨.inr rfl,[.sl _ _,Iq _,Iq _],.cons (.tmp _ _ rfl) <| .cons (.tmp _ _ rfl) <| .cons (.tmp _ _ rfl) <| .nil,.refl _,?_⟩;exact Eq.trans rfl (congrArg (fun q:List e8Sc×Int×Int=>AV.tuple [.sl 2 (q.1.map F1),.int .i64 q.2.1,.int .i64 q.2.2]) (tq_1 hc1)).symm
 refine AOL.ghost (GS.row (t:=5) 69 2 rfl) ?_;refine Ae (Rd (Qp Al (Ae (AW.block ?_))));refine AW.Aam (fun (q:Nat×List e8Sc×List (List AV)×Value)=>(⟨[(1,.ptr (cSyn t)),(2,.sl 2 []),(3,.int .i64 0),(4,.int .i64 0),(5,.row q.2.2.2 2 q.2.2.1),(6,.int .i64 (q.1:Int))],.row q.2.2.2 q.2.2.1.length 69 2::H,105⟩:St)) (fun q=>q.1≤t.kids.length∧Cq [] t.kids=Cq q.2.1 (t.kids.drop q.1)∧q.2.1.length≤16∧q.2.2.1=q.2.1.map F1) (fun q=>t.kids.length-q.1) ((0,[],[],.slice none 0 0)) ?_ Bv ?_
 · exact ⟨Dh _,rfl,Dh _,rfl⟩
 rintro q hR;refine Rd (Qp Am (Qp (Qf Ef) (Qp B7 ?_)));refine Qp (Ai (n:=t.kids.length) tok rfl rfl rfl (by simp)) ?_;refine Qp Bp (Qp A9 (Qg [] Qw (Qf Ef) (Qg [(19,_)] Qw B7 (Qg [] Qw Am ?_))));refine AOL.Aal (y:=.ptr _) _ [(20,_),(21,_)] rfl (uB.all ⟨Ent.Aak _ _,Ent.Aak _ _,trivial⟩) (fun hG=>Aa (c:=Aq) tok rfl rfl rfl rfl rfl rfl (by omega) (Bz (Cp (yU hG)))) rfl ?_;refine Qg [(22,_)] Qw (Qf Aq) (Qg [(23,_)] Qw Bf (Qg [(24,_)] Qw Ap (Qp Ea (Ae (Ao (fun hc2=>?_) fun hc2=>AW.exit ?_)))))
 ·
  simp only [G2] at hc2;obtain ⟨a,ha⟩:=By hc2.1;have hlt:=Bj ha;have hm:=B6 ha;have ho16:=hR.2.2.1;have hrw:=hR.2.2.2;have hrl:q.2.2.1.length=q.2.1.length:=by rw [hrw,D9]
  have hso:∀c∈q.2.2.1,Bc c=true:=by rw [hrw];exact scSc _
  have hma:=C4 ht hm;have hak:=E3 hma;have hk1:(a.kind==1)=true:=by have h:((Bb t q.1).kind==1)=true:=hc2.2;rw [kidN_of ha] at h;exact h
  refine A7 (AW.seq (AW.block (Ad (Qp (Qf Ef) (Qp B7 (Qp Am ?_))))));refine Qp (Aa (c:=Aq) tok rfl rfl rfl rfl rfl rfl (by omega) (Bz ha)) ?_;refine Qp (Bo Aq) (Dt L7 fun b7=>?_);refine Bt 0 Aq (_::_::_) ?_;refine AOL.ghost (GS.freeze (t:=7) 0 rfl rfl) ?_;refine Ae (Rd (Qp (A0 (v:=.row _ _ _) rfl) (Qp (Ec (n:=q.2.1.length) tok rfl rfl rfl (hrl)) (Qp Ap (Ae (Ao (fun hc3=>AW.seq ?_) fun hc3=>A7 (Rd (Qp (A0 (v:=.row _ _ _) rfl) (Qp (Qf Ik) (Qp C9 ?_))))))))))
  ·
   refine Gi ?_;refine Qn 0 rfl (Qf [Iq _]) (Qn 1 rfl Bf (Qn 2 rfl (Be (z:=2) rfl) (Qn 3 rfl Al (Qn 4 rfl Al ?_))));refine Ej ?_;refine A5 (Su (Rj (Av ?_)));refine ⟨.inr rfl,[.sl _ _,Iq _,Iq _],.cons (.tmp _ _ rfl) <| .cons (.tmp _ _ rfl) <| .cons (.tmp _ _ rfl) <| .nil,.cons _ (.refl _),?_⟩;exact Eq.trans rfl (congrArg (fun q:List e8Sc×Int×Int=>AV.tuple [.sl 2 (q.1.map F1),.int .i64 q.2.1,.int .i64 q.2.2]) (tD hc1 (hR.2.1.trans (tyf_5 ha hk1 hc3)))).symm
  refine AOL.ghost (GS.unrow 39 rfl) ?_;refine Qp (Qc rfl (n4_typR hrw (by omega) a.text)) ?_;refine Qp Gb (Ae (Ao (fun hc4=>?_) fun hc4=>?_))
  ·
   have hc4n:(G8 q.2.1).contains a.text=true:=by rw [←Wm];exact hc4
   refine AW.seq ?_;refine Gi ?_;refine Qn 0 rfl (Qf [Iq _]) (Qn 1 rfl Bf (Qn 2 rfl (Be (z:=2) rfl) (Qn 3 rfl Al (Qn 4 rfl Al ?_))));refine Ej ?_;refine A5 (Su (Rj (Av ?_)));refine ⟨.inr rfl,[.sl _ _,Iq _,Iq _],.cons (.tmp _ _ rfl) <| .cons (.tmp _ _ rfl) <| .cons (.tmp _ _ rfl) <| .nil,.cons _ (.refl _),?_⟩;exact Eq.trans rfl (congrArg (fun q:List e8Sc×Int×Int=>AV.tuple [.sl 2 (q.1.map F1),.int .i64 q.2.1,.int .i64 q.2.2]) (tD hc1 (hR.2.1.trans (tyf_7 ha hk1 hc3 hc4n)))).symm
  have hc4n:(G8 q.2.1).contains a.text=false:=by rw [←Wm];exact hc4
  refine A7 (Ad (Qp (Qf Ik) (Qp C9 ?_)));refine Qp (Im (l0:=[.str [],.val (.slice none 0 0)]) (l:=Ji) tok rfl rfl (by kernel_rfl) rfl) ?_;refine Dt [.str [],.sl 2 []] fun b8=>?_
  refine Bt 0 Ji (_::_::_) ?_;refine AOL.ghost (GS.cellRow 0 1 111 2 rfl rfl rfl rfl) ?_;refine Ae (Rd (Qp Al (Ae (AW.block ?_))));refine AW.Aam (fun (p:Nat×List Fi×List (List AV)×Value)=>(⟨[(1,.ptr (cSyn t)),(2,.sl 2 []),(3,.int .i64 0),(4,.int .i64 0),(5,.row q.2.2.2 2 q.2.2.1),(6,.int .i64 (q.1:Int)),(7,.ptr (cSyn a)),(8,.val (.pointer (some ⟨b8,0,none⟩))),(9,.int .i64 (p.1:Int))],.row p.2.2.2 p.2.2.1.length 111 2 :: .box b8 69 [.str a.text,.row p.2.2.2 2 p.2.2.1] :: .row q.2.2.2 q.2.2.1.length 69 2::H,105⟩:St)) (fun p=>p.1≤a.kids.length∧Em [] a.kids=Em p.2.1 (a.kids.drop p.1)∧p.2.1.length≤8∧p.2.2.1=p.2.1.map lY) (fun p=>a.kids.length-p.1) ((0,[],[],.slice none 0 0)) ?_ Bv ?_
  · exact ⟨Dh _,rfl,Dh _,rfl⟩
  rintro p hP;refine Rd (Qp Am (Qp (Qf Ef) (Qp B7 ?_)));refine Qp (Ai (n:=a.kids.length) tok rfl rfl rfl (by simp)) ?_;refine Qp Bp (Ae (Ao (fun hc5=>?_) fun hc5=>?_))
  ·
   obtain ⟨x,hax⟩:=By hc5;have hltx:=Bj hax;have hmx:=B6 hax;have hf8:=hP.2.2.1;have hfw:=hP.2.2.2;have hfl:p.2.2.1.length=p.2.1.length:=by rw [hfw,D9]
   have hsf:∀c∈p.2.2.1,Bc c=true:=by rw [hfw];exact scFi _
   refine A7 (AW.seq (AW.block (Rd (Qp Cc (AOL.Aan (Af (k:=1) (c:=.row _ _ _) tok rfl rfl rfl rfl) rfl rfl (Qp (Ec (n:=p.2.1.length) tok rfl rfl rfl (hfl)) (Qp Ap (Ae (Ao (fun hc6=>AW.seq ?_) fun hc6=>A7 (AW.seq (AW.seq ?_)))))))))))
   ·
    refine Gi ?_;refine Qn 0 rfl (Qf Ef) (Qn 1 rfl B7 (Qn 2 rfl Am ?_));refine Qn 3 rfl (Aa (c:=Aq) tok rfl rfl rfl rfl rfl rfl (by omega) (Bz hax)) ?_;refine Qn 4 rfl (Qf [Iq _]) (Qn 5 rfl Bf (Qn 6 rfl (Be (z:=2) rfl) (Qn 7 rfl Al (Qn 8 rfl Al ?_))));refine Ej ?_;refine A5 (Su (Rj (Av (B9 (Av (Av (B9 (Av ?_))))))));refine ⟨.inr rfl,[.sl _ _,Iq _,Iq _],.cons (.tmp _ _ rfl) <| .cons (.tmp _ _ rfl) <| .cons (.tmp _ _ rfl) <| .nil,.cons _ (.cons _ (.cons _ (.refl _))),?_⟩;exact Eq.trans rfl (congrArg (fun q:List e8Sc×Int×Int=>AV.tuple [.sl 2 (q.1.map F1),.int .i64 q.2.1,.int .i64 q.2.2]) (tD hc1 (hR.2.1.trans (tyf_f ha hk1 hc3 hc4n (hP.2.1.trans (fld_5 hax hc6)) (show (5:Int)≠0 by decide))))).symm
   refine AW.draw mixed (fun H'=>_∈H') (B6 (i:=1) rfl) (by kernel_rfl) ?_;refine Qn 0 rfl Cc (Qn 1 rfl (OpP.Aap (fun k=>Af (k:=k) (c:=.row _ _ _) tok rfl rfl rfl rfl) (fun _ h=>h)) ?_);refine Qn 2 rfl (Qf Ef) (Qn 3 rfl B7 (Qn 4 rfl Am ?_));refine Qn 5 rfl (Aa (c:=Aq) tok rfl rfl rfl rfl rfl rfl (by omega) (Bz hax)) ?_;refine Qn 6 rfl (Qf Ik) (Qn 7 rfl C9 ?_);refine Qn 8 rfl (Qc rfl (An.row1 (n4_fldR hfw (by omega) x.text))) ?_;refine Qn 9 rfl Gb ?_;refine Ej ?_;refine A5 (Ao (fun hc7=>?_) fun hc7=>?_)
   ·
    have hc7n:(p.2.1.map (·.name)).contains x.text=true:=by rw [←Wm];exact hc7
    refine AW.seq ?_;refine Gi ?_;refine Qn 0 rfl (Qf Ef) (Qn 1 rfl B7 (Qn 2 rfl Am ?_));refine Qn 3 rfl (Aa (c:=Aq) tok rfl rfl rfl rfl rfl rfl (by omega) (Bz hax)) ?_;refine Qn 4 rfl (Qf [Iq _]) (Qn 5 rfl Bf (Qn 6 rfl (Be (z:=2) rfl) (Qn 7 rfl Al (Qn 8 rfl Al ?_))));refine Ej ?_;refine A5 (Su (Rj (Av (B9 (Av (Av (B9 (Av ?_))))))));refine ⟨.inr rfl,[.sl _ _,Iq _,Iq _],.cons (.tmp _ _ rfl) <| .cons (.tmp _ _ rfl) <| .cons (.tmp _ _ rfl) <| .nil,.cons _ (.cons _ (.cons _ (.refl _))),?_⟩;exact Eq.trans rfl (congrArg (fun q:List e8Sc×Int×Int=>AV.tuple [.sl 2 (q.1.map F1),.int .i64 q.2.1,.int .i64 q.2.2]) (tD hc1 (hR.2.1.trans (tyf_f ha hk1 hc3 hc4n (hP.2.1.trans (fld_7 hax hc6 hc7n)) (show (7:Int)≠0 by decide))))).symm
   have hc7n:(p.2.1.map (·.name)).contains x.text=false:=by rw [←Wm];exact hc7
   refine A7 ?_;refine AW.draw mixed (fun H'=>_∈H') (B6 (i:=1) rfl) (by kernel_rfl) ?_;refine Qn 0 rfl Cc (Qn 1 rfl (OpP.Aap (fun k=>Af (k:=k) (c:=.row _ _ _) tok rfl rfl rfl rfl) (fun _ h=>h)) ?_);refine Qn 2 rfl (Qf Ef) (Qn 3 rfl B7 (Qn 4 rfl Am ?_));refine Qn 5 rfl (Aa (c:=Aq) tok rfl rfl rfl rfl rfl rfl (by omega) (Bz hax)) ?_;refine Qn 6 rfl (Qf Ik) (Qn 7 rfl C9 (Qn 8 rfl (Qf Ef) (Qn 9 rfl B7 (Qn 10 rfl Am ?_))));refine Qn 11 rfl (Aa (c:=Aq) tok rfl rfl rfl rfl rfl rfl (by omega) (Bz hax)) ?_;refine Qn 12 rfl (Qf J8) (Qn 13 rfl Bf (Qn 14 rfl (Du H6) (Qn 15 rfl (Ak (es:=[H6]) tok rfl rfl rfl rfl rfl rfl rfl rfl rfl) ?_)));refine Hb.eff _ _ 16 _ _ rfl (by kernel_rfl) rfl rfl (B8 (k:=0) tok rfl rfl rfl rfl rfl rfl rfl rfl (Dy rfl) (hsf) (by simp;omega) (by simp [maxLen];omega)) (by rintro _ _ ⟨v98,rfl,rfl⟩;simp) ?_;rintro _ _ ⟨v98,rfl,rfl⟩;refine Qn 17 rfl Cc ?_;refine Hb.last _ _ 18 _ _ rfl (by kernel_rfl) rfl rfl (A6 (k:=1) (v:=.row _ _ _) (cs':=Ji) (H2:=_::_::_::_) tok rfl rfl rfl rfl (rfl) rfl rfl rfl rfl) (by kernel_rfl) ?_;rintro _ _ ⟨rfl,rfl⟩;refine Ig (A5 (AW.region (Qp Am (Qp Dl (Qp Al (Ae ?_))))));refine ⟨(p.1+1,p.2.1 ++ [⟨x.text,x.num⟩],p.2.2.1 ++ [lY ⟨x.text,x.num⟩],v98),?_,?_,Bv⟩
   · exact ⟨hltx,hP.2.1.trans (zC hax hc6 hc7n),by simp only [Cb,K9];exact len8 hf8 hc6,by simp [hfw]⟩
   simp only;omega
  have hdx:=D8 hc5;have hfx:=hP.2.1;rw [hdx,Em] at hfx;have hfw:=hP.2.2.2;have htn:=tyf_on ha hk1 hc3 hc4n hfx;refine AW.exit ?_;refine Bk (Ri (AW.region ?_));refine Qp (A0 (v:=.row _ _ _) rfl) ?_;refine AOL.ghost (GS.cell (H2:=_::_::_::_) 1 1 rfl rfl rfl rfl E9) ?_;refine AOL.Aan (A2 (k:=1) (l:=Ji) tok rfl rfl rfl rfl rfl) rfl rfl (Qp (Ak (es:=[Ji]) tok rfl rfl rfl rfl rfl rfl rfl rfl rfl) ?_);refine Qe (B8 (k:=2) tok rfl rfl rfl rfl rfl rfl rfl rfl (Dy rfl) (hso) (by simp;omega) (by simp [maxLen];omega)) ?_;rintro _ _ ⟨v103,rfl,rfl⟩;refine Qp (A8 (v:=.row _ _ _) rfl) (Rk (AW.region (Qp Am (Qp Dl (Qp Al (Ae ?_))))));refine ⟨(q.1+1,q.2.1 ++ [⟨a.text,p.2.1⟩],q.2.2.1 ++ [[.str a.text,.sl 2 p.2.2.1]],v103),?_,?_,GS.weaken ⟨rfl,rfl,rfl,rfl,rfl,rfl,trivial⟩ (.cons _ (.cons _ (.refl _)))⟩
  · exact ⟨hlt,hR.2.1.trans htn,by simp only [Cb,K9];exact Yu ho16 hc3,by simp [hrw,hfw,F1]⟩
  simp only;omega
 refine Bk (Ri (Ad ?_));refine Qp (A0 (v:=.row _ _ _) rfl) ?_;refine AOL.ghost (GS.unrow 104 rfl) ?_;refine Qp Sr (Qp Al (Qp Al (Rb ?_)));refine ⟨.inr rfl,[.sl _ _,Iq _,Iq _],.cons (.tmp _ _ rfl) <| .cons (.tmp _ _ rfl) <| .cons (.tmp _ _ rfl) <| .nil,.cons _ (.refl _),?_⟩;exact Eq.trans (congrArg (fun l:List (List AV)=>AV.tuple [.sl 2 l,.int .i64 0,.int .i64 0]) hR.2.2.2) (congrArg (fun q:List e8Sc×Int×Int=>AV.tuple [.sl 2 (q.1.map F1),.int .i64 q.2.1,.int .i64 q.2.2]) (tD hc1 (hR.2.1.trans (tyf_end hc2)))).symm
set_option maxHeartbeats 25600000
set_option maxRecDepth 20000

theorem Aad (T:List e8Sc)(hT:TsOK T)(t:Syn)(ht:Es (Bb t 1))(hc:Ba (Bb t 1) .pats=0):An Tryz.prog 105 [.sl 2 (T.map F1),.agg (cSyn (Bb t 1))] (.tuple [.sl 2 ((vqR T t).map Ls),.int .i64 (gW T t).pos,.int .i64 (gW T t).err]):=by
 have h:=n4_vars T hT (Bb t 1) ht hc;rw [va_v,va_f] at h;exact h
theorem iJ (T:List e8Sc)(hT:TsOK T)(t:Syn)(ht:QryOK t):An Tryz.prog 49 [.sl 2 (T.map F1),.agg (cSyn t)] (.tuple [.agg (cQy (C0 T t).1),.int .i64 (C0 T t).2.pos,.int .i64 (C0 T t).2.err]):=by
 have hl3:=ht.len;have hkl:=E3 ht.m;have hdl:(t.kids.drop 2).length≤1000000:=by rw [Jf];omega
 have hpt:=ht.pat;have hrv:=mP hT (Hj (Bb t 1));have hsz:=He ht.med1;refine An.body (n:=148) tok Tryz.func49 rfl rfl rfl fun H=>?_
 refine Ad (Qp (Ed Aq) (Dt cL fun b4=>Qp Al (Qp Al (Bs (Qp Fh (Qp (Qf Ef) (Qp B7 ?_)))))));refine Qp (Aa (c:=Aq) tok rfl rfl rfl rfl rfl rfl (by decide) (Bz (Cp (by omega)))) ?_;refine Qp (Bo Aq) (Qp (Qc rfl (Aad T hT t ht.med1 hpt)) (Qp Lm (Qp Qxs (Qp Ib (Qp Ib (Qp Sr (Qp Al (Qp Al (Ae ?_)))))))));refine AW.Aas (fun (_:Unit)=>(⟨[(0,.sl 2 (T.map F1)),(3,.ptr (cSyn t)),(4,.val (.pointer (some ⟨b4,0,none⟩))),(7,.sl 2 ((Gq T t).map Ls))],.box b4 40 cL::H,148⟩:St)) (fun _=>((gW T t).err != 0)=false) ?_ ?_
 ·
  refine Ad (Qp Am (Qp Bu (Ae (Ao (fun hc1=>Ad (Qp (Du Fu) (Qp Am (Qp Am ?_)))) fun hc1=>?_))))
  ·
   refine Bt 0 Fu (_::_) ?_;refine Qp Al (Qp Al (Rc ?_));refine ⟨.inr rfl,[.agg Fu,Iq _,Iq _],.cons (.box _ _ _ 0 _ _ _ _ rfl rfl rfl rfl rfl rfl) <| .cons (.tmp _ _ rfl) <| .cons (.tmp _ _ rfl) <| .nil,.cons _ (.refl _),?_⟩;exact Eq.trans rfl (congrArg (fun q:Qy×Fa=>AV.tuple [.agg (cQy q.1),.int .i64 q.2.pos,.int .i64 q.2.err]) (qr_1 hc1)).symm
  have hvq:vqR T t=(Gq T t):=Bi hc1;refine A7 ?_;refine ⟨(),?_,GS.weaken ⟨rfl,rfl,rfl,congrArg (fun l:List Va=>AV.sl 2 (l.map Ls)) hvq,trivial⟩ (.refl _)⟩;exact hc1
 rintro _ hc1;have hTp:0<T.length:=qN (oW _ hpt) hc1;refine Ad (Qp (Qf Ik) (Qp C9 (Qp Fh ?_)));refine Qp (Im (l0:=[.str [],.sl 2 [],.sl 1 [],.int .i64 0,.sl 14 [],.int .i64 0,.int .i64 0,.int .i64 0,.int .i64 0,.int .i64 0,.sl 8 [],.int .i64 0,.int .i64 0,.int .i64 0,.int .i64 0,.int .i64 0,.str [],.val (.slice none 0 0)]) (l:=Fu) tok rfl rfl (by kernel_rfl) rfl) ?_;refine Dt cL fun b10=>?_
 refine Bt 0 Fu (_::_::_) ?_;refine Ae ?_;refine AW.Aas (fun (w:List Int)=>(⟨[(0,.sl 2 (T.map F1)),(3,.ptr (cSyn t)),(4,.val (.pointer (some ⟨b4,0,none⟩))),(7,.sl 2 ((Gq T t).map Ls)),(10,.val (.pointer (some ⟨b10,0,none⟩)))],.box b10 40 (cQyW ⟨t.text,(Gq T t),w,pt0,[]⟩ (.val (.slice none 0 0))) :: .box b4 40 cL::H,148⟩:St)) (fun w=>w=(eZ T t (Gq T t)).1∧(!(eZ T t (Gq T t)).2)=false) ?_ ?_
 ·
  refine Ad (Qp (Qf Ef) (Qp B7 ?_));refine Qp (Aa (c:=Aq) tok rfl rfl rfl rfl rfl rfl (by decide) (Bz (Cp (by omega)))) ?_;refine Qp (Qf Ik) (Qp C9 (Qp (Cs rfl rfl) (Ae (Ao (fun hc2=>Ad (Qp Fh (Qp Fh (Qp (Qf Ef) (Qp B7 ?_))))) fun hc2=>A7 ?_))))
  ·
   refine Qp (Aa (c:=Aq) tok rfl rfl rfl rfl rfl rfl (by decide) (Bz (Cp (by omega)))) ?_;refine Qp (Qf Ik) (Qp C9 (Qp (Qc rfl (n4_key T (Gq T t) hrv (Bb t 0).text hTp)) (Qp Lm (Qp Qxs (Qp gX (Qp Sr (Qp Au (Ae (Rd (Qp A9 (Qp Ew (Ae (Ao (fun hc3=>AW.seq ?_) fun hc3=>A7 (AW.region (Qp Fh (Qp Cc ?_))))))))))))))))
   ·
    refine Gi ?_;refine Qn 0 rfl (Du Fu) (Qn 1 rfl (Qf Ef) (Qn 2 rfl B7 ?_));refine Qn 3 rfl (Aa (c:=Aq) tok rfl rfl rfl rfl rfl rfl (by decide) (Bz (Cp (by omega)))) ?_;refine Qn 4 rfl (Qf [Iq _]) (Qn 5 rfl Bf ?_);refine Jj 6 rfl (A6 (k:=1) (v:=.agg _) (cs':=Fu) (H2:=_::_::_) tok rfl rfl rfl rfl (rfl) rfl rfl rfl rfl) ?_;refine Qn 7 rfl Al (Qn 8 rfl Al ?_);refine Ej ?_;refine A5 (Su (Av ?_));refine ⟨.inr rfl,[.agg Fu,Iq _,Iq _],.cons (.box _ _ _ 1 _ _ _ _ rfl rfl rfl rfl rfl rfl) <| .cons (.tmp _ _ rfl) <| .cons (.tmp _ _ rfl) <| .nil,.cons _ (.cons _ (.refl _)),?_⟩;exact Eq.trans rfl (congrArg (fun q:Qy×Fa=>AV.tuple [.agg (cQy q.1),.int .i64 q.2.pos,.int .i64 q.2.err]) ((bF hc1).trans (qr_2 (by rw [Wx hc2];exact hc3)))).symm
   refine Bt 0 Fu (_::_::_) ?_;refine Ae ?_;refine ⟨(X1 T (Gq T t) (Bb t 0).text).1,?_,Bv⟩;exact ⟨by rw [Wx hc2],by rw [Wx hc2];exact hc3⟩
  refine ⟨[],?_,Bv⟩;exact ⟨by rw [qP hc2],by rw [qP hc2];rfl⟩
 rintro w hK;obtain ⟨hk1,hk2⟩:=hK;subst hk1;refine Ad (Qp Fh (Qp Fh (Qp (Du [_,_]) (Dt [.sl 2 [],.sl 2 []] fun b13=>?_))));refine Bt 0 [_,_] (_::_::_::_) ?_;refine AOL.ghost (GS.freeze (t:=13) 0 rfl rfl) ?_;refine Ae (Rd (Qp Al (Ae (AW.block ?_))));refine AW.Aam (fun (k:Nat)=>(⟨[(0,.sl 2 (T.map F1)),(3,.ptr (cSyn t)),(4,.val (.pointer (some ⟨b4,0,none⟩))),(7,.sl 2 ((Gq T t).map Ls)),(10,.val (.pointer (some ⟨b10,0,none⟩))),(13,.ptr (cNm T (Gq T t))),(14,.int .i64 (k:Int))],.box b10 40 (cQyW ⟨t.text,(Gq T t),(eZ T t (Gq T t)).1,pt0,[]⟩ (.val (.slice none 0 0))) :: .box b4 40 cL::H,148⟩:St)) (fun k=>1≤k∧k≤t.kids.length∧(t.kids.take k).any (fun x=>(D0 T (Gq T t) x).err != 0)=false) (fun k=>t.kids.length-k) (1) ?_ Bv ?_
 · exact ⟨C6 _,by omega,any_one (by omega) (by rw [ht.key];rfl)⟩
 rintro k hR;refine Rd (Qp Am (Qp (Qf Ef) (Qp B7 ?_)));refine Qp (Ai (n:=t.kids.length) tok rfl rfl rfl (by simp)) ?_;refine Qp Bp (Ae (Ao (fun hc4=>?_) fun hc4=>?_))
 ·
  obtain ⟨a,ha⟩:=By hc4;have hlt:=Bj ha;have hm:=B6 ha;refine A7 (AW.seq (AW.block (AW.seq ?_)));refine Gi ?_;refine Qn 0 rfl (Bo [_,_]) (Qn 1 rfl (Qf Ef) (Qn 2 rfl B7 (Qn 3 rfl Am ?_)));refine Qn 4 rfl (Aa (c:=Aq) tok rfl rfl rfl rfl rfl rfl (by omega) (Bz ha)) ?_;refine Qn 5 rfl (Bo Aq) (Qn 6 rfl (Qc rfl (n4_mis T (Gq T t) hrv a (C4 ht.m hm))) (Qn 7 rfl Lm (Qn 8 rfl Ib (Qn 9 rfl Ib (Qn 10 rfl Al (Qn 11 rfl Al ?_))))));refine Ej ?_;refine A5 (Ad (Qp Am (Qp Bu (Ae (Ao (fun hc5=>Ad (Qp (Du Fu) (Qp Am (Qp Am ?_)))) fun hc5=>Rf (AW.region (Qp Am (Qp Dl (Qp Al (Ae ?_))))))))))
  ·
   refine Bt 1 Fu (_::_::_) ?_;refine Qp Al (Qp Al (Ra (Av (B9 (Av ?_)))));refine ⟨.inr rfl,[.agg Fu,Iq _,Iq _],.cons (.box _ _ _ 1 _ _ _ _ rfl rfl rfl rfl rfl rfl) <| .cons (.tmp _ _ rfl) <| .cons (.tmp _ _ rfl) <| .nil,.cons _ (.cons _ (.refl _)),?_⟩;have hwt:=qw_hit (V:=(Gq T t)) ht ha hR.2.2 hc5;exact Eq.trans rfl (congrArg (fun q:Qy×Fa=>AV.tuple [.agg (cQy q.1),.int .i64 q.2.pos,.int .i64 q.2.err]) ((bF hc1).trans ((jD hk2).trans ((qr_3 (by rw [hwt];exact hc5)).trans (congrArg (fun f:Fa=>(aV,f)) hwt))))).symm
  refine ⟨k+1,?_,?_,Bv⟩
  · exact ⟨by omega,hlt,Gu hR.2.2 ha hc5⟩
  omega
 have hte:=Cn hc4;have hall:=hR.2.2;rw [hte] at hall;have hwt:=qw_no (T:=T) (V:=(Gq T t)) ht hall;have hw0:(D0 T (Gq T t) t).err=0:=by rw [hwt];rfl
 have hw1:=(Eb hw0).2 _ (B6 (Cp (t:=t) (k:=1) (by omega)));refine AW.exit ?_;refine Bk (Ri ?_);refine AW.Aas (fun (p:Pt)=>(⟨[(0,.sl 2 (T.map F1)),(3,.ptr (cSyn t)),(4,.val (.pointer (some ⟨b4,0,none⟩))),(7,.sl 2 ((Gq T t).map Ls)),(10,.val (.pointer (some ⟨b10,0,none⟩))),(13,.ptr (cNm T (Gq T t)))],.box b10 40 (cQyW ⟨t.text,(Gq T t),(eZ T t (Gq T t)).1,p,[]⟩ (.val (.slice none 0 0))) :: .box b4 40 cL::H,148⟩:St)) (fun p=>p=ptR T t (Gq T t)) ?_ ?_
 ·
  refine Gi ?_;refine Qn 0 rfl (Bo [_,_]) (Qn 1 rfl (Qf Ef) (Qn 2 rfl B7 ?_));refine Qn 3 rfl (Aa (c:=Aq) tok rfl rfl rfl rfl rfl rfl (by decide) (Bz (Cp (by omega)))) ?_;refine Qn 4 rfl (Bo Aq) (Qn 5 rfl (Qc rfl (n4_ptt T (Gq T t) hrv (Bb t 1) ht.med1 hpt hw1 (ev_has hc1))) ?_);refine Qn 6 rfl (Qc rfl (n4_sco (Mi T (Gq T t) (Bb t 1)) 0 (by decide) (by have h:=lD (T:=T) (V:=(Gq T t)) (Bb t 1);omega) (by have h:=lD (T:=T) (V:=(Gq T t)) (Bb t 1);omega))) ?_;refine Qn 7 rfl Lm (Qn 8 rfl (B2 (v:=.agg Cu) rfl rfl) (Qn 9 rfl Ib (Qn 10 rfl Cc ?_)));refine Jj 11 rfl (A6 (k:=0) (v:=.agg _) (cs':=Fu) (H2:=_::_::_) tok rfl rfl rfl rfl (rfl) rfl rfl rfl rfl) ?_;refine Ej ?_;refine A5 ?_;refine ⟨(Nd (Mi T (Gq T t) (Bb t 1)) 0).1,?_,Bv⟩;exact pt_ref hpt hc1
 rintro p hp;refine Rd (Qp Cc (AOL.Aan (A2 (k:=0) (l:=Cu) tok rfl rfl rfl rfl rfl) rfl rfl ?_));refine Qp (Qc rfl (uS p (by rw [hp];exact fD ht.med1 hpt _))) ?_;refine Qp Al (Bs (Qp Am (Qp Bu (Ae (Ao (fun hc6=>AW.seq ?_) fun hc6=>A7 (AW.seq (AW.seq ?_)))))))
 ·
  refine Gi ?_;refine Qn 0 rfl (Du Fu) (Qn 1 rfl (Qf Ef) (Qn 2 rfl B7 ?_));refine Qn 3 rfl (Aa (c:=Aq) tok rfl rfl rfl rfl rfl rfl (by decide) (Bz (Cp (by omega)))) ?_;refine Qn 4 rfl (Qf [Iq _]) (Qn 5 rfl Bf (Qn 6 rfl Am ?_));refine Jj 7 rfl (A6 (k:=1) (v:=.agg _) (cs':=Fu) (H2:=_::_::_) tok rfl rfl rfl rfl (rfl) rfl rfl rfl rfl) ?_;refine Qn 8 rfl Al (Qn 9 rfl Al ?_);refine Ej ?_;refine A5 (Su ?_);refine ⟨.inr rfl,[.agg Fu,Iq _,Iq _],.cons (.box _ _ _ 1 _ _ _ _ rfl rfl rfl rfl rfl rfl) <| .cons (.tmp _ _ rfl) <| .cons (.tmp _ _ rfl) <| .nil,.cons _ (.cons _ (.refl _)),?_⟩;exact Eq.trans rfl (congrArg (fun q:Qy×Fa=>AV.tuple [.agg (cQy q.1),.int .i64 q.2.pos,.int .i64 q.2.err]) ((bF hc1).trans ((jD hk2).trans ((sE (by rw [hwt];rfl)).trans ((qr_4 (by rw [←hp,←eU];exact hc6)).trans (congrArg (fun e:Int=>(aV,(⟨(Bb t 1).pos,e⟩:Fa))) (by rw [←hp];exact (eU p).symm))))))).symm
 refine AW.ghost (GS.cellRow 0 17 36 8 rfl rfl rfl rfl) ?_
 skip
 refine AW.region (Qp Al (Ae (AW.block ?_)));refine AW.Aam (fun (q:Nat×List (List AV)×Value)=>(⟨[(0,.sl 2 (T.map F1)),(3,.ptr (cSyn t)),(4,.val (.pointer (some ⟨b4,0,none⟩))),(7,.sl 2 ((Gq T t).map Ls)),(10,.val (.pointer (some ⟨b10,0,none⟩))),(13,.ptr (cNm T (Gq T t))),(18,.int .i64 ((q.1:Int)+2))],.row q.2.2 q.2.1.length 36 8 :: .box b10 40 (cQyW ⟨t.text,(Gq T t),(eZ T t (Gq T t)).1,p,[]⟩ (.row q.2.2 8 q.2.1)) :: .box b4 40 cL::H,148⟩:St)) (fun q=>q.1≤(t.kids.drop 2).length∧q.2.1=(((t.kids.drop 2).take q.1).map (Ds T (Gq T t))).map M2∧((t.kids.drop 2).take q.1).any (fun x=>(rtF T (Gq T t) x).err != 0)=false) (fun q=>(t.kids.drop 2).length-q.1) ((0,[],.slice none 0 0)) ?_ Bv ?_
 · exact ⟨Dh _,rfl,rfl⟩
 rintro q hR;refine Rd (Qp Am (Qp (Qf Ef) (Qp B7 ?_)));refine Qp (Ai (n:=t.kids.length) tok rfl rfl rfl (by simp)) ?_;refine Qp Bp (Ae (Ao (fun hc7=>?_) fun hc7=>?_))
 ·
  have hlt:q.1+2<t.kids.length:=by have:=Gv hc7;omega
  have ha:=List.getElem?_eq_getElem hlt;generalize t.kids[q.1+2]=a at ha;have hm:=B6 ha;have ha2:(t.kids.drop 2)[q.1]? = some a:=by rw [List.getElem?_drop,Nat.add_comm];exact ha
  have hlt2:=Bj ha2;have hsc:∀c∈q.2.1,Bc c=true:=by rw [hR.2.1];exact scE _
  refine A7 (AW.seq (AW.block (AW.seq ?_)));refine Gi ?_;refine Qn 0 rfl (Bo [_,_]) (Qn 1 rfl (Qf Ef) (Qn 2 rfl B7 (Qn 3 rfl Am ?_)));refine Qn 4 rfl (Aa (c:=Aq) tok rfl rfl rfl rfl rfl rfl (by omega) (Bz ha)) ?_;refine Qn 5 rfl (Bo Aq) (Qn 6 rfl (Qc rfl (eS T (Gq T t) hrv a (C4 ht.m hm) (ht.ret ha) ((Eb hw0).2 a hm))) ?_);refine lZ 7 rfl (Jp (l:=oB) (by kernel_rfl)) ?_;rintro _ _ ⟨b19,rfl,rfl⟩;refine Jj 8 rfl (A6 (k:=0) (v:=.agg _) (cs':=Ft) (H2:=_::_::_::_::_) tok rfl rfl rfl rfl (rfl) rfl rfl rfl rfl) ?_;refine Ej ?_;refine A5 ?_;refine AW.ghost (GS.freeze (t:=19) 0 rfl rfl) ?_;refine Rd (Qp Py ?_);refine Qp (Qc rfl (e8c25 (Ds T (Gq T t) a) (by have h:=N7 (T:=T) (V:=(Gq T t)) a;have:=He (C4 ht.m hm);omega))) ?_;refine Qp Al (Bs (Qp Am (Qp Bu (Ae (Ao (fun hc8=>AW.seq ?_) fun hc8=>A7 (AW.region (Qp Cc (AOL.Aan (Af (k:=1) (c:=.row _ _ _) tok rfl rfl rfl rfl) rfl rfl (Qp Py (Qp (Ak (es:=[Ft]) tok rfl rfl rfl rfl rfl rfl rfl rfl rfl) ?_))))))))))
  ·
   refine Gi ?_;refine Qn 0 rfl (Du Fu) (Qn 1 rfl (Qf Ef) (Qn 2 rfl B7 (Qn 3 rfl Am ?_)));refine Qn 4 rfl (Aa (c:=Aq) tok rfl rfl rfl rfl rfl rfl (by omega) (Bz ha)) ?_;refine Qn 5 rfl (Qf [Iq _]) (Qn 6 rfl Bf (Qn 7 rfl Am ?_));refine Jj 8 rfl (A6 (k:=2) (v:=.agg _) (cs':=Fu) (H2:=_::_::_::_) tok rfl rfl rfl rfl (rfl) rfl rfl rfl rfl) ?_;refine Qn 9 rfl Al (Qn 10 rfl Al ?_);refine Ej ?_;refine A5 (Su (Rj (Av ?_)));refine ⟨.inr rfl,[.agg Fu,Iq _,Iq _],.cons (.box _ _ _ 2 _ _ _ _ rfl rfl rfl rfl rfl rfl) <| .cons (.tmp _ _ rfl) <| .cons (.tmp _ _ rfl) <| .nil,.cons _ (.cons _ (.cons _ (.refl _))),?_⟩;exact Eq.trans rfl (congrArg (fun q:Qy×Fa=>AV.tuple [.agg (cQy q.1),.int .i64 q.2.pos,.int .i64 q.2.err]) ((bF hc1).trans ((jD hk2).trans ((sE (by rw [hwt];rfl)).trans ((qr_e (by rw [←hp,←eU];exact hc6)).trans (qr_5 ha2 hR.2.2 hc8)))))).symm
  refine Qe (B8 (k:=0) tok rfl rfl rfl rfl rfl rfl rfl rfl (Dy rfl) (hsc) (by have h9:=congrArg List.length hR.2.1;simp only [D9,Lk] at h9;simp;omega) (by have h9:=congrArg List.length hR.2.1;simp only [D9,Lk] at h9;simp [maxLen];omega)) ?_;rintro _ _ ⟨v145,rfl,rfl⟩;refine Qp Cc ?_;refine Bt 1 Fu (_::_::_::_) ?_;refine Rk (AW.region (Qp Am (Qp Dl (Qp Al (Ae ?_)))));refine ⟨(q.1+1,q.2.1 ++ [cE (Ds T (Gq T t) a)],v145),?_,?_,GS.weaken ⟨rfl,rfl,rfl,rfl,rfl,rfl,congrArg (AV.int .i64) (show ((q.1:Int)+2)+1=((q.1+1:Nat):Int)+2 by omega),trivial⟩ (.refl _)⟩
  · exact ⟨hlt2,by simp only;rw [C2 ha2,hR.2.1];simp [O6],Gu hR.2.2 ha2 (by rw [rt_no hc8];rfl)⟩
  simp only;omega
 have hqe:q.1=(t.kids.drop 2).length:=by have h1:=If hc7;have h2:=hR.1;rw [Jf] at h2 ⊢;omega
 have hall:=hR.2.1;have hnn:=hR.2.2;rw [hqe,bH] at hall hnn;refine AW.exit ?_;refine Bk (Ri (Ad ?_));refine AOL.ghost (GS.cell (H2:=_::_::_::_) 1 17 rfl rfl rfl rfl E9) ?_;refine AOL.Aan (A2 (k:=1) (l:=Fu) tok rfl rfl rfl rfl rfl) rfl rfl ?_;refine Bt 2 Fu (_::_::_::_) ?_;refine Qp Al (Qp Al (Rb ?_));refine ⟨.inr rfl,[.agg Fu,Iq _,Iq _],.cons (.box _ _ _ 2 _ _ _ _ rfl rfl rfl rfl rfl rfl) <| .cons (.tmp _ _ rfl) <| .cons (.tmp _ _ rfl) <| .nil,.cons _ (.cons _ (.cons _ (.refl _))),?_⟩;exact Eq.trans (congrArg (fun l:List (List AV)×Pt=>AV.tuple [.agg (cQyW ⟨t.text,(Gq T t),(eZ T t (Gq T t)).1,l.2,[]⟩ (.sl 8 l.1)),.int .i64 0,.int .i64 0]) (show (q.2.1,p)=(((t.kids.drop 2).map (Ds T (Gq T t))).map M2,ptR T t (Gq T t)) by rw [hall,hp])) (congrArg (fun q:Qy×Fa=>AV.tuple [.agg (cQy q.1),.int .i64 q.2.pos,.int .i64 q.2.err]) ((bF hc1).trans ((jD hk2).trans ((sE (by rw [hwt];rfl)).trans ((qr_e (by rw [←hp,←eU];exact hc6)).trans (qr_6 hnn)))))).symm
theorem yK (T:List e8Sc)(hl:T.length≤1048576)(hs:∀s∈T,Zd s)(t:Syn)(hf:G0 t=true):An Tryz.prog 15 [.sl 2 (T.map F1),.agg (cSyn t)] (.tuple [.agg (cQy (Pu T t).1),.int .i64 (Pu T t).2.1,.int .i64 (Pu T t).2.2]):=by
 refine An.body (n:=30) tok Tryz.func15 rfl rfl rfl fun H=>?_
 refine Ad (Qp (Ed Aq) (Dt cL fun b4=>Qp Al (Qp Al (Ae (Rd (Qp Fh (Qp (Qc rfl (c59 T hl hs)) (Qp Al (Bs (Qp Am (Qp Bu (Ae (Ao (fun hc1=>Ad (Qp (Du Fu) (Qp Am ?_))) fun hc1=>?_)))))))))))))
 ·
  refine Bt 0 Fu (_::_) ?_;refine Qp Al (Qp Al (Rc ?_));refine ⟨.inr rfl,[.agg Fu,Iq _,Iq _],.cons (.box _ _ _ 0 _ _ _ _ rfl rfl rfl rfl rfl rfl) <| .cons (.tmp _ _ rfl) <| .cons (.tmp _ _ rfl) <| .nil,.cons _ (.refl _),?_⟩;exact Eq.trans rfl (congrArg (fun q:Qy×Int×Int=>AV.tuple [.agg (cQy q.1),.int .i64 q.2.1,.int .i64 q.2.2]) (qp_1 T t hc1)).symm
 refine A7 (Rd (Qp (Bo Aq) (Qp (Qc rfl (r_Query t hf)) (Qp Lm (Qp uM (Qp Ib (Qp D1 (Qp Al (Bs (Qp Am (Qp Bu (Ae (Ao (fun hc2=>Ad (Qp (Du Fu) ?_)) fun hc2=>A7 (Ad (Qp Fh (Qp (Bo Aq) (Qp (Qc rfl (iJ T (nT hc1) t ⟨Og hf,G4 hc2⟩)) (Qp (B2 (v:=.agg Fu) rfl rfl) (Qp Ib (Qp Ib ?_))))))))))))))))))))
 ·
  refine Bt 0 Fu (_::_) ?_;refine Qp Al (Qp Al (Rc ?_));refine ⟨.inr rfl,[.agg Fu,Iq _,Iq _],.cons (.box _ _ _ 0 _ _ _ _ rfl rfl rfl rfl rfl rfl) <| .cons (.tmp _ _ rfl) <| .cons (.tmp _ _ rfl) <| .nil,.cons _ (.refl _),?_⟩;exact Eq.trans rfl (congrArg (fun q:Qy×Int×Int=>AV.tuple [.agg (cQy q.1),.int .i64 q.2.1,.int .i64 q.2.2]) (qp_2 T t hc1 hc2)).symm
 refine Bt 0 Fu (_::_) ?_;refine Qp Al (Qp Al (Rb ?_));refine ⟨.inr rfl,[.agg Fu,Iq _,Iq _],.cons (.box _ _ _ 0 _ _ _ _ rfl rfl rfl rfl rfl rfl) <| .cons (.tmp _ _ rfl) <| .cons (.tmp _ _ rfl) <| .nil,.cons _ (.refl _),?_⟩;exact Eq.trans rfl (congrArg (fun q:Qy×Int×Int=>AV.tuple [.agg (cQy q.1),.int .i64 q.2.1,.int .i64 q.2.2]) (tR T t hc1 hc2)).symm
theorem tY (t:Syn)(hf:G0 t=true):An Tryz.prog 20 [.agg (cSyn t)] (.tuple [.sl 2 ((X6 t).1.map F1),.int .i64 (X6 t).2.1,.int .i64 (X6 t).2.2]):=by
 rw [←wB];exact wX t hf
theorem tp_ok {t:Syn}(h:((X6 t).2.2 != 0)=false):((Bh t (.only 0)).2 != 0)=false∧((C8 t).2.err != 0)=false∧(X6 t).1=(C8 t).1:=by
 cases hw:(Bh t (.only 0)).2 != 0 with
 | true=>rw [tp_1 hw] at h;cases h
 | false=>rw [tp_2 hw] at h ⊢;exact ⟨rfl,h,rfl⟩
theorem pp_bad {t:Syn}(h:((X6 t).2.2 != 0)=true):Tf t=(pg0,(X6 t).2.1,(X6 t).2.2):=by
 cases hw:(Bh t (.only 0)).2 != 0 with
 | true=>rw [tp_1 hw,pp_1 hw]
 | false=>rw [tp_2 hw] at h ⊢;exact pp_2 hw h

end Go.Proofs.YtckhoadldibflaaGreatDoor
