/-
  Several texts in one: L1, P18, P19, Q1, R25, R28. No condition.
-/
import Derived.Test.YtckhoadldibflaaGreatDoorK01
import Derived.Test.YtckhoadldibflaaGreatDoorK09
import Derived.KernelRfl
import Derived.Test.YtckhoadldibflaaGreatDoorK07
import Derived.Test.YtckhoadldibflaaGreatDoorK08
import Derived.Test.YtckhoadldibflaaGreatDoorK02
set_option linter.unusedVariables false
set_option linter.unusedSimpArgs false
set_option maxHeartbeats 1600000
set_option maxRecDepth 100000
namespace Go.Proofs.YtckhoadldibflaaGreatDoor
open Go Go.Aw
mutual
def fE:Syn->Syn->Bool
 | ⟨k,t,n,m,ks,p⟩,b=>if (((((k != b.kind) || !(t==b.text)) || !(n==b.name))||(m != b.num))||((ks.length:Int) != (b.kids.length:Int))) then false else Sk ks b.kids
def Sk:List Syn->List Syn->Bool
 | [],_=>true
 | _::_,[]=>true
 | a::r,b::s=>if !(fE a b) then false else Sk r s
end
theorem kO (a b:Syn):fE a b=if (((((a.kind != b.kind) || !(a.text==b.text)) || !(a.name==b.name))||(a.num != b.num))||((a.kids.length:Int) != (b.kids.length:Int))) then false else Sk a.kids b.kids:=by cases a;simp only [fE]
theorem nR {l m:List Syn}{k:Nat}{x y:Syn}(hx:l[k]? = some x)(hy:m[k]? = some y):Sk (l.drop k) (m.drop k)=if !(fE x y) then false else Sk (l.drop (k+1)) (m.drop (k+1)):=by
 obtain ⟨h1,rfl⟩:=List.getElem?_eq_some_iff.1 hx;obtain ⟨h2,rfl⟩:=List.getElem?_eq_some_iff.1 hy;rw [Qz h1,Qz h2,Sk]
theorem zJ {l m:List Syn}{k:Nat}(h:l.length<=k):Sk (l.drop k) (m.drop k)=true:=by
 rw [Q8 h,Sk]
theorem r_Same (a b:Syn):An Tryz.prog 35 [.agg (cSyn a),.agg (cSyn b)] (.bool (fE a b)):=by
 revert b
 induction a using Syn.ind
 rename_i a ih;intro b;refine Fb 60 Tryz.func35 rfl fun H=>?_
 refine Aa (Qp (Hu Ai) (Qp (Hu Ai) (Qp Bc (Ax (B5 (Qp (Qf Ai) (Qp B6 (Qp (Qf Ai) ?_))))))));refine Qp B6 (Qp Cb (Qp Cc (Qg [] Qw (Qf X6) (Qg [(12,_)] Qw Gr (Qg [] Qw (Qf X6) (Qg [(14,_)] Qw Gr (Qg [(13,_),(15,_)] Yw (Fh rfl rfl) (Qp E5 (Qp Cc (Qg [] Qw (Qf pF) (Qg [(19,_)] Qw Gr (Qg [] Qw (Qf pF) (Qg [(21,_)] Qw Gr ?_)))))))))))));refine Qg [(20,_),(22,_)] Yw (Fh rfl rfl) (Qp E5 (Qp Cc (Qg [] Qw (Qf Zw) (Qg [(26,_)] Qw B6 (Qg [] Qw (Qf Zw) (Qg [(28,_)] Qw B6 (Qg [(27,_),(29,_)] Yw Cb (Qp E5 (Qp Cc (Qg [] Qw (Qf Ot) (Qg [(33,_)] Qw Dd ?_)))))))))));refine Yh [(34,_)] Qw (fun hG=>E6 a.kids.length rfl rfl (by simp)) ?_;refine Qg [] Qw (Qf Ot) (Qg [(36,_)] Qw Dd ?_);refine Yh [(37,_)] Qw (fun hG=>E6 b.kids.length rfl rfl (by simp)) ?_;refine Qg [(35,_),(38,_)] Yw Cb (Qp E5 (Bh (fun hc1=>?_) fun hc1=>?_))
 .
  try simp only [A4,Bd] at hc1
  refine Aa (Qp Bc (Rc (Qr (.bool _) ?_)));have h9:fE a b=false:=by rw [kO,if_pos hc1]
  rw [h9];rfl
 try simp only [A4,Bd] at hc1
 have hlen:a.kids.length=b.kids.length:=by simp only [Eb,bne_eq_false_iff_eq] at hc1;have:=hc1.2;omega
 refine B2 (B5 (Qp Aq (Ax (AW.block ?_))));refine AW.Aad (fun (k:Nat)=>(⟨[(2,.ptr (cSyn a)),(3,.ptr (cSyn b)),(5,.int .i64 (k:Int))],H,60⟩:St)) (fun k=>k<=a.kids.length/\Sk a.kids b.kids=Sk (a.kids.drop k) (b.kids.drop k)) (fun k=>a.kids.length-k) (0) ?_ C2 ?_
 . exact ⟨A9 _,rfl⟩
 rintro k hR;refine B5 (Qp Ap (Qp (Qf Ot) (Qp Dd (AOL.know 43 rfl fun hml=>?_))));refine Qp (E6 a.kids.length rfl rfl (by simp)) ?_;refine Qp Cn (Bh (fun hc2=>?_) fun hc2=>?_)
 .
  try simp only [A4,Bd] at hc2
  have hk:k<a.kids.length:=by have:=Ey hc2;omega
  rw [Bt] at hml;unfold maxLen at hml;refine (xY hk).elim fun x hx=>?_
  refine (xY (l:=b.kids) (k:=k) (by omega)).elim fun y hy=>?_
  refine B2 (AW.seq (AW.block (AW.seq ?_)));refine Mo ?_;refine Qn 0 rfl (Qf Ot) (Qn 1 rfl Dd (Qn 2 rfl Ap ?_));refine Qn 3 rfl (Eh Ai rfl rfl (by omega) (Ie hx)) ?_;refine Qn 4 rfl (Cm Ai) (Qn 5 rfl (Qf Ot) (Qn 6 rfl Dd (Qn 7 rfl Ap ?_)));refine Qn 8 rfl (Eh Ai rfl rfl (by omega) (Ie hy)) ?_;refine Qn 9 rfl (Cm Ai) (Qn 10 rfl (Qc rfl (ih x (Aj hx) y)) (Qn 11 rfl Ix ?_));refine Ig ?_;refine Av (Hb (fun hc3=>?_) fun hc3=>?_)
  .
   try simp only [A4,Bd] at hc3
   refine Aa (Qp Bc (Ra (A7 (Dz (A7 (Qr (.bool _) ?_))))));have h9:fE a b=false:=by rw [kO,iN hc1,hR.2,nR hx hy,hc3];rfl
   rw [h9];rfl
  try simp only [A4,Bd] at hc3
  refine Rf (AW.region (Qp Ap (Qp Gw (Qp Aq (Ax ?_)))));refine ⟨k+1,?_,?_,C2⟩
  . exact ⟨hk,hR.2.trans (by rw [nR hx hy,hc3];rfl)⟩
  omega
 try simp only [A4,Bd] at hc2
 have hk:a.kids.length<=k:=by have:=G3 hc2;omega
 refine AW.exit ?_;refine B1 (Ri (Aa (Qp Bc (Rb ?_))));refine Qr (.bool _) ?_;have h9:fE a b=true:=by rw [kO,iN hc1,hR.2,zJ hk]
 rw [h9];rfl
def Pe (u:Ag)(L:List Tok)(rest:Ag):Prop:=∃l,Sc (u++rest) 0 l u.length/\l.map erT=L
theorem Pe.app {u v rest:Ag}{L M:List Tok}(h:Pe u L (v++rest))(k:Pe v M rest):Pe (u++v) (L++M) rest:=by
 obtain ⟨l,h1,h2⟩:=h;obtain ⟨m,k1,k2⟩:=k;refine ⟨l++m.map (shT u.length),?_,?_⟩
 .
  rw [C1,Au];exact h1.trans (by simpa using k1.shift u)
 rw [Dt,Kr,h2];have:erT ∘ shT u.length=erT:=by funext t;rfl
 rw [this,k2]
theorem Pe.text {u rest:Ag}(h:(Dx u).2.2=0)(hn:35∉u)(hw:Ol rest):Pe u ((Dx u).1.map erT) rest:=⟨_,(scan_sc h).2.left hw hn,rfl⟩
theorem Pe.space (rest:Ag):Pe [32] [] rest:=⟨[],vW (c:=32) (r:=rest) rfl (by decide) (.nil _),rfl⟩
theorem Pe.nil (rest:Ag):Pe [] [] rest:=⟨[],.nil _,rfl⟩
abbrev Kd:Tok:=⟨3,Ee,0⟩
abbrev Jt:Tok:=⟨3,Jo,0⟩
abbrev N8:Tok:=⟨3,D1,0⟩
theorem pV (r:Ag):Ca (40::r)=Y4 3 [40] 1:=by
 have h0:0<(40::r:Ag).length:=by simp
 rw [Xv (u:=40::r) (by rfl) (by rfl) (by rfl) h0,P0];cases Lib.hasPrefix r [61] <;> rfl
theorem Pe.lpar (rest:Ag):Pe [40] [Kd] rest:=by
 have h:=Sc.tok (s:=[40]++rest) (i:=0) (l:=[]) (j:=1) (by simp) rfl (by show (Ca (40::rest)).err=0;rw [pV];rfl) (by show Sc _ (0+(Ca (40::rest)).bytes.toNat) [] 1;rw [pV];exact .nil _);have e:Ca (([40]++rest:Ag).drop 0)=Y4 3 [40] 1:=pV rest;rw [e] at h;exact ⟨_,h,rfl⟩
theorem Pe.scan {u:Ag}{L:List Tok}(h:Pe u L [])(hl:u.length<=65536):(Dx u).2.2=0/\(Dx u).1.map erT=L:=by
 obtain ⟨l,h1,h2⟩:=h;rw [A8] at h1;rw [sc_scan hl h1];exact ⟨rfl,h2⟩
def Cg (pre post:List Tok)(d:Int):PS:=⟨pre++post,pre.length,0,d,0,0⟩
variable {pre post:List Tok} {d:Int} {t:Tok}
theorem bS:rF (Cg pre (t::post) d)=t:=by
 unfold rF Cg;simp only [Ez];rw [List.getElem?_append_right (Br _),Nat.sub_self];rfl
theorem cur_end:endP (Cg pre (t::post) d)=false:=by
 unfold endP Cg;simp only [Au,Bb,Eb,It];exact ⟨rfl,by omega⟩
theorem cur_nil:endP (Cg pre [] d)=true:=by
 unfold endP Cg;simp only [A8,G1,Ck];exact .inr (Ic _)
theorem yC {w:Ag}:Ea w (Cg pre (t::post) d)=((t.text==w)&&((t.kind==3)||((t.kind==0)&&Pk w))):=by
 unfold Ea;rw [cur_end,bS];rfl
theorem yD {w:Ag}:Ea w (Cg pre [] d)=false:=by unfold Ea;rw [cur_nil];rfl
theorem Ou {k:Int}:Ps k (Cg pre (t::post) d)=((t.kind==k)&&((k != 0) || !(Pk t.text))):=by
 unfold Ps;rw [cur_end,bS];rfl
theorem Hw:adv (Cg pre (t::post) d)=Cg (pre ++ [t]) post d:=by
 unfold adv Cg;simp only [PS.mk.injEq,and_true];exact ⟨by simp,by simp⟩
theorem Xm {w:Ag}(h:((t.text==w)&&((t.kind==3)||((t.kind==0)&&Pk w)))=true):Ce w (Cg pre (t::post) d)=Cg (pre ++ [t]) post d:=by
 rw [exp_yes rfl (by rw [yC];exact h),Hw]
theorem bC {k:Int}(h:((t.kind==k)&&((k != 0) || !(Pk t.text)))=true):Ed k (Cg pre (t::post) d)=Cg (pre ++ [t]) post d/\Ib k (Cg pre (t::post) d)=t.text:=by
 unfold Ed Ib;rw [Ou,h,Hw,bS];exact ⟨rfl,rfl⟩
theorem sD (h0:0<=d)(h1:d<64):La (Cg pre post d)=Cg pre post (d+1):=by
 unfold La Cg;simp only [PS.mk.injEq,true_and,and_true];exact bH (by omega) (by omega)
theorem We (h0:0<=d)(h1:d<64):Km (Cg pre post (d+1))=Cg pre post d:=by
 unfold Km Cg;simp only [PS.mk.injEq,true_and,and_true];rw [show d+1-1=d by omega];exact bH (by omega) (by omega)
def F3 (l:List Tok):Prop:=l.map erT=l
theorem F3.app {l m:List Tok}(h:F3 l)(k:F3 m):F3 (l++m):=by unfold F3 at *;rw [Dt,h,k]
theorem cur_ok (h:F3 pre)(k:F3 post):Ok d (Cg pre post d):=⟨by
 unfold er Cg;simp only [Dt,PS.mk.injEq,and_true];rw [h,k],rfl,by unfold Cg;simp,rfl⟩
theorem Hy (h:F3 pre)(k:F3 post):Fs (Cg pre post d)=0:=(cur_ok h k).off
abbrev tks (s:Ag):List Tok:=(Dx s).1.map erT
theorem begin_er (s:Ag)(n:Int):er (J0 (Dx s).1 n)=Cg [] (tks s) 0:=rfl
theorem Yz {F:PS->Syn×PS}{sg:List (Ag×Int)}{s:PS}(h:sg.find? (fun x=>Ea x.1 (F s).2)=none):J2 F sg s=F s:=by
 unfold J2 A3 I0;rw [h]
def NoOp (s:PS):Prop:=(Ea wO s=false/\Ea kZ s=false/\Ea w_add s=false/\Ea Oi s=false)/\Ea w_lt s=false/\Ea w_le s=false/\Ea w_gt s=false/\Ea w_ge s=false/\Ea nY s=false/\Ea wN s=false
section
variable {E N:PS->Syn×PS} {s:PS}
theorem Aab (h0:0<=d)(h1:d<64){inner:List Tok}:D3 E (Cg pre (Kd::inner) d)=((E (Cg (pre ++ [Kd]) inner (d+1))).1,Km (Ce Jo (E (Cg (pre ++ [Kd]) inner (d+1))).2)):=by
 have e1:Ea Ee (Cg pre (Kd::inner) d)=true:=by rw [yC];rfl
 have e2:H4 (Cg pre (Kd::inner) d)=Cg pre (Kd::inner) d:=by
  unfold H4;rw [if_neg (by simp only [Ck];exact (by omega:¬64<=d))]
 unfold D3;rw [if_pos e1,Xu,e2,if_neg (show ¬((Cg pre (Kd::inner) d).bad != 0)=true from (by decide:¬((0:Int) != 0)=true)),sD h0 h1,Hw]
theorem fX (h0:0<=d)(h1:d<64){inner pre':List Tok}{a:Syn}(h:E (Cg (pre ++ [Kd]) inner (d+1))=(a,Cg pre' (Jt::post) (d+1))):D3 E (Cg pre (Kd::inner) d)=(a,Cg (pre' ++ [Jt]) post d):=by
 rw [Aab h0 h1,h];show (a,Km (Ce Jo (Cg pre' (Jt::post) (d+1))))=_;rw [Xm (by decide),We h0 h1]
end
theorem whole {F:PS->Syn×PS}(hF:Er F){s:Ag}{L:List Tok}(h:(Dx s).2.2=0/\(Dx s).1.map erT=L) :
  (∀t M,F (Cg [] L 0)=(t,Cg M [] 0)->(Df F s).2.2=0/\Dy (Df F s).1=t)/\((F (Cg [] L 0)).2.bad=12->(Df F s).2.2=12):=by
 have e:=hF (J0 (Dx s).1 s.length);rw [begin_er,show tks s=L from h.2] at e;have ep:Df F s=Sz (F (J0 (Dx s).1 s.length)):=by unfold Df;rw [h.1];rfl
 rw [ep];generalize F (J0 (Dx s).1 s.length)=r at e;refine ⟨fun t M ht=>?_,fun h12=>?_⟩
 .
  rw [ht] at e;have e1:t=Dy r.1:=congrArg Prod.fst e;have e2:Cg M [] 0=er r.2:=congrArg Prod.snd e;have hb:r.2.bad=0:=(congrArg PS.bad e2).symm;have hp:r.2.pos=M.length:=(congrArg PS.pos e2).symm
  have hl:r.2.toks.length=M.length:=by
   have:=congrArg (fun s:PS=>s.toks.length) e2;simp only [yG,Cg,A8] at this;exact this.symm
  unfold Sz;simp only;rw [show (if decide ((r.2.pos:Int)<(r.2.toks.length:Int)) then Hc 4 r.2 else r.2)=r.2 from if_neg (by rw [hp,hl];simp),if_neg (by rw [hb];decide)];exact ⟨rfl,e1.symm⟩
 have hb:r.2.bad=12:=by rw [e] at h12;exact h12
 have hne:r.2.bad≠0:=by rw [hb];decide
 unfold Sz;simp only;rw [show (if decide ((r.2.pos:Int)<(r.2.toks.length:Int)) then Hc 4 r.2 else r.2)=r.2 by split;exact fail_stay hne;rfl,if_pos (by rw [hb];decide)];exact hb
theorem Ug {c:UInt8}{r:Ag}(h:G5 c=false)(h2:c≠61):Ol (c::r):=Ol.cons h h2
abbrev tw (w:Ag):Tok:=⟨0,w,0⟩
abbrev tsm:Tok:=⟨3,dS,0⟩
section
variable {E T:PS->Syn×PS} {pre post post':List Tok} {d:Int} {t:Tok}
theorem uH {read:Syn->PS->Syn×PS}{z:Syn}(h0:0<=d)(h1:d<64):Np read z (Cg pre (t::post) d)=((read z (Cg (pre ++ [t]) post (d+1))).1,Km (read z (Cg (pre ++ [t]) post (d+1))).2):=by
 have e2:H4 (Cg pre (t::post) d)=Cg pre (t::post) d:=by
  unfold H4;rw [if_neg (by simp only [Ck];exact (by omega:¬64<=d))]
 rw [Xu,e2,if_neg (show ¬((Cg pre (t::post) d).bad != 0)=true from (by decide:¬((0:Int) != 0)=true)),sD h0 h1,Hw]
theorem pat_form {f:Ag×Int}(h0:0<=d)(h1:d<64)(he:F3 pre)(hq:F3 (t::post))(hf:formL.find? (fun f=>Ea f.1 (Cg pre (t::post) d))=some f) :
  U2 E T (Cg pre (t::post) d)=((kC E T f.2 ⟨f.2,[],[],0,[],0⟩ (Cg (pre ++ [t]) post (d+1))).1,Km (kC E T f.2 ⟨f.2,[],[],0,[],0⟩ (Cg (pre ++ [t]) post (d+1))).2):=by
 unfold U2;rw [hf];simp only;rw [Hy he hq];exact uH (read:=kC E T f.2) h0 h1
theorem patK_plus {z a:Syn}{M:List Tok}(h:T (Cg (pre ++ [Kd]) post d)=(a,Cg M (Jt::post') d)):kC E T 9 z (Cg pre (Kd::post) d)=({ z with kids:=[a] },Cg (M ++ [Jt]) post' d):=by
 unfold kC;rw [Xm (by decide),h];show (({ z with kids:=[a] }:Syn),Ce Jo (Cg M (Jt::post') d))=_;rw [Xm (by decide)]
theorem yU {z a:Syn}{M inner:List Tok}(h:T (Cg (pre ++ [Kd]) post d)=(a,Cg M (N8::inner) d)) :
  kC E T 12 z (Cg pre (Kd::post) d)=({ z with kids:=[a] ++ [(E (Cg (M ++ [N8]) inner d)).1] },Ce Jo (E (Cg (M ++ [N8]) inner d)).2):=by
 unfold kC;rw [Xm (by decide),h];show (({ z with kids:=[a] ++ [(E (Ce D1 (Cg M (N8::inner) d))).1] }:Syn),Ce Jo (E (Ce D1 (Cg M (N8::inner) d))).2)=_;rw [Xm (by decide)]
end
theorem progGo_no {w:Ag}{F:PS->Syn×PS}{n:Nat}{st:PS}{out:List Syn}(h:Ea w st=false):Hh w F n st out=(out,st):=by
 cases n with
 | zero=>rfl
 | succ n=>unfold Hh;rw [h];rfl
theorem Y0 (n:Nat):(Lib.decDigits n).all Bn=true/\0<(Lib.decDigits n).length:=by
  induction n using Nat.strongRecOn with
  | _ n ih=>
    have key:∀k,k<10->Bn (UInt8.ofNat (48+k))=true:=by
      intro k hk;have:=(show (List.range 10).all (fun k=>Bn (UInt8.ofNat (48+k)))=true by kernel_rfl);rw [Fu] at this;exact this k (Ks.2 hk)
    by_cases h:n<10
    . rw [Lib.decDigits,dif_pos h]
      exact ⟨by rw [Jp,key n h];rfl,by simp⟩
    . rw [Lib.decDigits,dif_neg h]
      obtain ⟨h1,h2⟩:=ih (n / 10) (by omega);exact ⟨by rw [List.all_append,h1,Jp,key _ (Nat.mod_lt _ (by decide))];rfl,by simp⟩
theorem nM:∀(a b:Ag) (n:Int),(Jd a n).2=0->Jd (a++b) n=Jd b (Jd a n).1
  | [],b,n,_=>rfl
  | c::r,b,n,h=>by
    rw [Co,Jd,Jd];rw [Jd] at h;split at h
    . cases h
    . rename_i h1
      rw [if_neg h1,if_neg h1];exact nM r b _ h
theorem sJ {k:Nat}(hk:k<10):dvS (UInt8.ofNat (48+k))=(k:Int):=by
 have:=(show (List.range 10).all (fun k=>dvS (UInt8.ofNat (48+k))==(k:Int))=true by kernel_rfl);rw [Fu] at this;simpa using this k (Ks.2 hk)
theorem numGo_dec (n:Nat)(h:n<=1099511627776):Jd (Lib.decDigits n) 0=((n:Int),0):=by
  induction n using Nat.strongRecOn with
  | _ n ih=>
    by_cases h1:n<10
    . rw [Lib.decDigits,dif_pos h1,Jd,sJ h1,if_neg (by simp only [Ck];omega),Jd]
      simp
    . rw [Lib.decDigits,dif_neg h1]
      have h2:=ih (n / 10) (by omega) (by omega);rw [nM _ _ _ (by rw [h2]),h2,Jd,sJ (Nat.mod_lt _ (by decide)),if_neg (by simp only [Ck];omega),Jd];have:10*((n / 10:Nat):Int)+((n % 10:Nat):Int)=(n:Int):=by omega
      rw [this]
theorem rW {s:Ag}(h:s.all Bn=true):B4 Bn s=s.length:=by
 have:=kU Bn s;rw [h] at this;exact Ey this
theorem aQ {n:Nat}(h:n<=1099511627776):Ua (Lib.decDigits n)=((n:Int),0):=by
 obtain ⟨h1,h2⟩:=Y0 n
 have e:(Lib.decDigits n == [])=false:=by
  cases hd:Lib.decDigits n with
  | nil=>rw [hd] at h2;cases h2
  | cons c r=>rfl
 unfold Ua;rw [e,rW h1,Kb,if_neg (by simp),numGo_dec n h]
theorem Pe.one {u rest:Ag}{k:Int}{x:Ag}(h0:0<u.length)(hs:Kl (u++rest)=0)(hn:Ca (u++rest)=Y4 k x u.length):Pe u [⟨k,x,0⟩] rest:=by
 have h:=Sc.tok (s:=u++rest) (i:=0) (l:=[]) (j:=u.length) (by rw [Au];omega) hs (by show (Ca (u++rest)).err=0;rw [hn];rfl)
  (by show Sc _ (0+(Ca (u++rest)).bytes.toNat) [] u.length;rw [hn];show Sc _ (0+((u.length:Int)).toNat) [] _;rw [So,D2];exact .nil _)
 have e:Ca ((u++rest).drop 0)=Y4 k x u.length:=hn;rw [e] at h;exact ⟨_,h,rfl⟩
def yO (c:UInt8):Bool:=decide (c≠35) && !decide (0<=Lib.indexByte [32,9,13,10] c)
theorem qN {c:UInt8}{r:Ag}(h:yO c=true):Kl (c::r)=0:=by
 unfold yO at h;simp only [Cd,Ck,A4] at h;rw [kQ h.1,h.2];rfl
theorem tU (c:UInt8):(!Di c||yO c)=true:=Wl (p:=fun c=>!Di c||yO c) (by kernel_rfl) c
theorem iF (c:UInt8):(!Bn c||(yO c && !Di c))=true:=Wl (p:=fun c=>!Bn c||(yO c && !Di c)) (by kernel_rfl) c
theorem Ol.word {w:Ag}(h:Ol w):∀c r,w=c::r->G5 c=false:=fun c r e=>(h c r e).1
theorem Ol.digit {w:Ag}(h:Ol w):∀c r,w=c::r->Bn c=false:=fun c r e=>(gO (h c r e).1).2
theorem gJ {s:Ag}(h:X7 s=true):0<s.length/\s.length<=24/\Di (bt s 0)=true/\B4 G5 s=s.length/\Pk s=false:=by
 unfold X7 at h;rw [name_eq] at h;unfold nameR at h;split at h
 . cases h
 rename_i h1;simp only [G1,not_or,Wt,Ck,A4,bne_iff_ne,ne_eq,Decidable.not_not] at h1;obtain ⟨⟨⟨⟨h1,h2⟩,h3⟩,h4⟩,h5⟩:=h1;refine ⟨?_,by omega,by simpa using h3,by omega,by rw [key_eq];exact h5⟩;cases s with
 | nil=>cases h1
 | cons c r=>simp
theorem Pe.name {s rest:Ag}(h:X7 s=true)(hr:Ol rest):Pe s [⟨0,s,0⟩] rest:=by
 obtain ⟨h0,h1,h2,h3,h4⟩:=gJ h;obtain ⟨c,r,rfl⟩:∃c r,s=c::r:=by cases s with | nil=>cases h0 | cons c r=>exact ⟨c,r,rfl⟩
 refine Pe.one h0 ?_ ?_
 .
  have:=tU c;rw [show Di c=true from h2] at this;exact qN this
 have e:B4 G5 ((c::r)++rest)=(c::r).length:=by rw [Tj hr.word,h3]
 rw [cX (u:=(c::r)++rest) h2 (by simp),e,if_neg (by simp only [Ck];omega),List.take_left'];rfl
theorem Pe.const {w rest:Ag}{t:Tok}(h:(Dx w).1.map erT = [t])(h2:(Dx w).2.2=0)(hn:35∉w)(hr:Ol rest):Pe w [t] rest:=by
 rw [<-h];exact .text h2 hn hr
def signOk (c:UInt8):Bool:=yO c && !Di c && !Bn c && !((c.toNat:Int)==34)&&(signV c true==some [c])&&(signV c false==some [c])
theorem Pe.sign {c:UInt8}(h:signOk c=true)(rest:Ag):Pe [c] [⟨3,[c],0⟩] rest:=by
 unfold signOk at h;simp only [Cd,A4,beq_iff_eq] at h;obtain ⟨⟨⟨⟨⟨h1,h2⟩,h3⟩,h4⟩,h5⟩,h6⟩:=h;refine Pe.one (by simp) (qN h1) ?_;show Ca (c::rest)=_;rw [Xv (u:=c::rest) h2 h3 (show (((c.toNat:Int)==34))=false from h4) (by simp),P0];cases Lib.hasPrefix rest [61]
 . rw [h6]
 rw [h5]
theorem Pe.lf (rest:Ag):Pe [10] [] rest:=⟨[],vW (c:=10) (r:=rest) rfl (by decide) (.nil _),rfl⟩
theorem Pe.dec {n:Nat}(h:n<=1099511627776){rest:Ag}(hr:Ol rest):Pe (Lib.decDigits n) [⟨1,Lib.decDigits n,0⟩] rest:=by
 obtain ⟨h1,h0⟩:=Y0 n;have h2:=aQ h;generalize Lib.decDigits n=s at h0 h1 h2;have h3:=rW h1;obtain ⟨c,r,rfl⟩:∃c r,s=c::r:=by cases s with | nil=>cases h0 | cons c r=>exact ⟨c,r,rfl⟩
 have hd:Bn c=true:=by rw [Jp,Cd] at h1;exact h1.1
 have hs:=iF c;rw [hd] at hs;simp only [Bu,Kb,Cd,A4] at hs;refine Pe.one h0 (qN hs.1) ?_;have e:B4 Bn ((c::r)++rest)=(c::r).length:=by rw [Tj hr.digit,h3]
 rw [jS (u:=(c::r)++rest) hs.2 hd (by simp),e,List.take_left',h2,if_neg (by simp)]
 .
  rw [if_neg];rw [rY];simp only [Cd,not_and,Wt,Ck];intro hl;cases rest with
  | nil=>simp at hl
  | cons a q=>exact (gO (hr a q rfl).1).1
 rfl
theorem Pe.quote {s:Ag}(h:s.length<=64)(rest:Ag):Pe ([34]++B0 s ++ [34]) [⟨2,s,0⟩] rest:=by
 have e:([34]++B0 s ++ [34]:Ag)++rest=34::(B0 s++34::rest):=by simp
 refine Pe.one (by simp) ?_ ?_
 . rw [e];exact qN (by kernel_rfl)
 rw [e,yM s rest h];have:((([34]++B0 s ++ [34]:Ag).length:Nat):Int)=((B0 s).length:Int)+2:=by simp;omega
 rw [this]
abbrev tg (w:Ag):Tok:=⟨3,w,0⟩
def cZ (n:Int):List Tok:=if n<0 then [tg Oi,⟨1,Lib.decDigits n.natAbs,0⟩] else [⟨1,Lib.decDigits n.toNat,0⟩]
def pT (t:Syn):List Tok:=
 if (t.name==G0) then cZ t.num
 else if (t.name==Ho) then if (t.num==1) then [tw K9] else [tw Je]
 else [⟨2,t.text,0⟩]
def Gj (p k:Syn)(l:List Tok):List Tok:=if Dc p.kind k.kind then [Kd]++l ++ [Jt] else l
def Hz:List (List Tok)->List Tok
 | []=>[]
 | [x]=>x
 | x::y::r=>x ++ [N8]++Hz (y::r)
def Em (n:Int):Tok:=if (n==10)||(n==11) then tw (Mk n) else tg (Mk n)
def Eg (t:Syn)(ws:List (List Tok)):List Tok:=
 if (t.kind==0) then ws.flatten
 else if (t.kind==1) then [tw Dj] ++ [] ++ [tw t.text] ++ [tg Gt]++Hz ws ++ [tg Fg]
 else if (t.kind==2) then [tw t.text] ++ [tg H6] ++ [tw (Im t.num)]
 else if (t.kind==3) then [tw C0] ++ [] ++ [tw t.text]++(if (Bi t 0).text == [] then [] else [tw Oa] ++ [tw (Bi t 0).text]) ++ [] ++ [tw E4] ++ []++ws.getD 1 [] ++ [] ++ [tw Dw] ++ []++Hz (ws.drop 2) ++ [tg dS]
 else if (t.kind==5) then [tw t.text] ++ [] ++ [tw t.name]++(if ws == [] then [] else [tw Me]++ws.getD 0 [])
 else if (t.kind==13) then pT t
 else if (t.kind==14) then [tw t.text] ++ [tg Ir] ++ [tw t.name]
 else if (t.kind==15) then [tw Gv] ++ [Kd] ++ [tw t.text] ++ [Jt]
 else if (t.kind==16) then [tw (Nl t.num)] ++ [Kd] ++ [tw t.text] ++ [tg Ir] ++ [tw t.name]++(if ws == [] then [] else [N8]++ws.getD 0 []) ++ [Jt]
 else if (t.kind==17) then Gj t (Bi t 0) (ws.getD 0 []) ++ [] ++ [Em t.num] ++ []++Gj t (Bi t 1) (ws.getD 1 [])
 else if (t.kind==18) then [tw F7] ++ []++Gj t (Bi t 0) (ws.getD 0 [])
 else [tw (Fz t.kind)] ++ [Kd]++Hz ws++(if (t.kind==11) then [N8]++cZ t.num else []) ++ [Jt]
mutual
def Af:Syn->List Tok
 | ⟨k,x,n,m,kids,p⟩=>Eg ⟨k,x,n,m,kids,p⟩ (wD kids)
def wD:List Syn->List (List Tok)
 | []=>[]
 | x::r=>Af x::wD r
end
theorem nU:∀l:List Syn,wD l=l.map Af
 | []=>by rw [wD,A5]
 | x::r=>by rw [wD,nU r,Ao]
theorem Cz (t:Syn):Af t=Eg t (t.kids.map Af):=by cases t;rw [Af,nU]
section
variable (f:Ag->Ag) (c:Int->Int)
def zX (k:Int)(x:Ag):Ag:=if ((k==14)||(k==15))||(k==16) then f x else x
def zN (k:Int)(n:Ag):Ag:=if (k==5) then f n else n
mutual
def zT:Syn->Syn
 | ⟨k,x,n,m,kids,p⟩=>⟨k,zX f k x,zN f k n,m,zL kids,c p⟩
def zL:List Syn->List Syn
 | []=>[]
 | x::r=>zT x::zL r
end
theorem zL_map:∀l:List Syn,zL f c l=l.map (zT f c)
 | []=>by rw [zL,A5]
 | x::r=>by rw [zL,zL_map r,Ao]
theorem lJ (t:Syn):zT f c t=⟨t.kind,zX f t.kind t.text,zN f t.kind t.name,t.num,t.kids.map (zT f c),c t.pos⟩:=by cases t;rw [zT,zL_map]
def zV (v:Va):Va:=⟨f v.name,v.type⟩
end
section
variable {f:Ag->Ag} {c:Int->Int}
theorem Zs (t:Syn):(zT f c t).kind=t.kind:=by rw [lJ]
theorem z_num (t:Syn):(zT f c t).num=t.num:=by rw [lJ]
theorem z_pos (t:Syn):(zT f c t).pos=c t.pos:=by rw [lJ]
theorem Wr (t:Syn):(zT f c t).kids=t.kids.map (zT f c):=by rw [lJ]
theorem Ql (t:Syn):(zT f c t).text=zX f t.kind t.text:=by rw [lJ]
theorem dW (t:Syn):(zT f c t).name=zN f t.kind t.name:=by rw [lJ]
theorem Wq (t:Syn){j:Nat}(h:j<t.kids.length):Bi (zT f c t) j=zT f c (Bi t j):=by
 unfold Bi;rw [Wr,Ez,Ez,List.getElem?_map,List.getElem?_eq_getElem h];rfl
theorem zX_o {k:Int}{x:Ag}(h:¬(k=14\/k=15\/k=16)):zX f k x=x:=by
 unfold zX;rw [if_neg (by simp;omega)]
theorem zX_z {k:Int}{x:Ag}(h:k=14\/k=15\/k=16):zX f k x=f x:=by
 unfold zX;rw [if_pos (by rcases h with rfl | rfl | rfl <;> rfl)]
theorem zN_o {k:Int}{x:Ag}(h:k≠5):zN f k x=x:=by
 unfold zN;rw [if_neg (by simpa using h)]
theorem zN_z {x:Ag}:zN f 5 x=f x:=rfl
theorem wS (V:List Va):K8 (V.map (zV f))=(K8 V).map f:=by
 show (V.map (zV f)).map (·.name)=(V.map (·.name)).map f;rw [Kr,Kr];rfl
theorem zV_sc (T:List e8Sc)(V:List Va)(v:Int):X1 T (V.map (zV f)) v=X1 T V v:=by
 unfold X1;rw [List.getElem?_map];cases V[v.toNat]? with
 | none=>rfl
 | some a=>rfl
section
variable (hf:∀a b,f a=f b->a=b)
include hf
theorem z1_beq (a b:Ag):(f a==f b)=(a==b):=by
  cases h:a==b with
  | true=>rw [eq_of_beq h];simp
  | false=>
    rw [Hm] at h ⊢;exact fun e=>h (hf _ _ e)
theorem Wp (l:List Ag)(n:Ag):(l.map f).contains (f n)=l.contains n:=by
 induction l with
 | nil=>rfl
 | cons a r ih=>rw [Ao,dY,dY,ih,z1_beq hf]
theorem z1_idx (l:List Ag)(n:Ag):(l.map f).idxOf (f n)=l.idxOf n:=by
 induction l with
 | nil=>rfl
 | cons a r ih=>rw [Ao,List.idxOf_cons,List.idxOf_cons,ih,z1_beq hf]
theorem qY (l:List Ag)(n:Ag):Sr (l.map f) (f n)=Sr l n:=by
 unfold Sr;rw [Wp hf,z1_idx hf]
end
theorem z_ev:∀t:Syn,Al t .pats=0->O2 (zT f c t)=(O2 t).map (zT f c):=by
  intro t
  induction t using Syn.ind with
  | h t ih=>
    intro hc;have hm:∀a∈D7 t,O2 (zT f c a)=(O2 a).map (zT f c):=fun a ha=>ih a (Vu ha) (Vt hc ha)
    have hp:D7 (zT f c t)=(D7 t).map (zT f c):=by
      unfold D7;rw [Zs,Wr];split
      . rfl
      . split
        . rw [List.map_take]
        rfl
    have hf:∀l:List Syn,(∀a∈l,O2 (zT f c a)=(O2 a).map (zT f c))->(l.map (zT f c)).flatMap O2=(l.flatMap O2).map (zT f c):=by
      intro l
      induction l with
      | nil=>intro _;rfl
      | cons x r ih2=>
        intro hl;rw [Ao,Ld,Ld,Dt,hl x (by simp),ih2 fun a ha=>hl a (by simp [ha])]
    rw [ev_pk,ev_pk t,hp,hf _ hm,Dt,Zs]
    congr 1
    split
    . rfl
    . split
      . rename_i h10
        rw [Wq t (by have:=Ma hc (.inl (by simpa using h10));omega)];rfl
      rfl
theorem ev_five:∀t:Syn,Al t .pats=0->∀e∈O2 t,e.kind=5:=by
  intro t
  induction t using Syn.ind with
  | h t ih=>
    intro hc e he;rw [ev_pk] at he;rcases Is.1 he with he | he
    . split at he
      . rename_i h5;rw [Ft.1 he];simpa using h5
      . split at he
        . rename_i h10
          rw [Ft.1 he];exact Fx (Ct (Cq (pat_ev hc (by simpa using h10))).1).1
        cases he
    . obtain ⟨a,ha,h⟩:=List.mem_flatMap.1 he
      exact ih a (Vu ha) (Vt hc ha) e h
section
variable {T:List e8Sc} {V:List Va} (hf:∀a b,f a=f b->a=b)
theorem z_decV {t:Syn}(h:t.kind=5):Oo T (zT f c t)=zV f (Oo T t):=by
 unfold Oo;rw [Ql,zX_o (by omega),dW,h,zN_z];rfl
theorem z_val {t:Syn}(h:t.kind=13):dP (zT f c t)=dP t:=by
 unfold dP;rw [Ql,zX_o (by omega),dW,zN_o (by omega),z_num]
theorem iS {t:Syn}(h:Al t .exps=0):t.kind=13\/t.kind=14\/t.kind=15\/t.kind=16\/t.kind=17\/t.kind=18:=by
 have:=N2 (Ct (Cq h).1).1;omega
theorem leaf_args {t:Syn}{xs ys:List Ex}(h:¬(t.kind=17\/t.kind=18))(hc:Al t .exps=0):Mj T V t xs=Mj T V t ys:=by
 unfold Mj;rcases iS hc with hk | hk | hk | hk | hk | hk
 .
  have h1:(t.kind==13)=true:=by rw [hk];rfl
  rw [if_pos h1,if_pos h1]
 .
  have h1:(t.kind==13)=false:=by rw [hk];rfl
  have h2:(t.kind==14)=true:=by rw [hk];rfl
  rw [Bo h1,Bo h1,if_pos h2,if_pos h2]
 .
  have h1:(t.kind==13)=false:=by rw [hk];rfl
  have h2:(t.kind==14)=false:=by rw [hk];rfl
  have h3:(t.kind==15)=true:=by rw [hk];rfl
  rw [Bo h1,Bo h1,Bo h2,Bo h2,if_pos h3,if_pos h3]
 .
  have h1:(t.kind==13)=false:=by rw [hk];rfl
  have h2:(t.kind==14)=false:=by rw [hk];rfl
  have h3:(t.kind==15)=false:=by rw [hk];rfl
  have h4:(t.kind==16)=true:=by rw [hk];rfl
  rw [Bo h1,Bo h1,Bo h2,Bo h2,Bo h3,Bo h3,if_pos h4,if_pos h4]
 . exact absurd (.inl hk) h
 exact absurd (.inr hk) h
theorem z_pk (t:Syn):D7 (zT f c t)=(D7 t).map (zT f c):=by
 unfold D7;rw [Zs,Wr];split
 . rfl
 split
 . rw [List.map_take]
 rfl
theorem z_keyG (n:Ag):∀(l:List Va) (out:List Int),Vj T n (l.map (zV f)) out=Vj T n l out
 | [],out=>rfl
 | v::r,out=>by rw [Ao,Vj,Vj];simp only [zV];rw [z_keyG n r];rfl
include hf
theorem z_decE {t:Syn}(h:t.kind=5):Mg T (V.map (zV f)) (zT f c t)=Mg T V t:=by
 unfold Mg;rw [Bt,Ql,zX_o (by omega),dW,h,zN_z,wS,Wp hf]
theorem z_decS:∀(l:List Syn) (V:List Va),(∀e∈l,e.kind=5)->(L2 T (V.map (zV f)) (l.map (zT f c))).1=(L2 T V l).1.map (zV f)/\(L2 T (V.map (zV f)) (l.map (zT f c))).2.err=(L2 T V l).2.err
  | [],V,_=>⟨rfl,rfl⟩
  | t::r,V,h=>by
    have ht:=h t (by simp);rw [Ao,Mt,Mt,z_decE hf ht,z_decV ht];cases hq:Mg T V t != 0 with
    | true=>rw [if_pos rfl,if_pos rfl];exact ⟨rfl,rfl⟩
    | false=>
      rw [Bo rfl,Bo rfl];have:=z_decS r (V ++ [Oo T t]) fun e he=>h e (by simp [he])
      rw [Dt,Wy] at this;exact this
theorem z_look (t:Syn):(J7 T (V.map (zV f)) (zT f c t)).err=(J7 T V t).err:=by
 unfold J7;rw [Zs];by_cases hk:t.kind=14\/t.kind=15\/t.kind=16
 .
  rw [Ql,zX_z hk,dW,zN_o (by omega),wS,Wp hf,qY hf,zV_sc,z_pos];split
  . rfl
  split
  . rfl
  split
  . rfl
  split <;> rfl
 have h0:(((t.kind != 14)&&(t.kind != 15))&&(t.kind != 16))=true:=by simp;omega
 rw [if_pos h0,if_pos h0]
omit hf in
theorem z_each {g h:Syn->Fa}:∀l:List Syn,(∀a∈l,(g (zT f c a)).err=(h a).err)->(Ja g (l.map (zT f c))).err=(Ja h l).err
  | [],_=>rfl
  | x::r,hx=>by
    rw [Ao,Ja,Ja,hx x (by simp)];split
    . exact hx x (by simp)
    exact z_each r fun a ha=>hx a (by simp [ha])
theorem z_walk:∀t:Syn,(G4 T (V.map (zV f)) (zT f c t)).err=(G4 T V t).err:=by
  intro t
  induction t using Syn.ind with
  | h t ih=>
    rw [Wn,Wn,z_look hf,Wr];split
    . exact z_look hf t
    exact z_each t.kids ih
theorem z_leaf {t:Syn}{xs:List Ex}(h:Al t .exps=0):Mj T (V.map (zV f)) (zT f c t) xs=Mj T V t xs:=by
  unfold Mj;rw [Zs,Wr,Bt,z_num];rcases iS h with hk | hk | hk | hk | hk | hk
  . have h1:(t.kind==13)=true:=by rw [hk];rfl
    rw [if_pos h1,if_pos h1,z_val hk]
  . have h1:(t.kind==13)=false:=by rw [hk];rfl
    have h2:(t.kind==14)=true:=by rw [hk];rfl
    rw [Bo h1,Bo h1,if_pos h2,if_pos h2,Ql,zX_z (.inl hk),dW,zN_o (by omega),wS,qY hf,zV_sc]
  . have h1:(t.kind==13)=false:=by rw [hk];rfl
    have h2:(t.kind==14)=false:=by rw [hk];rfl
    have h3:(t.kind==15)=true:=by rw [hk];rfl
    rw [Bo h1,Bo h1,Bo h2,Bo h2,if_pos h3,if_pos h3,Ql,zX_z (.inr (.inl hk)),wS,qY hf]
  . have h1:(t.kind==13)=false:=by rw [hk];rfl
    have h2:(t.kind==14)=false:=by rw [hk];rfl
    have h3:(t.kind==15)=false:=by rw [hk];rfl
    have h4:(t.kind==16)=true:=by rw [hk];rfl
    rw [Bo h1,Bo h1,Bo h2,Bo h2,Bo h3,Bo h3,if_pos h4,if_pos h4,Ql,zX_z (.inr (.inr hk)),dW,zN_o (by omega),wS,qY hf,zV_sc];cases h5:decide ((0:Int)<(t.kids.length:Int)) with
    | false=>rfl
    | true=>
      have h6:0<t.kids.length:=by have:=Ey h5;omega
      have h7:=(Ei h (He h6)).2;have h8:Dm t 0 = .only 13:=by unfold Dm;rw [hk];rfl
      rw [h8] at h7;rw [Wq t h6,z_val (Fx h7)]
  . have h1:(t.kind==13)=false:=by rw [hk];rfl
    have h2:(t.kind==14)=false:=by rw [hk];rfl
    have h3:(t.kind==15)=false:=by rw [hk];rfl
    have h4:(t.kind==16)=false:=by rw [hk];rfl
    rw [Bo h1,Bo h1,Bo h2,Bo h2,Bo h3,Bo h3,Bo h4,Bo h4]
  . have h1:(t.kind==13)=false:=by rw [hk];rfl
    have h2:(t.kind==14)=false:=by rw [hk];rfl
    have h3:(t.kind==15)=false:=by rw [hk];rfl
    have h4:(t.kind==16)=false:=by rw [hk];rfl
    rw [Bo h1,Bo h1,Bo h2,Bo h2,Bo h3,Bo h3,Bo h4,Bo h4]
theorem qZ:∀t:Syn,Al t .exps=0->F1 T (V.map (zV f)) (zT f c t)=F1 T V t:=by
  intro t
  induction t using Syn.ind with
  | h t ih=>
    intro hc;rw [Jb,Jb T V,z_leaf hf hc,Wr];by_cases hk:t.kind=17\/t.kind=18
    . congr 1
      rw [Kr];refine Qv fun a ha=>?_
      obtain ⟨j,hj⟩:=Gp.1 ha;exact ih a ha (exp_kid hc hk hj)
    exact leaf_args hk hc
theorem z_cond {t:Syn}{p:Pl}(hc:Al t p=0)(h5:t.kind=5):Mh T (V.map (zV f)) (zT f c t)=Mh T V t:=by
  unfold Mh;rw [Wr,Bt];cases h:decide ((0:Int)<(t.kids.length:Int)) with
  | false=>rfl
  | true=>
    have h6:0<t.kids.length:=by have:=Ey h;omega
    rw [if_pos rfl,if_pos rfl,Wq t h6];exact qZ hf _ (evt_kid hc h5 (He h6))
theorem z_ptn {t:Syn}{s:Nx}{xs:List Pt}(hc:Al t .pats=0):Ow T (V.map (zV f)) (zT f c t) s xs=Ow T V t s xs:=by
 unfold Ow;rw [Zs,z_num];by_cases h5:t.kind=5
 .
  have h1:(t.kind==5)=true:=by simpa using h5
  rw [if_pos h1,if_pos h1,Ql,zX_o (by omega),z_cond hf hc h5]
 have h1:(t.kind==5)=false:=by simpa using h5
 rw [Bo h1,Bo h1];by_cases h10:t.kind=10
 .
  have h2:(t.kind==10)=true:=by simpa using h10
  have he:=pat_ev hc h10;have hk:=Fx (Ct (Cq he).1).1;have h9:=Ma hc (.inl h10);rw [if_pos h2,if_pos h2,Wq t (by omega),Ql,zX_o (by omega),z_cond hf he hk]
 have h2:(t.kind==10)=false:=by simpa using h10
 rw [Bo h2,Bo h2];by_cases h11:t.kind=11
 .
  have h3:(t.kind==11)=true:=by simpa using h11
  rw [if_pos h3,if_pos h3]
 have h3:(t.kind==11)=false:=by simpa using h11
 rw [Bo h3,Bo h3];by_cases h12:t.kind=12
 .
  have h4:(t.kind==12)=true:=by simpa using h12
  have h9:=Ma hc (.inr h12);rw [if_pos h4,if_pos h4,Wq t (by omega),qZ hf _ (pat_cond hc h12)]
 have h4:(t.kind==12)=false:=by simpa using h12
 rw [Bo h4,Bo h4]
theorem z_ptt:∀t:Syn,Al t .pats=0->∀s:Nx,Kk T (V.map (zV f)) (zT f c t) s=Kk T V t s:=by
  intro t
  induction t using Syn.ind with
  | h t ih=>
    intro hc s
    have key:∀l:List Syn,(∀a∈l,a∈D7 t)->∀s:Nx,Gn T (V.map (zV f)) (l.map (zT f c)) s=Gn T V l s:=by
      intro l
      induction l with
      | nil=>intro _ s;rw [A5,Gn,Gn]
      | cons x r ih2=>
        intro hl s;have hx:=hl x (by simp);rw [Ao,Gn,Gn,ih x (Vu hx) (Vt hc hx) s,ih2 (fun a ha=>hl a (by simp [ha]))]
    rw [gM,gM T V,z_pk,show Yi (zT f c t) s=Yi t s by unfold Yi;rw [Zs],key (D7 t) (fun a ha=>ha),z_ptn hf hc]
end
end
section
variable {T:List e8Sc} {t:Syn}
theorem QryOK.key4 (h:QryOK t):(Bi t 0).kind=4:=by
 have hk:=(Ei h.c (He (k:=0) (by have:=h.len;omega))).2;unfold Dm at hk;rw [h.kind] at hk;exact Fx hk
theorem QryOK.rets (h:QryOK t):∀a∈t.kids.drop 2,Al a .exps=0:=fun a ha=>by
 obtain ⟨j,hj⟩:=Gp.1 ha;rw [List.getElem?_drop] at hj;have hk:=(Ei h.c hj).1;unfold Dm at hk;rw [h.kind] at hk;rw [if_neg (by decide),if_neg (by decide),if_pos (by decide),if_neg (by simp;omega),if_neg (by simp;omega)] at hk;exact hk
variable {f:Ag->Ag} {c:Int->Int} (hf:∀a b,f a=f b->a=b)
theorem z_ky (ht:QryOK t)(V:List Va):yF T (zT f c t) (V.map (zV f))=yF T t V:=by
 have h0:(Bi (zT f c t) 0).text=(Bi t 0).text:=by rw [Wq t (by have:=ht.len;omega),Ql,ht.key4,zX_o (by omega)]
 unfold yF Uy;rw [h0,z_keyG]
include hf
theorem z_dec (ht:QryOK t):(L2 T [] (O2 (Bi (zT f c t) 1))).1=(To T t).map (zV f)/\(L2 T [] (O2 (Bi (zT f c t) 1))).2.err=(vfR T t).err:=by
 rw [Wq t (by have:=ht.len;omega),z_ev _ ht.pat];exact z_decS hf (O2 (Bi t 1)) [] (ev_five _ ht.pat)
theorem z_vr (ht:QryOK t):To T (zT f c t)=(To T t).map (zV f):=(z_dec hf ht).1
theorem z_vf (ht:QryOK t):(vfR T (zT f c t)).err=(vfR T t).err:=(z_dec hf ht).2
theorem z_rt {V:List Va}{x:Syn}(hc:Al x .exps=0):(rtF T (V.map (zV f)) (zT f c x)).err=(rtF T V x).err:=by
 unfold rtF;rw [qZ hf _ hc];split <;> rfl
def rnQ (f:Ag->Ag)(q:Qy):Qy:=⟨q.name,q.vars.map (zV f),q.key,q.pattern,q.returns⟩
omit hf in
theorem wU {b b':Bool}{g g':Fa}{x x':Qy×Fa}(hb:b'=b)(hg:g'.err=g.err)(hx:b=false->x'.2.err=x.2.err/\x'.1=rnQ f x.1):(if b' then (kK,g') else x').2.err=(if b then (kK,g) else x).2.err/\(if b' then (kK,g') else x').1=rnQ f (if b then (kK,g) else x).1:=by
 subst hb;cases b' with
 | true=>exact ⟨hg,rfl⟩
 | false=>exact hx rfl
theorem z_query (ht:QryOK t):(Ec T (zT f c t)).2.err=(Ec T t).2.err/\(Ec T (zT f c t)).1=rnQ f (Ec T t).1:=by
 have e1:=z_vr (T:=T) (c:=c) hf ht;have hl:=ht.len;have hpt:ptR T (zT f c t) ((To T t).map (zV f))=ptR T t (To T t):=by unfold ptR;rw [Wq t (by omega),z_ptt hf _ ht.pat]
 have hdr:(zT f c t).kids.drop 2=(t.kids.drop 2).map (zT f c):=by rw [Wr,List.map_drop]
 have hea:(Ja (rtF T ((To T t).map (zV f))) ((zT f c t).kids.drop 2)).err=(Ja (rtF T (To T t)) (t.kids.drop 2)).err:=by
  rw [hdr];exact z_each _ fun a ha=>z_rt hf (ht.rets a ha)
 unfold Ec;refine wU (by rw [z_vf hf ht]) (z_vf hf ht) fun _=>?_
 rw [e1];unfold QR1;refine wU (by rw [z_ky ht]) rfl fun _=>?_
 unfold QR2;refine wU (by rw [z_walk hf]) (z_walk hf t) fun _=>?_
 unfold QR3;refine wU (by rw [hpt]) (by rw [hpt]) fun _=>?_
 unfold QR4;refine wU (by rw [hea]) hea fun _=>⟨rfl,?_⟩
 unfold qyR rnQ;simp only;rw [hpt,z_ky ht,hdr,Kr,Ql,ht.kind,zX_o (by omega)];rw [show List.map (F1 T ((To T t).map (zV f)) ∘ zT f c) (t.kids.drop 2)=(t.kids.drop 2).map (F1 T (To T t)) from Qv fun a ha=>qZ hf a (ht.rets a ha)]
end
section
variable {T:List e8Sc} {t:Syn}
end
section
variable {T:List e8Sc} {V:List Va} {t:Syn}
end
theorem Ty {f:Syn->Fa}:∀{l:List Syn},(∀a∈l,(f a).err=0)->Ja f l=Oe
 | [],_=>rfl
 | x::r,h=>by rw [Ja,if_neg (by rw [h x (by simp)];decide)];exact Ty fun a ha=>h a (by simp [ha])
theorem idx_nodup {l:List Ag}(hn:l.Nodup):∀{i:Nat} {x:Ag},l[i]? = some x->l.contains x=true/\l.idxOf x=i:=by
  induction l with
  | nil=>intro i x h;simp at h
  | cons a r ih=>
    intro i x h;rw [Le] at hn;cases i with
    | zero=>simp at h;subst h;simp
    | succ i=>
      rw [List.getElem?_cons_succ] at h;have hx:=Aj h;have hne:a≠x:=fun e=>hn.1 (e▸hx)
      obtain ⟨h1,h2⟩:=ih hn.2 h;refine ⟨by rw [dY,h1,M7],?_⟩;rw [List.idxOf_cons,h2];have:(a==x)=false:=by rw [Hm];exact hne
      rw [this];rfl
theorem cL {l:List Ag}(hn:l.Nodup){i:Nat}{x:Ag}(h:l[i]? = some x):Sr l x=(i:Int)/\dC l x=(i:Int)/\l.contains x=true:=by
 obtain ⟨h1,h2⟩:=idx_nodup hn h;unfold Sr dC;rw [if_pos h1,if_pos h1,h2];exact ⟨rfl,rfl,h1⟩
theorem cY {e:Ex}(h:In e=0):Lm e=0/\((e.op=0\/e.op=4)->F5 e.val=0)/\(e.op=4->1<=e.kind/\e.kind<=5/\(e.kind=1->e.val=v0)):=by
 unfold In at h;split at h
 . cases h
 split at h
 . cases h
 split at h
 . cases h
 split at h
 . cases h
 rename_i h1 h2 h3 h4;by_cases hq:(e.op==4||e.op==0)=true
 .
  rw [if_pos hq] at h;by_cases hc:(Tw e != 0)=true
  . rw [if_pos hc] at h;rw [h] at hc;cases hc
  rw [if_neg hc] at h;have hc0:Tw e=0:=by simpa using hc
  unfold Tw at hc0;split at hc0
  . rename_i h5;rw [hc0] at h5;cases h5
  rename_i h5;have hv:F5 e.val=0:=by simpa using h5
  refine ⟨h,fun _=>hv,fun ho=>?_⟩;have e4:(e.op==4)=true:=by rw [ho];rfl
  rw [e4,Gq] at h4;simp only [G1,Ck,not_or] at h4;refine ⟨by omega,by omega,fun hk=>?_⟩;split at hc0
  . cases hc0
  rename_i h6;rw [e4,Gq,hk] at h6;simp only [G1,not_or,Cd,not_and] at h6;have:=h6.2 rfl;exact (tH _).1 (by simpa using this)
 rw [if_neg hq] at h;simp only [G1,not_or] at hq;exact ⟨h,fun ho=>by rcases ho with ho | ho <;> rw [ho] at hq <;> simp at hq,fun ho=>by rw [ho] at hq;simp at hq⟩
theorem form_use {e:Ex}(h:Lm e=0):(¬(e.op=1\/e.op=4\/e.op=2\/e.op=3)->e.var=0)/\(¬(e.op=1\/e.op=4)->e.field=0)/\(e.op≠4->e.kind=0)/\(e.op≠4->e.op≠0->e.val=v0):=by
 unfold Lm at h;split at h
 . cases h
 rename_i h1;simp only [G1,not_or,Cd,not_and,A4,bne_iff_ne,ne_eq,Decidable.not_not] at h1;obtain ⟨⟨⟨h2,h3⟩,h4⟩,h5⟩:=h1;refine ⟨fun hn=>h2 ?_,fun hn=>h3 ?_,fun hn=>h4 (by simpa using hn),fun hn hm=>?_⟩
 . unfold Kp;rw [if_neg (by omega),if_neg (by omega)]
 .
  unfold Kp;rw [if_neg (by omega)];split <;> rfl
 have:=h5 (by simp [hn,hm]);exact (tH _).1 (by simpa using this)
theorem eS {e e':Ex}(h1:e.op=e'.op)(h2:e.args=e'.args)(h3:e.var=e'.var)(h4:e.field=e'.field)(h5:e.kind=e'.kind)(h6:e.val=e'.val):e=e':=by
 cases e;cases e';simp_all
theorem Xx {e:Ex}(h:In e=0)(ho:e.op<=4):e.args = []:=by
 obtain ⟨h1,h2,h3⟩:=T9 h;have:Ts e.op=0:=by unfold Ts;rw [if_neg (by omega),if_pos (by omega)]
 rw [this] at h3;exact bJ (by omega)
theorem wJ {v:Vl}(h:F5 v=0):dP (fQ v)=v:=by
 unfold F5 at h;unfold dP fQ knm;simp only;by_cases h0:v.kind=0
 .
  rw [h0] at h ⊢;rw [if_pos (by rfl)] at h;split at h
  . cases h
  rename_i h1;have:v.text = []:=by simpa using h1
  rw [if_neg (by decide),if_neg (by decide)];cases v;simp only at h0 this;subst h0;subst this;rfl
 by_cases h1:v.kind=1
 .
  rw [h1] at h ⊢;rw [if_pos (by rfl)] at h;split at h
  . cases h
  rename_i h2;have:v.text = []:=by simpa using h2
  rw [if_pos (by decide)];cases v;simp only at h1 this;subst h1;subst this;rfl
 by_cases h2:v.kind=2
 .
  rw [h2] at h ⊢;rw [if_neg (by decide),if_pos (by rfl)] at h;split at h
  . cases h
  rename_i h3;have:v.num=0:=by simpa using h3
  rw [if_neg (by decide),if_pos (by decide)];cases v;simp only at h2 this;subst h2;subst this;rfl
 rw [if_neg (by simp;omega),if_neg (by simp;omega)] at h;cases h
structure VrOK (T:List e8Sc) (V:List Va):Prop where
 rv:RvOK T V
 vn:(K8 V).Nodup
 fn:∀s∈T,(s.fields.map (·.name)).Nodup
theorem nm_time:X7 F6=false:=by kernel_rfl
section
variable {T:List e8Sc} {V:List Va}
theorem va_at {v:Int}(h0:0<=v)(h1:v<(V.length:Int)):∃va,V[v.toNat]? = some va/\va∈V/\Ym V v=va.name:=by
 obtain ⟨va,h⟩:=pE h0 h1;exact ⟨va,h,Aj h,by unfold Ym;rw [h];rfl⟩
theorem Nv (hv:VrOK T V){v:Int}(h0:0<=v)(h1:v<(V.length:Int)):Sr (K8 V) (Ym V v)=v/\(K8 V).contains (Ym V v)=true:=by
 obtain ⟨va,h,_,hn⟩:=va_at h0 h1;have hx:(K8 V)[v.toNat]? = some (Ym V v):=by rw [List.getElem?_map,h,hn];rfl
 obtain ⟨h2,_,h3⟩:=cL hv.vn hx;exact ⟨by rw [h2];omega,h3⟩
theorem aF (hv:VrOK T V){v f:Int}(h0:0<=v)(h1:v<(V.length:Int))(h2:0<=f)(h3:f<((X1 T V v).fields.length:Int)):Js (X1 T V v) (pD T V v f)=f:=by
 obtain ⟨va,h,hm,_⟩:=va_at h0 h1;obtain ⟨sc,hsc⟩:=dN hv.rv hm;have hs:X1 T V v=sc:=qK h hsc;unfold pD;rw [hs] at h3 ⊢;obtain ⟨fi,hf⟩:=pE h2 h3;have hx:(sc.fields.map (·.name))[f.toNat]? = some fi.name:=by rw [List.getElem?_map,hf];rfl
 have:=(cL (hv.fn sc (Aj hsc)) hx).2.1;unfold Js;rw [hf];show dC (sc.fields.map (·.name)) fi.name=f;rw [this];omega
theorem Xs {e:Ex}(h:yE T V e=true)(hn:In e=0):((e.op=1\/e.op=2\/e.op=3\/e.op=4)->e.var<(V.length:Int))/\((e.op=1\/e.op=4)->e.field<((X1 T V e.var).fields.length:Int)):=by
 unfold yE at h;by_cases hc:1<=e.op/\e.op<=4
 .
  rw [if_pos (by simp;exact hc)] at h;split at h
  . cases h
  rename_i h1;simp only [Ck] at h1;refine ⟨fun _=>by omega,fun ho=>?_⟩;have e1:((e.op==1)||(e.op==4))=true:=by rcases ho with ho | ho <;> rw [ho] <;> rfl
  rw [e1,Gq] at h;simp at h;exact h
 exact ⟨fun ho=>by omega,fun ho=>by omega⟩
theorem oX (hv:VrOK T V):∀e:Ex,Hg e=0->U0 T V e=true->Zi T V e=true->F1 T V (Ny T V e)=e:=by
  intro e
  induction e using Ex.ind with
  | h e ih=>
    intro hn hk hm;obtain ⟨hn0,hna⟩:=Gl hn;obtain ⟨f1,f2,f3⟩:=cY hn0;obtain ⟨u1,u2,u3,u4⟩:=form_use f1;obtain ⟨o1,o2,o3⟩:=T9 hn0;have hp:=Vq hn;rw [gH,Cd] at hk;rw [pW,Cd] at hm;obtain ⟨k1,k2⟩:=Xs hk.1 hn0;have hka:=Fu.1 hk.2;have hma:=Fu.1 hm.2;have hc:e.op=0\/e.op=1\/e.op=2\/e.op=3\/e.op=4\/e.op=12\/(5<=e.op/\e.op<=11):=by omega
    rw [Ui,Jb];unfold shN;rcases hc with hc | hc | hc | hc | hc | hc | hc
    . rw [if_pos (by rw [hc];rfl),leafx_1 (by rfl),wJ (f2 (.inl hc))]
      exact eS hc.symm (Xx hn0 (by omega)).symm (u1 (by omega)).symm (u2 (by omega)).symm (u3 (by omega)).symm rfl
    . rw [if_neg (by rw [hc];decide),if_pos (by rw [hc];rfl)]
      have hv1:=k1 (.inl hc)
      have hfn:X7 (pD T V e.var e.field)=true:=by
        have:=hm.1;unfold aM at this;rw [if_pos (by rw [hc];rfl)] at this;exact this
      have hne:(pD T V e.var e.field==F6)=false:=by
        cases hq:pD T V e.var e.field==F6 with
        | false=>rfl
        | true=>rw [eq_of_beq hq,nm_time] at hfn;cases hfn
      rw [leafx_3 (by rfl) (by rfl) hne rfl];simp only;rw [(Nv hv hp.1 hv1).1,aF hv hp.1 hv1 hp.2 (k2 (.inl hc))];exact eS hc.symm (Xx hn0 (by omega)).symm rfl rfl (u3 (by omega)).symm (u4 (by omega) (by omega)).symm
    . rw [if_neg (by rw [hc];decide),if_neg (by rw [hc];decide),if_pos (by rw [hc];rfl),leafx_2 (by rfl) (by rfl) (by rfl)]
      simp only;rw [(Nv hv hp.1 (k1 (.inr (.inl hc)))).1];exact eS hc.symm (Xx hn0 (by omega)).symm rfl (u2 (by omega)).symm (u3 (by omega)).symm (u4 (by omega) (by omega)).symm
    . rw [if_neg (by rw [hc];decide),if_neg (by rw [hc];decide),if_neg (by rw [hc];decide),if_pos (by rw [hc];rfl),leafx_4 (by rfl) (by rfl) (by rfl)]
      simp only;rw [(Nv hv hp.1 (k1 (.inr (.inr (.inl hc))))).1];exact eS hc.symm (Xx hn0 (by omega)).symm rfl (u2 (by omega)).symm (u3 (by omega)).symm (u4 (by omega) (by omega)).symm
    . rw [if_neg (by rw [hc];decide),if_neg (by rw [hc];decide),if_neg (by rw [hc];decide),if_neg (by rw [hc];decide),if_pos (by rw [hc];rfl)]
      have hv1:=k1 (.inr (.inr (.inr hc)));have hb:=(Nv hv hp.1 hv1).1;have hfb:=aF hv hp.1 hv1 hp.2 (k2 (.inr hc));by_cases hk1:e.kind=1
      . rw [if_neg (by rw [hk1];decide),leafx_6 (by rfl) (by rfl) (by rfl) (by rfl) rfl (by rfl)]
        simp only;rw [hb,hfb];exact eS hc.symm (Xx hn0 (by omega)).symm rfl rfl rfl ((f3 hc).2.2 hk1).symm
      . rw [if_pos (by simpa using hk1),leafx_5 (by rfl) (by rfl) (by rfl) (by rfl) rfl (by rfl)]
        simp only;rw [hb,hfb];exact eS hc.symm (Xx hn0 (by omega)).symm rfl rfl rfl (wJ (f2 (.inr hc)))
    . rw [if_neg (by rw [hc];decide),if_neg (by rw [hc];decide),if_neg (by rw [hc];decide),if_neg (by rw [hc];decide),if_neg (by rw [hc];decide),if_pos (by rw [hc];rfl),leafx_7 (by rfl) (by rfl) (by rfl) (by rfl) (by rfl)]
      simp only [Kr];refine eS hc.symm ?_ (u1 (by omega)).symm (u2 (by omega)).symm (u3 (by omega)).symm (u4 (by omega) (by omega)).symm
      conv=>rhs;rw [<-List.map_id e.args]
      exact Qv fun a ha=>ih a ha (hna a ha) (hka a ha) (hma a ha)
    . rw [if_neg (by simp;omega),if_neg (by simp;omega),if_neg (by simp;omega),if_neg (by simp;omega),if_neg (by simp;omega),if_neg (by simp;omega),leafx_8 (by rfl) (by rfl) (by rfl) (by rfl) (by rfl)]
      simp only [Kr];refine eS rfl ?_ (u1 (by omega)).symm (u2 (by omega)).symm (u3 (by omega)).symm (u4 (by omega) (by omega)).symm
      conv=>rhs;rw [<-List.map_id e.args]
      exact Qv fun a ha=>ih a ha (hna a ha) (hka a ha) (hma a ha)
theorem T7 {t:Syn}(h:¬(t.kind=14\/t.kind=15\/t.kind=16)):J7 T V t=Oe:=look_1 (by simp;omega)
theorem sB (v:Vl):G4 T V (fQ v)=Oe:=by
 rw [Ob (by rw [T7 (by show ¬((13:Int)=14\/(13:Int)=15\/(13:Int)=16);decide)];rfl)];rfl
theorem oY (hv:VrOK T V):∀e:Ex,Hg e=0->U0 T V e=true->(G4 T V (Ny T V e)).err=0:=by
  intro e
  induction e using Ex.ind with
  | h e ih=>
    intro hn hk;obtain ⟨hn0,hna⟩:=Gl hn;obtain ⟨o1,o2,o3⟩:=T9 hn0;have hp:=Vq hn;rw [gH,Cd] at hk;obtain ⟨k1,k2⟩:=Xs hk.1 hn0;have hka:=Fu.1 hk.2
    have hkids:∀l:List Syn,l=e.args.map (Ny T V)->Ja (G4 T V) l=Oe:=fun l hl=>Ty fun a ha=>by
      rw [hl] at ha;obtain ⟨x,hx,rfl⟩:=Cl.1 ha;exact ih x hx (hna x hx) (hka x hx)
    have hc:e.op=0\/e.op=1\/e.op=2\/e.op=3\/e.op=4\/e.op=12\/(5<=e.op/\e.op<=11):=by omega
    rw [Ui];unfold shN;rcases hc with hc | hc | hc | hc | hc | hc | hc
    . rw [if_pos (by rw [hc];rfl),sB];rfl
    . rw [if_neg (by rw [hc];decide),if_pos (by rw [hc];rfl)]
      have hv1:=k1 (.inl hc);obtain ⟨b1,b2⟩:=Nv hv hp.1 hv1;have hfb:=aF hv hp.1 hv1 hp.2 (k2 (.inl hc))
      have hl:J7 T V ⟨14,Ym V e.var,pD T V e.var e.field,0,[],0⟩=Oe:=by
        cases h4:((14:Int)==15)||(((14:Int)==14)&&(pD T V e.var e.field==F6)) with
        | true=>exact pU (by rfl) (by simp only;rw [b2];rfl) h4
        | false=>exact yH (by rfl) (by simp only;rw [b2];rfl) h4 (by simp only;rw [b1,hfb];exact I8 (by omega))
      rw [Ob (by rw [hl];rfl)];rfl
    . rw [if_neg (by rw [hc];decide),if_neg (by rw [hc];decide),if_pos (by rw [hc];rfl)]
      have b2:=(Nv hv hp.1 (k1 (.inr (.inl hc)))).2;rw [Ob (by rw [pU (by rfl) (by simp only;rw [b2];rfl) (by rfl)];rfl)];rfl
    . rw [if_neg (by rw [hc];decide),if_neg (by rw [hc];decide),if_neg (by rw [hc];decide),if_pos (by rw [hc];rfl)]
      have b2:=(Nv hv hp.1 (k1 (.inr (.inr (.inl hc))))).2;rw [Ob (by rw [pU (by rfl) (by simp only;rw [b2];rfl) (by rfl)];rfl)];rfl
    . rw [if_neg (by rw [hc];decide),if_neg (by rw [hc];decide),if_neg (by rw [hc];decide),if_neg (by rw [hc];decide),if_pos (by rw [hc];rfl)]
      have hv1:=k1 (.inr (.inr (.inr hc)));obtain ⟨b1,b2⟩:=Nv hv hp.1 hv1;have hfb:=aF hv hp.1 hv1 hp.2 (k2 (.inr hc));generalize hks:(if (e.kind != 1)=true then [fQ e.val] else [])=ks;have hl:J7 T V ⟨16,Ym V e.var,pD T V e.var e.field,e.kind,ks,0⟩=Oe:=yH (by rfl) (by simp only;rw [b2];rfl) (by rfl) (by simp only;rw [b1,hfb];exact I8 (by omega));rw [Ob (by rw [hl];rfl),Ty];rfl;intro a ha;rw [<-hks] at ha;simp only at ha;split at ha
      . rw [Ft.1 ha,sB];rfl
      cases ha
    . rw [if_neg (by rw [hc];decide),if_neg (by rw [hc];decide),if_neg (by rw [hc];decide),if_neg (by rw [hc];decide),if_neg (by rw [hc];decide),if_pos (by rw [hc];rfl)]
      rw [Ob (by rw [T7 (by simp)];rfl),hkids _ rfl];rfl
    . rw [if_neg (by simp;omega),if_neg (by simp;omega),if_neg (by simp;omega),if_neg (by simp;omega),if_neg (by simp;omega),if_neg (by simp;omega)]
      rw [Ob (by rw [T7 (by simp)];rfl),hkids _ rfl];rfl
end
end Go.Proofs.YtckhoadldibflaaGreatDoor
