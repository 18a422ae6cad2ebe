/-
  Several texts in one: Q5, Q6, Q7, R63, Qb, Qc, Qd, Qe, Qf, R32, R64, R68, R65, R67. No condition.
-/
import Derived.Test.YtibcelnfkhdjaaaGreatDoorK10
import Derived.Test.YtibcelnfkhdjaaaGreatDoorK06
import Derived.Test.YtibcelnfkhdjaaaGreatDoorK05
import Derived.Test.YtibcelnfkhdjaaaGreatDoorK03
set_option linter.unusedVariables false
set_option linter.unusedSimpArgs false
set_option maxRecDepth 100000
namespace Go.Proofs.YtibcelnfkhdjaaaGreatDoor
open Go Go.Aw
variable {pre post rest:List Tok} {d:Int} {t:Tok}
theorem dW {F:PS->Syn×PS}{sg:List (Ac×Int)}{s:PS}{a b:Syn}{M:List Tok}{o:Ac×Int}
  (h1:F s=(a,Cg pre (t::rest) d)) (h2:sg.find? (fun x=>Ea x.1 (Cg pre (t::rest) d))=some o) (h3:F (Cg (pre ++ [t]) rest d)=(b,Cg M post d)) (h4:sg.find? (fun x=>Ea x.1 (Cg M post d))=none):I5 F sg s=(K6 o.2 a b a.pos,Cg M post d):=by
 have hn:∀(n:Nat) (c:Syn),Ge F sg n (Cg M post d) c=(c,Cg M post d):=fun n c=>by
  cases n with
  | zero=>rfl
  | succ n=>unfold Ge;rw [h4]
 unfold I5 B1;rw [h1];unfold Ge;simp only [h2,Ij,h3,hn]
theorem lE {sg:List (Ac×Int)}{s:PS}(h:∀x,x∈sg->Ea x.1 s=false):sg.find? (fun x=>Ea x.1 s)=none:=by
 rw [List.find?_eq_none];intro x hx;rw [h x hx];decide
theorem q_sum (hb:Bq post):uG.find? (fun x=>Ea x.1 (Cg pre post d))=none:=lE fun x hx=>by
 have h:=NoOp.q (pre:=pre) (d:=d) hb;simp only [uG,Cu,Na,or_false] at hx;rcases hx with rfl | rfl
 . exact h.1.2.2.1
 exact h.1.2.2.2
theorem qQ (hb:Bq post):kA.find? (fun x=>Ea x.1 (Cg pre post d))=none:=lE fun x hx=>by
 simp only [kA,Cu,Na,or_false] at hx;subst hx;exact (NoOp.q hb).1.2.1
theorem q_or (hb:Bq post):orL.find? (fun x=>Ea x.1 (Cg pre post d))=none:=lE fun x hx=>by
 simp only [orL,Cu,Na,or_false] at hx;subst hx;exact (NoOp.q hb).1.1
theorem mE {E N:PS->Syn×PS}{s:PS}{r:Syn×PS}(hn:Ea Gq s=false)(h:L5 E s=r):M5 E N s=r:=by unfold M5;rw [hn];exact h
theorem dS {E N:PS->Syn×PS}{s:PS}{r:Syn×PS}(h:M5 E N s=r)(hs:kA.find? (fun x=>Ea x.1 r.2)=none):iH E N s=r:=by
 have:I5 (M5 E N) kA s=M5 E N s:=aC (by rw [h];exact hs);unfold iH;rw [this,h]
theorem xY {E N:PS->Syn×PS}{s:PS}{r:Syn×PS}(h:iH E N s=r)(hs:orL.find? (fun x=>Ea x.1 r.2)=none):orP E N s=r:=by
 have:I5 (iH E N) orL s=iH E N s:=aC (by rw [h];exact hs);unfold orP;rw [this,h]
theorem sum_of {E:PS->Syn×PS}{s:PS}{r:Syn×PS}(h:D0 E s=r)(hs:uG.find? (fun x=>Ea x.1 r.2)=none):Fu E s=r:=by
 have:I5 (D0 E) uG s=D0 E s:=aC (by rw [h];exact hs);unfold Fu;rw [this,h]
theorem rT {E:PS->Syn×PS}{s:PS}{r:Syn×PS}(h:Fu E s=r)(hs:Ea w_lt r.2=false/\Ea w_le r.2=false/\Ea w_gt r.2=false/\Ea w_ge r.2=false/\Ea rC r.2=false/\Ea Aae r.2=false):L5 E s=r:=by
 obtain ⟨h1,h2,h3,h4,h5,h6⟩:=hs;rw [cmpP_K,h];unfold cmpK;rw [h1,h2,h3,h4,h5,h6];rfl
theorem bin_read {E N:PS->Syn×PS}{n:Int}{A B:Syn}{L R:List Tok}(hn:n=5\/n=6\/n=7\/n=8\/n=9\/n=10\/n=11)(hA:A.pos=0)(hb:Bq post)
  (u1:D0 E (Cg pre (L++E9 n::(R++post)) d)=(A,Cg (pre++L) (E9 n::(R++post)) d)) (h2:D0 E (Cg (pre++L ++ [E9 n]) (R++post) d)=(B,Cg (pre++L ++ [E9 n]++R) post d))
  (n1:∀q,Ea Gq (Cg pre (L++q) d)=false) (n2:∀p q,Ea Gq (Cg p (R++q) d)=false) :
  orP E N (Cg pre (L++E9 n::(R++post)) d)=(K6 n A B 0,Cg (pre++L ++ [E9 n]++R) post d):=by
 have hq:=NoOp.q (pre:=pre++L ++ [E9 n]++R) (d:=d) hb;have s2:Fu E (Cg (pre++L ++ [E9 n]) (R++post) d)=_:=sum_of h2 (q_sum hb);have c2:L5 E (Cg (pre++L ++ [E9 n]) (R++post) d)=_:=rT s2 hq.2;have t2:M5 E N (Cg (pre++L ++ [E9 n]) (R++post) d)=_:=mE (n2 _ _) c2;have a2:iH E N (Cg (pre++L ++ [E9 n]) (R++post) d)=_:=dS t2 (qQ hb);have hitS:∀w,Ea w (Cg (pre++L) (E9 n::(R++post)) d)=Hq (E9 n) w:=fun w=>Ci
 have noS:n≠5->n≠6->uG.find? (fun x=>Ea x.1 (Cg (pre++L) (E9 n::(R++post)) d))=none:=fun h5 h6=>lE fun x hx=>by
  rw [hitS];rcases hn with h | h | h | h | h | h | h
  . exact absurd h h5
  . exact absurd h h6
  all_goals (subst h;revert x;decide)
 have noC:n≠7->n≠8->n≠9->Hq (E9 n) w_lt=false/\Hq (E9 n) w_le=false/\Hq (E9 n) w_gt=false/\Hq (E9 n) w_ge=false/\Hq (E9 n) rC=false/\Hq (E9 n) Aae=false:=fun h7 h8 h9=>by
  rcases hn with h | h | h | h | h | h | h
  . subst h;decide
  . subst h;decide
  . exact absurd h h7
  . exact absurd h h8
  . exact absurd h h9
  . subst h;decide
  subst h;decide
 by_cases hs:n=5\/n=6
 .
  have c:Fu E (Cg pre (L++E9 n::(R++post)) d)=(K6 n A B A.pos,Cg (pre++L ++ [E9 n]++R) post d):=
   dW (o:=(Tc n,n)) u1 (by unfold uG;rw [List.find?_cons,List.find?_cons,hitS,hitS];rcases hs with h | h <;> subst h <;> rfl) h2 (q_sum hb)
  rw [hA] at c;exact xY (dS (mE (n1 _) (rT c hq.2)) (qQ hb)) (q_or hb)
 have s1:Fu E (Cg pre (L++E9 n::(R++post)) d)=_:=sum_of u1 (noS (fun h=>hs (.inl h)) (fun h=>hs (.inr h)));by_cases hc:n=7\/n=8\/n=9
 .
  have c:L5 E (Cg pre (L++E9 n::(R++post)) d)=(K6 n A B 0,Cg (pre++L ++ [E9 n]++R) post d):=by
   rw [cmpP_K,s1];unfold cmpK;rw [hitS,hitS,hitS,hitS,hitS,hitS];simp only [Ij,s2,hA];rcases hc with h | h | h <;> subst h <;> rfl
  exact xY (dS (mE (n1 _) c) (qQ hb)) (q_or hb)
 have c1:L5 E (Cg pre (L++E9 n::(R++post)) d)=_:=rT s1 (by
  have:=noC (fun h=>hc (.inl h)) (fun h=>hc (.inr (.inl h))) (fun h=>hc (.inr (.inr h)));simp only [hitS];exact this)
 have t1:M5 E N (Cg pre (L++E9 n::(R++post)) d)=_:=mE (n1 _) c1;by_cases ha:n=10
 .
  have c:iH E N (Cg pre (L++E9 n::(R++post)) d)=(K6 n A B A.pos,Cg (pre++L ++ [E9 n]++R) post d):=
   dW (o:=(nR,10)) t1 (by unfold kA;rw [List.find?_cons,hitS];subst ha;rfl) t2 (qQ hb) |>.trans (by subst ha;rfl)
  rw [hA] at c;exact xY c (q_or hb)
 have hn11:n=11:=by omega
 have a1:iH E N (Cg pre (L++E9 n::(R++post)) d)=_:=dS t1 (lE fun x hx=>by
  rw [hitS];subst hn11;revert x;decide)
 have c:orP E N (Cg pre (L++E9 n::(R++post)) d)=(K6 n A B A.pos,Cg (pre++L ++ [E9 n]++R) post d):=
  dW (o:=(Aaf,11)) a1 (by unfold orL;rw [List.find?_cons,hitS];subst hn11;rfl) a2 (q_or hb) |>.trans (by subst hn11;rfl)
 rw [hA] at c;exact c
theorem xX {E N:PS->Syn×PS}{A:Syn}{s:PS}{M:List Tok}(hb:Bq post)(h:D0 E s=(A,Cg M post d))(hn:Ea Gq s=false):M5 E N s=(A,Cg M post d)/\orP E N s=(A,Cg M post d):=by
 have t:=mE (N:=N) hn (rT (sum_of h (q_sum hb)) (NoOp.q hb).2);exact ⟨t,xY (dS t (qQ hb)) (q_or hb)⟩
theorem Yy {L:List Tok}(h:∃c r,L=c::r/\Hq c Gq=false)(p q:List Tok):Ea Gq (Cg p (L++q) d)=false:=by
 obtain ⟨c,r,rfl,h⟩:=h;rw [Cp,Ci,h]
theorem eH (a:Syn):Ag a .exps=0->RE a:=by
 refine Syn.ind (P:=fun a=>Ag a .exps=0->RE a) (fun a ih h=>?_) a;have hk:=L6 (Bz (Bx h).1).1;obtain ⟨_,hs,hn,hf⟩:=Bz (Bx h).1;intro n d pre post h0 hd hnn hp hq hb;rw [neg_low n];have hde:=La a;by_cases h17:a.kind=17
 .
  refine ⟨?_,fun h=>absurd h17 h⟩;unfold Ct at hs;rw [h17] at hs
  replace hs:((a.kids.length:Int)==2)=true:=hs
  obtain ⟨x,y,hkid⟩:=Xi (t:=a) (by simpa using hs)
  have cx:Ag x .exps=0:=by
   have:=(Dl h (j:=0) (a:=x) (by rw [hkid];rfl)).1;have e:Cr a 0 = .exps:=by unfold Cr;rw [h17];rfl
   rwa [e] at this
  have cy:Ag y .exps=0:=by
   have:=(Dl h (j:=1) (a:=y) (by rw [hkid];rfl)).1;have e:Cr a 1 = .exps:=by unfold Cr;rw [h17];rfl
   rwa [e] at this
  have rx:=ih x (by rw [hkid];simp) cx;have ry:=ih y (by rw [hkid];simp) cy;have kx:=L6 (Bz (Bx cx).1).1;have ky:=L6 (Bz (Bx cy).1).1
  have clx:Ed a.kind x.kind=false->x.kind<=16:=fun hc=>by
   rw [h17] at hc
   replace hc:((x.kind==17)||(x.kind==18))=false:=hc
   simp only [Ey,Hz] at hc;omega
  have cly:Ed a.kind y.kind=false->y.kind<=16:=fun hc=>by
   rw [h17] at hc
   replace hc:((y.kind==17)||(y.kind==18))=false:=hc
   simp only [Ey,Hz] at hc;omega
  have hdl:Ek a.kind a.kids=max (C7 x+(if Ed a.kind x.kind then 1 else 0)) (max (C7 y+(if Ed a.kind y.kind then 1 else 0)) 0):=by rw [hkid,Ek,Ek,Ek]
  have hi:=U4 hf h17
  have e2:Ae a=Hb a x (Ae x)++E9 a.num::Hb a y (Ae y):=by
   have k0:Aq a 0=x:=by unfold Aq;rw [hkid];rfl
   have k1:Aq a 1=y:=by unfold Aq;rw [hkid];rfl
   rw [C3];unfold E3;rw [h17];show Hb a (Aq a 0) ((a.kids.map Ae).getD 0 []) ++ [] ++ [E9 a.num] ++ []++Hb a (Aq a 1) ((a.kids.map Ae).getD 1 [])=_;rw [k0,k1,hkid];simp
  have hnm:a.text = []/\a.name = []:=by
   unfold C9 at hf;rw [h17] at hf
   replace hf:(if (Ns a != 0)=true then Ns a else if ((!false && !(a.text == []))||(!false && !(a.name == [])))=true then 3 else 0)=0:=hf
   split at hf
   . rename_i h1;rw [hf] at h1;cases h1
   split at hf
   . cases hf
   rename_i h2;have h3:(!(a.text == []) || !(a.name == []))=false:=by simpa using h2
   simp only [Ey,Bf] at h3;exact ⟨by simpa using h3.1,by simpa using h3.2⟩
  have er:Dy a=K6 a.num (Dy x) (Dy y) 0:=by rw [Fc,h17,hkid,hnm.1,hnm.2];rfl
  have eW:∀(z:Syn),Gx (Hb a z (Ae z)):=fun z=>Xc (Dq z)
  have eO:Gx [E9 a.num]:=Et _ (by unfold E9;split <;> rfl);rw [e2,er]
  have key:=bin_read (E:=(iM n).2) (N:=(iM n).1) (pre:=pre) (post:=post) (d:=d) (n:=a.num) (A:=Dy x) (B:=Dy y) (L:=Hb a x (Ae x)) (R:=Hb a y (Ae y)) hi (sB x) hb
   (opnd cx rx clx h0 (by omega) hnn hp (A9 (by unfold E9;split <;> rfl) ((eW y).app hq))) (opnd cy ry cly h0 (by omega) hnn ((hp.app (eW x)).app eO) hq) (fun q=>Yy (Wc cx clx) _ _) (fun p q=>Yy (Wc cy cly) _ _)
  rw [C4,Cp];show orP (iM n).2 (iM n).1 _=_;rw [key];simp
 by_cases h18:a.kind=18
 .
  unfold Ct at hs;rw [h18] at hs
  replace hs:((a.kids.length:Int)==1)=true:=hs
  obtain ⟨x,hkid⟩:=Uj (t:=a) (by simpa using hs)
  have cx:Ag x .exps=0:=by
   have:=(Dl h (j:=0) (a:=x) (by rw [hkid];rfl)).1;have e:Cr a 0 = .exps:=by unfold Cr;rw [h18];rfl
   rwa [e] at this
  have rx:=ih x (by rw [hkid];simp) cx;have kx:=L6 (Bz (Bx cx).1).1;have hdl:Ek a.kind a.kids=max (C7 x+(if Ed a.kind x.kind then 1 else 0)) 0:=by rw [hkid,Ek,Ek]
  have hcl:Ed a.kind x.kind=(x.kind==17):=by rw [h18];rfl
  rw [h18] at hde
  replace hde:C7 a=Ek 18 a.kids+1:=hde
  rw [h18] at hdl;obtain ⟨m,rfl⟩:∃m,n=m+1:=⟨n-1,by omega⟩
  have e2:Ae a=tw Gq::Hb a x (Ae x):=by
   have k0:Aq a 0=x:=by unfold Aq;rw [hkid];rfl
   rw [C3];unfold E3;rw [h18];show [tw Gq] ++ []++Hb a (Aq a 0) ((a.kids.map Ae).getD 0 [])=_;rw [k0,hkid];rfl
  have hnum:=E5 hf ⟨by omega,by omega,by omega,by omega,by omega⟩
  have hnm:a.text = []/\a.name = []:=by
   unfold C9 at hf;rw [h18] at hf
   replace hf:(if (Ns a != 0)=true then Ns a else if ((!false && !(a.text == []))||(!false && !(a.name == [])))=true then 3 else 0)=0:=hf
   split at hf
   . rename_i h1;rw [hf] at h1;cases h1
   split at hf
   . cases hf
   rename_i h2;have h3:(!(a.text == []) || !(a.name == []))=false:=by simpa using h2
   simp only [Ey,Bf] at h3;exact ⟨by simpa using h3.1,by simpa using h3.2⟩
  have er:Dy a=⟨18,[],[],0,[Dy x],0⟩:=by rw [Fc,h18,hkid,hnm.1,hnm.2,hnum];rfl
  have inner:(L8 m).1 (Cg (pre ++ [tw Gq]) (Hb a x (Ae x)++post) (d+1))=(Dy x,Cg (pre ++ [tw Gq]++Hb a x (Ae x)) post (d+1)):=by
   have hp1:Gx (pre ++ [tw Gq]):=hp.app (Et _ rfl);by_cases hx:x.kind=17
   .
    have hc1:Ed a.kind x.kind=true:=by rw [hcl,hx];rfl
    have hc18:Ed 18 x.kind=true:=by rw [<-h18];exact hc1
    rw [hc18] at hdl;have u:=opnd (q:=a) (a:=x) (d:=d+1) (n:=m) (pre:=pre ++ [tw Gq]) (post:=post) cx rx (fun hc=>by rw [hc1] at hc;cases hc) (by omega) (by rw [hc1];simp only [↓reduceIte] at hdl ⊢;omega) (by omega) hp1 hq;rw [neg_low m];exact (xX (N:=(iM m).1) hb u (Yy (Wc cx (fun hc=>by rw [hc1] at hc;cases hc)) _ _)).1
   have hc1:Ed a.kind x.kind=false:=by rw [hcl];simpa using hx
   have hc18:Ed 18 x.kind=false:=by rw [<-h18];exact hc1
   rw [hc18] at hdl;simp only [Ah,↓reduceIte] at hdl;have ew:Hb a x (Ae x)=Ae x:=by unfold Hb;rw [hc1];rfl
   rw [ew];exact (rx m (d+1) (pre ++ [tw Gq]) post (by omega) (by omega) (by omega) hp1 hq hb).2 hx
  have ti:Ea Gq (Cg pre (tw Gq::(Hb a x (Ae x)++post)) d)=true:=by rw [Ci];decide
  have eo:D4 (Cg pre (tw Gq::(Hb a x (Ae x)++post)) d)=0:=Ik hp (A9 rfl ((Xc (Dq x)).app hq))
  have key:M5 (L8 m).2 (L8 m).1 (Cg pre (tw Gq::(Hb a x (Ae x)++post)) d)=(Dy a,Cg (pre++tw Gq::Hb a x (Ae x)) post d):=by
   unfold M5;rw [ti,eo];rw [if_neg (by decide)];rw [xR h0 (by omega)];simp only [inner];rw [Xy h0 (by omega),er];simp
  rw [e2];exact ⟨xY (dS key (qQ hb)) (q_or hb),fun _=>key⟩
 have hc0:Ed a.kind a.kind=false:=by
  unfold Ed;rw [if_neg (by simpa using h17),if_neg (by simpa using h18)]
 have ew:Hb a a (Ae a)=Ae a:=by unfold Hb;rw [hc0];rfl
 have hf1:=Wc (q:=a) h (fun _=>by omega);rw [ew] at hf1;have u:=rA (d:=d) (pre:=pre) (post:=post) (iM n).2 h ⟨hk.1,by omega⟩ hp hq;have:=xX (N:=(iM n).1) hb u (Yy hf1 _ _);exact ⟨this.2,fun _=>this.1⟩
variable {pre post rest:List Tok} {d:Int} {t:Tok}
def Fq (l:List Syn):List Tok:=l.flatMap fun a=>O0::Ae a
theorem Ko:∀(x:Syn) (r:List Syn),Il ((x::r).map Ae)=Ae x++Fq r
  | x,[]=>by simp [Il,Fq]
  | x,y::r=>by
    have:=Ko y r;rw [Ao] at this;rw [Ao,Ao,Il,this];simp [Fq]
theorem bZ (l:List Syn):Gx (Fq l):=by
 induction l with
 | nil=>rfl
 | cons x r ih=>exact A9 rfl ((Dq x).app ih)
theorem zU (l:List Syn):l.length<=(Fq l).length:=by
 induction l with
 | nil=>exact Be _
 | cons x r ih=>show _<=(O0::(Ae x++Fq r)).length;simp only [A8,Al];omega
theorem cH (pre L:List Tok):B1 (Cg pre L d)=L.length+1:=by
 unfold B1 Cg;simp
theorem Xj {F:PS->Syn×PS}{B:List Tok->Prop}(hB:∀r,B (O0::r))(hb:B post)(hq:Gx post)(hc:∀p,Ea Cl (Cg p post d)=false) :
    ∀(l:List Syn) (n:Nat) (pre:List Tok) (out:List Syn),l.length<n->(∀a∈l,∀p q,Gx p->Gx q->B q->F (Cg p (Ae a++q) d)=(Dy a,Cg (p++Ae a) q d))->Gx pre->
      Gb F n (Cg pre (Fq l++post) d) out=(out++l.map Dy,Cg (pre++Fq l) post d)
  | [],n,pre,out,hn,_,hp=>by
    obtain ⟨m,rfl⟩:∃m,n=m+1:=⟨n-1,by omega⟩;show Gb F (m+1) (Cg pre post d) out=_;unfold Gb;rw [hc];simp [Fq]
  | a::r,n,pre,out,hn,hF,hp=>by
    obtain ⟨m,rfl⟩:∃m,n=m+1:=⟨n-1,by omega⟩;have e:Fq (a::r)++post=O0::(Ae a++(Fq r++post)):=by simp [Fq]
    have hBr:B (Fq r++post):=by
      cases r with
      | nil=>exact hb
      | cons y s=>exact hB _
    have h1:=hF a (Jg ..) (pre ++ [O0]) (Fq r++post) (hp.app (Et _ rfl)) ((bZ r).app hq) hBr;rw [e];unfold Gb;rw [Ci,show Hq O0 Cl=true by decide,if_pos rfl,Ij,h1];simp only;rw [Xj hB hb hq hc r m _ _ (by rw [A8] at hn;omega) (fun x hx=>hF x (Gs _ hx)) ((hp.app (Et _ rfl)).app (Dq a))];simp [Fq]
theorem zD (p:List Tok):Ea Cl (Cg p (Kd::post) d)=false:=by rw [Ci];decide
theorem EE_neg:EE=(L8 64).2:=rfl
theorem kT {a:Syn}{p:Pl}(h:Ag a p=0)(hk:a.kind=5)(h0:0<=d)(hd:d+(C7 a:Int)<=64)(hp:Gx pre)(hq:Gx post)(hb:Bq post):Hu EE (Cg pre (Ae a++post) d)=(Dy a,Cg (pre++Ae a) post d):=by
  obtain ⟨_,hs,hn,hf⟩:=Bz (Bx h).1;have k1:=Im (Gf hn (by rw [hk];rfl) (by omega));have k2:=Im (Un hn (by rw [hk];rfl) (by omega));have hnum:=E5 hf ⟨by omega,by omega,by omega,by omega,by omega⟩;have e0:Ae a = [tw a.text] ++ [] ++ [tw a.name]++(if (a.kids.map Ae == [])=true then [] else [tw Lv]++(a.kids.map Ae).getD 0 []):=by rw [C3];unfold E3;rw [hk];rfl
  unfold Ct at hs;rw [hk] at hs
  replace hs:decide ((a.kids.length:Int)<=1)=true:=hs
  simp only [Cb] at hs
  match hkid:a.kids with
  | []=>
    have e2:Ae a = [tw a.text,tw a.name]:=by rw [e0,hkid];rfl
    have er:Dy a=⟨5,a.text,a.name,0,[],0⟩:=by rw [Uf hkid,hk,hnum]
    rw [e2,er];show Hu EE (Cg pre (tw a.text::tw a.name::post) d)=_;unfold Hu;simp only;rw [(Dw k1).1,(Dw k1).2,(Dw k2).1,(Dw k2).2,hb.not (by decide),Ik hp (A9 rfl (A9 rfl hq))];simp
  | [x]=>
    have hx:=Dl h (j:=0) (a:=x) (by rw [hkid];rfl);have ek:Cr a 0 = .exps:=by unfold Cr;rw [hk];rfl
    rw [ek] at hx;have e2:Ae a=tw a.text::tw a.name::tw Lv::Ae x:=by rw [e0,hkid];simp
    have er:Dy a=⟨5,a.text,a.name,0,[Dy x],0⟩:=by rw [Fc,hk,hkid,hnum];rfl
    have hde:=La a;rw [hk,hkid,Ek,Ek] at hde;have hde2:C7 x<=C7 a:=by rw [hde];omega
    rw [e2,er];show Hu EE (Cg pre (tw a.text::tw a.name::tw Lv::(Ae x++post)) d)=_;have r:=(eH x hx.1 64 d (pre ++ [tw a.text] ++ [tw a.name] ++ [tw Lv]) post h0 (by omega) (by omega) (((hp.app (Et _ rfl)).app (Et _ rfl)).app (Et _ rfl)) hq hb).1;unfold Hu;simp only;rw [(Dw k1).1,(Dw k1).2,(Dw k2).1,(Dw k2).2,Ci,show Hq (tw Lv) Lv=true by decide,if_pos rfl,Ij,EE_neg,r,Ik hp (A9 rfl (A9 rfl (A9 rfl ((Dq x).app hq))))];simp
  | x::y::r=>rw [hkid] at hs;simp only [A8] at hs;omega
def lowT:Nat->PS->Syn×PS
 | 0=>G0
 | n+1=>fK EE n
theorem pat_low:∀n,fK EE n=Sv EE (lowT n)
 | 0=>rfl
 | _+1=>rfl
def RT (a:Syn):Prop:=∀(n:Nat) (d:Int) (pre post:List Tok),0<=d->d+(C7 a:Int)<=64->64<=(n:Int)+d->Gx pre->Gx post->Bq post->
 fK EE n (Cg pre (Ae a++post) d)=(Dy a,Cg (pre++Ae a) post d)
theorem form_find' {k:Int}(hk:6<=k/\k<=12):formL.find? (fun f=>Ea f.1 (Cg pre (tw (Hf k)::post) d))=some (Hf k,k):=by
 unfold formL;rw [List.find?_cons,List.find?_cons,List.find?_cons,List.find?_cons,List.find?_cons,List.find?_cons,List.find?_cons,Ci,Ci,Ci,Ci,Ci,Ci,Ci];have:k=6\/k=7\/k=8\/k=9\/k=10\/k=11\/k=12:=by omega
 rcases this with rfl | rfl | rfl | rfl | rfl | rfl | rfl <;> rfl
theorem form_none {s:Ac}(h:Ro s=false):formL.find? (fun f=>Ea f.1 (Cg pre (tw s::post) d))=none:=by
 rw [List.find?_eq_none];intro x _;rw [Ci,Xl h];decide
theorem call_toks {a:Syn}(hk:6<=a.kind/\a.kind<=12):Ae a=tw (Hf a.kind)::Kz::(Il (a.kids.map Ae)++((if (a.kind==11)=true then [O0]++fI a.num else []) ++ [Kd])):=by
 have no:∀k:Int,k<6\/12<k->¬(a.kind==k)=true:=fun k h=>by simp only [beq_iff_eq];omega
 rw [C3];unfold E3;rw [if_neg (no 0 (by omega)),if_neg (no 1 (by omega)),if_neg (no 2 (by omega)),if_neg (no 3 (by omega)),if_neg (no 5 (by omega)),if_neg (no 13 (by omega)),if_neg (no 14 (by omega)),if_neg (no 15 (by omega)),if_neg (no 16 (by omega)),if_neg (no 17 (by omega)),if_neg (no 18 (by omega))];simp
theorem Uh {a:Syn}{n:Nat}{K:List Syn}{m:Int}{M:List Tok}(hk:6<=a.kind/\a.kind<=12)(h0:0<=d)(hd:d<64)(hp:Gx pre)(hq:Gx (Ae a++post))
  (h:mN EE (lowT n) a.kind ⟨a.kind,[],[],0,[],0⟩ (Cg (pre ++ [tw (Hf a.kind)]) (Kz::(M++post)) (d+1))=(⟨a.kind,[],[],m,K,0⟩,Cg (pre ++ [tw (Hf a.kind)]++Kz::M) post (d+1)))
  (e:Ae a=tw (Hf a.kind)::Kz::M):Sv EE (lowT n) (Cg pre (Ae a++post) d)=(⟨a.kind,[],[],m,K,0⟩,Cg (pre++Ae a) post d):=by
 rw [e] at hq ⊢;show Sv EE (lowT n) (Cg pre (tw (Hf a.kind)::(Kz::(M++post))) d)=_;rw [pat_form (t:=tw (Hf a.kind)) (post:=Kz::(M++post)) h0 hd hp hq (form_find' hk)];simp only;rw [h,Xy h0 hd];simp
theorem qP {a:Syn}(hf:C9 a=0)(hk:(Ku a.kind).1=false/\(Ku a.kind).2=false/\a.kind≠13):a.text = []/\a.name = []:=by
 unfold C9 at hf;rw [if_neg (by simpa using hk.2.2)] at hf;split at hf
 . rename_i h1;rw [hf] at h1;cases h1
 split at hf
 . cases hf
 rename_i h2;rw [hk.1,hk.2.1] at h2;have h3:(!(a.text == []) || !(a.name == []))=false:=by simpa using h2
 simp only [Ey,Bf] at h3;exact ⟨by simpa using h3.1,by simpa using h3.2⟩
theorem pat_read (a:Syn):Ag a .pats=0->RT a:=by
  refine Syn.ind (P:=fun a=>Ag a .pats=0->RT a) (fun a ih h=>?_) a;have hkk:=aR (Bz (Bx h).1).1;obtain ⟨_,hs,hn,hf⟩:=Bz (Bx h).1;intro n d pre post h0 hd hnn hp hq hb;rw [pat_low];by_cases h5:a.kind=5
  . have k1:=Im (Gf hn (by rw [h5];rfl) (by omega))
    have e0:Ae a = [tw a.text] ++ [] ++ [tw a.name]++(if (a.kids.map Ae == [])=true then [] else [tw Lv]++(a.kids.map Ae).getD 0 []):=by rw [C3];unfold E3;rw [h5];rfl
    have ev:=kT (post:=post) (pre:=pre) h h5 h0 hd hp hq hb;obtain ⟨L,eL⟩:∃L,Ae a=tw a.text::L:=⟨_,by rw [e0];simp only [C4];rfl⟩;unfold Sv;rw [eL,Cp,form_none k1];rw [eL,Cp] at ev;exact ev
  . have hk:6<=a.kind/\a.kind<=12:=by omega
    have hde:=La a
    have e1:((a.kind==18)||(isPat a.kind&&(a.kind != 5)))=true:=by
      have h6:(a.kind != 5)=true:=by simpa using h5
      unfold isPat;rw [h6,Gt (by omega:(5:Int)<=a.kind),Gt (by omega:a.kind<=12)];simp
    rw [if_pos e1] at hde;obtain ⟨m,rfl⟩:∃m,n=m+1:=⟨n-1,by omega⟩
    have hkey:∀k:Int,6<=k->k<=12->(Ku k).1=false/\(Ku k).2=false:=fun k k6 k12=>by
      have:k=6\/k=7\/k=8\/k=9\/k=10\/k=11\/k=12:=by omega
      rcases this with rfl | rfl | rfl | rfl | rfl | rfl | rfl <;> exact ⟨rfl,rfl⟩
    have hnm:=qP hf ⟨(hkey a.kind hk.1 hk.2).1,(hkey a.kind hk.1 hk.2).2,by omega⟩
    have hcl:∀k:Int,Ed a.kind k=false:=fun k=>by
      unfold Ed;rw [if_neg (by simp only [beq_iff_eq];omega),if_neg (by simp only [beq_iff_eq];omega)]
    have hdk:∀x∈a.kids,C7 x+1<=C7 a:=by
      have key:∀l:List Syn,∀x∈l,C7 x<=Ek a.kind l:=by
        intro l
        induction l with
        | nil=>intro x hx;cases hx
        | cons y r ihl=>
          intro x hx;rw [Ek];rcases Cu.1 hx with rfl | hx
          . omega
          have:=ihl x hx;omega
      intro x hx;have:=key a.kids x hx;omega
    have eA:=(Dq a).app hq;have hz:a.kind≠11->a.num=0:=fun h11=>E5 hf ⟨by omega,by omega,by omega,by omega,h11⟩
    have hct:=call_toks hk
    -- a kid that is a pattern, one level deeper
    have rk:∀(j:Nat) x,a.kids[j]? = some x->Cr a j = .pats->∀p q,Gx p->Gx q->Bq q->lowT (m+1) (Cg p (Ae x++q) (d+1))=(Dy x,Cg (p++Ae x) q (d+1)):=fun j x hx hj p q hp1 hq1 hb1=>by
      have c:=(Dl h hx).1;rw [hj] at c;have hd1:=hdk x (Ak hx);exact ih x (Ak hx) c m (d+1) p q (by omega) (by omega) (by omega) hp1 hq1 hb1
    have p0:Cr a 0 = .pats:=by
      have:a.kind=6\/a.kind=7\/a.kind=8\/a.kind=9\/a.kind=10\/a.kind=11\/a.kind=12:=by omega
      unfold Cr;rcases this with h | h | h | h | h | h | h <;> rw [h] <;> rfl
    have eP:Gx (pre ++ [tw (Hf a.kind)]):=hp.app (Et _ rfl);have eQ:Gx (pre ++ [tw (Hf a.kind)] ++ [Kz]):=eP.app (Et _ rfl);by_cases h8:a.kind<=8
    . have hlen:2<=(a.kids.length:Int):=by
        unfold Ct at hs;have:a.kind=6\/a.kind=7\/a.kind=8:=by omega
        rcases this with h | h | h <;> (rw [h] at hs;exact Ec hs)
      match hkid:a.kids with
      | []=>rw [hkid] at hlen;simp at hlen
      | [x]=>rw [hkid] at hlen;simp at hlen
      | x::y::r=>
        have pj:∀j:Nat,Cr a j = .pats:=fun j=>by
          have:a.kind=6\/a.kind=7\/a.kind=8:=by omega
          unfold Cr;rcases this with h | h | h <;> rw [h] <;> rfl
        have h11:¬(a.kind==11)=true:=by simp only [beq_iff_eq];omega
        rw [if_neg h11,Cv,hkid,Ko] at hct;have er:Dy a=⟨a.kind,[],[],0,Dy x::Dy y::r.map Dy,0⟩:=by rw [Fc,hnm.1,hnm.2,hz (by omega),hkid];rfl
        rw [er];refine Uh (M:=Ae x++Fq (y::r) ++ [Kd]) hk h0 (by omega) hp eA ?_ hct;have eT:(Ae x++Fq (y::r) ++ [Kd])++post=Ae x++(O0::(Ae y++(Fq r++Kd::post))):=by simp [Fq]
        have r0:=rk 0 x (by rw [hkid];rfl) (pj 0) (pre ++ [tw (Hf a.kind)] ++ [Kz]) (O0::(Ae y++(Fq r++Kd::post))) eQ (A9 rfl ((Dq y).app ((bZ r).app (A9 rfl hq)))) (.cm _);have r1:=rk 1 y (by rw [hkid];rfl) (pj 1) (pre ++ [tw (Hf a.kind)] ++ [Kz]++Ae x ++ [O0]) (Fq r++Kd::post) ((eQ.app (Dq x)).app (Et _ rfl)) ((bZ r).app (A9 rfl hq)) (by cases r with | nil=>exact .rp _ | cons z s=>exact .cm _)
        have r2:=Xj (F:=lowT (m+1)) (d:=d+1) (B:=Bq) (post:=Kd::post) .cm (.rp _) (A9 rfl hq) zD r (B1 (Cg (pre ++ [tw (Hf a.kind)] ++ [Kz]++Ae x ++ [O0]++Ae y) (Fq r++Kd::post) (d+1))) (pre ++ [tw (Hf a.kind)] ++ [Kz]++Ae x ++ [O0]++Ae y) [Dy x,Dy y]
          (by rw [cH,Al];have:=zU r;omega) (fun z hz' p q e1 e2 e3=>by
            obtain ⟨j,hj⟩:=Fh.1 hz';exact rk (j+2) z (by rw [hkid];simpa using hj) (pj _) p q e1 e2 e3) (((eQ.app (Dq x)).app (Et _ rfl)).app (Dq y))
        rw [eT];unfold mN;rw [Eu (t:=Kz) (by decide),r0];simp only;unfold Fp;rw [if_pos (Gt h8)];unfold dI;simp only;rw [Eu rS,r1];simp only [Cp,Cv];rw [r2,Eu (t:=Kd) (by decide)];simp [Fq]
    . have h9:a.kind=9\/a.kind=10\/a.kind=11\/a.kind=12:=by omega
      rcases h9 with h9 | h9 | h9 | h9
      . unfold Ct at hs
        rw [h9] at hs
        replace hs:((a.kids.length:Int)==1)=true:=hs
        obtain ⟨x,hkid⟩:=Uj (t:=a) (by simpa using hs);have h11:¬(a.kind==11)=true:=by simp only [beq_iff_eq];omega
        rw [if_neg h11,Cv,hkid,Ko] at hct;have er:Dy a=⟨a.kind,[],[],0,[Dy x],0⟩:=by rw [Fc,hnm.1,hnm.2,hz (by omega),hkid];rfl
        rw [er];refine Uh (M:=Ae x++Fq [] ++ [Kd]) hk h0 (by omega) hp eA ?_ hct;have r0:=rk 0 x (by rw [hkid];rfl) p0 (pre ++ [tw (Hf a.kind)] ++ [Kz]) (Kd::post) eQ (A9 rfl hq) (.rp _);have:=patK_plus (E:=EE) (z:=⟨a.kind,[],[],0,[],0⟩) r0;have eT:(Ae x++Fq [] ++ [Kd])++post=Ae x++Kd::post:=by simp [Fq]
        rw [eT];rw [<-h9] at this;rw [this];simp [Fq]
      . unfold Ct at hs
        rw [h9] at hs
        replace hs:((a.kids.length:Int)==2)=true:=hs
        obtain ⟨x,y,hkid⟩:=Xi (t:=a) (by simpa using hs);have h11:¬(a.kind==11)=true:=by simp only [beq_iff_eq];omega
        rw [if_neg h11,Cv,hkid,Ko] at hct;have er:Dy a=⟨a.kind,[],[],0,[Dy x,Dy y],0⟩:=by rw [Fc,hnm.1,hnm.2,hz (by omega),hkid];rfl
        rw [er];refine Uh (M:=Ae x++Fq [y] ++ [Kd]) hk h0 (by omega) hp eA ?_ hct;have hy:=Dl h (j:=1) (a:=y) (by rw [hkid];rfl)
        have ky5:y.kind=5:=Dz (n:=5) (by
          have e:Cr a 1 = .only 5:=by unfold Cr;rw [h9];rfl
          rw [<-e];exact hy.2)
        have hdy:=hdk y (by rw [hkid];simp);have r0:=rk 0 x (by rw [hkid];rfl) p0 (pre ++ [tw (Hf a.kind)] ++ [Kz]) (O0::(Ae y++Kd::post)) eQ (A9 rfl ((Dq y).app (A9 rfl hq))) (.cm _);have r1:=kT (d:=d+1) (pre:=pre ++ [tw (Hf a.kind)] ++ [Kz]++Ae x ++ [O0]) (post:=Kd::post) hy.1 ky5 (by omega) (by omega) ((eQ.app (Dq x)).app (Et _ rfl)) (A9 rfl hq) (.rp _);have eT:(Ae x++Fq [y] ++ [Kd])++post=Ae x++(O0::(Ae y++Kd::post)):=by simp [Fq]
        rw [eT];unfold mN;rw [Eu (t:=Kz) (by decide),r0];simp only;unfold Fp;rw [if_neg (by simp only [Cb];omega),if_neg (by rw [h9];decide),if_pos (by rw [h9];decide),Eu rS,r1];simp only;rw [Eu (t:=Kd) (by decide)];simp [Fq]
      . unfold Ct at hs
        rw [h9] at hs
        replace hs:((a.kids.length:Int)==1)=true:=hs
        obtain ⟨x,hkid⟩:=Uj (t:=a) (by simpa using hs);have h11:(a.kind==11)=true:=by simpa using h9
        have hnum:=nT hf h9;have enk:fI a.num = [⟨1,Lib.decDigits a.num.toNat,0⟩]:=by unfold fI;rw [if_neg (by omega)]
        rw [if_pos h11,hkid,Ko,enk] at hct;have er:Dy a=⟨a.kind,[],[],a.num,[Dy x],0⟩:=by rw [Fc,hnm.1,hnm.2,hkid];rfl
        rw [er];refine Uh (M:=(Ae x++Fq [])++(([O0] ++ [⟨1,Lib.decDigits a.num.toNat,0⟩]) ++ [Kd])) hk h0 (by omega) hp eA ?_ hct;have r0:=rk 0 x (by rw [hkid];rfl) p0 (pre ++ [tw (Hf a.kind)] ++ [Kz]) (O0::⟨1,Lib.decDigits a.num.toNat,0⟩::Kd::post) eQ (A9 rfl (A9 rfl (A9 rfl hq))) (.cm _);have eT:((Ae x++Fq [])++(([O0] ++ [⟨1,Lib.decDigits a.num.toNat,0⟩]) ++ [Kd]))++post=Ae x++(O0::⟨1,Lib.decDigits a.num.toNat,0⟩::Kd::post):=by simp [Fq]
        rw [eT];unfold mN;rw [Eu (t:=Kz) (by decide),r0];simp only;unfold Fp;rw [if_neg (by simp only [Cb];omega),if_neg (by rw [h9];decide),if_neg (by rw [h9];decide),if_pos (by rw [h9];decide),Eu rS];have e1:Cm 1 (Cg (pre ++ [tw (Hf a.kind)] ++ [Kz]++Ae x ++ [O0]) (⟨1,Lib.decDigits a.num.toNat,0⟩::Kd::post) (d+1))=Cg (pre ++ [tw (Hf a.kind)] ++ [Kz]++Ae x ++ [O0] ++ [⟨1,Lib.decDigits a.num.toNat,0⟩]) (Kd::post) (d+1):=(dL (by rfl)).1
        have e2:Up (Cg (pre ++ [tw (Hf a.kind)] ++ [Kz]++Ae x ++ [O0]) (⟨1,Lib.decDigits a.num.toNat,0⟩::Kd::post) (d+1))=a.num:=by
          unfold Up;rw [Pq,dY];show (Tu (Lib.decDigits a.num.toNat)).1=_;rw [cW (by omega)];show ((a.num.toNat:Nat):Int)=a.num;omega
        rw [e1,e2];simp only;rw [Eu (t:=Kd) (by decide)];simp [Fq]
      . unfold Ct at hs
        rw [h9] at hs
        replace hs:((a.kids.length:Int)==2)=true:=hs
        obtain ⟨x,y,hkid⟩:=Xi (t:=a) (by simpa using hs);have h11:¬(a.kind==11)=true:=by simp only [beq_iff_eq];omega
        rw [if_neg h11,Cv,hkid,Ko] at hct;have er:Dy a=⟨a.kind,[],[],0,[Dy x,Dy y],0⟩:=by rw [Fc,hnm.1,hnm.2,hz (by omega),hkid];rfl
        rw [er];refine Uh (M:=Ae x++Fq [y] ++ [Kd]) hk h0 (by omega) hp eA ?_ hct;have hy:=Dl h (j:=1) (a:=y) (by rw [hkid];rfl);have e:Cr a 1 = .exps:=by unfold Cr;rw [h9];rfl
        rw [e] at hy;have hdy:=hdk y (by rw [hkid];simp);have r0:=rk 0 x (by rw [hkid];rfl) p0 (pre ++ [tw (Hf a.kind)] ++ [Kz]) (O0::(Ae y++Kd::post)) eQ (A9 rfl ((Dq y).app (A9 rfl hq))) (.cm _);have r1:=(eH y hy.1 64 (d+1) (pre ++ [tw (Hf a.kind)] ++ [Kz]++Ae x ++ [O0]) (Kd::post) (by omega) (by omega) (by omega) ((eQ.app (Dq x)).app (Et _ rfl)) (A9 rfl hq) (.rp _)).1;have:=patK_where (E:=EE) (z:=⟨a.kind,[],[],0,[],0⟩) r0;have eT:(Ae x++Fq [y] ++ [Kd])++post=Ae x++(O0::(Ae y++Kd::post)):=by simp [Fq]
        rw [eT];rw [<-h9] at this;rw [this,EE_neg,r1,Eu (t:=Kd) (by decide)];simp [Fq]
variable {pre post rest:List Tok} {d:Int} {t:Tok}
theorem cY {a:Syn}(hf:C9 a=0)(h13:a.kind≠13)(hk:(Ku a.kind).2=false):a.name = []:=by
 unfold C9 at hf;rw [if_neg (by simpa using h13)] at hf;split at hf
 . rename_i h1;rw [hf] at h1;cases h1
 split at hf
 . cases hf
 rename_i h2;rw [hk] at h2;simp only [Bs,Gu,Hm,not_or,Bool.not_eq_true,Bf] at h2;simpa using h2.2
theorem qH {F:PS->Syn×PS}{B:List Tok->Prop}(hB:∀r,B (O0::r))(hb:B post)(hq:Gx post)(hc:∀p,Ea Cl (Cg p post d)=false)(x:Syn)(r:List Syn)
  (hF:∀a∈x::r,∀p q,Gx p->Gx q->B q->F (Cg p (Ae a++q) d)=(Dy a,Cg (p++Ae a) q d)) (hp:Gx pre) :
  Kq F (Cg pre (Il ((x::r).map Ae)++post) d)=((x::r).map Dy,Cg (pre++Il ((x::r).map Ae)) post d):=by
 rw [Ko,C4];have h1:=hF x (Jg ..) pre (Fq r++post) hp ((bZ r).app hq) (by cases r with | nil=>exact hb | cons z s=>exact hB _);unfold Kq;rw [h1];simp only;rw [Xj hB hb hq hc r _ _ _ (by rw [cH,Al];have:=zU r;omega) (fun a ha=>hF a (Gs _ ha)) (hp.app (Dq x))];simp
theorem field_read {a:Syn}{p:Pl}(h:Ag a p=0)(hk:a.kind=2)(hp:Gx pre)(hq:Gx post):Id (Cg pre (Ae a++post) d)=(Dy a,Cg (pre++Ae a) post d):=by
 obtain ⟨_,hs,hn,hf⟩:=Bz (Bx h).1;have k1:=Im (Gf hn (by rw [hk];rfl) (by omega));have hi:=Yu hf hk;unfold Ct at hs;rw [hk] at hs
 replace hs:((a.kids.length:Int)==0)=true:=hs
 have hkid:=cT (by simpa using hs);have er:Dy a=⟨2,a.text,[],a.num,[],0⟩:=by rw [Uf hkid,hk,cY hf (by omega) (by rw [hk];rfl)]
 have e2:Ae a = [tw a.text,tg G9,tw (Kp a.num)]:=by rw [C3];unfold E3;rw [hk];rfl
 rw [e2,er];show Id (Cg pre (tw a.text::tg G9::tw (Kp a.num)::post) d)=_;unfold Id;rw [(Dw k1).1,(Dw k1).2,Eu (t:=tg G9) (by decide),Ci,Ci,Ci,Ik hp (A9 rfl (A9 rfl (A9 rfl hq))),Ij];have:a.num=0\/a.num=1\/a.num=2:=by omega
 rcases this with h | h | h
 . rw [h,show Hq (tw (Kp 0)) Ig=true by decide,if_pos rfl];simp
 . rw [h,show Hq (tw (Kp 1)) Ig=false by decide,show Hq (tw (Kp 1)) Gg=true by decide,if_neg (by decide),if_pos rfl];simp
 rw [h,show Hq (tw (Kp 2)) Ig=false by decide,show Hq (tw (Kp 2)) Gg=false by decide,show Hq (tw (Kp 2)) Ha=true by decide,if_neg (by decide),if_neg (by decide),if_pos rfl];simp
theorem qZ {a:Syn}(hk:a.kind=1):Ae a=tw B6::tw a.text::tg Em::(Il (a.kids.map Ae) ++ [tg En]):=by
 rw [C3];unfold E3;rw [hk];show [tw B6] ++ [] ++ [tw a.text] ++ [tg Em]++Il (a.kids.map Ae) ++ [tg En]=_;simp
theorem type_read {a:Syn}{p:Pl}(h:Ag a p=0)(hk:a.kind=1)(hp:Gx pre)(hq:Gx post):Hh (Cg pre (Ae a++post) d)=(Dy a,Cg (pre++Ae a) post d):=by
  obtain ⟨_,hs,hn,hf⟩:=Bz (Bx h).1;have k1:=Im (Gf hn (by rw [hk];rfl) (by omega));have hnum:=E5 hf ⟨by omega,by omega,by omega,by omega,by omega⟩;have er:Dy a=⟨1,a.text,[],0,a.kids.map Dy,0⟩:=by rw [Fc,hk,cY hf (by omega) (by rw [hk];rfl),hnum]
  have eo:Gx (Ae a++post):=(Dq a).app hq;have e2:=qZ hk;rw [er];rw [e2] at eo ⊢;have eT:(tw B6::tw a.text::tg Em::(Il (a.kids.map Ae) ++ [tg En]))++post=tw B6::tw a.text::tg Em::(Il (a.kids.map Ae)++tg En::post):=by simp
  rw [eT] at eo ⊢;unfold Hh;simp only;rw [Eu (t:=tw B6) (by decide),(Dw k1).1,(Dw k1).2,Eu (t:=tg Em) (by decide),Ik hp eo]
  match hkid:a.kids with
  | []=>
    have e9:Il (([]:List Syn).map Ae)++tg En::post=tg En::post:=rfl;rw [e9,Ci,show Hq (tg En) En=true by decide,if_neg (by simp),Eu (t:=tg En) (by decide)];simp [Il]
  | x::r=>
    have kids:∀z∈x::r,Ag z (.only 2)=0/\z.kind=2:=fun z hz=>by
      obtain ⟨j,hj⟩:=Fh.1 hz;have:=Dl h (j:=j) (a:=z) (by rw [hkid];exact hj);have e:Cr a j = .only 2:=by unfold Cr;rw [hk];rfl
      rw [e] at this;exact ⟨this.1,Dz this.2⟩
    obtain ⟨L,eL⟩:∃L,Il ((x::r).map Ae)=tw x.text::L:=⟨tg G9::tw (Kp x.num)::Fq r,by
      rw [Ko];have:Ae x = [tw x.text,tg G9,tw (Kp x.num)]:=by rw [C3];unfold E3;rw [(kids x (by simp)).2];rfl
      rw [this];rfl⟩
    have kx:=Im (Gf (Bz (Bx (kids x (by simp)).1).1).2.2.1 (by rw [(kids x (by simp)).2];rfl) (by have:=(kids x (by simp)).2;omega));have nb:Ea En (Cg (pre ++ [tw B6] ++ [tw a.text] ++ [tg Em]) (Il ((x::r).map Ae)++tg En::post) d)=false:=by rw [eL,Cp,Ci];exact Xl kx _
    have lr:=qH (F:=Id) (d:=d) (B:=fun _=>True) (post:=tg En::post) (pre:=pre ++ [tw B6] ++ [tw a.text] ++ [tg Em]) (fun _=>trivial) trivial (A9 rfl hq) (fun p=>by rw [Ci];decide) x r
      (fun z hz p q hp1 hq1 _=>field_read (kids z hz).1 (kids z hz).2 hp1 hq1) (((hp.app (Et _ rfl)).app (Et _ rfl)).app (Et _ rfl))
    rw [nb,lr,if_pos (by rfl)];simp only;rw [Eu (t:=tg En) (by decide)];simp
theorem TT_64:TT=fK EE 64:=rfl
theorem Yn {a x:Syn}(hx:x∈a.kids):C7 x<=C7 a:=by
  have key:∀(k:Int) (l:List Syn),∀x∈l,C7 x<=Ek k l:=by
    intro k l
    induction l with
    | nil=>intro x hx;cases hx
    | cons y r ihl=>
      intro x hx;rw [Ek];rcases Cu.1 hx with rfl | hx
      . omega
      have:=ihl x hx;omega
  have:=key a.kind a.kids x hx;have h2:=La a;omega
theorem mV {a k0 k1:Syn}{r:List Syn}(hk:a.kind=3)(hq:a.kids=k0::k1::r):Ae a=tw B5::tw a.text::((if (k0.text == [])=true then [] else [tw O2,tw k0.text])++(tw Dx::(Ae k1++(tw Dc::(Il (r.map Ae) ++ [tsm]))))):=by
 rw [C3];unfold E3;rw [hk];have e0:Aq a 0=k0:=by unfold Aq;rw [hq];rfl
 show [tw B5] ++ [] ++ [tw a.text]++(if ((Aq a 0).text == [])=true then [] else [tw O2] ++ [tw (Aq a 0).text]) ++ [] ++ [tw Dx] ++ []++(a.kids.map Ae).getD 1 [] ++ [] ++ [tw Dc] ++ []++Il ((a.kids.map Ae).drop 2) ++ [tg X2]=_;rw [e0,hq];simp
theorem query_read {a:Syn}{p:Pl}(h:Ag a p=0)(hk:a.kind=3)(hd:C7 a<=64)(hp:Gx pre)(hq:Gx post):If EE TT (Cg pre (Ae a++post) 0)=(Dy a,Cg (pre++Ae a) post 0):=by
  obtain ⟨_,hs,hn,hf⟩:=Bz (Bx h).1;have n1:=Im (Gf hn (by rw [hk];rfl) (by omega));have hnum:=E5 hf ⟨by omega,by omega,by omega,by omega,by omega⟩;unfold Ct at hs;rw [hk] at hs
  replace hs:decide (3<=(a.kids.length:Int))=true:=hs
  simp only [Cb] at hs
  match hkid:a.kids with
  | []=>rw [hkid] at hs;simp at hs
  | [x]=>rw [hkid] at hs;simp at hs
  | [x,y]=>rw [hkid] at hs;simp at hs
  | k0::k1::e0::r=>
    have er:Dy a=⟨3,a.text,[],0,Dy k0::Dy k1::(e0::r).map Dy,0⟩:=by rw [Fc,hk,cY hf (by omega) (by rw [hk];rfl),hnum,hkid];rfl
    have e2:=mV hk hkid;have eo:Gx (Ae a++post):=(Dq a).app hq;have c0:=Dl h (j:=0) (a:=k0) (by rw [hkid];rfl);have x0:Cr a 0 = .only 4:=by unfold Cr;rw [hk];rfl
    rw [x0] at c0;have kk0:k0.kind=4:=Dz c0.2;obtain ⟨_,s0,nn0,ff0⟩:=Bz (Bx c0.1).1;have c1:=Dl h (j:=1) (a:=k1) (by rw [hkid];rfl);have x1:Cr a 1 = .pats:=by unfold Cr;rw [hk];rfl
    rw [x1] at c1;have hd1:C7 k1<=C7 a:=Yn (by rw [hkid];simp)
    have kids:∀z∈e0::r,Ag z .exps=0/\C7 z<=64:=fun z hz=>by
      obtain ⟨j,hj⟩:=Fh.1 hz;have hj2:a.kids[j+2]? = some z:=by rw [hkid];simpa using hj
      have:=(Dl h hj2).1
      have e:Cr a (j+2) = .exps:=by
        unfold Cr;rw [hk];have h2:(((j+2:Nat):Int)==0)=false:=by simp;omega
        have h3:(((j+2:Nat):Int)==1)=false:=by simp;omega
        simp only [h2,h3];rfl
      rw [e] at this;exact ⟨this,F4 (Yn (Ak hj2)) hd⟩
    -- the key
    have s00:k0.kids = []:=by
      unfold Ct at s0;rw [kk0] at s0
      replace s0:((k0.kids.length:Int)==0)=true:=s0
      exact cT (by simpa using s0)
    have er0:Dy k0=⟨4,k0.text,[],0,[],0⟩:=by rw [Uf s00,kk0,cY ff0 (by omega) (by rw [kk0];rfl),E5 ff0 ⟨by omega,by omega,by omega,by omega,by omega⟩]
    rw [er,er0];rw [e2] at eo ⊢;generalize hR:tw Dx::(Ae k1++(tw Dc::(Il ((e0::r).map Ae) ++ [tsm])))=R at eo ⊢
    have eR:Gx (R++post):=by
      rw [<-hR];exact (A9 rfl ((Dq k1).app (A9 rfl ((Ug fun z hz=>by obtain ⟨y,hy,rfl⟩:=Cd.1 hz;exact Dq y).app (show Gx [tsm] from rfl))))).app hq
    have key:∀P:List Tok,Gx P->∃K,(if (k0.text == [])=true then [] else [tw O2,tw k0.text])=K/\Nf (Cg P (K++(R++post)) 0) 0=(⟨4,k0.text,[],0,[],0⟩,Cg (P++K) (R++post) 0):=fun P hP=>by
      by_cases h0:k0.text = []
      . refine ⟨[],by rw [h0];rfl,?_⟩
        unfold Nf;rw [Cv,<-hR,Cp,Ci,show Hq (tw Dx) O2=false by decide,h0];simp
      . have e4:(k0.text == [])=false:=by simpa using h0
        have nk:Ru k0.text=true:=by
          unfold Li at nn0;rw [kk0] at nn0;have e5:(!(k0.text == []))=true:=by rw [e4];rfl
          rw [e5] at nn0;simp only [T4,Dt] at nn0;cases hq2:Ru k0.text with
          | true=>rfl
          | false=>rw [hq2] at nn0;cases nn0
        have k1':=Im nk;refine ⟨[tw O2,tw k0.text],by rw [e4];rfl,?_⟩;show Nf (Cg P (tw O2::tw k0.text::(R++post)) 0) 0=_;unfold Nf;rw [Ci,show Hq (tw O2) O2=true by decide,if_pos rfl,Ij,(Dw k1').1,(Dw k1').2,Ik (hP.app (Et _ rfl)) (A9 rfl eR)];simp
    obtain ⟨K,eK,rK⟩:=key (pre ++ [tw B5] ++ [tw a.text]) ((hp.app (Et _ rfl)).app (Et _ rfl));have EK:Gx K:=by rw [<-eK];split <;> rfl
    rw [eK] at eo ⊢;have eT:(tw B5::tw a.text::(K++R))++post=tw B5::tw a.text::(K++(R++post)):=by simp
    rw [eT] at eo ⊢;have hpK:Gx (pre ++ [tw B5] ++ [tw a.text]++K):=((hp.app (Et _ rfl)).app (Et _ rfl)).app EK;have eJ:Gx (Il ((e0::r).map Ae)):=Ug fun z hz=>by obtain ⟨y,hy,rfl⟩:=Cd.1 hz;exact Dq y
    have rp:=pat_read k1 c1.1 64 0 (pre ++ [tw B5] ++ [tw a.text]++K ++ [tw Dx]) (tw Dc::(Il ((e0::r).map Ae)++tsm::post)) (D6 _) (by omega) (by omega) (hpK.app (Et _ rfl)) (A9 rfl (eJ.app (A9 rfl hq))) (.ret _)
    have rl:=qH (F:=EE) (d:=0) (B:=Bq) (post:=tsm::post) (pre:=pre ++ [tw B5] ++ [tw a.text]++K ++ [tw Dx]++Ae k1 ++ [tw Dc]) .cm (.sm _) (A9 rfl hq) (fun p=>by rw [Ci];decide) e0 r
      (fun z hz p q hp1 hq1 hb1=>by
        have:=(eH z (kids z hz).1 64 0 p q (D6 _) (by have:=(kids z hz).2;omega) (by omega) hp1 hq1 hb1).1;exact this) (((hpK.app (Et _ rfl)).app (Dq k1)).app (Et _ rfl))
    have eR2:R++post=tw Dx::(Ae k1++(tw Dc::(Il ((e0::r).map Ae)++tsm::post))):=by rw [<-hR];simp
    unfold If;simp only;rw [Eu (t:=tw B5) (by decide),(Dw n1).1,(Dw n1).2,Ik hp eo,rK];simp only;rw [eR2,Eu (t:=tw Dx) (by decide),TT_64,rp];simp only;rw [Eu (t:=tw Dc) (by decide),rl];simp only;rw [Eu (t:=tsm) (by decide),<-hR];simp
theorem Xr {w:Ac}{F:PS->Syn×PS}(hq:Gx post)(hn:∀p,Ea w (Cg p post d)=false):∀(l:List Syn) (n:Nat) (pre:List Tok) (out:List Syn),l.length<n->
    (∀a∈l,(∃L,Ae a=tw w::L)/\Hq (tw w) w=true/\∀p q,Gx p->Gx q->F (Cg p (Ae a++q) d)=(Dy a,Cg (p++Ae a) q d))->Gx pre->
      E2 w F n (Cg pre ((l.map Ae).flatten++post) d) out=(out++l.map Dy,Cg (pre++(l.map Ae).flatten) post d)
  | [],n,pre,out,h,_,hp=>by
    rw [A0,B0,Cv,progGo_no (hn _)];simp
  | a::r,n,pre,out,h,hF,hp=>by
    obtain ⟨m,rfl⟩:∃m,n=m+1:=⟨n-1,by omega⟩;obtain ⟨⟨L,eL⟩,hw,hr⟩:=hF a (Jg ..);have eF:Gx ((r.map Ae).flatten):=Xb fun z hz=>by obtain ⟨y,hy,rfl⟩:=Cd.1 hz;exact Dq y
    have r1:=hr pre ((r.map Ae).flatten++post) hp (eF.app hq);have hi:Ea w (Cg pre (Ae a++((r.map Ae).flatten++post)) d)=true:=by rw [eL,Cp,Ci];exact hw
    rw [Ao,Bj,C4];unfold E2;rw [hi,if_pos rfl,r1];simp only;rw [Xr hq hn r m _ _ (by rw [A8] at h;omega) (fun z hz=>hF z (Gs _ hz)) (hp.app (Dq a))];simp
theorem pU (l:List Syn)(h:∀a∈l,∃c L,Ae a=c::L):l.length<=((l.map Ae).flatten).length:=by
  induction l with
  | nil=>exact Be _
  | cons x r ih=>
    obtain ⟨c,L,e⟩:=h x (Jg ..);have:=ih fun a ha=>h a (Gs _ ha)
    rw [Ao,Bj,Al,e,A8,A8];omega
theorem aT {a:Syn}(h:Ag a (.only 0)=0)(hk:a.kind=0):∃A B,a.kids=A++B/\(∀x∈A,x.kind=1/\Ag x (.only 1)=0)/\∀x∈B,x.kind=3/\Ag x (.only 3)=0:=by
  have key:∀(j:Nat) x,a.kids[j]? = some x->(x.kind=1/\(j=0\/(Aq a (j-1)).kind=1))\/x.kind=3:=fun j x hx=>by
    have c:=Dl h hx;have e:Aq a j=x:=by unfold Aq;rw [Dm,hx];rfl
    unfold Cr at c;rw [hk,if_pos (by rfl),e] at c;split at c
    . rename_i h1
      rw [Ce,Hm] at h1;refine .inl ⟨by simpa using h1.1,?_⟩;rcases h1.2 with h2 | h2
      . left;simpa using h2
      right;simpa using h2
    exact .inr (Dz c.2)
  have kc:∀(j:Nat) x,a.kids[j]? = some x->(x.kind=1->Ag x (.only 1)=0)/\(x.kind=3->Ag x (.only 3)=0):=fun j x hx=>by
    have c:=Dl h hx;have e:Aq a j=x:=by unfold Aq;rw [Dm,hx];rfl
    unfold Cr at c;rw [hk,if_pos (by rfl),e] at c;split at c
    . exact ⟨fun _=>c.1,fun h3=>by have:=Dz c.2;omega⟩
    exact ⟨fun h1=>by have:=Dz c.2;omega,fun _=>c.1⟩
  -- the longest beginning of types
  have main:∀n:Nat,n<=a.kids.length->(∀j,j<n->∀x,a.kids[j]? = some x->x.kind=1)\/∃m,m<n/\(∀j,j<m->∀x,a.kids[j]? = some x->x.kind=1)/\∀j,m<=j->j<n->∀x,a.kids[j]? = some x->x.kind=3:=by
    intro n
    induction n with
    | zero=>intro _;left;intro j hj;omega
    | succ n ih=>
      intro hn;have hx:a.kids[n]? = some a.kids[n]:=List.getElem?_eq_getElem (by omega);rcases ih (by omega) with h1 | ⟨m,hm,h2,h3⟩
      . rcases key n _ hx with ⟨k1,_⟩ | k3
        . left
          intro j hj x hjx;by_cases hjn:j=n
          . subst hjn;rw [hx] at hjx;cases hjx;exact k1
          exact h1 j (by omega) x hjx
        . right
          refine ⟨n,by omega,h1,fun j hj hj2 x hjx=>?_⟩;obtain rfl:j=n:=by omega
          rw [hx] at hjx;cases hjx;exact k3
      . right
        refine ⟨m,by omega,h2,fun j hj hj2 x hjx=>?_⟩;by_cases hjn:j=n
        . subst hjn
          rw [hx] at hjx;cases hjx;rcases key j _ hx with ⟨k1,k2⟩ | k3
          . exfalso
            have hp:a.kids[j-1]? = some a.kids[j-1]:=List.getElem?_eq_getElem (by omega);have e:Aq a (j-1)=a.kids[j-1]:=by unfold Aq;rw [Dm,hp];rfl
            have k3:=h3 (j-1) (by omega) (by omega) _ hp;rcases k2 with h0 | h0
            . omega
            rw [e] at h0;omega
          exact k3
        exact h3 j hj (by omega) x hjx
  rcases main a.kids.length (Be _) with h1 | ⟨m,hm,h2,h3⟩
  . refine ⟨a.kids,[],by simp,fun x hx=>?_,fun x hx=>by cases hx⟩
    obtain ⟨j,hj⟩:=Fh.1 hx;have:=h1 j (List.getElem?_eq_some_iff.1 hj).1 x hj;exact ⟨this,(kc j x hj).1 this⟩
  . refine ⟨a.kids.take m,a.kids.drop m,(gH ..).symm,fun x hx=>?_,fun x hx=>?_⟩
    . obtain ⟨j,hj⟩:=Fh.1 hx
      rw [List.getElem?_take] at hj;split at hj
      . have:=h2 j (by assumption) x hj
        exact ⟨this,(kc j x hj).1 this⟩
      cases hj
    . obtain ⟨j,hj⟩:=Fh.1 hx
      rw [List.getElem?_drop] at hj;have:=h3 (m+j) (by omega) (List.getElem?_eq_some_iff.1 hj).1 x hj;exact ⟨this,(kc _ x hj).2 this⟩
theorem prog_read {a:Syn}(h:Ag a (.only 0)=0)(hd:C7 a<=64):Fm EE TT (Cg [] (Ae a) 0)=(Dy a,Cg (Ae a) [] 0):=by
  have hk:a.kind=0:=Dz (Bz (Bx h).1).1;obtain ⟨_,hs,hn,hf⟩:=Bz (Bx h).1;have hnum:=E5 hf ⟨by omega,by omega,by omega,by omega,by omega⟩;have hnm:=qP hf ⟨by rw [hk];rfl,by rw [hk];rfl,by omega⟩;obtain ⟨A,B,hkid,hA,hB⟩:=aT h hk
  have et:Ae a=(A.map Ae).flatten++(B.map Ae).flatten:=by
    rw [C3];unfold E3;rw [hk];show (a.kids.map Ae).flatten=_;rw [hkid,Di,Zo]
  have er:Dy a=⟨0,[],[],0,A.map Dy++B.map Dy,0⟩:=by rw [Fc,hk,hnum,hnm.1,hnm.2,hkid,Di]
  have tA:∀x∈A,∃L,Ae x=tw B6::L:=fun x hx=>⟨_,qZ (hA x hx).1⟩
  have tB:∀x∈B,∃L,Ae x=tw B5::L:=fun x hx=>by
    have hs:=(Bz (Bx (hB x hx).2).1).2.1;unfold Ct at hs;rw [(hB x hx).1] at hs
    replace hs:decide (3<=(x.kids.length:Int))=true:=hs
    simp only [Cb] at hs
    match hq:x.kids with
    | []=>rw [hq] at hs;simp at hs
    | [y]=>rw [hq] at hs;simp at hs
    | y::z::r=>exact ⟨_,mV (hB x hx).1 hq⟩
  have eA:Gx ((A.map Ae).flatten):=Xb fun z hz=>by obtain ⟨y,hy,rfl⟩:=Cd.1 hz;exact Dq y
  have eB:Gx ((B.map Ae).flatten):=Xb fun z hz=>by obtain ⟨y,hy,rfl⟩:=Cd.1 hz;exact Dq y
  have nB:∀p:List Tok,Ea B6 (Cg p ((B.map Ae).flatten) 0)=false:=fun p=>by
    cases hB0:B with
    | nil=>exact is_nil
    | cons b r=>
      obtain ⟨L,e⟩:=tB b (by rw [hB0];simp);rw [Ao,Bj,e,Cp,Ci];decide
  have lA:=pU A fun x hx=>by obtain ⟨L,e⟩:=tA x hx;exact ⟨_,L,e⟩
  have lB:=pU B fun x hx=>by obtain ⟨L,e⟩:=tB x hx;exact ⟨_,L,e⟩
  have r1:=Xr (w:=B6) (F:=Hh) (d:=0) (post:=(B.map Ae).flatten) eB nB A (B1 (Cg [] ((A.map Ae).flatten++(B.map Ae).flatten) 0)) [] [] (by rw [cH,Al];omega)
    (fun x hx=>⟨tA x hx,by decide,fun p q hp hq=>type_read (hA x hx).2 (hA x hx).1 hp hq⟩) rfl
  have r2:=Xr (w:=B5) (F:=If EE TT) (d:=0) (post:=[]) rfl (fun p=>is_nil) B (B1 (Cg ((A.map Ae).flatten) ((B.map Ae).flatten) 0)) ((A.map Ae).flatten) (A.map Dy) (by rw [cH];omega)
    (fun x hx=>⟨tB x hx,by decide,fun p q hp hq=>query_read (hB x hx).2 (hB x hx).1 (F4 (Yn (by rw [hkid];exact T1 _ hx)) hd) hp hq⟩) eA
  rw [A1] at r2;rw [er,et];unfold Fm;simp only;rw [r1];simp only [Cv];rw [r2]
theorem prog_back {a:Syn}(h:Ag a (.only 0)=0)(hd:C7 a<=64)(hl:(Ad a).length<=65536):(Dh (Fm EE TT) (Ad a)).2=(0,0)/\Dy (Dh (Fm EE TT) (Ad a)).1=Dy a:=by
 have hk:a.kind=0:=Dz (Bz (Bx h).1).1
 have hpe:Pe (Ad a) (Ae a) []:=by
  have e1:Ad a=(a.kids.map Ad).flatten:=by rw [Ew];unfold Dn;rw [hk];rfl
  have e2:Ae a=(a.kids.map Ae).flatten:=by rw [C3];unfold E3;rw [hk];rfl
  rw [e1,e2];obtain ⟨A,B,hkid,hA,hB⟩:=aT h hk;refine pe_flat a.kids (fun x hx=>?_) [];rw [hkid] at hx;rcases G2.1 hx with hx | hx
  . exact (pe_all x _ (hA x hx).2 (by have:=(hA x hx).1;omega) (by have:=(hA x hx).1;omega) (by have:=(hA x hx).1;omega)).2 (.inl (hA x hx).1)
  exact (pe_all x _ (hB x hx).2 (by have:=(hB x hx).1;omega) (by have:=(hB x hx).1;omega) (by have:=(hB x hx).1;omega)).2 (.inr (hB x hx).1)
 have w:=(whole (er_prog er_EE er_TT) (hpe.scan hl)).1 _ _ (prog_read h hd);refine ⟨?_,w.2⟩;obtain ⟨_,_,_,h4⟩:=mM w.1;rw [h4]
theorem Zk (t:Syn):(Ft t).kids=t.kids.map Ft\/(t.kind=5/\(Ft t).kids = []):=by
 rw [Iu];unfold stN;by_cases h:((t.kind==5)&&(t.kids.map Ft).any oG)=true
 .
  rw [if_pos h];exact .inr ⟨by rw [Ce] at h;simpa using h.1,rfl⟩
 rw [if_neg h];exact .inl rfl
theorem shape_len {a b:Syn}(hk:a.kind=b.kind)(hn:a.num=b.num)(hl:a.kids.length=b.kids.length):Ct a=Ct b:=by
 unfold Ct;rw [hk,hn,hl]
theorem st_own {p:Pl}{t:Syn}(h:Vq p t=0):Vq p (Ft t)=0:=by
 obtain ⟨o1,o2,o3,o4⟩:=Bz h;have e:Ft t=⟨t.kind,t.text,t.name,t.num,(Ft t).kids,0⟩:=by rw [Iu];rfl
 refine mk_own (by rw [Zl];exact o1) ?_ (by rw [e];exact o3) (by rw [e];exact o4);rcases Zk t with hk | ⟨h5,hk⟩
 .
  rw [<-o2];exact shape_len (Zl t) (by rw [e]) (by rw [hk,Bg])
 unfold Ct;rw [Zl,h5,hk];rfl
theorem kidN_st {t:Syn}(hk:(Ft t).kids=t.kids.map Ft)(i:Nat):Aq (Ft t) i=if i<t.kids.length then Ft (Aq t i) else Iz:=by
 unfold Aq;rw [hk,Dm,List.getElem?_map,Dm];split
 .
  rename_i h;rw [List.getElem?_eq_getElem h];rfl
 rename_i h;rw [List.getElem?_eq_none (by omega)];rfl
theorem Pp {t:Syn}(hk:(Ft t).kids=t.kids.map Ft)(i:Nat):(Aq (Ft t) i).kind=(Aq t i).kind/\(Aq (Ft t) i).text=(Aq t i).text:=by
 rw [kidN_st hk];split
 . rw [Iu];exact ⟨rfl,rfl⟩
 rename_i h;unfold Aq;rw [Dm,List.getElem?_eq_none (by omega)];exact ⟨rfl,rfl⟩
theorem kidC_st {t:Syn}(hk:(Ft t).kids=t.kids.map Ft)(i:Nat):Cr (Ft t) i=Cr t i:=by
 unfold Cr;rw [Zl,(Pp hk i).1,(Pp hk (i-1)).1]
theorem st_check:∀(t:Syn) (p:Pl),Ag t p=0->Ag (Ft t) p=0:=by
  intro t
  induction t using Syn.ind with
  | h t ih=>
    intro p h;refine mk_check (st_own (Bx h).1) fun j a ha=>?_
    rcases Zk t with hk | ⟨h5,hk⟩
    . rw [kidC_st hk]
      rw [hk,List.getElem?_map] at ha;obtain ⟨b,hb,rfl⟩:=Sn.1 ha;exact ih b (Ak hb) _ (Dl h hb).1
    rw [hk] at ha;cases ha
theorem st_depth:∀t:Syn,C7 (Ft t)<=C7 t:=by
  intro t
  induction t using Syn.ind with
  | h t ih=>
    rw [La,La t,Zl]
    have key:∀l:List Syn,(∀a∈l,C7 (Ft a)<=C7 a)->Ek t.kind (l.map Ft)<=Ek t.kind l:=by
      intro l
      induction l with
      | nil=>intro _;exact Be _
      | cons x r ih2=>
        intro hl;have h1:=hl x (by simp);have h2:=ih2 fun a ha=>hl a (by simp [ha])
        rw [Ao,Ek,Ek,Zl];omega
    have h1:=key t.kids ih;rcases Zk t with hk | ⟨h5,hk⟩
    . rw [hk];omega
    rw [hk,Ek];omega
section
variable {f g:Syn->Ac} {l:List Syn}
theorem Jo {c:Prop}[Decidable c]{a b a' b':Ac}(h1:c->a.length<=a'.length)(h2:¬c->b.length<=b'.length):(if c then a else b).length<=(if c then a' else b').length:=by
 split
 . exact h1 ‹_›
 exact h2 ‹_›
theorem fB:∀{l:List Syn},(∀a∈l,(f a).length<=(g a).length)->(D8 (l.map f)).length<=(D8 (l.map g)).length
  | [],_=>Be _
  | [x],h=>h x (by simp)
  | x::y::r,h=>by
    have h1:=h x (by simp);have h2:=fB (l:=y::r) fun a ha=>h a (by simp [ha])
    rw [Ao,Ao,Ao,Ao] at *;rw [D8,D8];simp only [Al,A8,Bn] at h2 ⊢;omega
theorem pV:∀{l:List Syn},(∀a∈l,(f a).length<=(g a).length)->((l.map f).flatten).length<=((l.map g).flatten).length
  | [],_=>Be _
  | x::r,h=>by
    have h1:=h x (by simp);have h2:=pV (l:=r) fun a ha=>h a (by simp [ha])
    rw [Ao,Ao,Bj,Bj,Al,Al];omega
theorem pZ (h:∀a∈l,(f a).length<=(g a).length)(i:Nat):((l.map f).getD i []).length<=((l.map g).getD i []).length:=by
 rw [Dm,Dm,List.getElem?_map,List.getElem?_map];cases hq:l[i]? with
 | none=>exact Be _
 | some a=>exact h a (Ak hq)
theorem rF {p k:Syn}{a b:Ac}(h:a.length<=b.length):(Hy p k a).length<=(Hy p k b).length:=by
 unfold Hy;refine Jo (fun _=>?_) fun _=>h
 simp only [Al,A8,Bn];omega
theorem node_mono (t:Syn)(h:∀a∈l,(f a).length<=(g a).length):(Dn t (l.map f)).length<=(Dn t (l.map g)).length:=by
 have hj:=fB h;have hf:=pV h;have h0:=pZ h 0;have h1:=pZ h 1
 have hd:(D8 ((l.map f).drop 2)).length<=(D8 ((l.map g).drop 2)).length:=by
  rw [<-List.map_drop,<-List.map_drop];exact fB fun a ha=>h a (Wd ha)
 have he:(l.map f == [])=(l.map g == []):=by cases l <;> rfl
 have w0:=rF (p:=t) (k:=Aq t 0) h0;have w1:=rF (p:=t) (k:=Aq t 1) h1;unfold Dn;rw [he];refine Jo (fun _=>hf) fun _=>Jo (fun _=>?_) fun _=>Jo (fun _=>Be _) fun _=>Jo (fun _=>?_) fun _=>Jo (fun _=>?_) fun _=>Jo (fun _=>Be _) fun _=>Jo (fun _=>Be _) fun _=>Jo (fun _=>Be _) fun _=>Jo (fun _=>?_) fun _=>Jo (fun _=>?_) fun _=>Jo (fun _=>?_) fun _=>?_
 .
  have h2:(if (l.map g == [])=true then [] else [32]++D8 (l.map f) ++ [32]:Ac).length<=(if (l.map g == [])=true then [] else [32]++D8 (l.map g) ++ [32]:Ac).length:=Jo (fun _=>Be _) fun _=>by
   simp only [Al,A8,Bn];omega
  simp only [Al] at h2 ⊢;omega
 . simp only [Al];omega
 .
  have h2:(if (l.map g == [])=true then [] else [32]++Lv ++ [32]++(l.map f).getD 0 []:Ac).length<=(if (l.map g == [])=true then [] else [32]++Lv ++ [32]++(l.map g).getD 0 []:Ac).length:=Jo (fun _=>Be _) fun _=>by
   simp only [Al];omega
  simp only [Al] at h2 ⊢;omega
 .
  have h2:(if (l.map g == [])=true then [] else [44,32]++(l.map f).getD 0 []:Ac).length<=(if (l.map g == [])=true then [] else [44,32]++(l.map g).getD 0 []:Ac).length:=Jo (fun _=>Be _) fun _=>by
   simp only [Al];omega
  simp only [Al] at h2 ⊢;omega
 . simp only [Al];omega
 . simp only [Al];omega
 simp only [Al];omega
end
theorem node_st {t:Syn}(hk:(Ft t).kids=t.kids.map Ft)(ws:List Ac):Dn (Ft t) ws=Dn t ws:=by
 have e:Ft t=⟨t.kind,t.text,t.name,t.num,(Ft t).kids,0⟩:=by rw [Iu];rfl
 obtain ⟨a1,a2⟩:=Pp hk 0;obtain ⟨b1,_⟩:=Pp hk 1;have x1:(Ft t).kind=t.kind:=by rw [e]
 have x2:(Ft t).text=t.text:=by rw [e]
 have x3:(Ft t).name=t.name:=by rw [e]
 have x4:(Ft t).num=t.num:=by rw [e]
 unfold Dn Hy aN;rw [x1,x2,x3,x4,a1,a2,b1]
theorem st_len:∀t:Syn,(Ad (Ft t)).length<=(Ad t).length:=by
  intro t
  induction t using Syn.ind with
  | h t ih=>
    rw [Ew,Ew t];rcases Zk t with hk | ⟨h5,hk⟩
    . rw [node_st hk,hk,Hd]
      exact node_mono t fun a ha=>ih a ha
    . rw [hk,A0]
      have e:Ft t=⟨t.kind,t.text,t.name,t.num,(Ft t).kids,0⟩:=by rw [Iu];rfl
      have x1:(Ft t).kind=5:=by rw [e];exact h5
      have x2:(Ft t).text=t.text:=by rw [e]
      have x3:(Ft t).name=t.name:=by rw [e]
      unfold Dn;rw [x1,h5,x2,x3];show (t.text ++ [32]++t.name ++ []).length<=(t.text ++ [32]++t.name++_).length;simp only [Al,Bn];omega
theorem nJ {t:Syn}{p:Pl}(h:((Ba t p).2 != 0)=false):Ba (Ft t) p=(Ad (Ft t),0):=by
 have hc:=Sj h;unfold Ba at h;rw [hc,if_neg (by decide)] at h;split at h
 . cases h
 rename_i h1;split at h
 . cases h
 rename_i h2;simp only [Cb] at h1 h2;have d:=st_depth t;have e:=st_len t;unfold Ba;rw [st_check t p hc,if_neg (by decide),if_neg (by simp only [Cb];omega),if_neg (by simp only [Cb];omega)]
theorem wr_kid {t b:Syn}(hk:t.kind=0)(hb:b∈t.kids):(Ad b).length<=(Ad t).length:=by
  rw [Ew t];unfold Dn;rw [hk,if_pos (by rfl)]
  have key:∀l:List Syn,b∈l->(Ad b).length<=((l.map Ad).flatten).length:=by
    intro l
    induction l with
    | nil=>intro h;cases h
    | cons x r ih=>
      intro h;rw [Ao,Bj,Al];rcases Cu.1 h with rfl | h
      . omega
      have:=ih h;omega
  exact key _ hb
theorem Aai {t b:Syn}(h:((Ba t (.only 0)).2 != 0)=false)(hb:b∈t.kids)(h3:b.kind=3):((Ba b (.only 3)).2 != 0)=false:=by
 have hc:=Sj h;have hk:t.kind=0:=Dz (Bz (Bx hc).1).1;obtain ⟨j,hj⟩:=Fh.1 hb;have hcb:=Y1 hc hj h3;have hd:=Yn hb;have hl:=wr_kid hk hb;unfold Ba at h;rw [hc,if_neg (by decide)] at h;split at h
 . cases h
 rename_i h1;split at h
 . cases h
 rename_i h2;simp only [Cb] at h1 h2;unfold Ba;rw [hcb,if_neg (by decide),if_neg (by simp only [Cb];omega),if_neg (by simp only [Cb];omega)];rfl
variable {l:List Tok} {e d:Int} {a b st:PS} {w:Ac} {p:Pl}
variable {l:List Tok} {e d:Int} {a b st:PS} {w:Ac} {p:Pl}
variable {l:List Tok} {e d:Int} {a b st:PS} {w:Ac} {p:Pl}
theorem ek (t:Syn):(Dy t).kind=t.kind:=by rw [Fc]
theorem ex (t:Syn):(Dy t).text=t.text:=by rw [Fc]
theorem en (t:Syn):(Dy t).name=t.name:=by rw [Fc]
theorem em (t:Syn):(Dy t).num=t.num:=by rw [Fc]
theorem el (t:Syn):(Dy t).kids.length=t.kids.length:=by rw [I9,Bg]
theorem ekid (t:Syn)(i:Nat):Aq (Dy t) i=Dy (Aq t i):=by
 unfold Aq;rw [I9,Dm,Dm,List.getElem?_map];cases t.kids[i]? with
 | none=>exact erS_z.symm
 | some a=>rfl
theorem node_er (t:Syn)(ws:List Ac):Dn (Dy t) ws=Dn t ws:=by
 unfold Dn aN Hy;simp only [ek,ex,en,em,ekid]
theorem write_er (t:Syn):Ad (Dy t)=Ad t:=by
 refine Syn.ind (P:=fun t=>Ad (Dy t)=Ad t) (fun t ih=>?_) t;rw [Ew,Ew t,node_er,I9,Hd]
 congr 1
 exact Kw fun a ha=>ih a ha
theorem wL_er:∀(l:List Syn),(∀a∈l,wC (Dy a)=wC a)->wL (l.map Dy)=wL l
 | [],_=>rfl
 | x::r,h=>by rw [Ao,wL,wL,h x (Jg ..),wL_er r fun a ha=>h a (Gs _ ha)]
theorem w_er (t:Syn):wC (Dy t)=wC t:=by
 refine Syn.ind (P:=fun t=>wC (Dy t)=wC t) (fun t ih=>?_) t;rw [nQ,nQ t,ex,en,I9,wL_er _ ih]
theorem pA (k:Int):∀(l:List Syn),(∀a∈l,C7 (Dy a)=C7 a)->Ek k (l.map Dy)=Ek k l
 | [],_=>rfl
 | x::r,h=>by rw [Ao,Ek,Ek,h x (Jg ..),ek,pA k r fun a ha=>h a (Gs _ ha)]
theorem depth_er2 (t:Syn):C7 (Dy t)=C7 t:=by
 refine Syn.ind (P:=fun t=>C7 (Dy t)=C7 t) (fun t ih=>?_) t;rw [La,La t,ek,I9,pA _ _ ih]
theorem own_er (p:Pl)(t:Syn):Vq p (Dy t)=Vq p t:=by
 unfold Vq Ct Li C9 I8 Ns;simp only [ek,ex,en,em,el]
theorem kid_er (t:Syn)(i:Nat):Cr (Dy t) i=Cr t i:=by
 unfold Cr;simp only [ek,ekid]
theorem wY (t:Syn):∀(l:List Syn) (i:Nat),(∀a∈l,∀p,Ag (Dy a) p=Ag a p)->Mk (Dy t) i (l.map Dy)=Mk t i l
 | [],_,_=>rfl
 | x::r,i,h=>by rw [Ao,Mk,Mk,kid_er,h x (Jg ..),wY t r (i+1) fun a ha=>h a (Gs _ ha)]
theorem check_er (t:Syn):∀p,Ag (Dy t) p=Ag t p:=by
 refine Syn.ind (P:=fun t=>∀p,Ag (Dy t) p=Ag t p) (fun t ih p=>?_) t;rw [P6,P6 t,own_er,I9,wY t _ 0 ih]
theorem nZ (t:Syn)(p:Pl):Ba (Dy t) p=Ba t p:=by
 unfold Ba;rw [check_er,depth_er2,write_er]
theorem med_er (t:Syn):Ie (Dy t)↔Ie t:=by
 unfold Ie aZ;rw [w_er,ex,en,el,I9];refine and_congr_right fun _=>⟨fun h a ha=>?_,fun h a ha=>?_⟩
 .
  have:=h (Dy a) (Cd.2 ⟨a,ha,rfl⟩)
  rwa [w_er] at this
 obtain ⟨b,hb,rfl⟩:=Cd.1 ha;rw [w_er];exact h b hb
def qmed (t:Syn):Prop:=∀a∈t.kids,a.kind=3->aZ a
theorem er_cong {T:List e8Sc}{l m:List Syn}(h:l.map Dy=m.map Dy)(h1:∀a∈l,a.kind=3->QryOK a)(h2:∀a∈m,a.kind=3->QryOK a)(qs:List Qy):(Dr T qs l).1=(Dr T qs m).1/\(Dr T qs l).2.err=(Dr T qs m).2.err:=by
 have e1:=er_prg (T:=T) l qs h1;have e2:=er_prg (T:=T) m qs h2;rw [h] at e1;exact ⟨e1.1.symm.trans e2.1,e1.2.symm.trans e2.2⟩
theorem yQ {t:Syn}(hw:((Ba t (.only 0)).2 != 0)=false)(hm:qmed t):∀a∈t.kids,a.kind=3->QryOK a:=fun a ha h3=>by
 obtain ⟨j,hj⟩:=Fh.1 ha;exact ⟨hm a ha h3,Y1 (Sj hw) hj h3⟩
theorem prg_er {t u:Syn}(h:Dy u=Dy t)(ht:qmed t)(hu:qmed u){p:Pg}(hp:Jt t=(p,0,0)):Jt u=(p,0,0):=by
  have hw:Ba u (.only 0)=Ba t (.only 0):=by rw [<-nZ u,<-nZ t,h]
  have hk:u.kids.map Dy=t.kids.map Dy:=by rw [<-I9,<-I9,h]
  have ht0:((Ba t (.only 0)).2 != 0)=false:=by
    cases hq:(Ba t (.only 0)).2 != 0 with
    | false=>rfl
    | true=>rw [pp_1 hq] at hp;cases hp
  have hu0:((Ba u (.only 0)).2 != 0)=false:=by rw [hw];exact ht0
  have hT:(Ga u).1=(Ga t).1/\(Ga u).2.err=(Ga t).2.err:=by
    have e1:=sD u.kids [];have e2:=sD t.kids [];rw [hk] at e1;exact ⟨e1.1.symm.trans e2.1,e1.2.symm.trans e2.2⟩
  have ht1:((Ga t).2.err != 0)=false:=by
    cases hq:(Ga t).2.err != 0 with
    | false=>rfl
    | true=>
      rw [pp_2 ht0 hq] at hp;have:=congrArg (fun q:Pg×Int×Int=>q.2.2) hp;simp only at this;rw [this] at hq;cases hq
  have hu1:((Ga u).2.err != 0)=false:=by rw [hT.2];exact ht1
  have hQ:=er_cong (T:=(Ga t).1) hk (yQ hu0 hu) (yQ ht0 ht) [];rw [pp_n ht0 ht1] at hp;rw [pp_n hu0 hu1];unfold rJ at hp ⊢;rw [hT.1,hQ.1,hQ.2];cases hq:(Dr (Ga t).1 [] t.kids).2.err != 0 with
  | true=>
    rw [hq,if_pos rfl] at hp;have:=congrArg (fun q:Pg×Int×Int=>q.2.2) hp;simp only at this;rw [this] at hq;cases hq
  | false=>
    rw [hq,if_neg (by decide)] at hp;rw [if_neg (by decide)];exact hp
theorem span_al {p:UInt8->Bool}:∀{s:Ac},Bd p s=s.length->s.all p=true
  | [],_=>rfl
  | c::r,h=>by
    rw [Bd] at h;split at h
    . rename_i h1
      rw [Kx,h1,span_al (by rw [A8] at h;omega)];rfl
    rw [A8] at h;omega
theorem nm_sch {s:Ac}(h:Ru s=true):Lz s=true/\eU s=true:=by
  obtain ⟨h0,h1,h2,h3,h4⟩:=cQ h;have ha:=span_al h3;obtain ⟨c,r,rfl⟩:∃c r,s=c::r:=by cases s with | nil=>cases h0 | cons c r=>exact ⟨c,r,rfl⟩
  have hl:C6 c=true:=h2
  have hd:A5 c=false:=by
    cases hq:A5 c with
    | false=>rfl
    | true=>
      have:=aE c;rw [hq,hl] at this;simp at this
  have hn:Lz (c::r)=true:=by
    unfold Lz;have e1:(c::r).all chS=true:=ha;have e2:rX ((c::r).headD 0).toNat=false:=hd;rw [e1,e2,Gt h1];rfl
  refine ⟨hn,?_⟩;unfold eU;rw [hn,Gu,A2];cases hq:(c::r)==timeB with
  | false=>rfl
  | true=>
    rw [eq_of_beq hq] at h;have:=nm_time;rw [show Ej=timeB from rfl,h] at this;cases this
def fiA (x:Syn):Fi:=⟨x.text,x.num⟩
def tyA (a:Syn):e8Sc:=⟨a.text,a.kids.map fiA⟩
theorem fld_fwd:∀(l:List Syn) (fs:List Fi),(Fy fs l).2.err=0->fs.length<=8->(fs.map (·.name)).Nodup->Fy fs l=(fs++l.map fiA,Np)/\fs.length+l.length<=8/\(fs.map (·.name)++l.map (·.text)).Nodup
  | [],fs,_,h2,h3=>⟨by rw [Fy,A0,A1],h2,by simpa using h3⟩
  | x::r,fs,h,h2,h3=>by
    rw [Fy] at h ⊢;split at h
    . cases h
    . rename_i g1
      split at h
      . cases h
      . rename_i g2
        have c1:fs.length≠8:=by intro e;exact g1 (by rw [e];rfl)
        have c2:x.text∉fs.map (·.name):=by simpa using g2
        have ih:=fld_fwd r (fs ++ [⟨x.text,x.num⟩]) h (by rw [Al,E6];omega) (by
          rw [Di]
          exact Ih.2 ⟨h3,by simp,fun a ha b hb=>by
            have e:b=x.text:=by simpa using hb
            rw [e];exact fun e=>c2 (e▸ha)⟩)
        rw [if_neg g1,if_neg g2,ih.1];refine ⟨by simp [fiA],?_,?_⟩
        . have:=ih.2.1
          rw [Al,E6] at this;rw [A8];omega
        . have:=ih.2.2
          rw [Di] at this;simpa using this
theorem typ_fwd {B:List Syn}(hB:∀b∈B,b.kind≠1):∀(A:List Syn) (out:List e8Sc),(∀a∈A,a.kind=1)->(Fw out (A++B)).2.err=0->out.length<=16->(H4 out).Nodup->
    Fw out (A++B)=(out++A.map tyA,Np)/\out.length+A.length<=16/\(H4 out++A.map (·.text)).Nodup/\∀a∈A,a.kids.length<=8/\(a.kids.map (·.text)).Nodup
  | [],out,_,_,h2,h3=>⟨by rw [Cv,fZ _ _ hB,A0,A1],h2,by simpa using h3,fun a h=>by cases h⟩
  | x::r,out,hA,h,h2,h3=>by
    have hx:=hA x (by simp);rw [Cp,Fw,if_neg (by rw [hx];decide)] at h ⊢;split at h
    . cases h
    . rename_i g1
      split at h
      . cases h
      . rename_i g2
        split at h
        . rename_i g3
          exfalso;have h0:(Fy [] x.kids).2.err=0:=h;rw [h0] at g3;cases g3
        . rename_i g3
          have hf:=fld_fwd x.kids [] (by simpa using g3) (Bk _) O4;have c1:out.length≠16:=by intro e;exact g1 (by rw [e];rfl)
          have c2:x.text∉H4 out:=by simpa using g2
          have e0:(Fy [] x.kids).1=x.kids.map fiA:=by rw [hf.1,Cv]
          rw [e0] at h;have en:H4 (out ++ [⟨x.text,x.kids.map fiA⟩])=H4 out ++ [x.text]:=by simp
          have ih:=typ_fwd hB r (out ++ [⟨x.text,x.kids.map fiA⟩]) (fun a ha=>hA a (by simp [ha])) h (by rw [Al,E6];omega) (by
            rw [en];exact Ih.2 ⟨h3,by simp,fun a ha b hb=>by rw [D5.1 hb];exact fun e=>c2 (e▸ha)⟩)
          rw [en] at ih;rw [if_neg g1,if_neg g2,if_neg g3,e0,ih.1];refine ⟨by simp [tyA],?_,by simpa using ih.2.2.1,fun a ha=>?_⟩
          . have:=ih.2.1
            rw [Al,E6] at this;rw [A8];omega
          . rcases Cu.1 ha with rfl | ha
            . exact ⟨by simpa using hf.2.1,by simpa using hf.2.2⟩
            exact ih.2.2.2 a ha
theorem kid_ty {a x:Syn}(hc:Ag a (.only 1)=0)(hx:x∈a.kids):x.kind=2/\Ru x.text=true/\x.name = []/\x.kids = []/\0<=x.num/\x.num<=2:=by
 have hk:a.kind=1:=Dz (Bz (Bx hc).1).1;obtain ⟨j,hj⟩:=Fh.1 hx;have h1:=(Dl hc hj).1;have e:Cr a j = .only 2:=by unfold Cr;rw [hk];rfl
 rw [e] at h1;obtain ⟨o1,o2,o3,o4⟩:=Bz (Bx h1).1;have k2:x.kind=2:=Dz o1;exact ⟨k2,Gf o3 (by rw [k2];rfl) (by omega),(F2 o4 (by omega)).2 (by rw [k2];rfl),Uk o2 (by simp [k2]),Yu o4 k2⟩
theorem ty_tree {a:Syn}(hc:Ag a (.only 1)=0):tyT (tyA a)=Ft a:=by
 obtain ⟨o1,o2,o3,o4⟩:=Bz (Bx hc).1;have hk:a.kind=1:=Dz o1;rw [Iu,X0 (by omega)];refine bB hk.symm rfl ((F2 o4 (by omega)).2 (by rw [hk];rfl)).symm (E5 o4 (by omega)).symm ?_ rfl;show (a.kids.map fiA).map fiT=_;rw [Hd];refine Kw fun x hx=>?_
 obtain ⟨k1,k2,k3,k4,k5⟩:=kid_ty hc hx;rw [Iu,X0 (by omega),k1,k3,k4];rfl
theorem flds_ok:∀(l:List Fi) (seen:List Ac),(seen++l.map (·.name)).Nodup->(∀f∈l,Ru f.name=true/\0<=f.kind/\f.kind<=2)->Ld seen l=0
  | [],seen,_,_=>rfl
  | f::r,seen,h1,h2=>by
    obtain ⟨a1,a2,a3⟩:=h2 f (by simp)
    have hc:seen.contains f.name=false:=by
      cases hq:seen.contains f.name with
      | false=>rfl
      | true=>
        rw [Ih] at h1;exact absurd rfl (h1.2.2 f.name (by simpa using hq) f.name (by simp))
    have e:Ja seen f=0:=by
      unfold Ja;rw [(nm_sch a1).2,if_neg (by decide),hc,if_neg (by decide),if_neg (by simp;omega)]
    rw [Ld,e,if_neg (by decide)];refine flds_ok r _ ?_ fun f hf=>h2 f (by simp [hf])
    rw [Ao] at h1;simpa using h1
theorem typs_ok:∀(l:List e8Sc) (seen:List Ac),(seen++H4 l).Nodup->(∀s∈l,Ot s=0)->N3 seen l=0
  | [],seen,_,_=>rfl
  | s::r,seen,h1,h2=>by
    have hc:seen.contains s.name=false:=by
      cases hq:seen.contains s.name with
      | false=>rfl
      | true=>
        rw [Ih] at h1;exact absurd rfl (h1.2.2 s.name (by simpa using hq) s.name (by simp))
    have e:Nj seen s=0:=by
      unfold Nj;rw [h2 s (by simp),if_neg (by decide),hc];rfl
    rw [N3,e,if_neg (by decide)];refine typs_ok r _ ?_ fun f hf=>h2 f (by simp [hf])
    simpa using h1
theorem yK {T:List e8Sc}:∀(B:List Syn) (qs:List Qy),(∀b∈B,b.kind=3)->(Dr T qs B).2.err=0->qs.length<=16->(qs.map (·.name)).Nodup->
    Dr T qs B=(qs++B.map (fun b=>(Co T b).1),Np)/\qs.length+B.length<=16/\(qs.map (·.name)++B.map (·.text)).Nodup/\∀b∈B,((Co T b).2.err != 0)=false
  | [],qs,_,_,h2,h3=>⟨by rw [Dr,A0,A1],h2,by simpa using h3,fun b h=>by cases h⟩
  | x::r,qs,hB,h,h2,h3=>by
    have hx:=hB x (by simp);rw [Dr,if_neg (by rw [hx];decide)] at h ⊢;split at h
    . cases h
    . rename_i g1
      split at h
      . cases h
      . rename_i g2
        split at h
        . rename_i g3
          exfalso;have h0:(Co T x).2.err=0:=h;rw [h0] at g3;cases g3
        . rename_i g3
          have g4:((Co T x).2.err != 0)=false:=by simpa using g3
          have hn:=(mU g4).1;have c1:qs.length≠16:=by intro e;exact g1 (by rw [e];rfl)
          have c2:x.text∉qs.map (·.name):=by simpa using g2
          have en:(qs ++ [(Co T x).1]).map (·.name)=qs.map (·.name) ++ [x.text]:=by simp [hn]
          have ih:=yK r (qs ++ [(Co T x).1]) (fun a ha=>hB a (by simp [ha])) h (by rw [Al,E6];omega) (by
            rw [en];exact Ih.2 ⟨h3,by simp,fun a ha b hb=>by rw [D5.1 hb];exact fun e=>c2 (e▸ha)⟩)
          rw [en] at ih;rw [if_neg g1,if_neg g2,if_neg g3,ih.1];refine ⟨by simp,?_,by simpa using ih.2.2.1,fun a ha=>?_⟩
          . have:=ih.2.1
            rw [Al,E6] at this;rw [A8];omega
          . rcases Cu.1 ha with rfl | ha
            . exact g4
            exact ih.2.2.2 a ha
theorem show_fwd {T:List e8Sc}{b:Syn}(hT:(Fv T != 0)=false)(hb:QryOK b)(hw:((Ba b (.only 3)).2 != 0)=false)(hq:((Co T b).2.err != 0)=false):Kl T (Co T b).1=(Ft b,0)/\ShOK T (Co T b).1:=by
 obtain ⟨s1,s2⟩:=q_fwd hT hb (q_good hq);refine ⟨?_,s1⟩;unfold Kl;rw [if_neg (by rw [hT];decide),sh_is s1,if_neg (show ¬(((gT T (Co T b).1).1,(0:Int)).2 != 0)=true from (by decide:¬((0:Int) != 0)=true)),s2,nJ hw];rfl
theorem zQ {T:List e8Sc}:∀(B:List Syn) (seen:List Ac),(∀b∈B,Kl T (Co T b).1=(Ft b,0)/\(Co T b).1.name=b.text)->(seen++B.map (·.text)).Nodup->Sw T seen (B.map fun b=>(Co T b).1)=0
  | [],seen,_,_=>rfl
  | b::r,seen,h1,h2=>by
    obtain ⟨a1,a2⟩:=h1 b (by simp)
    have hc:seen.contains b.text=false:=by
      cases hq:seen.contains b.text with
      | false=>rfl
      | true=>
        rw [Ih] at h2;exact absurd rfl (h2.2.2 b.text (by simpa using hq) b.text (by simp))
    rw [Ao,Sw,a1,a2,hc,if_neg (show ¬(((Ft b,(0:Int)):Syn×Int).2 != 0)=true from (by decide:¬((0:Int) != 0)=true)),if_neg (by decide)];refine zQ r _ (fun b hb=>h1 b (by simp [hb])) ?_;rw [Ao] at h2;simpa using h2
theorem src_y {p:Pg}(h:SrcOK p)(hw:Ba (Sg p) (.only 0)=(Ad (Sg p),0)):K3 p=(Sg p,0):=by
 unfold K3 src1 zP src3;have:=h.l;rw [if_neg (by rw [h.t];decide),h.b,if_neg (by decide),if_neg (by simp only [Cb];omega),h.g,if_neg (by decide),hw];rfl
theorem src_fwd {t:Syn}{p:Pg}(hm:qmed t)(hp:Jt t=(p,0,0)):SrcOK p/\Sg p=Ft t/\K3 p=(Ft t,0)/\Ba (Ft t) (.only 0)=(Ad (Ft t),0)/\
    ∃A B,t.kids=A++B/\p.types=A.map tyA/\p.queries=B.map (fun b=>(Co p.types b).1)/\∀b∈B,QryOK b/\QGood p.types b (Co p.types b).1:=by
  have hw:((Ba t (.only 0)).2 != 0)=false:=by
    cases hq:(Ba t (.only 0)).2 != 0 with
    | false=>rfl
    | true=>rw [pp_1 hq] at hp;cases hp
  have hc:=Sj hw;obtain ⟨o1,o2,o3,o4⟩:=Bz (Bx hc).1;have hk:t.kind=0:=Dz o1
  have h1:((Ga t).2.err != 0)=false:=by
    cases hq:(Ga t).2.err != 0 with
    | false=>rfl
    | true=>
      rw [pp_2 hw hq] at hp;have:=congrArg (fun q:Pg×Int×Int=>q.2.2) hp;simp only at this;rw [this] at hq;cases hq
  rw [pp_n hw h1] at hp;unfold rJ at hp
  have h2:((Dr (Ga t).1 [] t.kids).2.err != 0)=false:=by
    cases hq:(Dr (Ga t).1 [] t.kids).2.err != 0 with
    | false=>rfl
    | true=>
      rw [hq,if_pos rfl] at hp;have:=congrArg (fun q:Pg×Int×Int=>q.2.2) hp;simp only at this;rw [this] at hq;cases hq
  rw [h2,if_neg (by decide)] at hp;have hpe:p=⟨(Ga t).1,(Dr (Ga t).1 [] t.kids).1⟩:=(congrArg (·.1) hp).symm;obtain ⟨A,B,hAB,hA,hB⟩:=aT hc hk;have tA:=typ_fwd (B:=B) (fun b hb=>by have:=(hB b hb).1;omega) A [] (fun a ha=>(hA a ha).1) (by rw [<-hAB];simpa [Ga] using h1) (Bk _) O4;rw [<-hAB] at tA
  have eT:(Ga t).1=A.map tyA:=by
    show (Fw [] t.kids).1=_;rw [tA.1,Cv]
  have pB:=yK (T:=(Ga t).1) B [] (fun b hb=>(hB b hb).1) (by
    rw [hAB,Vr _ _ _ fun a ha=>by have:=(hA a ha).1;omega] at h2;simpa using h2) (Bk _) O4
  have eQ:(Dr (Ga t).1 [] t.kids).1=B.map fun b=>(Co (Ga t).1 b).1:=by
    rw [hAB,Vr _ _ _ fun a ha=>by have:=(hA a ha).1;omega];rw [pB.1,Cv]
  have hT:(Fv p.types != 0)=false:=by
    have e:Fv p.types=0:=by
      rw [hpe];show Fv (Ga t).1=0;rw [eT];unfold Fv;rw [if_neg (by have:=tA.2.1;simp at this ⊢;omega)]
      refine typs_ok _ _ (by
        have h9:(A.map (·.text)).Nodup:=by simpa using tA.2.2.1
        show (([]:List Ac)++(A.map tyA).map (fun s:e8Sc=>s.name)).Nodup;rw [Cv,Hd];exact h9) fun s hs=>?_
      obtain ⟨a,ha,rfl⟩:=Cd.1 hs;obtain ⟨q1,q2⟩:=tA.2.2.2 a ha;obtain ⟨c1,c2,c3,c4⟩:=Bz (Bx (hA a ha).2).1;have k1:=(hA a ha).1;unfold Ot;rw [show Lz (tyA a).name=true from (nm_sch (Gf c3 (by rw [k1];rfl) (by omega))).1,if_neg (by decide),if_neg (by simp [tyA];omega)];refine flds_ok _ _ (by rw [Cv];show ((a.kids.map fiA).map (·.name)).Nodup;rw [Hd];exact q2) fun f hf=>?_
      obtain ⟨x,hx,rfl⟩:=Cd.1 hf;obtain ⟨x1,x2,x3,x4,x5⟩:=kid_ty (hA a ha).2 hx;exact ⟨x2,x5⟩
    rw [e];rfl
  have pT:p.types=(Ga t).1:=by rw [hpe]
  have pQ:p.queries=B.map fun b=>(Co (Ga t).1 b).1:=by rw [hpe];exact eQ
  have hB2:∀b∈B,QryOK b/\((Ba b (.only 3)).2 != 0)=false/\((Co (Ga t).1 b).2.err != 0)=false:=fun b hb=>by
    have hbk:b∈t.kids:=by rw [hAB];exact T1 _ hb
    exact ⟨⟨hm b hbk (hB b hb).1,(hB b hb).2⟩,Aai hw hbk (hB b hb).1,pB.2.2.2 b hb⟩
  have hsrc:Sg p=Ft t:=by
    rw [Iu,X0 (by omega)];refine bB hk.symm ((F2 o4 (by omega)).1 (by rw [hk];rfl)).symm ((F2 o4 (by omega)).2 (by rw [hk];rfl)).symm (E5 o4 (by omega)).symm ?_ rfl;show p.types.map tyT++p.queries.map (qT p.types)=t.kids.map Ft;rw [hAB,Di,pQ,pT,Hd]
    have e1:(Ga t).1.map tyT=A.map Ft:=by
      rw [eT,Hd];exact Kw fun a ha=>ty_tree (hA a ha).2
    rw [e1];refine congrArg (A.map Ft ++ ·) (Kw fun b hb=>?_);exact (q_fwd (by rw [<-pT];exact hT) (hB2 b hb).1 (q_good (hB2 b hb).2.2)).2
  have hwr:Ba (Ft t) (.only 0)=(Ad (Ft t),0):=nJ hw
  have hok:SrcOK p:=by
    refine ⟨hT,?_,?_,?_,by rw [hsrc,hwr];rfl⟩
    . rw [pT,eT,List.all_map]
      refine F3.2 fun a ha=>?_
      obtain ⟨c1,c2,c3,c4⟩:=Bz (Bx (hA a ha).2).1;have k1:=(hA a ha).1;show (Ru a.text&&(a.kids.map fiA).all fun f=>Ru f.name)=true;rw [Gf c3 (by rw [k1];rfl) (by omega),Gu,List.all_map];exact F3.2 fun x hx=>(kid_ty (hA a ha).2 hx).2.1
    . rw [pQ,Bg];simpa using pB.2.1
    . rw [pQ,pT]
      exact zQ B [] (fun b hb=>⟨(show_fwd (by rw [<-pT];exact hT) (hB2 b hb).1 (hB2 b hb).2.1 (hB2 b hb).2.2).1,(mU (hB2 b hb).2.2).1⟩) (by simpa using pB.2.2.1)
  refine ⟨hok,hsrc,by rw [src_y hok (by rw [hsrc];exact hwr),hsrc],hwr,A,B,hAB,by rw [pT,eT],?_,fun b hb=>⟨(hB2 b hb).1,?_⟩⟩
  . rw [pQ,pT]
  rw [pT];exact q_good (hB2 b hb).2.2
def Xq (e p:Int):Nat:=if 0<=p/\p<=e then 1 else 100000
mutual
def vC (e:Int):Syn->Nat
 | ⟨_,x,n,_,ks,p⟩=>Xq e p+x.length+n.length+vL e ks
def vL (e:Int):List Syn->Nat
 | []=>0
 | x::r=>vC e x+vL e r
end
theorem vC_eq (e:Int)(t:Syn):vC e t=Xq e t.pos+t.text.length+t.name.length+vL e t.kids:=by cases t;rw [vC]
theorem bC (e:Int):∀a b:List Syn,vL e (a++b)=vL e a+vL e b
 | [],b=>by rw [Cv,vL];omega
 | x::a,b=>by rw [Cp,vL,vL,bC e a b];omega
theorem vL_mem {e:Int}:∀{l:List Syn} {a:Syn},a∈l->vC e a<=vL e l
  | x::r,a,h=>by
    rw [vL];rcases Cu.1 h with rfl | h
    . omega
    have:=vL_mem (e:=e) h;omega
theorem pen_pos (e p:Int):1<=Xq e p:=by unfold Xq;split <;> omega
mutual
theorem w_v (e:Int):∀t:Syn,wC t<=vC e t
 | ⟨_,x,n,_,ks,p⟩=>by rw [wC,vC];have:=pen_pos e p;have:=wl_v e ks;omega
theorem wl_v (e:Int):∀l:List Syn,wL l<=vL e l
 | []=>Be _
 | x::r=>by rw [wL,vL];have:=w_v e x;have:=wl_v e r;omega
end
def oO (e:Int)(t:Syn):Prop:=vC e t<100000
theorem oO.at {e:Int}{t:Syn}(h:oO e t):0<=t.pos/\t.pos<=e:=by
 unfold oO at h;rw [vC_eq] at h;unfold Xq at h;split at h
 . assumption
 omega
theorem oO.kid {e:Int}{t a:Syn}(h:oO e t)(ha:a∈t.kids):oO e a:=by
 unfold oO at h ⊢;rw [vC_eq] at h;have:=vL_mem (e:=e) ha;omega
def wz (t:Tok):Nat:=10+t.text.length
def poz:List Tok->Nat->Nat
 | [],_=>0
 | _::_,0=>0
 | t::r,n+1=>wz t+poz r n
theorem mP (l:List Tok):poz l 0=0:=by cases l <;> rfl
theorem yF:∀{l:List Tok} {n:Nat},n<l.length->poz l (n+1)=poz l n+wz (l.getD n Pw)
  | t::r,0,_=>by
    show wz t+poz r 0=0+wz t;rw [mP];omega
  | t::r,n+1,h=>by
    rw [poz,poz,yF (by simpa using h)];simp only [List.getD_cons_succ];omega
theorem yE:∀(l:List Tok) {n m:Nat},n<=m->poz l n<=poz l m
  | [],_,_,_=>Be _
  | t::r,0,m,_=>by rw [mP];exact Bk _
  | t::r,n+1,0,h=>by omega
  | t::r,n+1,m+1,h=>by
    rw [poz,poz];have:=yE r (n:=n) (m:=m) (by omega);omega
theorem poz_top:∀(l:List Tok) (n:Nat),poz l n<=(l.map wz).sum
 | [],_=>Bk _
 | t::r,0=>by rw [mP];exact Bk _
 | t::r,n+1=>by rw [poz,Ao,Jq];have:=poz_top r n;omega
def pz (st:PS):Nat:=poz st.toks st.pos
variable {l:List Tok} {e d:Int} {a b st:PS} {w:Ac}
theorem Bo.pz (h:Bo a b):pz a<=pz b:=by
 unfold Go.Proofs.YtibcelnfkhdjaaaGreatDoor.pz;rw [h.toks];exact yE _ h.pos
theorem pz_adv (h:endP st=false):pz (adv st)=pz st+10+(jM st).text.length:=by
 show poz st.toks (st.pos+1)=_;rw [yF (cU h)];unfold wz pz jM;omega
theorem Ry (hi:Ea w st=true):pz (adv st)=pz st+10+w.length:=by
 have h:=is_end hi
 have e:(jM st).text=w:=by
  unfold Ea at hi;rw [h] at hi;simp only [Ah,↓reduceIte,Ce,beq_iff_eq] at hi;exact hi.1
 rw [pz_adv h,e]
theorem Rx (h:(Bb w st).bad=0):pz (Bb w st)=pz st+10+w.length:=by
 have h0:=(Bo.exp w st).good h;cases hi:Ea w st with
 | true=>rw [exp_yes h0 hi,Ry hi]
 | false=>rw [exp_no h0 hi] at h;exact absurd h (by decide)
theorem J7 {k:Int}(h:(Cm k st).bad=0):pz (Cm k st)=pz st+10+(Hw k st).length:=by
  have h0:=(Bo.tok k st).good h;cases hi:Nt k st with
  | true=>
    have e:Cm k st=adv st:=by unfold Cm;rw [if_pos hi]
    rw [e,pz_adv (nxt_end hi)];unfold Hw;rw [if_pos hi]
  | false=>rw [tok_no h0 hi] at h;exact absurd h (by decide)
def Rn (l:List Tok)(e:Int):Prop:=∀n,0<=Ur l e n/\Ur l e n<=e
theorem At.pen (hR:Rn l e)(h:At l e d st):Xq e (D4 st)=1:=by
 rw [h.off];unfold Xq;rw [if_pos (hR _)]
def Wv (e:Int)(st:PS)(r:Syn×PS):Prop:=r.2.bad=0->Xq e r.1.pos=1/\pz st+vC e r.1<=pz r.2
def Wu (l:List Tok)(e d:Int)(F:PS->Syn×PS):Prop:=∀st,At l e d st->Wv e st (F st)
theorem L9 {k m p:Int}{x n:Ac}{ks:List Syn}(hp:Xq e p=1):vC e ⟨k,x,n,m,ks,p⟩=1+x.length+n.length+vL e ks:=by rw [vC,hp]
theorem Zw (hR:Rn l e)(h:At l e d st){k m:Int}{x n:Ac}{ks:List Syn}{s:PS}(hp:s.bad=0->pz st+1+x.length+n.length+vL e ks<=pz s):Wv e st (⟨k,x,n,m,ks,D4 st⟩,s):=fun hb=>by
 have h1:=h.pen hR;refine ⟨h1,?_⟩;show pz st+vC e ⟨k,x,n,m,ks,D4 st⟩<=pz s;rw [L9 h1];have:=hp hb;omega
theorem v_const (hR:Rn l e):Wu l e d D9:=fun st h=>by
 have q1:Ig.length=3:=rfl;have q2:Gg.length=4:=rfl;have q3:Ha.length=6:=rfl;unfold D9;split
 .
  rename_i h1;exact Zw hR h fun hb=>by have:=Ry h1;have:=J7 hb;simp only [vL,Bn];omega
 split
 . exact Zw hR h fun hb=>by have:=J7 hb;simp only [vL,Bn];omega
 split
 .
  rename_i h1;exact Zw hR h fun hb=>by have:=Ry h1;simp only [vL,Bn];omega
 split
 .
  rename_i h1;exact Zw hR h fun hb=>by have:=Ry h1;simp only [vL,Bn];omega
 exact Zw hR h fun hb=>by have:=J7 hb;simp only [vL,Bn];omega
theorem v_nest (h:At l e d st){read:Syn->PS->Syn×PS}{z:Syn}(hr:d<64->Wv e st ((read z (adv (Go.Proofs.YtibcelnfkhdjaaaGreatDoor.deep st))).1,shallow (read z (adv (Go.Proofs.YtibcelnfkhdjaaaGreatDoor.deep st))).2)):Wv e st (M4 read z st):=by
 rw [Qj];rcases nest_bad st with hn | ⟨hn,h0⟩
 .
  rw [if_pos hn];exact fun hb=>absurd hb (by simpa using hn)
 rw [hn,if_neg (by rw [h0];decide)];refine hr (Classical.byContradiction fun hd=>?_);unfold Gj at hn;rw [if_pos (Gt (show 64<=st.depth by rw [h.2.2.1];omega))] at hn;have:=Oi (e:=12) (by decide) st;rw [hn,h0] at this;exact absurd this (by decide)
theorem ins_v (hb:(Rm st).2.bad=0):pz st+30+(Rm st).1.1.length+(Rm st).1.2.length<=pz (Rm st).2:=by
 unfold Rm at hb ⊢;simp only at hb ⊢;have b3:=(Bo.tok 0 _).good hb;have b2:=(Bo.exp Hx _).good b3;have b1:=(Bo.tok 0 _).good b2;have p1:=Rx b1;have p2:=J7 b2;have p3:=Rx b3;have p4:=J7 hb;omega
theorem v_unit (hR:Rn l e){E:PS->Syn×PS}(sE:Ly E)(hE:d<64->Wu l e (d+1) E):Wu l e d (D0 E):=fun st h=>by
 unfold D0;split
 .
  refine v_nest h fun hd hb=>?_
  have kd:Bo (deep st) (adv (deep st)):=.adv _;have b1:=(Bo.exp Gp (E (adv (deep st))).2).good hb;obtain ⟨g1,g2⟩:=hE hd _ ((h.deep hd).next kd) b1;have p1:=(Bo.exp Gp (E (adv (deep st))).2).pz;have p2:pz st<=pz (adv (deep st)):=kd.pz;exact ⟨g1,F4 (F4 (Nat.add_le_add_right p2 _) g2) p1⟩
 split
 .
  rename_i s hs;simp only;refine Zw hR h fun hb=>?_
  have k1:Bo st (Bb Cl (Rm (adv st)).2):=((Bo.adv _).trans (bo_ins _)).trans (.exp _ _);have b3:=(Bo.exp Gp _).good hb;have b2:=(vG _).good b3;have q:=ins_v ((Bo.exp Cl _).good b2);have p0:=Ry (sL hs);obtain ⟨g1,g2⟩:=v_const hR _ (h.next k1) b3;have p2:=(Bo.exp Cl (Rm (adv st)).2).pz;have p3:=(Bo.exp Gp (D9 (Bb Cl (Rm (adv st)).2)).2).pz;simp only [vL];omega
 split
 .
  rename_i h2;refine Zw hR h fun hb=>?_
  have q:=ins_v ((Bo.exp Gp _).good hb);have p0:=Ry h2;have p3:=(Bo.exp Gp (Rm (adv st)).2).pz;simp only [vL];omega
 split
 .
  rename_i h3;refine Zw hR h fun hb=>?_
  have b2:=(Bo.exp Gp _).good hb;have p0:=Ry h3;have p1:=(Bo.exp Ds (adv st)).pz;have p2:=J7 b2;have p3:=Rx hb;simp only [vL,Bn];omega
 split
 .
  simp only;split
  .
   rename_i h5;refine Zw hR h fun hb=>?_
   have b2:(Bb Hx (Cm 0 st)).bad=0:=hb;have p1:=J7 ((Bo.exp Hx _).good b2);have p2:=Rx b2;have p3:=Ry h5;simp only [vL];omega
  refine Zw hR h fun hb=>?_
  have b2:=(Bo.tok 0 _).good hb;have p1:=J7 ((Bo.exp Hx _).good b2);have p2:=Rx b2;have p3:=J7 hb;simp only [vL];omega
 exact v_const hR st h
theorem rB {F:PS->Syn×PS}(sF:Ly F)(hF:Wu l e d F){sg:List (Ac×Int)}{f:Nat}:∀(n:Nat) (st:PS) (out:Syn),At l e d st->Xq e out.pos=1->f+vC e out<=pz st->(Ge F sg n st out).2.bad=0->Xq e (Ge F sg n st out).1.pos=1/\f+vC e (Ge F sg n st out).1<=pz (Ge F sg n st out).2
  | 0,st,out,h,ho,hp,hb=>⟨ho,hp⟩
  | n+1,st,out,h,ho,hp,hb=>by
    unfold Ge at hb ⊢;split
    . rename_i s hs1
      rw [hs1] at hb;simp only at hb;have k:=(Bo.adv st).trans (sF (adv st));have hb2:=(U5 sF n (F (adv st)).2 (K6 s.2 out (F (adv st)).1 out.pos) trivial).good hb;obtain ⟨g1,g2⟩:=hF (adv st) (h.next (.adv st)) hb2;have p0:=Ry (sL hs1);exact rB sF hF n _ _ (h.next k) ho (by unfold K6;rw [L9 ho];simp only [vL,Bn];omega) hb
    exact ⟨ho,hp⟩
theorem uK {F:PS->Syn×PS}(sF:Ly F)(hF:Wu l e d F)(sg:List (Ac×Int)):Wu l e d (I5 F sg):=fun st h hb=>by
 unfold I5 at hb ⊢;have hb2:=(U5 sF (B1 (F st).2) (F st).2 (F st).1 trivial).good hb;obtain ⟨g1,g2⟩:=hF st h hb2;exact rB sF hF _ _ _ (h.next (sF st)) g1 g2 hb
theorem v_cmp (hR:Rn l e){E:PS->Syn×PS}(sE:Ly E)(hE:d<64->Wu l e (d+1) E):Wu l e d (L5 E):=fun st h=>by
 have hs:Wu l e d (Fu E):=uK (vH sE) (v_unit hR sE hE) uG;have b1:=iU sE st;have b2:=(Bo.adv (Fu E st).2).trans (iU sE (adv (Fu E st).2))
 have key:∀w,Ea w (Fu E st).2=true->(Fu E (adv (Fu E st).2)).2.bad=0->Xq e (Fu E st).1.pos=1/\pz st+vC e (Fu E st).1+vC e (Fu E (adv (Fu E st).2)).1+10<=pz (Fu E (adv (Fu E st).2)).2:=fun w hi hb=>by
  obtain ⟨g1,g2⟩:=hs st h (b2.good hb);obtain ⟨g3,g4⟩:=hs _ ((h.next b1).next (.adv _)) hb;have p0:=Ry hi;exact ⟨g1,by omega⟩
 have K:∀(w:Ac) (op:Int),Ea w (Fu E st).2=true->Wv e st (K6 op (Fu E st).1 (Fu E (adv (Fu E st).2)).1 (Fu E st).1.pos,(Fu E (adv (Fu E st).2)).2):=fun w op hi hb=>by
  obtain ⟨k1,k3⟩:=key w hi hb;exact ⟨k1,by simp only [K6];rw [L9 k1];simp only [vL,Bn];omega⟩
 have K2:∀(w:Ac) (op:Int),Ea w (Fu E st).2=true->Wv e st (K6 op (Fu E (adv (Fu E st).2)).1 (Fu E st).1 (Fu E st).1.pos,(Fu E (adv (Fu E st).2)).2):=fun w op hi hb=>by
  obtain ⟨k1,k3⟩:=key w hi hb;exact ⟨k1,by simp only [K6];rw [L9 k1];simp only [vL,Bn];omega⟩
 unfold L5;simp only;split
 . rename_i hi;exact K _ 7 hi
 split
 . rename_i hi;exact K _ 8 hi
 split
 . rename_i hi;exact K2 _ 7 hi
 split
 . rename_i hi;exact K2 _ 8 hi
 split
 . rename_i hi;exact K _ 9 hi
 split
 .
  rename_i hi;intro hb;obtain ⟨k1,k3⟩:=key _ hi hb;exact ⟨k1,by simp only [K6];rw [L9 k1,vL,L9 k1];simp only [vL,Bn];omega⟩
 exact hs st h
theorem v_not (hR:Rn l e){E N:PS->Syn×PS}(sE:Ly E)(hE:d<64->Wu l e (d+1) E)(sN:Ly N)(hN:d<64->Wu l e (d+1) N):Wu l e d (M5 E N):=fun st h=>by
  unfold M5;cases hi:Ea Gq st with
  | false=>exact v_cmp hR sE hE st h
  | true=>
    rw [if_neg (by decide)];refine v_nest h fun hd hb=>?_
    have kd:Bo (deep st) (adv (deep st)):=.adv _;obtain ⟨g1,g2⟩:=hN hd _ ((h.deep hd).next kd) hb;have p0:pz (adv (deep st))=pz st+10+Gq.length:=Ry hi;have h1:=h.pen hR;refine ⟨h1,?_⟩;show pz st+vC e ⟨18,[],[],0,[(N (adv (deep st))).1],D4 st⟩<=pz (N (adv (deep st))).2;rw [L9 h1];simp only [vL,Bn];omega
theorem v_or (hR:Rn l e){E N:PS->Syn×PS}(sE:Ly E)(hE:d<64->Wu l e (d+1) E)(sN:Ly N)(hN:d<64->Wu l e (d+1) N):Wu l e d (orP E N):=
 uK (Yk (bR sE sN) kA) (uK (bR sE sN) (v_not hR sE hE sN hN) kA) orL
theorem v_neg (hR:Rn l e):∀(n:Nat) (d:Int),64<=(n:Int)+d->Wu l e d (L8 n).1/\Wu l e d (L8 n).2
  | 0,d,h=>⟨v_not hR Ln (fun hd=>by omega) Ln (fun hd=>by omega),v_or hR Ln (fun hd=>by omega) Ln (fun hd=>by omega)⟩
  | n+1,d,h=>by
    obtain ⟨i1,i2⟩:=v_neg hR n (d+1) (by omega);exact ⟨v_not hR (Pi n).2 (fun _=>i2) (Pi n).1 (fun _=>i1),v_or hR (Pi n).2 (fun _=>i2) (Pi n).1 (fun _=>i1)⟩
theorem v_EE (hR:Rn l e)(hd:0<=d):Wu l e d EE:=(v_neg hR 64 d (by omega)).2
theorem v_event (hR:Rn l e){E:PS->Syn×PS}(sE:Ly E)(hE:Wu l e d E):Wu l e d (Hu E):=fun st h=>by
 have k2:Bo st (Cm 0 (Cm 0 st)):=(Bo.tok _ _).trans (.tok _ _);unfold Hu;simp only;split
 .
  rename_i hi;refine Zw hR h fun hb=>?_
  have b2:(Cm 0 (Cm 0 st)).bad=0:=(sE (adv (Cm 0 (Cm 0 st)))).good hb;have p1:=J7 ((Bo.tok 0 _).good b2);have p2:=J7 b2;have p3:=Ry hi;obtain ⟨g1,g2⟩:=hE _ (h.next (k2.trans (.adv _))) hb;simp only [vL];omega
 refine Zw hR h fun hb=>?_
 have p1:=J7 ((Bo.tok 0 _).good hb);have p2:=J7 hb;simp only [vL];omega
theorem nN {F:PS->Syn×PS}(sF:Ly F)(hF:Wu l e d F){f:Nat}:∀(n:Nat) (st:PS) (out:List Syn),At l e d st->f+vL e out<=pz st->(Gb F n st out).2.bad=0->f+vL e (Gb F n st out).1<=pz (Gb F n st out).2
  | 0,st,out,_,hf,_=>hf
  | n+1,st,out,h,hf,hb=>by
    unfold Gb at hb ⊢;split
    . rename_i hi
      rw [if_pos hi] at hb;have k:=(Bo.adv st).trans (sF (adv st));have hb2:=(P0 sF n (F (adv st)).2 (out ++ [(F (adv st)).1]) trivial).good hb;obtain ⟨g1,g2⟩:=hF (adv st) (h.next (.adv st)) hb2;have p0:=Ry hi;exact nN (f:=f) sF hF n _ (out ++ [(F (adv st)).1]) (h.next k) (by rw [bC,vL,vL];omega) hb
    exact hf
theorem v_list {F:PS->Syn×PS}(sF:Ly F)(hF:Wu l e d F)(h:At l e d st)(hb:(Kq F st).2.bad=0):pz st+vL e (Kq F st).1<=pz (Kq F st).2:=by
 unfold Kq at hb ⊢;have hb2:=(P0 sF (B1 (F st).2) (F st).2 [(F st).1] trivial).good hb;obtain ⟨g1,g2⟩:=hF st h hb2;exact nN (f:=pz st) sF hF _ _ _ (h.next (sF st)) (by rw [vL,vL];omega) hb
theorem v_rest (hR:Rn l e){E T:PS->Syn×PS}(sE:Ly E)(hE:Wu l e d E)(sT:Ly T)(hT:Wu l e d T){f:Nat}{k q:Int}{x:Syn}(h:At l e d st)(hq:Xq e q=1)(hf:f+vC e x+1<=pz st)
  (hb:(Fp E T k ⟨k,[],[],0,[x],q⟩ st).2.bad=0) :
  (Fp E T k ⟨k,[],[],0,[x],q⟩ st).1.pos=q/\f+vC e (Fp E T k ⟨k,[],[],0,[x],q⟩ st).1<=pz (Fp E T k ⟨k,[],[],0,[x],q⟩ st).2:=by
 have kc:Bo st (Bb Cl st):=.exp _ _;have hc:=h.next kc;have pc:=kc.pz;unfold Fp at hb ⊢;split
 .
  rename_i h1;rw [if_pos h1] at hb;unfold dI at hb ⊢;simp only at hb ⊢;have k2:=sT (Bb Cl st);have hb2:=(P0 sT (B1 (T (Bb Cl st)).2) (T (Bb Cl st)).2 ([x] ++ [(T (Bb Cl st)).1]) trivial).good hb;obtain ⟨g1,g2⟩:=hT _ hc hb2;have r:=nN (f:=f+1) sT hT (B1 (T (Bb Cl st)).2) _ ([x] ++ [(T (Bb Cl st)).1]) (hc.next k2) (by rw [bC,vL,vL,vL,vL];omega) hb;refine ⟨trivial,?_⟩;rw [L9 hq];simp only [Bn];omega
 rename_i h1;rw [if_neg h1] at hb;split
 . exact ⟨rfl,by simp only;rw [L9 hq];simp only [vL,Bn];omega⟩
 rename_i h2;rw [if_neg h2] at hb;split
 .
  rename_i h3;rw [if_pos h3] at hb;simp only at hb ⊢;obtain ⟨g1,g2⟩:=v_event hR sE hE _ hc hb;exact ⟨trivial,by rw [L9 hq,bC];simp only [vL,Bn];omega⟩
 rename_i h3;rw [if_neg h3] at hb;split
 .
  rename_i h4;rw [if_pos h4] at hb;simp only at hb ⊢;have p3:=J7 hb;exact ⟨trivial,by rw [L9 hq];simp only [vL,Bn];omega⟩
 rename_i h4;rw [if_neg h4] at hb;simp only at hb ⊢;obtain ⟨g1,g2⟩:=hE _ hc hb;exact ⟨trivial,by rw [L9 hq,bC];simp only [vL,Bn];omega⟩
theorem v_pat (hR:Rn l e){E T:PS->Syn×PS}(sE:Ly E)(hE:∀d,0<=d->Wu l e d E)(sT:Ly T)(hT:d<64->Wu l e (d+1) T):Wu l e d (Sv E T):=fun st h=>by
 unfold Sv;split
 .
  rename_i f hf;have hi:=sL hf;refine v_nest h fun hd hb=>?_
  have h0:=h.2.2.2.1;have hp:=h.pen hR;have kl:Bo (deep st) (Bb Ds (adv (deep st))):=(Bo.adv _).trans (.exp _ _);have hl:=(h.deep hd).next kl;have kt:=sT (Bb Ds (adv (deep st)));have hb2:=(Bo.exp Gp _).good hb;have kr:=bo_rest sE sT f.2 (⟨f.2,[],[],0,[(T (Bb Ds (adv (deep st)))).1],D4 st⟩:Syn) (st:=(T (Bb Ds (adv (deep st)))).2) trivial;have hb1:=kr.good hb2;obtain ⟨g1,g2⟩:=hT hd _ hl hb1;have p0:pz (adv (deep st))=pz st+10+f.1.length:=Ry hi;have p1:=Rx (kt.good hb1);obtain ⟨r1,r2⟩:=v_rest (f:=pz st) hR sE (hE (d+1) (by omega)) sT (hT hd) (hl.next kt) hp (by omega) hb2;have p2:=(Bo.exp Gp (Fp E T f.2 (⟨f.2,[],[],0,[(T (Bb Ds (adv (deep st)))).1],D4 st⟩:Syn) (T (Bb Ds (adv (deep st)))).2).2).pz;exact ⟨(congrArg (Xq e) r1).trans hp,F4 r2 p2⟩
 exact v_event hR sE (hE d h.2.2.2.1) st h
theorem v_patN (hR:Rn l e){E:PS->Syn×PS}(sE:Ly E)(hE:∀d,0<=d->Wu l e d E):∀(n:Nat) (d:Int),64<=(n:Int)+d->Wu l e d (fK E n)
 | 0,d,h=>v_pat hR sE hE Ln (fun hd=>by omega)
 | n+1,d,h=>v_pat hR sE hE (kG sE n) (fun _=>v_patN hR sE hE n (d+1) (by omega))
theorem v_TT (hR:Rn l e)(hd:0<=d):Wu l e d TT:=v_patN hR kE (fun d hd=>v_EE hR hd) 64 d (by omega)
theorem v_field (hR:Rn l e):Wu l e d Id:=fun st h=>by
 have kx:Bo (Cm 0 st) (Bb G9 (Cm 0 st)):=.exp _ _
 have mk:∀(n:Int) (s:PS),Bo (Bb G9 (Cm 0 st)) s->Wv e st (⟨2,Hw 0 st,[],n,[],D4 st⟩,s):=fun n s k=>Zw hR h fun hb=>by
  have p1:=J7 ((kx.trans k).good hb);have p2:=(kx.trans k).pz;simp only [vL,Bn];omega
 unfold Id;split
 . exact mk 0 _ (.adv _)
 split
 . exact mk 1 _ (.adv _)
 split
 . exact mk 2 _ (.adv _)
 exact mk 0 _ (.fail _ _)
theorem v_kind (hR:Rn l e):Wu l e d Hh:=fun st h=>by
 have k2:Bo (Bb B6 st) (Cm 0 (Bb B6 st)):=.tok _ _;have k3:Bo (Cm 0 (Bb B6 st)) (Bb Em (Cm 0 (Bb B6 st))):=.exp _ _;have k:Bo st (Bb Em (Cm 0 (Bb B6 st))):=((Bo.exp _ _).trans k2).trans k3
 have fin:∀(ks:List Syn) (s:PS),(Bb Em (Cm 0 (Bb B6 st))).bad=0->pz (Bb Em (Cm 0 (Bb B6 st)))+vL e ks<=pz s->pz st+1+(Hw 0 (Bb B6 st)).length+([]:Ac).length+vL e ks<=pz s:=fun ks s b3 hp=>by
  have b2:=k3.good b3;have p1:=Rx (k2.good b2);have p2:=J7 b2;have p3:=Rx b3;simp only [Bn];omega
 unfold Hh;simp only;split
 .
  refine Zw hR h fun hb=>?_
  have b5:=(Bo.exp En _).good hb;have r:=v_list dT (v_field hR) (h.next k) b5;have p4:=(Bo.exp En (Kq Id (Bb Em (Cm 0 (Bb B6 st)))).2).pz;exact fin _ _ ((iT dT trivial).good b5) (by omega)
 refine Zw hR h fun hb=>?_
 have p4:=(Bo.exp En (Bb Em (Cm 0 (Bb B6 st)))).pz;exact fin [] _ ((Bo.exp En _).good hb) (by rw [vL];omega)
theorem v_key (hR:Rn l e)(h:At l e d st){q:Int}(hq:Xq e q=1)(hb:(Nf st q).2.bad=0):pz st+vC e (Nf st q).1<=pz (Nf st q).2+1:=by
 unfold Nf at hb ⊢;split
 .
  rename_i h1;rw [if_pos h1] at hb;have p0:=Ry h1;have p1:=J7 hb;simp only;rw [L9 ((h.next (.adv _)).pen hR)];simp only [vL,Bn];omega
 simp only;rw [L9 hq];simp only [vL,Bn];omega
theorem v_query (hR:Rn l e){E T:PS->Syn×PS}(sE:Ly E)(hE:Wu l e d E)(sT:Ly T)(hT:Wu l e d T):Wu l e d (If E T):=fun st h=>by
 have k1:Bo st (Cm 0 (Bb B5 st)):=(Bo.exp _ _).trans (.tok _ _);have h1:=h.next k1;have k2:=bo_key (Cm 0 (Bb B5 st)) (D4 st);have k3:Bo (Nf (Cm 0 (Bb B5 st)) (D4 st)).2 (Bb Dx (Nf (Cm 0 (Bb B5 st)) (D4 st)).2):=.exp _ _;have k4:=(k1.trans k2).trans k3;have k5:=sT (Bb Dx (Nf (Cm 0 (Bb B5 st)) (D4 st)).2);have k6:Bo _ (Bb Dc (T (Bb Dx (Nf (Cm 0 (Bb B5 st)) (D4 st)).2)).2):=.exp _ _;have k7:Bo _ (Kq E (Bb Dc (T (Bb Dx (Nf (Cm 0 (Bb B5 st)) (D4 st)).2)).2)).2:=iT sE trivial;have h4:=h.next k4;unfold If;simp only;refine Zw hR h fun hb=>?_
 have b7:=(Bo.exp X2 _).good hb;have b6:=k7.good b7;have b5:=k6.good b6;have b4:=k5.good b5;have b3:=k3.good b4;have b2:=k2.good b3;have c:=v_key hR h1 (h.pen hR) b3;obtain ⟨g1,g2⟩:=hT _ h4 b5;have r:=v_list sE hE (h4.next (k5.trans k6)) b7;have p1:=Rx ((Bo.tok 0 _).good b2);have p2:=J7 b2;have p3:=Rx b4;have p4:=Rx b6;have p5:=(Bo.exp X2 (Kq E (Bb Dc (T (Bb Dx (Nf (Cm 0 (Bb B5 st)) (D4 st)).2)).2)).2).pz;rw [bC];simp only [vL,Bn];omega
theorem nO {F:PS->Syn×PS}(sF:Ly F)(hF:Wu l e d F){w:Ac}{f:Nat}:∀(n:Nat) (st:PS) (out:List Syn),At l e d st->f+vL e out<=pz st->(E2 w F n st out).2.bad=0->f+vL e (E2 w F n st out).1<=pz (E2 w F n st out).2
  | 0,st,out,h,hf,hb=>hf
  | n+1,st,out,h,hf,hb=>by
    unfold E2 at hb ⊢;split
    . rename_i hi
      rw [if_pos hi] at hb;have hb2:=(P4 (w:=w) sF n (F st).2 (out ++ [(F st).1])).good hb;obtain ⟨g1,g2⟩:=hF st h hb2;exact nO (f:=f) sF hF n _ _ (h.next (sF st)) (by rw [bC,vL,vL];omega) hb
    exact hf
theorem v_prog (hR:Rn l e)(he:0<=e)(h:At l e d st)(hb:(Fm EE TT st).2.bad=0):vC e (Fm EE TT st).1<=1+pz (Fm EE TT st).2:=by
 have hd:=h.2.2.2.1;unfold Fm at hb ⊢;simp only at hb ⊢;have k1:Bo st (E2 B6 Hh (B1 st) st []).2:=P4 kF _ _ _;have sq:=oV kE bof_TT;have hb2:=(P4 (w:=B5) sq (B1 (E2 B6 Hh (B1 st) st []).2) (E2 B6 Hh (B1 st) st []).2 (E2 B6 Hh (B1 st) st []).1).good hb;have a:=nO (w:=B6) (f:=0) kF (v_kind hR) (B1 st) st [] h (by rw [vL];omega) hb2;have b:=nO (w:=B5) (f:=0) sq (v_query hR kE (v_EE hR hd) bof_TT (v_TT hR hd)) _ _ _ (h.next k1) a hb;rw [L9 (show Xq e 0=1 by unfold Xq;rw [if_pos ⟨D6 _,he⟩])];simp only [Bn];omega
theorem Sc.small {s:Ac}{i:Nat}{l:List Tok}{j:Nat}(h:Sc s i l j):(l.map wz).sum+11*i<=11*j:=by
  induction h with
  | nil i=>simp
  | @sep i l j hi hs hr ih=>omega
  | @tok i l j hi hs he hr ih=>
    have h0:0<(s.drop i).length:=by rw [Eh];omega
    have hgd:=good_next h0 hs he (i:Int);have hpos:=(Y5 (s.drop i) h0).2.2.2.2 he;have h1:=hgd.2.2.2.2;rw [Ao,Jq];show 10+(By (s.drop i)).tok.text.length+(l.map wz).sum+11*i<=11*j;simp only at h1;omega
theorem short_read {s:Ac}(hs:s.length<=800)(h:(Dh (Fm EE TT) s).2.2=0):oO s.length (Dh (Fm EE TT) s).1/\Ie (Dh (Fm EE TT) s).1:=by
 obtain ⟨h1,h2,h3,h4⟩:=mM h;have hw:=(tZ h1).2.small;have hsr:=scan_srt h1
 have hR:Rn (Cy s).1 (s.length:Int):=fun n=>by
  refine ⟨?_,(hsr.1 n n (Be _)).2⟩;unfold Ur;split
  .
   rename_i hn;have hn:=Ec hn;have h2:n<(Cy s).1.length:=by omega
   have e1:(Cy s).1.getD n Pw=(Cy s).1[n]:=by simp [Dm,List.getElem?_eq_getElem h2]
   rw [e1];exact (hsr.2 _ (X7 h2)).1
  exact Int.natCast_nonneg _
 have hA:At (Cy s).1 s.length 0 (Ht (Cy s).1 s.length):=⟨rfl,rfl,rfl,D6 _,by decide⟩;have r:=v_prog hR (Int.natCast_nonneg _) hA h2
 have ht:pz (Fm EE TT (Ht (Cy s).1 s.length)).2<=((Cy s).1.map wz).sum:=by
  unfold pz;rw [(bof_prog kE bof_TT (Ht (Cy s).1 s.length)).toks];exact poz_top _ _
 have e:(Dh (Fm EE TT) s).1=(Fm EE TT (Ht (Cy s).1 s.length)).1:=congrArg (fun x=>x.1) h4;rw [e];have hv:vC s.length (Fm EE TT (Ht (Cy s).1 s.length)).1<=8801:=by omega
 refine ⟨by unfold oO;omega,tJ ?_⟩;unfold aZ;have:=w_v s.length (Fm EE TT (Ht (Cy s).1 s.length)).1;omega
section
variable {e:Int}
def uY (e p:Int):Prop:=0<=p/\p<=e
theorem L0 {t:Syn}(h:oO e t):uY e t.pos/\0<=e:=⟨h.at,by have:=h.at;omega⟩
theorem Td {t a:Syn}(h:oO e t)(ha:a∈t.kids):oO e a:=h.kid ha
theorem xZ {t:Syn}(h:oO e t)(i:Nat):uY e (Aq t i).pos/\∀a∈(Aq t i).kids,oO e a:=by
  unfold Aq;rw [Dm];cases hq:t.kids[i]? with
  | none=>exact ⟨⟨D6 _,(L0 h).2⟩,fun a ha=>by cases ha⟩
  | some a=>
    have:=Td h (Ak hq);exact ⟨(L0 this).1,fun b hb=>Td this hb⟩
theorem fld_in (he:0<=e):∀(l:List Syn) (fs:List Fi),(∀a∈l,oO e a)->uY e (Fy fs l).2.pos
  | [],fs,_=>⟨D6 _,he⟩
  | x::r,fs,h=>by
    rw [Fy];have hx:=(L0 (h x (by simp))).1;split
    . exact hx
    . split
      . exact hx
      exact fld_in he r _ fun a ha=>h a (by simp [ha])
theorem typ_in (he:0<=e):∀(l:List Syn) (out:List e8Sc),(∀a∈l,oO e a)->uY e (Fw out l).2.pos
  | [],out,_=>⟨D6 _,he⟩
  | x::r,out,h=>by
    rw [Fw];have hx:=(L0 (h x (by simp))).1;have ih:=fun o=>typ_in he r o fun a ha=>h a (by simp [ha])
    split
    . exact ih _
    . split
      . exact hx
      . split
        . exact hx
        . split
          . exact fld_in he _ _ fun a ha=>Td (h x (by simp)) ha
          exact ih _
theorem dec_in {T:List e8Sc}(he:0<=e):∀(l:List Syn) (V:List Va),(∀a∈l,uY e a.pos)->uY e (K8 T V l).2.pos
  | [],V,_=>⟨D6 _,he⟩
  | x::r,V,h=>by
    rw [J1];split
    . exact h x (by simp)
    exact dec_in he r _ fun a ha=>h a (by simp [ha])
theorem ev_in (he:0<=e):∀t:Syn,uY e t.pos->(∀a∈t.kids,oO e a)->∀x∈Lb t,uY e x.pos:=by
  intro t
  induction t using Syn.ind with
  | h t ih=>
    intro h0 hk x hx;rw [kS] at hx;rcases G2.1 hx with hx | hx
    . unfold evO at hx
      split at hx
      . rw [D5.1 hx];exact h0
      . split at hx
        . rw [D5.1 hx]
          unfold Aq;rw [Dm];cases hq:t.kids[1]? with
          | none=>exact ⟨D6 _,he⟩
          | some a=>exact (L0 (hk a (Ak hq))).1
        cases hx
    . obtain ⟨y,hy,hx⟩:=List.mem_flatMap.1 hx
      have ho:=hk y (Kr hy);exact ih y (Kr hy) (L0 ho).1 (fun a ha=>Td ho ha) x hx
theorem rY {f:Syn->Fa}(he:0<=e):∀l:List Syn,(∀a∈l,uY e (f a).pos)->uY e (Ia f l).pos
  | [],_=>⟨D6 _,he⟩
  | x::r,h=>by
    rw [Ia];split
    . exact h x (by simp)
    exact rY he r fun a ha=>h a (by simp [ha])
theorem walk_in {T:List e8Sc}{V:List Va}(he:0<=e):∀t:Syn,oO e t->uY e (Fr T V t).pos:=by
  intro t
  induction t using Syn.ind with
  | h t ih=>
    intro h
    have hl:uY e (Jk T V t).pos:=by
      have ht:=(L0 h).1;unfold Jk;split
      . exact ⟨D6 _,he⟩
      . split
        . exact ht
        . split
          . exact ⟨D6 _,he⟩
          . split
            . exact ht
            exact ⟨D6 _,he⟩
    rw [Uy];split
    . exact hl
    exact rY he _ fun a ha=>ih a ha (Td h ha)
theorem query_in {T:List e8Sc}{t:Syn}(h:oO e t):uY e (Co T t).2.pos:=by
 have he:=(L0 h).2;have hz:uY e 0:=⟨D6 _,he⟩;obtain ⟨k1,k2⟩:=xZ h 1;have h0:=(xZ h 0).1;unfold Co;split
 . exact dec_in he _ _ (ev_in he _ k1 k2)
 unfold QR1;split
 . exact h0
 unfold QR2;split
 . exact walk_in he t h
 unfold QR3;split
 . exact k1
 unfold QR4;split
 .
  refine rY he _ fun a ha=>?_
  have ho:=Td h (Wd ha);unfold rtF;split
  . exact (L0 ho).1
  exact hz
 exact hz
theorem yI {T:List e8Sc}(he:0<=e):∀(l:List Syn) (qs:List Qy),(∀a∈l,oO e a)->uY e (Dr T qs l).2.pos
  | [],qs,_=>⟨D6 _,he⟩
  | x::r,qs,h=>by
    rw [Dr];have hx:=h x (by simp);have ih:=fun q=>yI (T:=T) he r q fun a ha=>h a (by simp [ha])
    split
    . exact ih _
    . split
      . exact (L0 hx).1
      . split
        . exact (L0 hx).1
        . split
          . exact query_in hx
          exact ih _
theorem prg_in {t:Syn}(h:oO e t):uY e (Jt t).2.1:=by
 have he:=(L0 h).2;have hz:uY e 0:=⟨D6 _,he⟩;unfold Jt;split
 . exact hz
 split
 . exact typ_in he _ _ fun a ha=>Td h ha
 unfold rJ;split
 . exact yI he _ _ fun a ha=>Td h ha
 exact hz
end
theorem st_w:∀t:Syn,wC (Ft t)<=wC t:=by
  intro t
  induction t using Syn.ind with
  | h t ih=>
    have key:∀l:List Syn,(∀a∈l,wC (Ft a)<=wC a)->wL (l.map Ft)<=wL l:=by
      intro l
      induction l with
      | nil=>intro _;exact Be _
      | cons x r ih2=>
        intro hl;have h1:=hl x (by simp);have h2:=ih2 fun a ha=>hl a (by simp [ha])
        rw [Ao,wL,wL];omega
    have h1:=key t.kids ih;have e:Ft t=⟨t.kind,t.text,t.name,t.num,(Ft t).kids,0⟩:=by rw [Iu];rfl
    have x2:(Ft t).text=t.text:=by rw [e]
    have x3:(Ft t).name=t.name:=by rw [e]
    rw [nQ,nQ t,x2,x3];rcases Zk t with hk | ⟨_,hk⟩
    . rw [hk];omega
    rw [hk,wL];omega
theorem st_med {t:Syn}(h:Ie t):Ie (Ft t):=by
 have e:Ft t=⟨t.kind,t.text,t.name,t.num,(Ft t).kids,0⟩:=by rw [Iu];rfl
 have x2:(Ft t).text=t.text:=by rw [e]
 have x3:(Ft t).name=t.name:=by rw [e]
 unfold Ie;rw [x2,x3];rcases Zk t with hk | ⟨_,hk⟩
 .
  rw [hk,Bg];refine ⟨⟨h.1.1,h.1.2.1,F4 (st_w t) h.1.2.2⟩,fun a ha=>?_⟩;obtain ⟨b,hb,rfl⟩:=Cd.1 ha;exact F4 (st_w b) (h.2 b hb)
 rw [hk];exact ⟨⟨h.1.1,Bk _,F4 (st_w t) h.1.2.2⟩,fun a ha=>by cases ha⟩
theorem med_q {t:Syn}(h:Ie t):qmed t:=fun a ha _=>med_sm h ha
theorem fN {t:Syn}{p:Pg}(hm:Ie t)(hp:Jt t=(p,0,0)) :
  K3 p=(Ft t,0)/\Ie (Ft t)/\Ba (Ft t) (.only 0)=(Ad (Ft t),0)/\(Ad (Ft t)).length<=65536/\
  (Dh (Fm EE TT) (Ad (Ft t))).2=(0,0)/\Tf (Ft t) (Dh (Fm EE TT) (Ad (Ft t))).1=true/\Ie (Dh (Fm EE TT) (Ad (Ft t))).1/\
  Jt (Dh (Fm EE TT) (Ad (Ft t))).1=(p,0,0):=by
 obtain ⟨h1,h2,h3,h4,_⟩:=src_fwd (med_q hm) hp;have h5:=st_med hm;have hw:((Ba (Ft t) (.only 0)).2 != 0)=false:=by rw [h4];rfl
 have hc:=Sj hw
 have hd:C7 (Ft t)<=64/\(Ad (Ft t)).length<=65536:=by
  unfold Ba at hw;rw [hc,if_neg (by decide)] at hw;split at hw
  . cases hw
  rename_i g1;split at hw
  . cases hw
  rename_i g2;simp only [Cb] at g1 g2;exact ⟨by omega,by omega⟩
 obtain ⟨b1,b2⟩:=prog_back hc hd.1 hd.2;generalize (Dh (Fm EE TT) (Ad (Ft t)))=v at b1 b2 ⊢;have h6:Ie v.1:=(med_er v.1).1 (by rw [b2];exact (med_er (Ft t)).2 h5);have hb:=p_back h1;rw [h2] at hb;exact ⟨h3,h5,h4,hd.2,b1,zG _ _ b2.symm,h6,prg_er b2 (med_q h5) (med_q h6) hb⟩
def src0:Ac:=[116,121,112,101,32,65,123,115,58,115,116,114,105,110,103,125,113,117,101,114,121,32,113,32,98,121,32,115,32,109,97,116,99,104,32,115,101,113,40,65,32,97,44,112,108,117,115,40,65,32,98,32,105,102,40,98,46,115,61,61,97,46,115,41,41,41,114,101,116,117,114,110,32,99,111,117,110,116,40,98,41,59]
def out0:Ac:=[116,121,112,101,32,65,32,123,32,115,58,32,115,116,114,105,110,103,32,125,10,113,117,101,114,121,32,113,32,98,121,32,115,10,109,97,116,99,104,32,115,101,113,40,65,32,97,44,32,112,108,117,115,40,65,32,98,32,105,102,32,98,46,115,32,61,61,32,97,46,115,41,41,10,114,101,116,117,114,110,32,99,111,117,110,116,40,98,41,59,10]
def tq0:Syn:=(Dh (Fm EE TT) src0).1
def pq0:Pg:=(Jt tq0).1
theorem e_parse:(Dh (Fm EE TT) src0).2=(0,0):=by kernel_rfl
theorem e_med:aZ tq0:=Da (by kernel_rfl)
theorem e_prg:(Jt tq0).2=(0,0):=by kernel_rfl
theorem e_is:Jt tq0=(pq0,0,0):=Prod.ext rfl e_prg
theorem e_out:Ad (Ft tq0)=out0:=by kernel_rfl
theorem e_qs:∃q,pq0.queries = [q]/\q.key.length=1:=⟨_,rfl,rfl⟩
end Go.Proofs.YtibcelnfkhdjaaaGreatDoor
