/-
  Several texts in one: Q7, Qf, R32, R53, R1w, R2w, R3w, R4w. No condition.
-/
import Derived.Test.YtckhoadldibflaaGreatDoorK12
import Derived.Test.YtckhoadldibflaaGreatDoorK11
import Derived.Test.YtckhoadldibflaaGreatDoorK01
import Derived.Test.YtckhoadldibflaaGreatDoorK05
import Derived.KernelRfl
set_option linter.unusedVariables false
set_option linter.unusedSimpArgs false
set_option maxHeartbeats 3200000
set_option maxRecDepth 100000
namespace Go.Proofs.YtckhoadldibflaaGreatDoor
open Go Go.Aw
variable {pre post rest:List Tok} {d:Int} {t:Tok}
theorem aT {a:Syn}(hf:Dl a=0)(h13:a.kind≠13)(hk:(Nu a.kind).2=false):a.name = []:=by
 unfold Dl at hf;rw [if_neg (by simpa using h13)] at hf;split at hf
 . rename_i h1;rw [hf] at h1;cases h1
 split at hf
 . cases hf
 rename_i h2;rw [hk] at h2;simp only [Bm,Gq,G1,not_or,Wt,Bd] at h2;simpa using h2.2
theorem nI {F:PS->Syn×PS}{B:List Tok->Prop}(hB:∀r,B (N8::r))(hb:B post)(hq:F3 post)(hc:∀p,Ea D1 (Cg p post d)=false)(x:Syn)(r:List Syn)
  (hF:∀a∈x::r,∀p q,F3 p->F3 q->B q->F (Cg p (Af a++q) d)=(Dy a,Cg (p++Af a) q d)) (hp:F3 pre) :
  Po F (Cg pre (Hz ((x::r).map Af)++post) d)=((x::r).map Dy,Cg (pre++Hz ((x::r).map Af)) post d):=by
 rw [J6,C1];have h1:=hF x (I7 ..) pre (E3 r++post) hp ((Z9 r).app hq) (by cases r with | nil=>exact hb | cons z s=>exact hB _);unfold Po;rw [h1];simp only;rw [Vm hB hb hq hc r _ _ _ (by rw [aG,Au];have:=wB r;omega) (fun a ha=>hF a (F9 _ ha)) (hp.app (De x))];simp
theorem xV {a:Syn}{p:Pl}(h:Al a p=0)(hk:a.kind=2)(hp:F3 pre)(hq:F3 post):J3 (Cg pre (Af a++post) d)=(Dy a,Cg (pre++Af a) post d):=by
 obtain ⟨_,hs,hn,hf⟩:=Ct (Cq h).1;have k1:=H0 (H1 hn (by rw [hk];rfl) (by omega));have hi:=cD hf hk;unfold Dn at hs;rw [hk] at hs
 replace hs:((a.kids.length:Int)==0)=true:=hs
 have hkid:=aP (by simpa using hs);have er:Dy a=⟨2,a.text,[],a.num,[],0⟩:=by rw [S9 hkid,hk,aT hf (by omega) (by rw [hk];rfl)]
 have e2:Af a = [tw a.text,tg H6,tw (Im a.num)]:=by rw [Cz];unfold Eg;rw [hk];rfl
 rw [e2,er];show J3 (Cg pre (tw a.text::tg H6::tw (Im a.num)::post) d)=_;unfold J3;rw [(Dk k1).1,(Dk k1).2,D9 (t:=tg H6) (by decide),Ci,Ci,Ci,Hy hp (A6 rfl (A6 rfl (A6 rfl hq))),Hw];have:a.num=0\/a.num=1\/a.num=2:=by omega
 rcases this with h | h | h
 . rw [h,show G8 (tw (Im 0)) G0=true by decide,if_pos rfl];simp
 . rw [h,show G8 (tw (Im 1)) G0=false by decide,show G8 (tw (Im 1)) Ho=true by decide,if_neg (by decide),if_pos rfl];simp
 rw [h,show G8 (tw (Im 2)) G0=false by decide,show G8 (tw (Im 2)) Ho=false by decide,show G8 (tw (Im 2)) Ha=true by decide,if_neg (by decide),if_neg (by decide),if_pos rfl];simp
theorem nW {a:Syn}(hk:a.kind=1):Af a=tw Dj::tw a.text::tg Gt::(Hz (a.kids.map Af) ++ [tg Fg]):=by
 rw [Cz];unfold Eg;rw [hk];show [tw Dj] ++ [] ++ [tw a.text] ++ [tg Gt]++Hz (a.kids.map Af) ++ [tg Fg]=_;simp
theorem type_read {a:Syn}{p:Pl}(h:Al a p=0)(hk:a.kind=1)(hp:F3 pre)(hq:F3 post):Jc (Cg pre (Af a++post) d)=(Dy a,Cg (pre++Af a) post d):=by
  obtain ⟨_,hs,hn,hf⟩:=Ct (Cq h).1;have k1:=H0 (H1 hn (by rw [hk];rfl) (by omega));have hnum:=K6 hf ⟨by omega,by omega,by omega,by omega,by omega⟩;have er:Dy a=⟨1,a.text,[],0,a.kids.map Dy,0⟩:=by rw [Fc,hk,aT hf (by omega) (by rw [hk];rfl),hnum]
  have eo:F3 (Af a++post):=(De a).app hq;have e2:=nW hk;rw [er];rw [e2] at eo ⊢;have eT:(tw Dj::tw a.text::tg Gt::(Hz (a.kids.map Af) ++ [tg Fg]))++post=tw Dj::tw a.text::tg Gt::(Hz (a.kids.map Af)++tg Fg::post):=by simp
  rw [eT] at eo ⊢;unfold Jc;simp only;rw [D9 (t:=tw Dj) (by decide),(Dk k1).1,(Dk k1).2,D9 (t:=tg Gt) (by decide),Hy hp eo]
  match hkid:a.kids with
  | []=>
    have e9:Hz (([]:List Syn).map Af)++tg Fg::post=tg Fg::post:=rfl;rw [e9,Ci,show G8 (tg Fg) Fg=true by decide,if_neg (by simp),D9 (t:=tg Fg) (by decide)];simp [Hz]
  | x::r=>
    have kids:∀z∈x::r,Al z (.only 2)=0/\z.kind=2:=fun z hz=>by
      obtain ⟨j,hj⟩:=Gp.1 hz;have:=Ei h (j:=j) (a:=z) (by rw [hkid];exact hj);have e:Dm a j = .only 2:=by unfold Dm;rw [hk];rfl
      rw [e] at this;exact ⟨this.1,Fx this.2⟩
    obtain ⟨L,eL⟩:∃L,Hz ((x::r).map Af)=tw x.text::L:=⟨tg H6::tw (Im x.num)::E3 r,by
      rw [J6];have:Af x = [tw x.text,tg H6,tw (Im x.num)]:=by rw [Cz];unfold Eg;rw [(kids x (by simp)).2];rfl
      rw [this];rfl⟩
    have kx:=H0 (H1 (Ct (Cq (kids x (by simp)).1).1).2.2.1 (by rw [(kids x (by simp)).2];rfl) (by have:=(kids x (by simp)).2;omega));have nb:Ea Fg (Cg (pre ++ [tw Dj] ++ [tw a.text] ++ [tg Gt]) (Hz ((x::r).map Af)++tg Fg::post) d)=false:=by rw [eL,Co,Ci];exact Vo kx _
    have lr:=nI (F:=J3) (d:=d) (B:=fun _=>True) (post:=tg Fg::post) (pre:=pre ++ [tw Dj] ++ [tw a.text] ++ [tg Gt]) (fun _=>trivial) trivial (A6 rfl hq) (fun p=>by rw [Ci];decide) x r
      (fun z hz p q hp1 hq1 _=>xV (kids z hz).1 (kids z hz).2 hp1 hq1) (((hp.app (D8 _ rfl)).app (D8 _ rfl)).app (D8 _ rfl))
    rw [nb,lr,if_pos (by rfl)];simp only;rw [D9 (t:=tg Fg) (by decide)];simp
theorem TT_64:TT=kD EE 64:=rfl
theorem bU {a x:Syn}(hx:x∈a.kids):C7 x<=C7 a:=by
  have key:∀(k:Int) (l:List Syn),∀x∈l,C7 x<=E8 k l:=by
    intro k l
    induction l with
    | nil=>intro x hx;cases hx
    | cons y r ihl=>
      intro x hx;rw [E8];rcases Db.1 hx with rfl | hx
      . omega
      have:=ihl x hx;omega
  have:=key a.kind a.kids x hx;have h2:=Mu a;omega
theorem kH {a k0 k1:Syn}{r:List Syn}(hk:a.kind=3)(hq:a.kids=k0::k1::r):Af a=tw C0::tw a.text::((if (k0.text == [])=true then [] else [tw Oa,tw k0.text])++(tw E4::(Af k1++(tw Dw::(Hz (r.map Af) ++ [tsm]))))):=by
 rw [Cz];unfold Eg;rw [hk];have e0:Bi a 0=k0:=by unfold Bi;rw [hq];rfl
 show [tw C0] ++ [] ++ [tw a.text]++(if ((Bi a 0).text == [])=true then [] else [tw Oa] ++ [tw (Bi a 0).text]) ++ [] ++ [tw E4] ++ []++(a.kids.map Af).getD 1 [] ++ [] ++ [tw Dw] ++ []++Hz ((a.kids.map Af).drop 2) ++ [tg dS]=_;rw [e0,hq];simp
theorem yW {a:Syn}{p:Pl}(h:Al a p=0)(hk:a.kind=3)(hd:C7 a<=64)(hp:F3 pre)(hq:F3 post):Fe EE TT (Cg pre (Af a++post) 0)=(Dy a,Cg (pre++Af a) post 0):=by
  obtain ⟨_,hs,hn,hf⟩:=Ct (Cq h).1;have n1:=H0 (H1 hn (by rw [hk];rfl) (by omega));have hnum:=K6 hf ⟨by omega,by omega,by omega,by omega,by omega⟩;unfold Dn at hs;rw [hk] at hs
  replace hs:decide (3<=(a.kids.length:Int))=true:=hs
  simp only [Ck] at hs
  match hkid:a.kids with
  | []=>rw [hkid] at hs;simp at hs
  | [x]=>rw [hkid] at hs;simp at hs
  | [x,y]=>rw [hkid] at hs;simp at hs
  | k0::k1::e0::r=>
    have er:Dy a=⟨3,a.text,[],0,Dy k0::Dy k1::(e0::r).map Dy,0⟩:=by rw [Fc,hk,aT hf (by omega) (by rw [hk];rfl),hnum,hkid];rfl
    have e2:=kH hk hkid;have eo:F3 (Af a++post):=(De a).app hq;have c0:=Ei h (j:=0) (a:=k0) (by rw [hkid];rfl);have x0:Dm a 0 = .only 4:=by unfold Dm;rw [hk];rfl
    rw [x0] at c0;have kk0:k0.kind=4:=Fx c0.2;obtain ⟨_,s0,nn0,ff0⟩:=Ct (Cq c0.1).1;have c1:=Ei h (j:=1) (a:=k1) (by rw [hkid];rfl);have x1:Dm a 1 = .pats:=by unfold Dm;rw [hk];rfl
    rw [x1] at c1;have hd1:C7 k1<=C7 a:=bU (by rw [hkid];simp)
    have kids:∀z∈e0::r,Al z .exps=0/\C7 z<=64:=fun z hz=>by
      obtain ⟨j,hj⟩:=Gp.1 hz;have hj2:a.kids[j+2]? = some z:=by rw [hkid];simpa using hj
      have:=(Ei h hj2).1
      have e:Dm a (j+2) = .exps:=by
        unfold Dm;rw [hk];have h2:(((j+2:Nat):Int)==0)=false:=by simp;omega
        have h3:(((j+2:Nat):Int)==1)=false:=by simp;omega
        simp only [h2,h3];rfl
      rw [e] at this;exact ⟨this,Ga (bU (Aj hj2)) hd⟩
    -- the key
    have s00:k0.kids = []:=by
      unfold Dn at s0;rw [kk0] at s0
      replace s0:((k0.kids.length:Int)==0)=true:=s0
      exact aP (by simpa using s0)
    have er0:Dy k0=⟨4,k0.text,[],0,[],0⟩:=by rw [S9 s00,kk0,aT ff0 (by omega) (by rw [kk0];rfl),K6 ff0 ⟨by omega,by omega,by omega,by omega,by omega⟩]
    rw [er,er0];rw [e2] at eo ⊢;generalize hR:tw E4::(Af k1++(tw Dw::(Hz ((e0::r).map Af) ++ [tsm])))=R at eo ⊢
    have eR:F3 (R++post):=by
      rw [<-hR];exact (A6 rfl ((De k1).app (A6 rfl ((Ta fun z hz=>by obtain ⟨y,hy,rfl⟩:=Cl.1 hz;exact De y).app (show F3 [tsm] from rfl))))).app hq
    have key:∀P:List Tok,F3 P->∃K,(if (k0.text == [])=true then [] else [tw Oa,tw k0.text])=K/\Y9 (Cg P (K++(R++post)) 0) 0=(⟨4,k0.text,[],0,[],0⟩,Cg (P++K) (R++post) 0):=fun P hP=>by
      by_cases h0:k0.text = []
      . refine ⟨[],by rw [h0];rfl,?_⟩
        unfold Y9;rw [C5,<-hR,Co,Ci,show G8 (tw E4) Oa=false by decide,h0];simp
      . have e4:(k0.text == [])=false:=by simpa using h0
        have nk:X7 k0.text=true:=by
          unfold L8 at nn0;rw [kk0] at nn0;have e5:(!(k0.text == []))=true:=by rw [e4];rfl
          rw [e5] at nn0;simp only [M7,Dg] at nn0;cases hq2:X7 k0.text with
          | true=>rfl
          | false=>rw [hq2] at nn0;cases nn0
        have k1':=H0 nk;refine ⟨[tw Oa,tw k0.text],by rw [e4];rfl,?_⟩;show Y9 (Cg P (tw Oa::tw k0.text::(R++post)) 0) 0=_;unfold Y9;rw [Ci,show G8 (tw Oa) Oa=true by decide,if_pos rfl,Hw,(Dk k1').1,(Dk k1').2,Hy (hP.app (D8 _ rfl)) (A6 rfl eR)];simp
    obtain ⟨K,eK,rK⟩:=key (pre ++ [tw C0] ++ [tw a.text]) ((hp.app (D8 _ rfl)).app (D8 _ rfl));have EK:F3 K:=by rw [<-eK];split <;> rfl
    rw [eK] at eo ⊢;have eT:(tw C0::tw a.text::(K++R))++post=tw C0::tw a.text::(K++(R++post)):=by simp
    rw [eT] at eo ⊢;have hpK:F3 (pre ++ [tw C0] ++ [tw a.text]++K):=((hp.app (D8 _ rfl)).app (D8 _ rfl)).app EK;have eJ:F3 (Hz ((e0::r).map Af)):=Ta fun z hz=>by obtain ⟨y,hy,rfl⟩:=Cl.1 hz;exact De y
    have rp:=pat_read k1 c1.1 64 0 (pre ++ [tw C0] ++ [tw a.text]++K ++ [tw E4]) (tw Dw::(Hz ((e0::r).map Af)++tsm::post)) (Ic _) (by omega) (by omega) (hpK.app (D8 _ rfl)) (A6 rfl (eJ.app (A6 rfl hq))) (.ret _)
    have rl:=nI (F:=EE) (d:=0) (B:=Bq) (post:=tsm::post) (pre:=pre ++ [tw C0] ++ [tw a.text]++K ++ [tw E4]++Af k1 ++ [tw Dw]) .cm (.sm _) (A6 rfl hq) (fun p=>by rw [Ci];decide) e0 r
      (fun z hz p q hp1 hq1 hb1=>by
        have:=(bZ z (kids z hz).1 64 0 p q (Ic _) (by have:=(kids z hz).2;omega) (by omega) hp1 hq1 hb1).1;exact this) (((hpK.app (D8 _ rfl)).app (De k1)).app (D8 _ rfl))
    have eR2:R++post=tw E4::(Af k1++(tw Dw::(Hz ((e0::r).map Af)++tsm::post))):=by rw [<-hR];simp
    unfold Fe;simp only;rw [D9 (t:=tw C0) (by decide),(Dk n1).1,(Dk n1).2,Hy hp eo,rK];simp only;rw [eR2,D9 (t:=tw E4) (by decide),TT_64,rp];simp only;rw [D9 (t:=tw Dw) (by decide),rl];simp only;rw [D9 (t:=tsm) (by decide),<-hR];simp
theorem Vv {w:Ag}{F:PS->Syn×PS}(hq:F3 post)(hn:∀p,Ea w (Cg p post d)=false):∀(l:List Syn) (n:Nat) (pre:List Tok) (out:List Syn),l.length<n->
    (∀a∈l,(∃L,Af a=tw w::L)/\G8 (tw w) w=true/\∀p q,F3 p->F3 q->F (Cg p (Af a++q) d)=(Dy a,Cg (p++Af a) q d))->F3 pre->
      Hh w F n (Cg pre ((l.map Af).flatten++post) d) out=(out++l.map Dy,Cg (pre++(l.map Af).flatten) post d)
  | [],n,pre,out,h,_,hp=>by
    rw [A5,Bv,C5,progGo_no (hn _)];simp
  | a::r,n,pre,out,h,hF,hp=>by
    obtain ⟨m,rfl⟩:∃m,n=m+1:=⟨n-1,by omega⟩;obtain ⟨⟨L,eL⟩,hw,hr⟩:=hF a (I7 ..);have eF:F3 ((r.map Af).flatten):=Vb fun z hz=>by obtain ⟨y,hy,rfl⟩:=Cl.1 hz;exact De y
    have r1:=hr pre ((r.map Af).flatten++post) hp (eF.app hq);have hi:Ea w (Cg pre (Af a++((r.map Af).flatten++post)) d)=true:=by rw [eL,Co,Ci];exact hw
    rw [Ao,Bj,C1];unfold Hh;rw [hi,if_pos rfl,r1];simp only;rw [Vv hq hn r m _ _ (by rw [Bb] at h;omega) (fun z hz=>hF z (F9 _ hz)) (hp.app (De a))];simp
theorem mX (l:List Syn)(h:∀a∈l,∃c L,Af a=c::L):l.length<=((l.map Af).flatten).length:=by
  induction l with
  | nil=>exact Br _
  | cons x r ih=>
    obtain ⟨c,L,e⟩:=h x (I7 ..);have:=ih fun a ha=>h a (F9 _ ha)
    rw [Ao,Bj,Au,e,Bb,Bb];omega
theorem kG {a:Syn}(h:Al a (.only 0)=0)(hk:a.kind=0):∃A B,a.kids=A++B/\(∀x∈A,x.kind=1/\Al x (.only 1)=0)/\∀x∈B,x.kind=3/\Al x (.only 3)=0:=by
  have key:∀(j:Nat) x,a.kids[j]? = some x->(x.kind=1/\(j=0\/(Bi a (j-1)).kind=1))\/x.kind=3:=fun j x hx=>by
    have c:=Ei h hx;have e:Bi a j=x:=by unfold Bi;rw [Ez,hx];rfl
    unfold Dm at c;rw [hk,if_pos (by rfl),e] at c;split at c
    . rename_i h1
      rw [Cd,G1] at h1;refine .inl ⟨by simpa using h1.1,?_⟩;rcases h1.2 with h2 | h2
      . left;simpa using h2
      right;simpa using h2
    exact .inr (Fx c.2)
  have kc:∀(j:Nat) x,a.kids[j]? = some x->(x.kind=1->Al x (.only 1)=0)/\(x.kind=3->Al x (.only 3)=0):=fun j x hx=>by
    have c:=Ei h hx;have e:Bi a j=x:=by unfold Bi;rw [Ez,hx];rfl
    unfold Dm at c;rw [hk,if_pos (by rfl),e] at c;split at c
    . exact ⟨fun _=>c.1,fun h3=>by have:=Fx c.2;omega⟩
    exact ⟨fun h1=>by have:=Fx c.2;omega,fun _=>c.1⟩
  -- the longest beginning of types
  have main:∀n:Nat,n<=a.kids.length->(∀j,j<n->∀x,a.kids[j]? = some x->x.kind=1)\/∃m,m<n/\(∀j,j<m->∀x,a.kids[j]? = some x->x.kind=1)/\∀j,m<=j->j<n->∀x,a.kids[j]? = some x->x.kind=3:=by
    intro n
    induction n with
    | zero=>intro _;left;intro j hj;omega
    | succ n ih=>
      intro hn;have hx:a.kids[n]? = some a.kids[n]:=List.getElem?_eq_getElem (by omega);rcases ih (by omega) with h1 | ⟨m,hm,h2,h3⟩
      . rcases key n _ hx with ⟨k1,_⟩ | k3
        . left
          intro j hj x hjx;by_cases hjn:j=n
          . subst hjn;rw [hx] at hjx;cases hjx;exact k1
          exact h1 j (by omega) x hjx
        . right
          refine ⟨n,by omega,h1,fun j hj hj2 x hjx=>?_⟩;obtain rfl:j=n:=by omega
          rw [hx] at hjx;cases hjx;exact k3
      . right
        refine ⟨m,by omega,h2,fun j hj hj2 x hjx=>?_⟩;by_cases hjn:j=n
        . subst hjn
          rw [hx] at hjx;cases hjx;rcases key j _ hx with ⟨k1,k2⟩ | k3
          . exfalso
            have hp:a.kids[j-1]? = some a.kids[j-1]:=List.getElem?_eq_getElem (by omega);have e:Bi a (j-1)=a.kids[j-1]:=by unfold Bi;rw [Ez,hp];rfl
            have k3:=h3 (j-1) (by omega) (by omega) _ hp;rcases k2 with h0 | h0
            . omega
            rw [e] at h0;omega
          exact k3
        exact h3 j hj (by omega) x hjx
  rcases main a.kids.length (Br _) with h1 | ⟨m,hm,h2,h3⟩
  . refine ⟨a.kids,[],by simp,fun x hx=>?_,fun x hx=>by cases hx⟩
    obtain ⟨j,hj⟩:=Gp.1 hx;have:=h1 j (List.getElem?_eq_some_iff.1 hj).1 x hj;exact ⟨this,(kc j x hj).1 this⟩
  . refine ⟨a.kids.take m,a.kids.drop m,(Zu ..).symm,fun x hx=>?_,fun x hx=>?_⟩
    . obtain ⟨j,hj⟩:=Gp.1 hx
      rw [List.getElem?_take] at hj;split at hj
      . have:=h2 j (by assumption) x hj
        exact ⟨this,(kc j x hj).1 this⟩
      cases hj
    . obtain ⟨j,hj⟩:=Gp.1 hx
      rw [List.getElem?_drop] at hj;have:=h3 (m+j) (by omega) (List.getElem?_eq_some_iff.1 hj).1 x hj;exact ⟨this,(kc _ x hj).2 this⟩
theorem prog_read {a:Syn}(h:Al a (.only 0)=0)(hd:C7 a<=64):Kz EE TT (Cg [] (Af a) 0)=(Dy a,Cg (Af a) [] 0):=by
  have hk:a.kind=0:=Fx (Ct (Cq h).1).1;obtain ⟨_,hs,hn,hf⟩:=Ct (Cq h).1;have hnum:=K6 hf ⟨by omega,by omega,by omega,by omega,by omega⟩;have hnm:=nP hf ⟨by rw [hk];rfl,by rw [hk];rfl,by omega⟩;obtain ⟨A,B,hkid,hA,hB⟩:=kG h hk
  have et:Af a=(A.map Af).flatten++(B.map Af).flatten:=by
    rw [Cz];unfold Eg;rw [hk];show (a.kids.map Af).flatten=_;rw [hkid,Dt,dX]
  have er:Dy a=⟨0,[],[],0,A.map Dy++B.map Dy,0⟩:=by rw [Fc,hk,hnum,hnm.1,hnm.2,hkid,Dt]
  have tA:∀x∈A,∃L,Af x=tw Dj::L:=fun x hx=>⟨_,nW (hA x hx).1⟩
  have tB:∀x∈B,∃L,Af x=tw C0::L:=fun x hx=>by
    have hs:=(Ct (Cq (hB x hx).2).1).2.1;unfold Dn at hs;rw [(hB x hx).1] at hs
    replace hs:decide (3<=(x.kids.length:Int))=true:=hs
    simp only [Ck] at hs
    match hq:x.kids with
    | []=>rw [hq] at hs;simp at hs
    | [y]=>rw [hq] at hs;simp at hs
    | y::z::r=>exact ⟨_,kH (hB x hx).1 hq⟩
  have eA:F3 ((A.map Af).flatten):=Vb fun z hz=>by obtain ⟨y,hy,rfl⟩:=Cl.1 hz;exact De y
  have eB:F3 ((B.map Af).flatten):=Vb fun z hz=>by obtain ⟨y,hy,rfl⟩:=Cl.1 hz;exact De y
  have nB:∀p:List Tok,Ea Dj (Cg p ((B.map Af).flatten) 0)=false:=fun p=>by
    cases hB0:B with
    | nil=>exact yD
    | cons b r=>
      obtain ⟨L,e⟩:=tB b (by rw [hB0];simp);rw [Ao,Bj,e,Co,Ci];decide
  have lA:=mX A fun x hx=>by obtain ⟨L,e⟩:=tA x hx;exact ⟨_,L,e⟩
  have lB:=mX B fun x hx=>by obtain ⟨L,e⟩:=tB x hx;exact ⟨_,L,e⟩
  have r1:=Vv (w:=Dj) (F:=Jc) (d:=0) (post:=(B.map Af).flatten) eB nB A (A3 (Cg [] ((A.map Af).flatten++(B.map Af).flatten) 0)) [] [] (by rw [aG,Au];omega)
    (fun x hx=>⟨tA x hx,by decide,fun p q hp hq=>type_read (hA x hx).2 (hA x hx).1 hp hq⟩) rfl
  have r2:=Vv (w:=C0) (F:=Fe EE TT) (d:=0) (post:=[]) rfl (fun p=>yD) B (A3 (Cg ((A.map Af).flatten) ((B.map Af).flatten) 0)) ((A.map Af).flatten) (A.map Dy) (by rw [aG];omega)
    (fun x hx=>⟨tB x hx,by decide,fun p q hp hq=>yW (hB x hx).2 (hB x hx).1 (Ga (bU (by rw [hkid];exact Up _ hx)) hd) hp hq⟩) eA
  rw [A8] at r2;rw [er,et];unfold Kz;simp only;rw [r1];simp only [C5];rw [r2]
theorem prog_back {a:Syn}(h:Al a (.only 0)=0)(hd:C7 a<=64)(hl:(Ae a).length<=65536):(Df (Kz EE TT) (Ae a)).2=(0,0)/\Dy (Df (Kz EE TT) (Ae a)).1=Dy a:=by
 have hk:a.kind=0:=Fx (Ct (Cq h).1).1
 have hpe:Pe (Ae a) (Af a) []:=by
  have e1:Ae a=(a.kids.map Ae).flatten:=by rw [Fl];unfold Do;rw [hk];rfl
  have e2:Af a=(a.kids.map Af).flatten:=by rw [Cz];unfold Eg;rw [hk];rfl
  rw [e1,e2];obtain ⟨A,B,hkid,hA,hB⟩:=kG h hk;refine pe_flat a.kids (fun x hx=>?_) [];rw [hkid] at hx;rcases Is.1 hx with hx | hx
  . exact (pe_all x _ (hA x hx).2 (by have:=(hA x hx).1;omega) (by have:=(hA x hx).1;omega) (by have:=(hA x hx).1;omega)).2 (.inl (hA x hx).1)
  exact (pe_all x _ (hB x hx).2 (by have:=(hB x hx).1;omega) (by have:=(hB x hx).1;omega) (by have:=(hB x hx).1;omega)).2 (.inr (hB x hx).1)
 have w:=(whole (er_prog er_EE er_TT) (hpe.scan hl)).1 _ _ (prog_read h hd);refine ⟨?_,w.2⟩;obtain ⟨_,_,_,h4⟩:=yT w.1;rw [h4]
theorem ek (t:Syn):(Dy t).kind=t.kind:=by rw [Fc]
theorem ex (t:Syn):(Dy t).text=t.text:=by rw [Fc]
theorem en (t:Syn):(Dy t).name=t.name:=by rw [Fc]
theorem em (t:Syn):(Dy t).num=t.num:=by rw [Fc]
theorem el (t:Syn):(Dy t).kids.length=t.kids.length:=by rw [Ik,Bt]
theorem ekid (t:Syn)(i:Nat):Bi (Dy t) i=Dy (Bi t i):=by
 unfold Bi;rw [Ik,Ez,Ez,List.getElem?_map];cases t.kids[i]? with
 | none=>exact erS_z.symm
 | some a=>rfl
theorem node_er (t:Syn)(ws:List Ag):Do (Dy t) ws=Do t ws:=by
 unfold Do U1 Hk;simp only [ek,ex,en,em,ekid]
theorem write_er (t:Syn):Ae (Dy t)=Ae t:=by
 refine Syn.ind (P:=fun t=>Ae (Dy t)=Ae t) (fun t ih=>?_) t;rw [Fl,Fl t,node_er,Ik,Kr]
 congr 1
 exact Qv fun a ha=>ih a ha
theorem wL_er:∀(l:List Syn),(∀a∈l,wC (Dy a)=wC a)->wL (l.map Dy)=wL l
 | [],_=>rfl
 | x::r,h=>by rw [Ao,wL,wL,h x (I7 ..),wL_er r fun a ha=>h a (F9 _ ha)]
theorem w_er (t:Syn):wC (Dy t)=wC t:=by
 refine Syn.ind (P:=fun t=>wC (Dy t)=wC t) (fun t ih=>?_) t;rw [Md,Md t,ex,en,Ik,wL_er _ ih]
theorem mH (k:Int):∀(l:List Syn),(∀a∈l,C7 (Dy a)=C7 a)->E8 k (l.map Dy)=E8 k l
 | [],_=>rfl
 | x::r,h=>by rw [Ao,E8,E8,h x (I7 ..),ek,mH k r fun a ha=>h a (F9 _ ha)]
theorem depth_er2 (t:Syn):C7 (Dy t)=C7 t:=by
 refine Syn.ind (P:=fun t=>C7 (Dy t)=C7 t) (fun t ih=>?_) t;rw [Mu,Mu t,ek,Ik,mH _ _ ih]
theorem own_er (p:Pl)(t:Syn):aS p (Dy t)=aS p t:=by
 unfold aS Dn L8 Dl I3 Mz;simp only [ek,ex,en,em,el]
theorem kid_er (t:Syn)(i:Nat):Dm (Dy t) i=Dm t i:=by
 unfold Dm;simp only [ek,ekid]
theorem tM (t:Syn):∀(l:List Syn) (i:Nat),(∀a∈l,∀p,Al (Dy a) p=Al a p)->Mi (Dy t) i (l.map Dy)=Mi t i l
 | [],_,_=>rfl
 | x::r,i,h=>by rw [Ao,Mi,Mi,kid_er,h x (I7 ..),tM t r (i+1) fun a ha=>h a (F9 _ ha)]
theorem check_er (t:Syn):∀p,Al (Dy t) p=Al t p:=by
 refine Syn.ind (P:=fun t=>∀p,Al (Dy t) p=Al t p) (fun t ih p=>?_) t;rw [Sy,Sy t,own_er,Ik,tM t _ 0 ih]
theorem lI (t:Syn)(p:Pl):Bg (Dy t) p=Bg t p:=by
 unfold Bg;rw [check_er,depth_er2,write_er]
theorem med_er (t:Syn):Jv (Dy t)↔Jv t:=by
 unfold Jv Wg;rw [w_er,ex,en,el,Ik];refine and_congr_right fun _=>⟨fun h a ha=>?_,fun h a ha=>?_⟩
 .
  have:=h (Dy a) (Cl.2 ⟨a,ha,rfl⟩)
  rwa [w_er] at this
 obtain ⟨b,hb,rfl⟩:=Cl.1 ha;rw [w_er];exact h b hb
def qmed (t:Syn):Prop:=∀a∈t.kids,a.kind=3->Wg a
theorem er_cong {T:List e8Sc}{l m:List Syn}(h:l.map Dy=m.map Dy)(h1:∀a∈l,a.kind=3->QryOK a)(h2:∀a∈m,a.kind=3->QryOK a)(qs:List Qy):(En T qs l).1=(En T qs m).1/\(En T qs l).2.err=(En T qs m).2.err:=by
 have e1:=xR (T:=T) l qs h1;have e2:=xR (T:=T) m qs h2;rw [h] at e1;exact ⟨e1.1.symm.trans e2.1,e1.2.symm.trans e2.2⟩
theorem vC {t:Syn}(hw:((Bg t (.only 0)).2 != 0)=false)(hm:qmed t):∀a∈t.kids,a.kind=3->QryOK a:=fun a ha h3=>by
 obtain ⟨j,hj⟩:=Gp.1 ha;exact ⟨hm a ha h3,nG (bG hw) hj h3⟩
theorem prg_er {t u:Syn}(h:Dy u=Dy t)(ht:qmed t)(hu:qmed u){p:Pg}(hp:bM t=(p,0,0)):bM u=(p,0,0):=by
  have hw:Bg u (.only 0)=Bg t (.only 0):=by rw [<-lI u,<-lI t,h]
  have hk:u.kids.map Dy=t.kids.map Dy:=by rw [<-Ik,<-Ik,h]
  have ht0:((Bg t (.only 0)).2 != 0)=false:=by
    cases hq:(Bg t (.only 0)).2 != 0 with
    | false=>rfl
    | true=>rw [pp_1 hq] at hp;cases hp
  have hu0:((Bg u (.only 0)).2 != 0)=false:=by rw [hw];exact ht0
  have hT:(Ih u).1=(Ih t).1/\(Ih u).2.err=(Ih t).2.err:=by
    have e1:=oS u.kids [];have e2:=oS t.kids [];rw [hk] at e1;exact ⟨e1.1.symm.trans e2.1,e1.2.symm.trans e2.2⟩
  have ht1:((Ih t).2.err != 0)=false:=by
    cases hq:(Ih t).2.err != 0 with
    | false=>rfl
    | true=>
      rw [pp_2 ht0 hq] at hp;have:=congrArg (fun q:Pg×Int×Int=>q.2.2) hp;simp only at this;rw [this] at hq;cases hq
  have hu1:((Ih u).2.err != 0)=false:=by rw [hT.2];exact ht1
  have hQ:=er_cong (T:=(Ih t).1) hk (vC hu0 hu) (vC ht0 ht) [];rw [pp_n ht0 ht1] at hp;rw [pp_n hu0 hu1];unfold PrgT at hp ⊢;rw [hT.1,hQ.1,hQ.2];cases hq:(En (Ih t).1 [] t.kids).2.err != 0 with
  | true=>
    rw [hq,if_pos rfl] at hp;have:=congrArg (fun q:Pg×Int×Int=>q.2.2) hp;simp only at this;rw [this] at hq;cases hq
  | false=>
    rw [hq,if_neg (by decide)] at hp;rw [if_neg (by decide)];exact hp
theorem wr_yes {t:Syn}{p:Pl}(h:((Bg t p).2 != 0)=false):Al t p=0/\C7 t<=64/\(Ae t).length<=65536/\Bg t p=(Ae t,0):=by
 have hc:=bG h;unfold Bg at h ⊢;rw [hc,if_neg (by decide)] at h ⊢;split at h
 . cases h
 rename_i h1;split at h
 . cases h
 rename_i h2;simp only [Ck] at h1 h2;exact ⟨rfl,by omega,by omega,by rw [if_neg (by simp only [Ck];omega),if_neg (by simp only [Ck];omega)]⟩
theorem src_bad {p:Pg}(h:((Gc p).2 != 0)=true):(Gc p).1=Gz:=by
 have key:∀{c:Bool} {f:Int} {x:Syn×Int},((x.2 != 0)=true->x.1=Gz)->((if c then (Gz,f) else x).2 != 0)=true->(if c then (Gz,f) else x).1=Gz:=fun {c f x} hx h=>by
  cases c with
  | true=>rfl
  | false=>exact hx h
 exact key (key (key (key (key fun h=>by cases h)))) h
theorem src_rets {p:Pg}(h:((Gc p).2 != 0)=false)(hm:(Ef p.types != 0)=false->p.types.all Mm=true->p.queries.length<=16->P4 p.types [] p.queries=0->Jv (Iy p)) :
  Gc p=(Iy p,0)/\Jv (Iy p)/\Bg (Iy p) (.only 0)=(Ae (Iy p),0)/\(Ae (Iy p)).length<=65536/\bM (Iy p)=(p,0,0)/\
  (Df (Kz EE TT) (Ae (Iy p))).2=(0,0)/\Jv (Df (Kz EE TT) (Ae (Iy p))).1/\bM (Df (Kz EE TT) (Ae (Iy p))).1=(p,0,0):=by
 obtain ⟨h1,h2⟩:=src_ok h;have hmd:=hm h1.t h1.b h1.l h1.g;obtain ⟨c1,c2,c3,c4⟩:=wr_yes h1.w;obtain ⟨b1,b2⟩:=prog_back c1 c2 c3;have hb:=p_back h1;generalize (Df (Kz EE TT) (Ae (Iy p)))=v at b1 b2 ⊢;have h6:Jv v.1:=(med_er v.1).1 (by rw [b2];exact (med_er (Iy p)).2 hmd);exact ⟨h2,hmd,c4,c3,hb,b1,h6,prg_er b2 (fun a ha _=>yJ hmd ha) (fun a ha _=>yJ h6 ha) hb⟩
theorem Rw  : An Tryz.prog 101 [] (.agg (oJ Oe)):=by
 refine Fb 2 Tryz.func101 rfl fun H=>?_
 refine Aa (D5 lN fun b0=>B7 (Qp (Fj Id) ?_));refine By 0 Id (_::_) (Rb ?_);refine Yx [.agg Id] (Zb 0) S1 ?_;rfl
theorem vK  : An Tryz.prog 195 [] (.agg (cE Mc)):=by
 refine Fb 3 Tryz.func195 rfl fun H=>?_
 refine Aa (D5 ggz fun b0=>B7 (Qp (Fj Yc) (Qp (Fj Ko) ?_)));refine By 0 Ko (_::_) (Rb ?_);refine Yx [.agg Ko] (Zb 0) S1 ?_;rfl
theorem vL (t:Syn):An Tryz.prog 173 [.agg (cSyn t)] (.agg (cV (dP t))):=by
 refine Fb 18 Tryz.func173 rfl fun H=>?_
 refine Aa (Qp (Hu Ai) (D5 [.int .i64 0,.int .i64 0,.str []] fun b2=>?_));refine Ax (B5 (Qp (Qf pF) (Qp Gr (Ax (AW.block (Aa (Qp (Gb rfl rfl) (Qp Bc (Bh (fun hc1=>Aa (Qp (Qf Zw) (Qp B6 (Qp (Fj Yc) ?_)))) fun hc1=>Aa (Qp (Gb rfl rfl) (Qp Bc (Bh (fun hc2=>Aa (Qp (Qf X6) (Qp Gr (Qp (Fj Yc) ?_)))) fun hc2=>Rf (Aa (Qp (Qf Zw) (Qp B6 (Qp (Fj Yc) ?_))))))))))))))))
 .
  refine By 0 Yc (_::_) (Ra ?_);refine Yx [.agg Yc] (Zb 0) S1 ?_;simp only [Ah,dP,hc1,↓reduceIte,Ak];rfl
 .
  refine By 0 Yc (_::_) (Ra ?_);refine Yx [.agg Yc] (Zb 0) S1 ?_;simp only [Ah,dP,hc1,hc2,↓reduceIte,Ak];rfl
 refine By 0 Yc (_::_) (Rb ?_);refine Yx [.agg Yc] (Zb 0) S1 ?_;simp only [Ah,dP,hc1,hc2,↓reduceIte,Ak];rfl
theorem rf_pos1 (f:Fi)(n:Ag):An Tryz.prog 234 [.agg (xK f),.ptr [.str n]] (.bool (f.name==n)):=by
 refine Fb 8 Tryz.func234 rfl fun H=>?_
 refine Aa (Qp (Hu Iv) (Qp Bc (B7 (Qp (Qf Iv) (Qp Gr (Qp Gr (Qp (Gb rfl rfl) (Qp Bc (Rb (Qr (.bool _) ?_))))))))));rfl
theorem vH (l:List Fi)(hl:l.length<=1048576)(K:FuncId)(hK:Xq Tryz.prog K=true)(cs:List AV)(p:Fi->Bool)(hf:∀a∈l,An Tryz.prog K (.agg (xK a)::cs) (.bool (p a))):An Tryz.prog 146 [.sl 2 (l.map xK),.fn (.func K) [] cs] (.int .i64 (Y7 p l)):=by
 refine Fb 19 Tryz.func146 rfl fun H=>?_
 refine Aa (Qp Aq (Ax (B5 (Qp K7 ?_))));refine Qp (E6 l.length rfl rfl (by simp)) ?_;refine Qp Ap (Ax (AW.block ?_));refine AW.Aad (fun (k:Nat)=>(⟨[(0,.sl 2 (l.map xK)),(1,.fn (.func K) [] cs),(6,.sl 2 (l.map xK)),(7,.int .i64 l.length),(8,.int .i64 (k:Int))],H,19⟩:St)) (fun k=>k<=l.length/\(l.take k).any p=false) (fun k=>l.length-k) (0) ?_ C2 ?_
 . exact ⟨A9 _,by simp⟩
 rintro k hR;refine Aa (Qp Cn (Re (Hb (fun hc1=>?_) fun hc1=>?_)))
 .
  obtain ⟨a,ha⟩:=Cj hc1;have hlt:=Bz ha;have hm:=Aj ha;refine B2 (AW.seq (AW.block (Aa (Qp Ap (Qp Aq (B7 (Qp (A1 (v:=.fn _ _ _) rfl) (Qp K7 (Qp Ap ?_)))))))));refine Qp (Eh Iv rfl rfl (by omega) (Cp ha)) ?_;refine Qp (Cm Iv) (Qp (R0 hK rfl rfl rfl (hf a (Aj ha))) (Bh (fun hc2=>Aa (Qp Ap (Qp Aq (Ra (A7 (Dz (A7 (Qr (Iq _) ?_)))))))) fun hc2=>Rf (AW.region (Qp Gw (Qp Ap (Ax ?_))))))
  . exact Ye (AV.int .i64) (jE ha hR.2 hc2)
  refine ⟨k+1,?_,?_,C2⟩
  . exact ⟨hlt,M2 hR.2 ha hc2⟩
  omega
 have hte:=Ds hc1;have hall:=hR.2;rw [hte] at hall;refine AW.exit ?_;refine B1 (Ri (Aa (Qp Aq (Rb ?_))));refine Qr (Iq _) ?_;exact Ye (AV.int .i64) (cK hall)
theorem Nr (s:e8Sc)(hs:s.fields.length<=1048576)(n:Ag):An Tryz.prog 168 [.agg (Lz s),.str n] (.int .i64 (Js s n)):=by
 refine Fb 9 Tryz.func168 rfl fun H=>?_
 refine Aa (Qp (Hu Nd) (Qp (X9 (v:=.str _) (cs:=[.str _]) rfl rfl rfl) (Qp Aq (B7 (Qp (Qf [_]) (Qp Dd (Qp (B9 (l:=[]) (l':=[.ptr _]) rfl rfl) ?_)))))));refine Qp (Qc rfl (vH s.fields hs 234 (by kernel_rfl) [.ptr [.str n]] (fun f=>f.name==n) (fun a _=>rf_pos1 a n))) ?_;refine Qp Aq (Rb (Qr (Iq _) ?_));exact Eq.trans rfl (congrArg (fun q:Int=>AV.int .i64 q) (jF (fun f:Fi=>f.name) n s.fields))
theorem rf_each (bp TT:Nat)(cs:List AV)(l:List Syn)(hl:l.length<=1048576)(K:FuncId)(hK:Xq Tryz.prog K=true)(fs:List AV)(f:Syn->Fa)(hf:∀a∈l,Bk Tryz.prog K bp TT cs cs (fs ++ [.agg (cSyn a)]) (.agg (oJ (f a)))):Bk Tryz.prog 94 bp TT cs cs [.sl 6 (l.map C6),.fn (.func K) fs []] (.agg (oJ (Ja f l))):=by
 intro H;refine Jg 23 Tryz.func94 rfl ?_;refine Aa (D5 lN fun b4=>Ax (B5 (Qp K7 ?_)));refine Qp (E6 l.length rfl rfl (by simp)) ?_;refine Qp Ap (Ax (AW.block ?_));refine AW.Aad (fun (k:Nat)=>(⟨[(0,.sl 6 (l.map C6)),(1,.fn (.func K) fs []),(4,.val (.pointer (some ⟨b4,0,none⟩))),(8,.sl 6 (l.map C6)),(9,.int .i64 l.length),(10,.int .i64 (k:Int))],.box b4 94 lN :: .box bp TT cs::H,23⟩:St)) (fun k=>k<=l.length/\(l.take k).any (fun x=>(f x).err != 0)=false) (fun k=>l.length-k) (0) ?_ C2 ?_
 . exact ⟨A9 _,by simp⟩
 rintro k hR;refine Aa (Qp Cn (Re (Hb (fun hc1=>?_) fun hc1=>?_)))
 .
  obtain ⟨a,ha⟩:=Cj hc1;have hlt:=Bz ha;have hm:=Aj ha;refine B2 (AW.seq (AW.block (Aa ?_)));refine Qp (Eh Ai rfl rfl (by omega) (Io ha)) ?_;refine Qp (Cm Ai) ?_;refine D5 I6 fun b6=>?_
  refine By 0 Ai (_::_::_::_) ?_;refine Kc 6 0 rfl ?_;refine B7 (Qp (A1 (v:=.fn _ _ _) rfl) (Qp (Cm Ai) (Rt (Lt hK rfl rfl (A8 _) ((hf a hm).at (k:=1) (H2:=_::_::_) rfl rfl)) (D5 lN fun b7=>?_))));refine By 0 Id (_::_::_::_) ?_;refine Kc 7 0 rfl ?_;refine B7 (Qp (Qf [Iq _]) (Qp B6 (Qp Cb (Bh (fun hc2=>Aa (Qp (Cm Id) ?_)) fun hc2=>Rf (AW.region (Qp Gw (Qp Ap (Ax ?_))))))))
  .
   refine By 0 Id (_::_::_) (Ra (A7 (Dz (A7 ?_))));refine ⟨.inr rfl,[.agg Id],Zb 0,_,S1,?_⟩;exact ⟨Ye (fun q:Fa=>AV.agg (oJ q)) (iI ha hR.2 hc2),rfl⟩
  refine ⟨k+1,?_,?_,C2⟩
  . exact ⟨hlt,M2 hR.2 ha hc2⟩
  omega
 have hte:=Ds hc1;have hall:=hR.2;rw [hte] at hall;refine AW.exit ?_;refine B1 (Ri (Aa ?_));refine Qp (Qc rfl (Rw)) ?_;refine By 0 Id (_::_::_) (Rb ?_);refine ⟨.inr rfl,[.agg Id],Zb 0,_,S1,?_⟩;exact ⟨Ye (fun q:Fa=>AV.agg (oJ q)) (bW hall),rfl⟩
abbrev Pa (q:Fa):AV:=AV.agg (oJ q)
theorem rf_look (T:List e8Sc)(V:List Va)(s:Nx)(bp:Nat)(hrv:RvOK T V)(t:Syn)(ht:Wg t):Bk Tryz.prog 169 bp 159 (bP T V s) (bP T V s) [.val (.pointer (some ⟨bp,0,none⟩)),.agg (cSyn t)] (.agg (oJ (J7 T V t))):=by
 intro H;refine Jg 72 Tryz.func169 rfl ?_;refine Aa (Qp (Hu Ai) (D5 lN fun b4=>Ax (B5 (Qp (Qf Ai) (Qp B6 (Qp Cb (Qp Cc (Qg [] Qw (Qf Ai) (Qg [(11,_)] Qw B6 (Qg [(12,_)] Qw Cb ?_))))))))));refine Qp Ju (Qp Cc (Qg [] Qw (Qf Ai) (Qg [(16,_)] Qw B6 (Qg [(17,_)] Qw Cb (Qp Ju (Bh (fun hc1=>Aa (Qp (Qc rfl (Rw)) ?_)) fun hc1=>B2 (AW.seq (Rm 1 rfl (Qn 0 rfl Bx (Qn 1 rfl (Ad rfl) (Qn 2 rfl Cw (Qn 3 rfl (Lw (.smapv _) rfl) (Qn 4 rfl (Qf X6) (Qn 5 rfl Gr ?_))))))))))))))
 .
  refine By 0 Id (_::_::_) (Rc ?_);refine ⟨.inr rfl,[.agg Id],Zb 0,_,S1,?_⟩;exact ⟨Ye Pa (look_1 hc1),rfl⟩
 refine Qn 6 rfl (gY (es:=Sl (K8 V)) tok rfl rfl rfl rfl rfl (by kernel_rfl) rfl rfl (Wh _ _ rfl) (zO _ _)) ?_;refine Qn 7 rfl Oz (Qn 8 rfl Lv (Qn 9 rfl lL (Qn 10 rfl Aq (Qn 11 rfl Bc ?_))));refine Ig ?_;refine Av (B5 (Qp Cc (Qp Ix (Bh (fun hc2=>Aa (Qp (Qf [Iq _]) (Qp B6 (Qp (Fj Id) ?_)))) fun hc2=>?_))))
 .
  refine By 0 Id (_::_::_) (Rc ?_);refine ⟨.inr rfl,[.agg Id],Zb 0,_,S1,?_⟩;exact ⟨Ye Pa (look_2 hc1 hc2),rfl⟩
 have hct:(K8 V).contains t.text=true:=by simpa using hc2
 refine (yB hct).elim fun va hva=>?_
 have hix:=O4 hct;have hix2:=hix.2;rw [Bt] at hix2;have hvm:=Aj hva;have hvt:=hrv.ty va hvm;refine (dN hrv hvm).elim fun sc hsc=>?_
 have hsr:=qK hva hsc;have hfl:=hrv.fl sc (Aj hsc);refine B2 (B5 (Qp (Qf Ai) (Qp B6 (Qp Bl (Qp Cc (Qg [] Qw (Qf Ai) (Qg [(40,_)] Qw B6 (Qg [(41,_)] Qw Bl ?_))))))));refine Qg [(42,_)] Qw Cc (Qg [] Qw (Qf pF) (Qg [(44,_)] Qw Gr (Qg [(45,_)] Qw (Gb rfl rfl) (Qg [(43,_),(46,_)] Qw Ju (Qp E5 (Bh (fun hc3=>Aa (Qp (Qc rfl (Rw)) ?_)) fun hc3=>B2 (AW.seq (AW.seq (Rm 1 rfl (Qn 0 rfl Bx (Qn 1 rfl (Ad rfl) (Qn 2 rfl Cw (Qn 3 rfl (Lw (.sl _ _) rfl) (Qn 4 rfl Bx (Qn 5 rfl (Ad rfl) (Qn 6 rfl Cw (Qn 7 rfl (Lw (.sl _ _) rfl) ?_)))))))))))))))))
 .
  refine By 0 Id (_::_::_) (Rc ?_);refine ⟨.inr rfl,[.agg Id],Zb 0,_,S1,?_⟩;exact ⟨Ye Pa (pU hc1 hc2 hc3),rfl⟩
 refine Qn 8 rfl Ap (Qn 9 rfl (Eh Iv rfl rfl (hix.1) (Cp hva)) (Qn 10 rfl (Qf [Iq _]) (Qn 11 rfl B6 (Qn 12 rfl (Eh Nd rfl rfl (hvt.1) (Cp hsc)) (Qn 13 rfl (Cm Nd) (Qn 14 rfl (Qf pF) (Qn 15 rfl Gr (Qn 16 rfl (Qc rfl (Nr sc hfl t.name)) (Qn 17 rfl Cn ?_)))))))));refine Ig ?_;refine Av (Hb (fun hc4=>Aa (Qp (Qf [Iq _]) (Qp B6 (Qp (Fj Id) ?_)))) fun hc4=>B2 (Aa (Qp (Qc rfl (Rw)) ?_)))
 .
  refine By 0 Id (_::_::_) (Rc ?_);refine ⟨.inr rfl,[.agg Id],Zb 0,_,S1,?_⟩;exact ⟨Ye Pa (look_4 hc1 hc2 hc3 (by rw [hsr];exact hc4)),rfl⟩
 refine By 0 Id (_::_::_) (Rb ?_);refine ⟨.inr rfl,[.agg Id],Zb 0,_,S1,?_⟩;exact ⟨Ye Pa (yH hc1 hc2 hc3 (by rw [hsr];exact hc4)),rfl⟩
theorem rf_walk (T:List e8Sc)(V:List Va)(s:Nx)(bp:Nat)(hrv:RvOK T V)(t:Syn)(ht:Wg t):Bk Tryz.prog 98 bp 159 (bP T V s) (bP T V s) [.val (.pointer (some ⟨bp,0,none⟩)),.agg (cSyn t)] (.agg (oJ (G4 T V t))):=by
 intro H
 revert H
 induction t using Syn.ind
 rename_i t ih;intro H;refine Jg 18 Tryz.func98 rfl ?_;refine Aa (Qp (Hu Ai) (D5 lN fun b4=>Ax (B5 (Qp Bx (Qp (Cm Ai) ?_)))));refine AOL.Aag (Cu (k:=1) (by kernel_rfl) rfl rfl (rf_look T V s bp hrv t ht)) rfl rfl ?_;refine D5 lN fun b5=>?_
 refine By 0 Id (_::_::_::_) ?_;refine Kc 5 0 rfl ?_;refine B7 (Qp (Qf [Iq _]) (Qp B6 (Qp Cb (Bh (fun hc1=>Aa (Qp (Cm Id) ?_)) fun hc1=>B2 (Aa (Qp (Qf Ot) (Qp Dd (Qp Bx (Qp (B9 (l:=[.val _]) (l':=[]) rfl rfl) ?_)))))))))
 .
  refine By 0 Id (_::_::_) (Rc ?_);refine ⟨.inr rfl,[.agg Id],Zb 0,_,S1,?_⟩;exact ⟨Ye Pa (walk_1 hc1),rfl⟩
 refine Rt (Dq rfl ((rf_each bp 159 _ t.kids (Ga (dI ht) (by decide)) 98 (by kernel_rfl) [.val (.pointer (some ⟨bp,0,none⟩))] (G4 T V) (fun a ha=>fun R=>ih a ha (N7 ht ha) R)).at (k:=1) (H2:=_::_::_) rfl rfl)) ?_;refine By 0 Id (_::_::_) (Rb ?_);refine ⟨.inr rfl,[.agg Id],Zb 0,_,S1,?_⟩;exact ⟨Ye Pa (Ob hc1),rfl⟩
theorem scE (l:List Ex):∀c∈l.map H8,A0 c=true:=fun c hc=>by
 obtain ⟨x,_,rfl⟩:=Cl.1 hc;rw [Nb];rfl
theorem rf_allE (bp TT:Nat)(cs:List AV)(l:List Syn)(hl:l.length<=1048576)(K:FuncId)(hK:Xq Tryz.prog K=true)(fs:List AV)(f:Syn->Ex)(hf:∀a∈l,Bk Tryz.prog K bp TT cs cs (fs ++ [.agg (cSyn a)]) (.agg (cE (f a)))):Bk Tryz.prog 174 bp TT cs cs [.sl 6 (l.map C6),.fn (.func K) fs []] (.sl 8 ((l.map f).map H8)):=by
 intro H;refine Jg 22 Tryz.func174 rfl ?_;refine Aa (Qp (B8 (z:=8) rfl) (B7 (Qp Sa ?_)));refine AOL.ghost (GS.row (t:=5) 36 8 rfl) ?_;refine Ax (B5 (Qp K7 ?_));refine Qp (E6 l.length rfl rfl (by simp)) ?_;refine Qp Ap (Ax (AW.block ?_));refine AW.Aad (fun (p:Nat×List (List AV)×Value)=>(⟨[(0,.sl 6 (l.map C6)),(1,.fn (.func K) fs []),(5,.row p.2.2 8 p.2.1),(8,.sl 6 (l.map C6)),(9,.int .i64 l.length),(10,.int .i64 (p.1:Int))],.row p.2.2 p.2.1.length 36 8 :: .box bp TT cs::H,22⟩:St)) (fun p=>p.1<=l.length/\p.2.1=((l.take p.1).map f).map H8) (fun p=>l.length-p.1) ((0,[],.slice none 0 0)) ?_ C2 ?_
 . exact ⟨A9 _,rfl⟩
 rintro p hR;refine Aa (Qp Cn (Re (Hb (fun hc1=>?_) fun hc1=>?_)))
 .
  obtain ⟨a,ha⟩:=Cj hc1;have hlt:=Bz ha;have hm:=Aj ha;have hsc:∀c∈p.2.1,A0 c=true:=by rw [hR.2];exact scE _
  refine B2 (AW.seq (AW.block (Aa ?_)));refine Qp (Eh Ai rfl rfl (by omega) (Io ha)) ?_;refine Qp (Cm Ai) ?_;refine D5 I6 fun b7=>?_
  refine By 0 Ai (_::_::_::_) ?_;refine Kc 7 0 rfl ?_;refine Ax (AW.region (Qp (A1 (v:=.row _ _ _) rfl) (Qp (A1 (v:=.fn _ _ _) rfl) (Qp (Cm Ai) (Rt (Lt hK rfl rfl (A8 _) ((hf a hm).at (k:=1) (H2:=_::_::_) rfl rfl)) (Qp (Jh [Ko] rfl) ?_))))));refine Qe (W0 0 rfl (Et rfl) (hsc) (by simp [hR.2];omega) (by simp [hR.2,maxLen];omega)) ?_;rintro _ _ ⟨v19,rfl,rfl⟩;refine Qp (Ba (v:=.row _ _ _) rfl) (Rk (AW.region (Qp Gw (Qp Ap (Ax ?_)))));refine ⟨(p.1+1,p.2.1 ++ [cE (f a)],v19),?_,?_,C2⟩
  . exact ⟨hlt,by simp only;rw [C9 ha,hR.2];simp [Nb]⟩
  simp only;omega
 have hte:=Ds hc1;have hall:=hR.2;rw [hte] at hall;refine AW.exit ?_;refine B1 (Ri (Aa ?_));refine Qp (A1 (v:=.row _ _ _) rfl) ?_;refine AOL.ghost (GS.unrow 21 rfl) ?_;refine Qp lK (Rb ?_);refine ⟨.inr rfl,[.sl _ _],Ze,_,S1,?_⟩;exact ⟨Eq.trans rfl (congrArg (AV.sl 8) hall),rfl⟩
abbrev Nk (q:Ex):AV:=AV.agg (cE q)
theorem qH (T:List e8Sc)(V:List Va)(s:Nx)(bp:Nat)(hrv:RvOK T V)(t:Syn)(ht:Wg t)(hw:(G4 T V t).err=0):Bk Tryz.prog 100 bp 159 (bP T V s) (bP T V s) [.val (.pointer (some ⟨bp,0,none⟩)),.agg (cSyn t)] (.agg (cE (F1 T V t))):=by
 intro H
 revert H
 induction t using Syn.ind
 rename_i t ih;intro H;refine Jg 101 Tryz.func100 rfl ?_;refine Aa (Qp (Hu Ai) (D5 ggz fun b4=>Re (Rm 1 rfl (Qn 0 rfl Bx (Qn 1 rfl (Ad rfl) (Qn 2 rfl Cw (Qn 3 rfl (Lw (.smapv _) rfl) (Qn 4 rfl (Qf X6) (Qn 5 rfl Gr ?_)))))))));refine Qn 6 rfl (rQ (es:=Sl (K8 V)) tok rfl rfl rfl rfl rfl (by kernel_rfl) rfl rfl (Wh _ _ rfl)) ?_;refine Qn 7 rfl Aq ?_;refine Ig ?_;refine Av (B5 (Qp (Qf Ai) (Qp B6 (Ax (AW.block (Aa (Qp Bl (Qp Bc (Bh (fun hc1=>Aa (Qp (Cm Ai) (Qp (Qc rfl (vL t)) (Qp (Fj Ko) ?_)))) fun hc1=>Aa (Qp Bl (Qp Bc (Bh (fun hc2=>B5 (Qp (Qf pF) (Qp Gr (Qp (Gb rfl rfl) (Bh (fun hc3=>Aa (Qp Ap (Qp (Fj Ko) ?_))) fun hc3=>?_))))) fun hc2=>?_))))))))))))
 .
  refine By 0 Ko (_::_::_) (Ra ?_);refine ⟨.inr rfl,[.agg Ko],Zb 0,_,S1,?_⟩;exact ⟨Ye Nk ((Jb T V t).trans (leafx_1 hc1)),rfl⟩
 .
  refine By 0 Ko (_::_::_) (Rc (Dz (A7 ?_)));refine ⟨.inr rfl,[.agg Ko],Zb 0,_,S1,?_⟩;exact ⟨Ye Nk ((Jb T V t).trans (leafx_2 hc1 hc2 hc3)),rfl⟩
 .
  have hct:=tX (Lp hw).1 (Or.inl (by simpa using hc2));refine (yB hct).elim fun va hva=>?_
  have hix:=O4 hct;have hix2:=hix.2;rw [Bt] at hix2;have hvm:=Aj hva;have hvt:=hrv.ty va hvm;refine (dN hrv hvm).elim fun sc hsc=>?_
  have hsr:=qK hva hsc;have hfl:=hrv.fl sc (Aj hsc);refine B2 (AW.seq (Rm 1 rfl (Qn 0 rfl Ap (Qn 1 rfl Bx (Qn 2 rfl (Ad rfl) (Qn 3 rfl Cw (Qn 4 rfl (Lw (.sl _ _) rfl) (Qn 5 rfl Bx (Qn 6 rfl (Ad rfl) (Qn 7 rfl Cw (Qn 8 rfl (Lw (.sl _ _) rfl) ?_)))))))))));refine Qn 9 rfl Ap (Qn 10 rfl (Eh Iv rfl rfl (hix.1) (Cp hva)) (Qn 11 rfl (Qf [Iq _]) (Qn 12 rfl B6 (Qn 13 rfl (Eh Nd rfl rfl (hvt.1) (Cp hsc)) (Qn 14 rfl (Cm Nd) (Qn 15 rfl (Qf pF) (Qn 16 rfl Gr (Qn 17 rfl (Qc rfl (Nr sc hfl t.name)) (Qn 18 rfl (Fj Ko) ?_)))))))));refine fY 19 rfl (Kt 0 (.agg _) Ko (_::_::_) rfl) ?_;rintro _ _ ⟨rfl,rfl⟩;refine Av (AW.ret (Dz (A7 ?_)));refine ⟨.inr rfl,[.agg Ko],Zb 0,_,S1,?_⟩;exact ⟨Ye Nk ((Jb T V t).trans (leafx_3 hc1 hc2 hc3 hsr)),rfl⟩
 refine Aa (Qp Bl (Qp Bc (Bh (fun hc4=>Aa (Qp Ap (Qp (Fj Ko) ?_))) fun hc4=>Aa (Qp Bl (Qp Bc (Bh (fun hc5=>?_) fun hc5=>Aa (Qp Bl (Qp Bc (Bh (fun hc7=>Aa (Qp (Qf Ot) (Qp Dd (Qp Bx (Qp (B9 (l:=[.val _]) (l':=[]) rfl rfl) ?_))))) fun hc7=>Rf (AW.seq ?_))))))))))
 .
  refine By 0 Ko (_::_::_) (Ra ?_);refine ⟨.inr rfl,[.agg Ko],Zb 0,_,S1,?_⟩;exact ⟨Ye Nk ((Jb T V t).trans (leafx_4 hc1 hc2 hc4)),rfl⟩
 .
  have hct:=tX (Lp hw).1 (Or.inr (Or.inr (by simpa using hc5)));refine (yB hct).elim fun va hva=>?_
  have hix:=O4 hct;have hix2:=hix.2;rw [Bt] at hix2;have hvm:=Aj hva;have hvt:=hrv.ty va hvm;refine (dN hrv hvm).elim fun sc hsc=>?_
  have hsr:=qK hva hsc;have hfl:=hrv.fl sc (Aj hsc);refine AW.seq (Rm 1 rfl (Qn 0 rfl Ap (Qn 1 rfl Bx (Qn 2 rfl (Ad rfl) (Qn 3 rfl Cw (Qn 4 rfl (Lw (.sl _ _) rfl) (Qn 5 rfl Bx (Qn 6 rfl (Ad rfl) (Qn 7 rfl Cw (Qn 8 rfl (Lw (.sl _ _) rfl) ?_))))))))));refine Qn 9 rfl Ap (Qn 10 rfl (Eh Iv rfl rfl (hix.1) (Cp hva)) (Qn 11 rfl (Qf [Iq _]) (Qn 12 rfl B6 (Qn 13 rfl (Eh Nd rfl rfl (hvt.1) (Cp hsc)) (Qn 14 rfl (Cm Nd) (Qn 15 rfl (Qf pF) (Qn 16 rfl Gr (Qn 17 rfl (Qc rfl (Nr sc hfl t.name)) (Qn 18 rfl (Qf Zw) (Qn 19 rfl B6 (Qn 20 rfl (Fj Ko) ?_)))))))))));refine Xa 21 rfl (Ke (l:=ggz) (by kernel_rfl)) (by rintro _ _ ⟨b6,rfl,rfl⟩;simp) ?_;rintro _ _ ⟨b6,rfl,rfl⟩;refine fY 22 rfl (Kt 0 (.agg _) Ko (_::_::_::_) rfl) ?_;rintro _ _ ⟨rfl,rfl⟩;refine Av (B5 (Qp (Qf Ot) (Qp Dd ?_)));refine Qp (E6 t.kids.length rfl rfl (by simp)) ?_;refine Qp Gx (Bh (fun hc6=>?_) fun hc6=>B2 (Aa (Sb 0 Ko rfl ?_)))
  .
   have h0:0<t.kids.length:=by have:=Ey hc6;omega
   refine AW.region (Qp (Qf Ot) (Qp Dd ?_));refine Qp (Eh Ai rfl rfl (by decide) (Io (He h0))) ?_;refine Qp (Cm Ai) (Qp (Qc rfl (vL (Bi t 0))) (Qp Cw ?_));refine By 0 Ko (_::_::_::_) (B7 (Sb 0 Ko rfl ?_));refine By 1 Ko (_::_::_::_) (Ra ?_);refine ⟨.inr rfl,[.agg Ko],Zb 1,_,S2,?_⟩;exact ⟨Ye Nk ((Jb T V t).trans (leafx_5 hc1 hc2 hc4 hc5 hsr hc6)),rfl⟩
  refine By 1 Ko (_::_::_::_) (Ra ?_);refine ⟨.inr rfl,[.agg Ko],Zb 1,_,S2,?_⟩;exact ⟨Ye Nk ((Jb T V t).trans (leafx_6 hc1 hc2 hc4 hc5 hsr hc6)),rfl⟩
 .
  refine Rt (Dq rfl ((rf_allE bp 159 _ t.kids (Ga (dI ht) (by decide)) 100 (by kernel_rfl) [.val (.pointer (some ⟨bp,0,none⟩))] (F1 T V) (fun a ha=>fun R=>ih a ha (N7 ht ha) ((Lp hw).2 a ha) R)).at (k:=1) (H2:=_::_::_) rfl rfl)) ?_;refine Qp (Fj Ko) ?_;refine By 0 Ko (_::_::_) (Ra ?_);refine ⟨.inr rfl,[.agg Ko],Zb 0,_,S1,?_⟩;exact ⟨Ye Nk ((Jb T V t).trans (leafx_7 hc1 hc2 hc4 hc5 hc7)),rfl⟩
 refine Mo ?_;refine Qn 0 rfl (Qf Zw) (Qn 1 rfl B6 (Qn 2 rfl (Qf Ot) (Qn 3 rfl Dd (Qn 4 rfl Bx (Qn 5 rfl (B9 (l:=[.val _]) (l':=[]) rfl rfl) ?_)))));refine Oj 6 rfl (Dq rfl ((rf_allE bp 159 _ t.kids (Ga (dI ht) (by decide)) 100 (by kernel_rfl) [.val (.pointer (some ⟨bp,0,none⟩))] (F1 T V) (fun a ha=>fun R=>ih a ha (N7 ht ha) ((Lp hw).2 a ha) R)).at (k:=1) (H2:=_::_::_) rfl rfl)) ?_;refine Qn 7 rfl (Fj Ko) ?_;refine Oj 8 rfl (Kt 0 (.agg _) Ko (_::_::_) rfl) ?_;refine Ig ?_;refine Av (AW.ret ?_);refine ⟨.inr rfl,[.agg Ko],Zb 0,_,S1,?_⟩;exact ⟨Ye Nk ((Jb T V t).trans (leafx_8 hc1 hc2 hc4 hc5 hc7)),rfl⟩
theorem yV (a b c d:HO)(H:List HO):List.Perm (a::b::c::d::H) (b::c::d::a::H):=by
 have h1:List.Perm (a::b::c::d::H) (b::a::c::d::H):=List.Perm.swap ..;have h2:List.Perm (a::c::d::H) (c::a::d::H):=List.Perm.swap ..;have h3:List.Perm (a::d::H) (d::a::H):=List.Perm.swap ..;exact (h1.trans (h2.cons b)).trans ((h3.cons c).cons b)
theorem rf_decH (T:List e8Sc)(V:List Va)(t:Syn)(v:Value)(bp bn:Nat)(H:List HO):(.row v ((V ++ [Oo T t]).map Tn).length 50 2 :: .box bp 159 [.sl 2 (T.map Lz),.smapv (Sl (Jx T)),.row v 2 ((V ++ [Oo T t]).map Tn),.val (.map (some bn)),.int .i64 0,.int .i64 0] :: .smap bn (Sl (K8 (V ++ [Oo T t])))::H:List HO) = .row v (V.map Tn ++ [Tn (Oo T t)]).length 50 2 :: .box bp 159 [.sl 2 (T.map Lz),.smapv (Sl (Jx T)),.row v 2 (V.map Tn ++ [Tn (Oo T t)]),.val (.map (some bn)),.int .i64 0,.int .i64 0] :: .smap bn (Sl (K8 V ++ [t.name]))::H:=by
 simp [Oo]
theorem Wb (T:List e8Sc)(hl:T.length<=1048576)(hd:(Jx T).Nodup)(H:List HO):Cf Tryz.prog 93 H [.sl 2 (T.map Lz)] (fun r H'=>∃b bn,r = .val (.pointer (some ⟨b,0,none⟩))/\H' = .box b 159 [.sl 2 (T.map Lz),.smapv (Sl (Jx T)),.val (.slice none 0 0),.val (.map (some bn)),.int .i64 0,.int .i64 0] :: .smap bn []::H):=by
 refine Jg 27 Tryz.func93 rfl ?_;refine AW.ghostPost (Aa (Qp Sa (B7 (Qp K7 (Qe (Iz) ?_)))));rintro _ _ ⟨b7,rfl,rfl⟩;refine Qe (Iz) ?_;rintro _ _ ⟨b8,rfl,rfl⟩;refine Qp (Jz (l0:=[.val (.slice none 0 0),.val (.map none),.val (.slice none 0 0),.val (.map none),.int .i64 0,.int .i64 0]) (l:=[_,_,_,_,Iq _,Iq _]) tok rfl rfl (by kernel_rfl) rfl) ?_;refine Qe (E_box (v:=.agg _) (cs:=[_,_,_,_,Iq _,Iq _]) rfl rfl (rfl)) ?_;rintro _ _ ⟨b10,rfl,rfl⟩;refine Qp Sa (Ax (B5 (Qp K7 ?_)));refine Qp (E6 T.length rfl rfl (by simp)) ?_;refine Qp Ap (Ax (AW.block ?_));refine AW.Aad (fun (k:Nat)=>(⟨[(3,.val (.pointer (some ⟨b10,0,none⟩))),(11,.sl 2 (T.map Lz)),(12,.int .i64 T.length),(13,.int .i64 (k:Int))],.box b10 159 [.sl 2 (T.map Lz),.val (.map (some b7)),.val (.slice none 0 0),.val (.map (some b8)),.int .i64 0,.int .i64 0] :: .smap b8 [] :: .smap b7 (Sl (Jx (T.take k)))::H,27⟩:St)) (fun k=>k<=T.length) (fun k=>T.length-k) (0) ?_ C2 ?_
 . exact A9 _
 rintro k hR;refine Aa (Qp Cn (Re (Hb (fun hc1=>?_) fun hc1=>?_)))
 .
  obtain ⟨a,ha⟩:=Cj hc1;have hlt:=Bz ha;have hm:=Aj ha;refine B2 (AW.seq (AW.block (Aa (Qp Ap ?_))));refine Qp (Eh Nd rfl rfl (by omega) (Cp ha)) ?_;refine Qp (Cm Nd) (D5 [.str [],.sl 2 []] fun b5=>Qp Aq ?_);refine By 0 Nd (_::_::_::_::_) ?_;refine Kc 5 0 rfl ?_;refine Ax (Rm 0 rfl (Qn 0 rfl Bx (Qn 1 rfl (Ad rfl) (Qn 2 rfl Cw (Qn 3 rfl (Lw (.val _) rfl) (Qn 4 rfl (Qf Nd) (Qn 5 rfl Gr (Qn 6 rfl Ap ?_))))))));refine fY 7 rfl (rN (i:=2) (ks:=Jx (T.take k)) (H2:=_::_::_::_) tok rfl rfl rfl rfl rfl rfl rfl rfl (by simp;omega) (nm_new hd ha) rfl) ?_;rintro _ _ ⟨rfl,rfl⟩;refine J1 (Av (AW.region (Qp Gw (Qp Ap (Ax ?_)))));refine ⟨k+1,?_,?_,GS.trans (GS.heq (congrArg (fun ns:List Ag=>(_::_ :: .smap b7 (Sl ns)::_:List HO)) (nm_take ha))) C2⟩
  . exact hlt
  omega
 have hte:=Ds hc1;refine AW.exit ?_;refine B1 (Ri (Aa (Qp Bx (Qp Sa (Rb ?_)))));refine ⟨_,GS.freezeSMapCell 2 0 1 rfl rfl rfl rfl rfl,.inr rfl,[.val _],.cons (.tmp _ _ rfl) <| .nil,_,.refl _,?_⟩;exact ⟨b10,b8,rfl,congrArg (fun Q:List e8Sc=>(.box b10 159 [.sl 2 (T.map Lz),.smapv (Sl (Jx Q)),.val (.slice none 0 0),.val (.map (some b8)),.int .i64 0,.int .i64 0] :: .smap b8 []::H:List HO)) hte⟩
abbrev Z0 (q:Fa):AV:=AV.agg (oJ q)
theorem zE (T:List e8Sc)(V:List Va)(hV:V.length<=16)(v:Value)(bp bn:Nat)(t:Syn)(H:List HO):Cf Tryz.prog 96 (.row v ((V).map Tn).length 50 2 :: .box bp 159 [.sl 2 (T.map Lz),.smapv (Sl (Jx T)),.row v 2 ((V).map Tn),.val (.map (some bn)),.int .i64 0,.int .i64 0] :: .smap bn (Sl (K8 (V)))::H) [.val (.pointer (some ⟨bp,0,none⟩)),.agg (cSyn t)] (fun r H'=>∃v',r = .agg (oJ (dFa T V t))/\H' = .row v' ((dV T V t).map Tn).length 50 2 :: .box bp 159 [.sl 2 (T.map Lz),.smapv (Sl (Jx T)),.row v' 2 ((dV T V t).map Tn),.val (.map (some bn)),.int .i64 0,.int .i64 0] :: .smap bn (Sl (K8 (dV T V t)))::H):=by
 refine Jg 75 Tryz.func96 rfl ?_;refine Aa (Qp (Hu Ai) (D5 lN fun b4=>Re (Rm 2 rfl (Qn 0 rfl Bx (Qn 1 rfl (Ad rfl) (Qn 2 rfl Cw (Qn 3 rfl (Lw (.smapv _) rfl) (Qn 4 rfl (Qf X6) (Qn 5 rfl Gr ?_)))))))));refine Qn 6 rfl (gY (es:=Sl (Jx T)) tok rfl rfl rfl rfl rfl (by kernel_rfl) rfl rfl (Wh _ _ rfl) (zO _ _)) ?_;refine Qn 7 rfl Oz (Qn 8 rfl Lv (Qn 9 rfl lL (Qn 10 rfl Aq (Qn 11 rfl Bc ?_))));refine Ig ?_;refine Av (AW.seq ?_);refine AW.draw mixed (fun H'=>_∈H'/\_∈H') ⟨(Aj (i:=2) rfl),(Aj (i:=3) rfl)⟩ (by kernel_rfl) ?_;refine Qn 0 rfl Bx (Qn 1 rfl (Ad rfl) (Qn 2 rfl Cw (Qn 3 rfl (Dp.mem (fun k=>Cr (k:=k) (c:=.val _) tok rfl rfl rfl rfl) (fun _ h=>h.1)) ?_)));refine Qn 4 rfl (Qf pF) (Qn 5 rfl Gr ?_);refine Qn 6 rfl (Dp.mem (fun k=>P_slookOk (i:=k) (es:=Sl (K8 V)) tok rfl rfl rfl rfl rfl (by kernel_rfl) rfl rfl (Wh _ _ rfl) (zO _ _)) (fun _ h=>h.2)) ?_;refine Qn 7 rfl Oz (Qn 8 rfl Lv (Qn 9 rfl lL (Qn 10 rfl Aq (Qn 11 rfl Bc ?_))));refine Ig ?_;refine Av (AW.seq (AW.block (Aa (Qp Bx (Qp (Ad rfl) (Qp Cw (Sw 2 (.row _ _ _) rfl ?_)))))));refine Qp (G6 (n:=V.length) tok rfl rfl rfl (by simp)) ?_;refine Qp Bl (Qp Bc (Bh (fun hc1=>Aa (Qp (Qf [Iq _]) (Qp B6 (Qp (Fj Id) ?_)))) fun hc1=>Aa (Qp Cc (Qp Ix (Qp Bc (Bh (fun hc2=>Aa (Qp (Qf [Iq _]) (Qp B6 (Qp (Fj Id) ?_)))) fun hc2=>?_))))))
 .
  refine By 0 Id (_::_::_::_::_) (Ra ?_);refine ⟨.inr rfl,[.agg Id],Zb 0,_,S1,?_⟩;have hx:=xP (T:=T) (V:=V) (t:=t) (dec_1 hc1) (by decide);exact ⟨v,Ye Z0 hx.1,congrArg (fun Q:List Va=>(.row v ((Q).map Tn).length 50 2 :: .box bp 159 [.sl 2 (T.map Lz),.smapv (Sl (Jx T)),.row v 2 ((Q).map Tn),.val (.map (some bn)),.int .i64 0,.int .i64 0] :: .smap bn (Sl (K8 (Q)))::H:List HO)) hx.2.symm⟩
 .
  refine By 0 Id (_::_::_::_::_) (Ra ?_);refine ⟨.inr rfl,[.agg Id],Zb 0,_,S1,?_⟩;have hx:=xP (T:=T) (V:=V) (t:=t) (dec_2 hc1 hc2) (by decide);exact ⟨v,Ye Z0 hx.1,congrArg (fun Q:List Va=>(.row v ((Q).map Tn).length 50 2 :: .box bp 159 [.sl 2 (T.map Lz),.smapv (Sl (Jx T)),.row v 2 ((Q).map Tn),.val (.map (some bn)),.int .i64 0,.int .i64 0] :: .smap bn (Sl (K8 (Q)))::H:List HO)) hx.2.symm⟩
 refine Aa (Qp Cc (Qp Bc (Bh (fun hc3=>Aa (Qp (Qf [Iq _]) (Qp B6 (Qp (Fj Id) ?_)))) fun hc3=>Rf (AW.seq (Rm 2 rfl (Qn 0 rfl Bx (Qn 1 rfl (Ad rfl) (Qn 2 rfl Cw (Qn 3 rfl (Lw (.val _) rfl) (Qn 4 rfl (Qf pF) (Qn 5 rfl Gr (Qn 6 rfl Bx (Qn 7 rfl (Ad rfl) (Qn 8 rfl Cw (Qn 9 rfl (Lw (.row _ _ _) rfl) ?_)))))))))))))))
 .
  refine By 0 Id (_::_::_::_::_) (Ra ?_);refine ⟨.inr rfl,[.agg Id],Zb 0,_,S1,?_⟩;have hx:=xP (T:=T) (V:=V) (t:=t) (dec_3 hc1 hc2 hc3) (by decide);exact ⟨v,Ye Z0 hx.1,congrArg (fun Q:List Va=>(.row v ((Q).map Tn).length 50 2 :: .box bp 159 [.sl 2 (T.map Lz),.smapv (Sl (Jx T)),.row v 2 ((Q).map Tn),.val (.map (some bn)),.int .i64 0,.int .i64 0] :: .smap bn (Sl (K8 (Q)))::H:List HO)) hx.2.symm⟩
 refine Qn 10 rfl (G6 (n:=V.length) tok rfl rfl rfl (by simp)) ?_;refine fY 11 rfl (rN (i:=3) (ks:=K8 V) (H2:=_::_::_::_::_) tok rfl rfl rfl rfl rfl rfl rfl rfl (by simp) hc3 rfl) ?_;rintro _ _ ⟨rfl,rfl⟩;refine Av (AW.seq (Rm 2 rfl (Qn 0 rfl Bx (Qn 1 rfl Bx (Qn 2 rfl (Ad rfl) (Qn 3 rfl Cw (Qn 4 rfl (Lw (.row _ _ _) rfl) (Qn 5 rfl (Qf pF) (Qn 6 rfl Gr (Qn 7 rfl Ap (Qn 8 rfl (Fj Iv) (Qn 9 rfl (Jh [Iv] rfl) ?_))))))))))));refine Xa 10 rfl (W0 1 rfl (Et rfl) (scVa V) (by simp;omega) (by simp [maxLen];omega)) (by rintro _ _ ⟨v71,rfl,rfl⟩;simp) ?_;rintro _ _ ⟨v71,rfl,rfl⟩;refine Qn 11 rfl (Ad rfl) (Qn 12 rfl Cw ?_);refine fY 13 rfl (Kt 2 (.row _ _ _) [_,_,_,_,Iq _,Iq _] (_::_::_::_::_) rfl) ?_;rintro _ _ ⟨rfl,rfl⟩;refine Av (Aa (Qp (Qc rfl (Rw)) ?_));refine By 0 Id (_::_::_::_::_) (Rb ?_);refine ⟨.inr rfl,[.agg Id],Zb 0,_,S1,?_⟩;have hx:=dFa_yes (T:=T) (V:=V) (t:=t) (dec_4 hc1 hc2 hc3);refine ⟨v71,Ye Z0 hx.1,Eq.trans ?_ (congrArg (fun Q:List Va=>(.row v71 ((Q).map Tn).length 50 2 :: .box bp 159 [.sl 2 (T.map Lz),.smapv (Sl (Jx T)),.row v71 2 ((Q).map Tn),.val (.map (some bn)),.int .i64 0,.int .i64 0] :: .smap bn (Sl (K8 (Q)))::H:List HO)) hx.2.symm)⟩;exact (rf_decH T V t v71 bp bn H).symm
theorem rf_eachD (T:List e8Sc)(V0:List Va)(hV0:V0.length<=16)(v0:Value)(bp bn:Nat)(l:List Syn)(hl:l.length<=1048576)(H:List HO):Cf Tryz.prog 94 (.row v0 ((V0).map Tn).length 50 2 :: .box bp 159 [.sl 2 (T.map Lz),.smapv (Sl (Jx T)),.row v0 2 ((V0).map Tn),.val (.map (some bn)),.int .i64 0,.int .i64 0] :: .smap bn (Sl (K8 (V0)))::H) [.sl 6 (l.map C6),.fn (.func 96) [.val (.pointer (some ⟨bp,0,none⟩))] []] (fun r H'=>∃v',r = .agg (oJ (L2 T V0 l).2)/\H' = .row v' (((L2 T V0 l).1).map Tn).length 50 2 :: .box bp 159 [.sl 2 (T.map Lz),.smapv (Sl (Jx T)),.row v' 2 (((L2 T V0 l).1).map Tn),.val (.map (some bn)),.int .i64 0,.int .i64 0] :: .smap bn (Sl (K8 ((L2 T V0 l).1)))::H):=by
 refine Jg 23 Tryz.func94 rfl ?_;refine Aa (D5 lN fun b4=>Ax (B5 (Qp K7 ?_)));refine Qp (E6 l.length rfl rfl (by simp)) ?_;refine Qp Ap ?_;refine AOL.ghost (GS.perm (yV _ _ _ _ _)) ?_;refine Ax (AW.block ?_);refine AW.Aad (fun (q:Nat×List Va×Value)=>(⟨[(0,.sl 6 (l.map C6)),(1,.fn (.func 96) [.val (.pointer (some ⟨bp,0,none⟩))] []),(4,.val (.pointer (some ⟨b4,0,none⟩))),(8,.sl 6 (l.map C6)),(9,.int .i64 l.length),(10,.int .i64 (q.1:Int))],.row q.2.2 ((q.2.1).map Tn).length 50 2 :: .box bp 159 [.sl 2 (T.map Lz),.smapv (Sl (Jx T)),.row q.2.2 2 ((q.2.1).map Tn),.val (.map (some bn)),.int .i64 0,.int .i64 0] :: .smap bn (Sl (K8 (q.2.1))) :: .box b4 94 lN::H,23⟩:St)) (fun q=>q.1<=l.length/\q.2.1.length<=16/\L2 T V0 l=L2 T q.2.1 (l.drop q.1)) (fun q=>l.length-q.1) ((0,V0,v0)) ?_ C2 ?_
 . exact ⟨A9 _,hV0,rfl⟩
 rintro q hR;refine Aa (Qp Cn (Re (Hb (fun hc1=>?_) fun hc1=>?_)))
 .
  obtain ⟨a,ha⟩:=Cj hc1;have hlt:=Bz ha;have hm:=Aj ha;refine B2 (AW.seq (AW.block (Aa ?_)));refine Qp (Eh Ai rfl rfl (by omega) (Io ha)) ?_;refine Qp (Cm Ai) ?_;refine D5 I6 fun b6=>?_
  refine By 0 Ai (_::_::_::_::_::_) ?_;refine Kc 6 0 rfl ?_;refine B7 (Qp (A1 (v:=.fn _ _ _) rfl) (Qp (Cm Ai) ?_));refine Qe (Lt (by kernel_rfl) rfl rfl rfl (Cf.front3 (R:=_::_) 2 1 0 rfl rfl rfl rfl (zE T q.2.1 hR.2.1 q.2.2 bp bn a _))) ?_;rintro _ _ ⟨v16,rfl,rfl⟩;refine D5 lN fun b7=>?_
  refine By 0 Id (_::_::_::_::_::_) ?_;refine Kc 7 0 rfl ?_;refine B7 (Qp (Qf [Iq _]) (Qp B6 (Qp Cb (Bh (fun hc2=>Aa (Qp (Cm Id) ?_)) fun hc2=>Rf (AW.region (Qp Gw (Qp Ap (Ax ?_))))))))
  .
   refine By 3 Id (_::_::_::_::_) (Ra (A7 (Dz (A7 ?_))));refine ⟨.inr rfl,[.agg Id],.cons (.box _ _ _ 3 _ _ _ _ rfl rfl rfl rfl rfl rfl) <| .nil,_,.cons_cons _ (.cons_cons _ (.cons_cons _ (.cons _ (.refl _)))),?_⟩;have hx:=hR.2.2.trans (decS_hit ha hc2);exact ⟨v16,by rw [hx];rfl,by rw [hx]⟩
  refine ⟨(q.1+1,dV T q.2.1 a,v16),?_,?_,C2⟩
  . exact ⟨hlt,dV_len hR.2.1,hR.2.2.trans (decS_on ha hc2)⟩
  simp only;omega
 have hde:=Fw hc1;have hall:=hR.2.2;rw [hde] at hall;refine AW.exit ?_;refine B1 (Ri (Aa ?_));refine Qp (Qc rfl (Rw)) ?_;refine By 3 Id (_::_::_::_::_) (Rb ?_);refine ⟨.inr rfl,[.agg Id],.cons (.box _ _ _ 3 _ _ _ _ rfl rfl rfl rfl rfl rfl) <| .nil,_,.cons_cons _ (.cons_cons _ (.cons_cons _ (.cons _ (.refl _)))),?_⟩;have hx:L2 T V0 l=(q.2.1,Oe):=hall;exact ⟨q.2.2,by rw [hx];rfl,by rw [hx]⟩
end Go.Proofs.YtckhoadldibflaaGreatDoor
