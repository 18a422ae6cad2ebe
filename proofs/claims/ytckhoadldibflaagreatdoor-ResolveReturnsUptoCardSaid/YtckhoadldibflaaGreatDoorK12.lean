/-
  Several texts in one: Q3, Q4, Q5, Q6. No condition.
-/
import Derived.Test.YtckhoadldibflaaGreatDoorK11
set_option linter.unusedVariables false
set_option linter.unusedSimpArgs false
set_option maxRecDepth 100000
namespace Go.Proofs.YtckhoadldibflaaGreatDoor
open Go Go.Aw
def Bq (post:List Tok):Prop:=∀c r,post=c::r->c=Jt\/c=N8\/c=tsm\/c=tw Dw
theorem Bq.rp (r:List Tok):Bq (Jt::r):=fun c q h=>.inl (List.cons.inj h).1.symm
theorem Bq.cm (r:List Tok):Bq (N8::r):=fun c q h=>.inr (.inl (List.cons.inj h).1.symm)
theorem Bq.sm (r:List Tok):Bq (tsm::r):=fun c q h=>.inr (.inr (.inl (List.cons.inj h).1.symm))
theorem Bq.ret (r:List Tok):Bq (tw Dw::r):=fun c q h=>.inr (.inr (.inr (List.cons.inj h).1.symm))
variable {pre post rest:List Tok} {d:Int} {t:Tok}
def G8 (t:Tok)(w:Ag):Bool:=(t.text==w)&&((t.kind==3)||((t.kind==0)&&Pk w))
theorem Ci {w:Ag}:Ea w (Cg pre (t::post) d)=G8 t w:=yC
theorem Bq.not (hb:Bq post){w:Ag}(h:G8 Jt w=false/\G8 N8 w=false/\G8 tsm w=false/\G8 (tw Dw) w=false):Ea w (Cg pre post d)=false:=by
  cases post with
  | nil=>exact yD
  | cons c r=>
    rw [Ci];rcases hb c r rfl with rfl | rfl | rfl | rfl
    . exact h.1
    . exact h.2.1
    . exact h.2.2.1
    exact h.2.2.2
theorem NoOp.q (hb:Bq post):NoOp (Cg pre post d):=
 ⟨⟨hb.not (by decide),hb.not (by decide),hb.not (by decide),hb.not (by decide)⟩,hb.not (by decide),hb.not (by decide),hb.not (by decide),hb.not (by decide),hb.not (by decide),hb.not (by decide)⟩
theorem A6 {t:Tok}{l:List Tok}(h:t.pos=0)(k:F3 l):F3 (t::l):=by
 unfold F3 at *;rw [Ao,k];cases t;simp only at h;subst h;rfl
theorem Vb:∀{l:List (List Tok)},(∀x∈l,F3 x)->F3 l.flatten
 | [],_=>rfl
 | x::r,h=>(h x (by simp)).app (Vb fun y hy=>h y (F9 _ hy))
theorem Ta:∀{l:List (List Tok)},(∀x∈l,F3 x)->F3 (Hz l)
 | [],_=>rfl
 | [x],h=>h x (by simp)
 | x::y::r,h=>((h x (by simp)).app (show F3 [N8] from rfl)).app (Ta fun z hz=>h z (F9 _ hz))
theorem Vc {p k:Syn}{l:List Tok}(h:F3 l):F3 (Gj p k l):=by
 unfold Gj;split
 . exact ((show F3 [Kd] from rfl).app h).app (show F3 [Jt] from rfl)
 exact h
theorem era_num (n:Int):F3 (cZ n):=by unfold cZ;split <;> rfl
theorem era_lit (t:Syn):F3 (pT t):=by
 unfold pT;split
 . exact era_num _
 split
 . split <;> rfl
 rfl
theorem Xl {l:List (List Tok)}(h:∀x∈l,F3 x)(j:Nat):F3 (l.getD j []):=by
 rw [Ez];cases hj:l[j]? with
 | none=>rfl
 | some x=>exact h x (Aj hj)
theorem D8 (t:Tok)(h:t.pos=0):F3 [t]:=A6 h rfl
theorem Ph {c:Prop}[Decidable c]{a b:List Tok}(ha:F3 a)(hb:F3 b):F3 (if c then a else b):=by
 split
 . exact ha
 exact hb
theorem era_node {t:Syn}{ws:List (List Tok)}(h:∀x∈ws,F3 x):F3 (Eg t ws):=by
 have h1:∀w,F3 [tw w]:=fun w=>rfl
 have h2:∀w,F3 [tg w]:=fun w=>rfl
 have h3:F3 (if (ws == [])=true then [] else [tw Me]++ws.getD 0 []):=by split;exact rfl;exact (h1 _).app (Xl h 0)
 have h4:F3 (if (ws == [])=true then [] else [N8]++ws.getD 0 []):=by split;exact rfl;exact (show F3 [N8] from rfl).app (Xl h 0)
 have h5:F3 (if ((Bi t 0).text == [])=true then [] else [tw Oa] ++ [tw (Bi t 0).text]):=by split;exact rfl;exact (h1 _).app (h1 _)
 have h6:F3 (if (t.kind==11)=true then [N8]++cZ t.num else []):=by split;exact (show F3 [N8] from rfl).app (era_num _);exact rfl
 have h7:F3 [Em t.num]:=D8 _ (by unfold Em;split <;> rfl);have n0:F3 ([]:List Tok):=rfl
 exact Ph (Vb h) (Ph (((((h1 _).app n0).app (h1 _)).app (h2 _)).app (Ta h) |>.app (h2 _)) (Ph (((h1 _).app (h2 _)).app (h1 _))
  (Ph (((((((((((((h1 _).app n0).app (h1 _)).app h5).app n0).app (h1 _)).app n0).app (Xl h 1)).app n0).app (h1 _)).app n0).app (Ta fun x hx=>h x (eD hx))).app (h2 _))
  (Ph ((((h1 _).app n0).app (h1 _)).app h3) (Ph (era_lit t) (Ph (((h1 _).app (h2 _)).app (h1 _)) (Ph ((((h1 _).app (h2 _)).app (h1 _)).app (h2 _))
  (Ph (((((((h1 _).app (h2 _)).app (h1 _)).app (h2 _)).app (h1 _)).app h4).app (h2 _)) (Ph (((((Vc (Xl h 0)).app n0).app h7).app n0).app (Vc (Xl h 1)))
  (Ph (((h1 _).app n0).app (Vc (Xl h 0))) (((((h1 _).app (h2 _)).app (Ta h)).app h6).app (h2 _))))))))))))
theorem De (t:Syn):F3 (Af t):=by
 refine Syn.ind (P:=fun t=>F3 (Af t)) (fun t ih=>?_) t;rw [Cz];refine era_node fun x hx=>?_
 obtain ⟨a,ha,rfl⟩:=Cl.1 hx;exact ih a ha
theorem Vo {s:Ag}(h:Pk s=false)(w:Ag):G8 (tw s) w=false:=by
  show ((s==w)&&((0:Int)==3||((0:Int)==0&&Pk w)))=false;cases hq:(s==w) with
  | false=>rfl
  | true=>
    have:s=w:=by simpa using hq
    rw [<-this,h];rfl
theorem Pm {t:Tok}(h:t.kind=1\/t.kind=2)(w:Ag):G8 t w=false:=by
 unfold G8;have e1:(t.kind==3)=false:=by rcases h with h | h <;> rw [h] <;> rfl
 have e2:(t.kind==0)=false:=by rcases h with h | h <;> rw [h] <;> rfl
 rw [e1,e2];simp
theorem hit_text {t:Tok}{w:Ag}(h:G8 t w=true):w=t.text:=by
 unfold G8 at h;rw [Cd] at h;have:=h.1;simp only [beq_iff_eq] at this;exact this.symm
theorem Qk {E:PS->Syn×PS}(h1:G8 t Ee=false)(h2:t.text≠dU/\t.text≠dT/\t.text≠Tl/\t.text≠X5/\t.text≠M6/\t.text≠Gv\/t.kind=2)
  (h3:((t.kind==0)&&(((0:Int) != 0) || !(Pk t.text)))=false):D3 E (Cg pre (t::post) d)=Eo (Cg pre (t::post) d):=by
 have k:∀w:Ag,(t.text≠w\/t.kind=2)->Ea w (Cg pre (t::post) d)=false:=fun w hw=>by
  rw [Ci];rcases hw with hw | hw
  .
   cases hq:G8 t w with
   | false=>rfl
   | true=>exact absurd (hit_text hq).symm hw
  exact Pm (.inr hw) w
 have a:(t.text≠dU\/t.kind=2)/\(t.text≠dT\/t.kind=2)/\(t.text≠Tl\/t.kind=2)/\(t.text≠X5\/t.kind=2)/\(t.text≠M6\/t.kind=2)/\(t.text≠Gv\/t.kind=2):=by
  rcases h2 with ⟨a,b,c,d,e,f⟩ | h
  . exact ⟨.inl a,.inl b,.inl c,.inl d,.inl e,.inl f⟩
  exact ⟨.inr h,.inr h,.inr h,.inr h,.inr h,.inr h⟩
 unfold D3;rw [Ci (w:=Ee),h1]
 have ef:totL.find? (fun s=>Ea s.1 (Cg pre (t::post) d))=none:=by
  unfold totL;rw [List.find?_cons,List.find?_cons,List.find?_cons,List.find?_cons,List.find?_nil,k _ a.1,k _ a.2.1,k _ a.2.2.1,k _ a.2.2.2.1]
 rw [ef,k _ a.2.2.2.2.1,k _ a.2.2.2.2.2,show Ps 0 (Cg pre (t::post) d)=false by rw [Ou];exact h3];simp only [Ak,↓reduceIte]
theorem const_num {n:Nat}(hn:n<=1099511627776)(hp:F3 pre)(hq:F3 post):Eo (Cg pre (⟨1,Lib.decDigits n,0⟩::post) d)=(⟨13,[],G0,(n:Int),[],0⟩,Cg (pre ++ [⟨1,Lib.decDigits n,0⟩]) post d):=by
 have eo:Fs (Cg pre (⟨1,Lib.decDigits n,0⟩::post) d)=0:=Hy hp (A6 rfl hq);have en:Ps 1 (Cg pre (⟨1,Lib.decDigits n,0⟩::post) d)=true:=by rw [Ou];rfl
 unfold Eo;rw [Ci,Pm (.inl rfl),en,eo];simp only [Ak,↓reduceIte];have e1:Ed 1 (Cg pre (⟨1,Lib.decDigits n,0⟩::post) d)=Cg (pre ++ [⟨1,Lib.decDigits n,0⟩]) post d:=(bC (by rfl)).1;have e2:Tg (Cg pre (⟨1,Lib.decDigits n,0⟩::post) d)=(n:Int):=by unfold Tg;rw [en,bS];show (Ua (Lib.decDigits n)).1=_;rw [aQ hn]
 rw [e1,e2]
theorem const_neg {n:Nat}(hn:n<=1099511627776)(hp:F3 pre)(hq:F3 post):Eo (Cg pre (tg Oi::⟨1,Lib.decDigits n,0⟩::post) d)=(⟨13,[],G0,0-(n:Int),[],0⟩,Cg (pre ++ [tg Oi,⟨1,Lib.decDigits n,0⟩]) post d):=by
 have eo:Fs (Cg pre (tg Oi::⟨1,Lib.decDigits n,0⟩::post) d)=0:=Hy hp (A6 rfl (A6 rfl hq));unfold Eo;rw [Ci,show G8 (tg Oi) Oi=true by decide,eo,Hw];simp only [↓reduceIte];have e1:Ed 1 (Cg (pre ++ [tg Oi]) (⟨1,Lib.decDigits n,0⟩::post) d)=Cg (pre ++ [tg Oi] ++ [⟨1,Lib.decDigits n,0⟩]) post d:=(bC (by rfl)).1;have e2:Tg (Cg (pre ++ [tg Oi]) (⟨1,Lib.decDigits n,0⟩::post) d)=(n:Int):=by unfold Tg;rw [Ou,bS];show (Ua (Lib.decDigits n)).1=_;rw [aQ hn]
 rw [e1,e2,C1];rfl
theorem tW {a:Syn}{p:Pl}(h:Al a p=0)(hk:a.kind=13)(hp:F3 pre)(hq:F3 post):Eo (Cg pre (Af a++post) d)=(Dy a,Cg (pre++Af a) post d)/\∀E:PS->Syn×PS,D3 E (Cg pre (Af a++post) d)=Eo (Cg pre (Af a++post) d):=by
  obtain ⟨_,hs,_,hf⟩:=Ct (Cq h).1;have e2:Af a=pT a:=by rw [Cz];unfold Eg;rw [hk];rfl
  unfold Dn at hs;rw [hk] at hs
  replace hs:((a.kids.length:Int)==0)=true:=hs
  have hkid:a.kids = []:=by
    cases hq:a.kids with
    | nil=>rfl
    | cons x r=>rw [hq] at hs;simp at hs;omega
  unfold Dl at hf;rw [hk] at hf
  replace hf:I3 a=0:=hf
  have er:Dy a=⟨13,a.text,a.name,a.num,[],0⟩:=by rw [Fc,hkid,hk];rfl
  rw [e2,er];unfold I3 at hf;unfold pT;split at hf
  . rename_i h1
    rw [if_pos h1];have hn:a.name=G0:=by simpa using h1
    split at hf
    . cases hf
    . rename_i h2
      simp only [G1,Ck,not_or] at h2;split at hf
      . cases hf
      . rename_i h3
        have ht:a.text = []:=by simpa using h3
        rw [hn,ht];unfold cZ;by_cases hneg:a.num<0
        . rw [if_pos hneg]
          refine ⟨?_,fun E=>Qk (by decide) (.inl (by decide)) (by decide)⟩;rw [Co,Co,C5,const_neg (by omega) hp hq];have:0-((a.num.natAbs:Nat):Int)=a.num:=by omega
          rw [this]
        . rw [if_neg hneg]
          refine ⟨?_,fun E=>?_⟩
          . rw [Co,C5,const_num (by omega) hp hq]
            have:((a.num.toNat:Nat):Int)=a.num:=by omega
            rw [this]
          . have hd:=Y0 a.num.toNat
            have key:∀w:Ag,Di (bt w 0)=true->Lib.decDigits a.num.toNat≠w:=fun w hw e=>by
              rw [e] at hd;cases w with
              | nil=>cases hd.2
              | cons c r=>
                have h4:=iF c;have h5:Bn c=true:=by have:=hd.1;rw [Jp,Cd] at this;exact this.1
                have h6:Di c=true:=hw;rw [h5,h6] at h4;simp at h4
            exact Qk (Pm (.inl rfl) _) (.inl ⟨key _ (by decide),key _ (by decide),key _ (by decide),key _ (by decide),key _ (by decide),key _ (by decide)⟩) (by rfl)
  . rename_i h1
    rw [if_neg h1];split at hf
    . rename_i h2
      have hn:a.name=Ho:=by simpa using h2
      rw [if_pos h2];split at hf
      . cases hf
      . rename_i h3
        simp only [G1,Ck,not_or] at h3;split at hf
        . cases hf
        . rename_i h4
          have ht:a.text = []:=by simpa using h4
          rw [hn,ht];by_cases hb:a.num=1
          . rw [if_pos (by simpa using hb)]
            refine ⟨?_,fun E=>Qk (by decide) (.inl (by decide)) (by decide)⟩;rw [Co,C5];unfold Eo;rw [Ci,Ci,show G8 (tw K9) Oi=false by decide,show G8 (tw K9) K9=true by decide,Ou,Hy hp (A6 rfl hq),Hw,hb];rfl
          . rw [if_neg (by simpa using hb)]
            have h0:a.num=0:=by omega
            refine ⟨?_,fun E=>Qk (by decide) (.inl (by decide)) (by decide)⟩;rw [Co,C5];unfold Eo;rw [Ci,Ci,Ci,show G8 (tw Je) Oi=false by decide,show G8 (tw Je) K9=false by decide,show G8 (tw Je) Je=true by decide,Ou,Hy hp (A6 rfl hq),Hw,h0];rfl
    . rename_i h2
      rw [if_neg h2];split at hf
      . rename_i h3
        have hn:a.name=Ha:=by simpa using h3
        split at hf
        . cases hf
        . split at hf
          . cases hf
          . rename_i h4 h5
            have h0:a.num=0:=by simpa using h5
            rw [hn,h0];refine ⟨?_,fun E=>Qk (Pm (.inr rfl) _) (.inr rfl) (by rfl)⟩;rw [Co,C5];have kh:=fun w=>Pm (t:=⟨2,a.text,0⟩) (.inr rfl) w
            unfold Eo;rw [Ci,Ci,Ci,kh,kh,kh,show Ps 1 (Cg pre (⟨2,a.text,0⟩::post) d)=false by rw [Ou];rfl,Hy hp (A6 rfl hq)];simp only [Ak,↓reduceIte];have:=bC (pre:=pre) (post:=post) (d:=d) (t:=⟨2,a.text,0⟩) (k:=2) (by rfl);rw [this.1,this.2]
      cases hf
variable {pre post rest:List Tok} {d:Int} {t:Tok}
theorem nxt_name {s:Ag}(h:Pk s=false):Ps 0 (Cg pre (tw s::post) d)=true:=by
 rw [Ou];show ((0:Int)==0&&((0:Int) != 0 || !(Pk s)))=true;rw [h];rfl
theorem Dk {s:Ag}(h:Pk s=false):Ed 0 (Cg pre (tw s::post) d)=Cg (pre ++ [tw s]) post d/\Ib 0 (Cg pre (tw s::post) d)=s:=by
 refine bC ?_;show ((0:Int)==0&&((0:Int) != 0 || !(Pk s)))=true;rw [h];rfl
theorem D9 {w:Ag}(h:G8 t w=true):Ce w (Cg pre (t::post) d)=Cg (pre ++ [t]) post d:=Xm h
theorem H0 {s:Ag}(h:X7 s=true):Pk s=false:=(gJ h).2.2.2.2
theorem S9 {a:Syn}(h:a.kids = []):Dy a=⟨a.kind,a.text,a.name,a.num,[],0⟩:=by rw [Fc,h];rfl
theorem aP {a:Syn}(h:(a.kids.length:Int)=0):a.kids = []:=by
 cases hq:a.kids with
 | nil=>rfl
 | cons x r=>rw [hq] at h;simp at h;omega
theorem app1 (a b:Tok):(pre ++ [a]) ++ [b]=pre ++ [a,b]:=by simp
theorem ref_read {a:Syn}{p:Pl}{E:PS->Syn×PS}(h:Al a p=0)(hk:a.kind=14)(hp:F3 pre)(hq:F3 post):D3 E (Cg pre (Af a++post) d)=(Dy a,Cg (pre++Af a) post d):=by
 obtain ⟨_,hs,hn,hf⟩:=Ct (Cq h).1;have e2:Af a = [tw a.text,tg Ir,tw a.name]:=by rw [Cz];unfold Eg;rw [hk];rfl
 unfold Dn at hs;rw [hk] at hs
 replace hs:((a.kids.length:Int)==0)=true:=hs
 have hkid:=aP (by simpa using hs);have hnum:=K6 hf ⟨by omega,by omega,by omega,by omega,by omega⟩;have er:Dy a=⟨14,a.text,a.name,0,[],0⟩:=by rw [S9 hkid,hk,hnum]
 have k1:=H0 (H1 hn (by rw [hk];rfl) (by omega));have nh:=Vo k1;rw [e2,er];show D3 E (Cg pre (tw a.text::tg Ir::tw a.name::post) d)=_
 have e3:totL.find? (fun s=>Ea s.1 (Cg pre (tw a.text::tg Ir::tw a.name::post) d))=none:=by
  rw [List.find?_eq_none];intro x _;rw [Ci,nh];decide
 unfold D3;rw [Ci,nh,e3,Ci,nh,Ci,nh,nxt_name k1];simp only [Ak,↓reduceIte];rw [(Dk k1).1,(Dk k1).2,D9 (t:=tg Ir) (by decide),Hy hp (A6 rfl (A6 rfl (A6 rfl hq))),Ci,app1];have e5:(pre ++ [tw a.text,tg Ir]) ++ [tw a.name]=pre ++ [tw a.text,tg Ir,tw a.name]:=by simp
 rcases nL hn hk with h1 | h1
 .
  have k2:=H0 h1;rw [Vo k2,(Dk k2).1,(Dk k2).2,e5];rfl
 rw [h1] at e5 ⊢;rw [show G8 (tw F6) F6=true by decide,if_pos rfl,Hw,e5]
theorem xO {a:Syn}{p:Pl}{E:PS->Syn×PS}(h:Al a p=0)(hk:a.kind=15)(hp:F3 pre)(hq:F3 post):D3 E (Cg pre (Af a++post) d)=(Dy a,Cg (pre++Af a) post d):=by
 obtain ⟨_,hs,hn,hf⟩:=Ct (Cq h).1;have e2:Af a = [tw Gv,Kd,tw a.text,Jt]:=by rw [Cz];unfold Eg;rw [hk];rfl
 unfold Dn at hs;rw [hk] at hs
 replace hs:((a.kids.length:Int)==0)=true:=hs
 have hkid:=aP (by simpa using hs);have hnum:=K6 hf ⟨by omega,by omega,by omega,by omega,by omega⟩
 have hname:a.name = []:=by
  unfold Dl at hf;rw [hk] at hf
  replace hf:(if (Mz a != 0)=true then Mz a else if ((!true && !(a.text == []))||(!false && !(a.name == [])))=true then 3 else 0)=0:=hf
  split at hf
  . rename_i h1;rw [hf] at h1;cases h1
  split at hf
  . cases hf
  rename_i h2;simpa using h2
 have er:Dy a=⟨15,a.text,[],0,[],0⟩:=by rw [S9 hkid,hk,hnum,hname]
 have k1:=H0 (H1 hn (by rw [hk];rfl) (by omega));rw [e2,er];show D3 E (Cg pre (tw Gv::Kd::tw a.text::Jt::post) d)=_
 have e3:totL.find? (fun s=>Ea s.1 (Cg pre (tw Gv::Kd::tw a.text::Jt::post) d))=none:=by
  rw [List.find?_eq_none];intro x hx;rw [Ci];revert x;decide
 unfold D3;rw [Ci,show G8 (tw Gv) Ee=false by decide,e3,Ci,show G8 (tw Gv) M6=false by decide,Ci,show G8 (tw Gv) Gv=true by decide];simp only [Ak,↓reduceIte];rw [Hw,D9 (t:=Kd) (by decide),(Dk k1).1,(Dk k1).2,D9 (t:=Jt) (by decide),Hy hp (A6 rfl (A6 rfl (A6 rfl (A6 rfl hq))))];simp
theorem oK:G8 N8 D1=true:=by decide
theorem tG {x y:Ag}(h1:Pk x=false)(h2:Pk y=false):cM (Cg pre (Kd::tw x::tg Ir::tw y::post) d)=((x,y),Cg (pre ++ [Kd,tw x,tg Ir,tw y]) post d):=by
 unfold cM;simp only;rw [D9 (t:=Kd) (by decide),(Dk h1).1,(Dk h1).2,D9 (t:=tg Ir) (by decide),(Dk h2).1,(Dk h2).2];simp
theorem zU {a:Syn}{p:Pl}{E:PS->Syn×PS}(h:Al a p=0)(hk:a.kind=16)(hp:F3 pre)(hq:F3 post):D3 E (Cg pre (Af a++post) d)=(Dy a,Cg (pre++Af a) post d):=by
 obtain ⟨_,hs,hn,hf⟩:=Ct (Cq h).1;have hi:=X4 hf hk;have k1:=H0 (H1 hn (by rw [hk];rfl) (by omega));have k2:=H0 (aN hn (by rw [hk];rfl) (by omega));have e0:Af a = [tw (Nl a.num)] ++ [Kd] ++ [tw a.text] ++ [tg Ir] ++ [tw a.name]++(if (a.kids.map Af == [])=true then [] else [N8]++(a.kids.map Af).getD 0 []) ++ [Jt]:=by rw [Cz];unfold Eg;rw [hk];rfl
 unfold Dn at hs;rw [hk] at hs
 replace hs:(if (a.num==1)=true then ((a.kids.length:Int)==0) else ((a.kids.length:Int)==1))=true:=hs
 by_cases h1:a.num=1
 .
  rw [h1] at hs
  replace hs:((a.kids.length:Int)==0)=true:=hs
  have hkid:=aP (by simpa using hs);have e2:Af a = [tw M6,Kd,tw a.text,tg Ir,tw a.name,Jt]:=by rw [e0,hkid,h1];rfl
  have er:Dy a=⟨16,a.text,a.name,1,[],0⟩:=by rw [S9 hkid,hk,h1]
  rw [e2,er];show D3 E (Cg pre (tw M6::Kd::tw a.text::tg Ir::tw a.name::Jt::post) d)=_
  have e3:totL.find? (fun s=>Ea s.1 (Cg pre (tw M6::Kd::tw a.text::tg Ir::tw a.name::Jt::post) d))=none:=by
   rw [List.find?_eq_none];intro x hx;rw [Ci];revert x;decide
  unfold D3;rw [Ci,show G8 (tw M6) Ee=false by decide,e3,Ci,show G8 (tw M6) M6=true by decide];simp only [Ak,↓reduceIte];rw [Hw,tG k1 k2,D9 (t:=Jt) (by decide),Hy hp (A6 rfl (A6 rfl (A6 rfl (A6 rfl (A6 rfl (A6 rfl hq))))))];simp
 rw [if_neg (by simpa using h1)] at hs;obtain ⟨x,hkid⟩:=Td (t:=a) (by simpa using hs);have hx:=Ei h (j:=0) (a:=x) (by rw [hkid];rfl)
 have hx13:x.kind=13:=Fx (n:=13) (by
  have e:Dm a 0 = .only 13:=by unfold Dm;rw [hk];rfl
  rw [<-e];exact hx.2)
 have e2:Af a=tw (Nl a.num)::Kd::tw a.text::tg Ir::tw a.name::N8::(Af x ++ [Jt]):=by rw [e0,hkid];simp
 have er:Dy a=⟨16,a.text,a.name,a.num,[Dy x],0⟩:=by rw [Fc,hk,hkid];rfl
 rw [e2,er];show D3 E (Cg pre (tw (Nl a.num)::Kd::tw a.text::tg Ir::tw a.name::N8::((Af x ++ [Jt])++post)) d)=_;have hn2:a.num=2\/a.num=3\/a.num=4\/a.num=5:=by omega
 have eL:G8 (tw (Nl a.num)) Ee=false:=by rcases hn2 with h | h | h | h <;> rw [h] <;> decide
 have e3:∀R:List Tok,totL.find? (fun s=>Ea s.1 (Cg pre (tw (Nl a.num)::R) d))=some (Nl a.num,a.num):=fun R=>by
  unfold totL;rw [List.find?_cons,List.find?_cons,List.find?_cons,List.find?_cons,Ci,Ci,Ci,Ci];rcases hn2 with h | h | h | h <;> rw [h] <;> rfl
 unfold D3;rw [Ci,eL,e3];simp only [Ak,↓reduceIte];have eR:F3 ((Af x ++ [Jt])++post):=((De x).app (show F3 [Jt] from rfl)).app hq;have hlit:=(tW (d:=d) (pre:=pre ++ [tw (Nl a.num)] ++ [Kd,tw a.text,tg Ir,tw a.name] ++ [N8]) (post:=Jt::post) hx.1 hx13 (((hp.app (D8 _ rfl)).app (show F3 [Kd,tw a.text,tg Ir,tw a.name] from rfl)).app (D8 _ rfl)) (A6 rfl hq)).1;rw [Hw,tG k1 k2,D9 oK,C1 (Af x),show [Jt]++post=Jt::post from rfl,hlit,D9 (t:=Jt) (by decide),Hy hp (A6 rfl (A6 rfl (A6 rfl (A6 rfl (A6 rfl (A6 rfl ((De x).app (A6 rfl hq))))))))];simp
theorem nX {a:Syn}{p:Pl}(E:PS->Syn×PS)(h:Al a p=0)(hk:13<=a.kind/\a.kind<=16)(hp:F3 pre)(hq:F3 post):D3 E (Cg pre (Af a++post) d)=(Dy a,Cg (pre++Af a) post d):=by
 by_cases h3:a.kind=13
 .
  have:=tW (d:=d) h h3 hp hq;rw [this.2 E,this.1]
 by_cases h4:a.kind=14
 . exact ref_read h h4 hp hq
 by_cases h5:a.kind=15
 . exact xO h h5 hp hq
 exact zU h (by omega) hp hq
def fT:Nat->(PS->Syn×PS)×(PS->Syn×PS)
 | 0=>(Gd,Gd)
 | n+1=>My n
theorem neg_low:∀n,My n=(N3 (fT n).2 (fT n).1,orP (fT n).2 (fT n).1)
 | 0=>rfl
 | _+1=>rfl
def RE (a:Syn):Prop:=∀(n:Nat) (d:Int) (pre post:List Tok),0<=d->d+(C7 a:Int)<=64->64<=(n:Int)+d->F3 pre->F3 post->Bq post->
 (My n).2 (Cg pre (Af a++post) d)=(Dy a,Cg (pre++Af a) post d)/\(a.kind≠17->(My n).1 (Cg pre (Af a++post) d)=(Dy a,Cg (pre++Af a) post d))
theorem opnd {q a:Syn}(ha:Al a .exps=0)(hr:RE a)(hc:Dc q.kind a.kind=false->a.kind<=16){n:Nat}(h0:0<=d)(hd:d+((C7 a+(if Dc q.kind a.kind then 1 else 0):Nat):Int)<=64)(hn:64<=(n:Int)+d)(hp:F3 pre)(hq:F3 post) :
    D3 (fT n).2 (Cg pre (Gj q a (Af a)++post) d)=(Dy a,Cg (pre++Gj q a (Af a)) post d):=by
  have hk:=N2 (Ct (Cq ha).1).1;unfold Gj;cases hcl:Dc q.kind a.kind with
  | false=>
    simp only [Ak,↓reduceIte];exact nX _ ha ⟨hk.1,hc hcl⟩ hp hq
  | true=>
    rw [hcl] at hd;simp only [↓reduceIte] at hd ⊢;obtain ⟨m,rfl⟩:∃m,n=m+1:=⟨n-1,by omega⟩;have h1:=(hr m (d+1) (pre ++ [Kd]) (Jt::post) (by omega) (by omega) (by omega) (hp.app (show F3 [Kd] from rfl)) (A6 rfl hq) (.rp _)).1;have h2:=fX (E:=(My m).2) (d:=d) (pre:=pre) (post:=post) h0 (by omega) h1;have e:([Kd]++Af a ++ [Jt])++post=Kd::(Af a++Jt::post):=by simp
    rw [e];show D3 (My m).2 _=_;rw [h2];simp
theorem Um {q a:Syn}(ha:Al a .exps=0)(hc:Dc q.kind a.kind=false->a.kind<=16):∃c r,Gj q a (Af a)=c::r/\G8 c F7=false:=by
  have hk:=N2 (Ct (Cq ha).1).1;obtain ⟨_,_,hn,hf⟩:=Ct (Cq ha).1;unfold Gj;cases hcl:Dc q.kind a.kind with
  | true=>exact ⟨Kd,_,rfl,by decide⟩
  | false=>
    have hk2:=hc hcl;simp only [Ak,↓reduceIte];by_cases h3:a.kind=13
    . have e2:Af a=pT a:=by rw [Cz];unfold Eg;rw [h3];rfl
      rw [e2];unfold pT cZ;split
      . split
        . exact ⟨_,_,rfl,by decide⟩
        exact ⟨_,_,rfl,Pm (.inl rfl) _⟩
      . split
        . split
          . exact ⟨_,_,rfl,by decide⟩
          exact ⟨_,_,rfl,by decide⟩
        exact ⟨_,_,rfl,Pm (.inr rfl) _⟩
    by_cases h4:a.kind=14
    . have e2:Af a = [tw a.text,tg Ir,tw a.name]:=by rw [Cz];unfold Eg;rw [h4];rfl
      exact ⟨_,_,e2,Vo (H0 (H1 hn (by rw [h4];rfl) (by omega))) _⟩
    by_cases h5:a.kind=15
    . have e2:Af a = [tw Gv,Kd,tw a.text,Jt]:=by rw [Cz];unfold Eg;rw [h5];rfl
      exact ⟨_,_,e2,by decide⟩
    have h6:a.kind=16:=by omega
    have e2:Af a = [tw (Nl a.num)] ++ [Kd] ++ [tw a.text] ++ [tg Ir] ++ [tw a.name]++(if (a.kids.map Af == [])=true then [] else [N8]++(a.kids.map Af).getD 0 []) ++ [Jt]:=by rw [Cz];unfold Eg;rw [h6];rfl
    have hi:=X4 hf h6;refine ⟨tw (Nl a.num),_,by rw [e2];simp only [C1];rfl,?_⟩;have:a.num=1\/a.num=2\/a.num=3\/a.num=4\/a.num=5:=by omega
    rcases this with h | h | h | h | h <;> rw [h] <;> decide
variable {pre post rest:List Tok} {d:Int} {t:Tok}
theorem bQ {F:PS->Syn×PS}{sg:List (Ag×Int)}{s:PS}{a b:Syn}{M:List Tok}{o:Ag×Int}
  (h1:F s=(a,Cg pre (t::rest) d)) (h2:sg.find? (fun x=>Ea x.1 (Cg pre (t::rest) d))=some o) (h3:F (Cg (pre ++ [t]) rest d)=(b,Cg M post d)) (h4:sg.find? (fun x=>Ea x.1 (Cg M post d))=none):J2 F sg s=(Mr o.2 a b a.pos,Cg M post d):=by
 have hn:∀(n:Nat) (c:Syn),I0 F sg n (Cg M post d) c=(c,Cg M post d):=fun n c=>by
  cases n with
  | zero=>rfl
  | succ n=>unfold I0;rw [h4]
 unfold J2 A3;rw [h1];unfold I0;simp only [h2,Hw,h3,hn]
theorem iY {sg:List (Ag×Int)}{s:PS}(h:∀x,x∈sg->Ea x.1 s=false):sg.find? (fun x=>Ea x.1 s)=none:=by
 rw [List.find?_eq_none];intro x hx;rw [h x hx];decide
theorem q_sum (hb:Bq post):zQ.find? (fun x=>Ea x.1 (Cg pre post d))=none:=iY fun x hx=>by
 have h:=NoOp.q (pre:=pre) (d:=d) hb;simp only [zQ,Db,Qu,or_false] at hx;rcases hx with rfl | rfl
 . exact h.1.2.2.1
 exact h.1.2.2.2
theorem nQ (hb:Bq post):rX.find? (fun x=>Ea x.1 (Cg pre post d))=none:=iY fun x hx=>by
 simp only [rX,Db,Qu,or_false] at hx;subst hx;exact (NoOp.q hb).1.2.1
theorem q_or (hb:Bq post):orL.find? (fun x=>Ea x.1 (Cg pre post d))=none:=iY fun x hx=>by
 simp only [orL,Db,Qu,or_false] at hx;subst hx;exact (NoOp.q hb).1.1
theorem jU {E N:PS->Syn×PS}{s:PS}{r:Syn×PS}(hn:Ea F7 s=false)(h:Ms E s=r):N3 E N s=r:=by unfold N3;rw [hn];exact h
theorem bO {E N:PS->Syn×PS}{s:PS}{r:Syn×PS}(h:N3 E N s=r)(hs:rX.find? (fun x=>Ea x.1 r.2)=none):fO E N s=r:=by
 have:J2 (N3 E N) rX s=N3 E N s:=Yz (by rw [h];exact hs);unfold fO;rw [this,h]
theorem uP {E N:PS->Syn×PS}{s:PS}{r:Syn×PS}(h:fO E N s=r)(hs:orL.find? (fun x=>Ea x.1 r.2)=none):orP E N s=r:=by
 have:J2 (fO E N) orL s=fO E N s:=Yz (by rw [h];exact hs);unfold orP;rw [this,h]
theorem zR {E:PS->Syn×PS}{s:PS}{r:Syn×PS}(h:D3 E s=r)(hs:zQ.find? (fun x=>Ea x.1 r.2)=none):Kn E s=r:=by
 have:J2 (D3 E) zQ s=D3 E s:=Yz (by rw [h];exact hs);unfold Kn;rw [this,h]
theorem oL {E:PS->Syn×PS}{s:PS}{r:Syn×PS}(h:Kn E s=r)(hs:Ea w_lt r.2=false/\Ea w_le r.2=false/\Ea w_gt r.2=false/\Ea w_ge r.2=false/\Ea nY r.2=false/\Ea wN r.2=false):Ms E s=r:=by
 obtain ⟨h1,h2,h3,h4,h5,h6⟩:=hs;rw [cmpP_K,h];unfold cmpK;rw [h1,h2,h3,h4,h5,h6];rfl
theorem bin_read {E N:PS->Syn×PS}{n:Int}{A B:Syn}{L R:List Tok}(hn:n=5\/n=6\/n=7\/n=8\/n=9\/n=10\/n=11)(hA:A.pos=0)(hb:Bq post)
  (u1:D3 E (Cg pre (L++Em n::(R++post)) d)=(A,Cg (pre++L) (Em n::(R++post)) d)) (h2:D3 E (Cg (pre++L ++ [Em n]) (R++post) d)=(B,Cg (pre++L ++ [Em n]++R) post d))
  (n1:∀q,Ea F7 (Cg pre (L++q) d)=false) (n2:∀p q,Ea F7 (Cg p (R++q) d)=false) :
  orP E N (Cg pre (L++Em n::(R++post)) d)=(Mr n A B 0,Cg (pre++L ++ [Em n]++R) post d):=by
 have hq:=NoOp.q (pre:=pre++L ++ [Em n]++R) (d:=d) hb;have s2:Kn E (Cg (pre++L ++ [Em n]) (R++post) d)=_:=zR h2 (q_sum hb);have c2:Ms E (Cg (pre++L ++ [Em n]) (R++post) d)=_:=oL s2 hq.2;have t2:N3 E N (Cg (pre++L ++ [Em n]) (R++post) d)=_:=jU (n2 _ _) c2;have a2:fO E N (Cg (pre++L ++ [Em n]) (R++post) d)=_:=bO t2 (nQ hb);have hitS:∀w,Ea w (Cg (pre++L) (Em n::(R++post)) d)=G8 (Em n) w:=fun w=>Ci
 have noS:n≠5->n≠6->zQ.find? (fun x=>Ea x.1 (Cg (pre++L) (Em n::(R++post)) d))=none:=fun h5 h6=>iY fun x hx=>by
  rw [hitS];rcases hn with h | h | h | h | h | h | h
  . exact absurd h h5
  . exact absurd h h6
  all_goals (subst h;revert x;decide)
 have noC:n≠7->n≠8->n≠9->G8 (Em n) w_lt=false/\G8 (Em n) w_le=false/\G8 (Em n) w_gt=false/\G8 (Em n) w_ge=false/\G8 (Em n) nY=false/\G8 (Em n) wN=false:=fun h7 h8 h9=>by
  rcases hn with h | h | h | h | h | h | h
  . subst h;decide
  . subst h;decide
  . exact absurd h h7
  . exact absurd h h8
  . exact absurd h h9
  . subst h;decide
  subst h;decide
 by_cases hs:n=5\/n=6
 .
  have c:Kn E (Cg pre (L++Em n::(R++post)) d)=(Mr n A B A.pos,Cg (pre++L ++ [Em n]++R) post d):=
   bQ (o:=(Mk n,n)) u1 (by unfold zQ;rw [List.find?_cons,List.find?_cons,hitS,hitS];rcases hs with h | h <;> subst h <;> rfl) h2 (q_sum hb)
  rw [hA] at c;exact uP (bO (jU (n1 _) (oL c hq.2)) (nQ hb)) (q_or hb)
 have s1:Kn E (Cg pre (L++Em n::(R++post)) d)=_:=zR u1 (noS (fun h=>hs (.inl h)) (fun h=>hs (.inr h)));by_cases hc:n=7\/n=8\/n=9
 .
  have c:Ms E (Cg pre (L++Em n::(R++post)) d)=(Mr n A B 0,Cg (pre++L ++ [Em n]++R) post d):=by
   rw [cmpP_K,s1];unfold cmpK;rw [hitS,hitS,hitS,hitS,hitS,hitS];simp only [Hw,s2,hA];rcases hc with h | h | h <;> subst h <;> rfl
  exact uP (bO (jU (n1 _) c) (nQ hb)) (q_or hb)
 have c1:Ms E (Cg pre (L++Em n::(R++post)) d)=_:=oL s1 (by
  have:=noC (fun h=>hc (.inl h)) (fun h=>hc (.inr (.inl h))) (fun h=>hc (.inr (.inr h)));simp only [hitS];exact this)
 have t1:N3 E N (Cg pre (L++Em n::(R++post)) d)=_:=jU (n1 _) c1;by_cases ha:n=10
 .
  have c:fO E N (Cg pre (L++Em n::(R++post)) d)=(Mr n A B A.pos,Cg (pre++L ++ [Em n]++R) post d):=
   bQ (o:=(kZ,10)) t1 (by unfold rX;rw [List.find?_cons,hitS];subst ha;rfl) t2 (nQ hb) |>.trans (by subst ha;rfl)
  rw [hA] at c;exact uP c (q_or hb)
 have hn11:n=11:=by omega
 have a1:fO E N (Cg pre (L++Em n::(R++post)) d)=_:=bO t1 (iY fun x hx=>by
  rw [hitS];subst hn11;revert x;decide)
 have c:orP E N (Cg pre (L++Em n::(R++post)) d)=(Mr n A B A.pos,Cg (pre++L ++ [Em n]++R) post d):=
  bQ (o:=(wO,11)) a1 (by unfold orL;rw [List.find?_cons,hitS];subst hn11;rfl) a2 (q_or hb) |>.trans (by subst hn11;rfl)
 rw [hA] at c;exact c
theorem uO {E N:PS->Syn×PS}{A:Syn}{s:PS}{M:List Tok}(hb:Bq post)(h:D3 E s=(A,Cg M post d))(hn:Ea F7 s=false):N3 E N s=(A,Cg M post d)/\orP E N s=(A,Cg M post d):=by
 have t:=jU (N:=N) hn (oL (zR h (q_sum hb)) (NoOp.q hb).2);exact ⟨t,uP (bO t (nQ hb)) (q_or hb)⟩
theorem Xo {L:List Tok}(h:∃c r,L=c::r/\G8 c F7=false)(p q:List Tok):Ea F7 (Cg p (L++q) d)=false:=by
 obtain ⟨c,r,rfl,h⟩:=h;rw [Co,Ci,h]
theorem bZ (a:Syn):Al a .exps=0->RE a:=by
 refine Syn.ind (P:=fun a=>Al a .exps=0->RE a) (fun a ih h=>?_) a;have hk:=N2 (Ct (Cq h).1).1;obtain ⟨_,hs,hn,hf⟩:=Ct (Cq h).1;intro n d pre post h0 hd hnn hp hq hb;rw [neg_low n];have hde:=Mu a;by_cases h17:a.kind=17
 .
  refine ⟨?_,fun h=>absurd h17 h⟩;unfold Dn at hs;rw [h17] at hs
  replace hs:((a.kids.length:Int)==2)=true:=hs
  obtain ⟨x,y,hkid⟩:=Vk (t:=a) (by simpa using hs)
  have cx:Al x .exps=0:=by
   have:=(Ei h (j:=0) (a:=x) (by rw [hkid];rfl)).1;have e:Dm a 0 = .exps:=by unfold Dm;rw [h17];rfl
   rwa [e] at this
  have cy:Al y .exps=0:=by
   have:=(Ei h (j:=1) (a:=y) (by rw [hkid];rfl)).1;have e:Dm a 1 = .exps:=by unfold Dm;rw [h17];rfl
   rwa [e] at this
  have rx:=ih x (by rw [hkid];simp) cx;have ry:=ih y (by rw [hkid];simp) cy;have kx:=N2 (Ct (Cq cx).1).1;have ky:=N2 (Ct (Cq cy).1).1
  have clx:Dc a.kind x.kind=false->x.kind<=16:=fun hc=>by
   rw [h17] at hc
   replace hc:((x.kind==17)||(x.kind==18))=false:=hc
   simp only [Eb,Hm] at hc;omega
  have cly:Dc a.kind y.kind=false->y.kind<=16:=fun hc=>by
   rw [h17] at hc
   replace hc:((y.kind==17)||(y.kind==18))=false:=hc
   simp only [Eb,Hm] at hc;omega
  have hdl:E8 a.kind a.kids=max (C7 x+(if Dc a.kind x.kind then 1 else 0)) (max (C7 y+(if Dc a.kind y.kind then 1 else 0)) 0):=by rw [hkid,E8,E8,E8]
  have hi:=fZ hf h17
  have e2:Af a=Gj a x (Af x)++Em a.num::Gj a y (Af y):=by
   have k0:Bi a 0=x:=by unfold Bi;rw [hkid];rfl
   have k1:Bi a 1=y:=by unfold Bi;rw [hkid];rfl
   rw [Cz];unfold Eg;rw [h17];show Gj a (Bi a 0) ((a.kids.map Af).getD 0 []) ++ [] ++ [Em a.num] ++ []++Gj a (Bi a 1) ((a.kids.map Af).getD 1 [])=_;rw [k0,k1,hkid];simp
  have hnm:a.text = []/\a.name = []:=by
   unfold Dl at hf;rw [h17] at hf
   replace hf:(if (Mz a != 0)=true then Mz a else if ((!false && !(a.text == []))||(!false && !(a.name == [])))=true then 3 else 0)=0:=hf
   split at hf
   . rename_i h1;rw [hf] at h1;cases h1
   split at hf
   . cases hf
   rename_i h2;have h3:(!(a.text == []) || !(a.name == []))=false:=by simpa using h2
   simp only [Eb,Bd] at h3;exact ⟨by simpa using h3.1,by simpa using h3.2⟩
  have er:Dy a=Mr a.num (Dy x) (Dy y) 0:=by rw [Fc,h17,hkid,hnm.1,hnm.2];rfl
  have eW:∀(z:Syn),F3 (Gj a z (Af z)):=fun z=>Vc (De z)
  have eO:F3 [Em a.num]:=D8 _ (by unfold Em;split <;> rfl);rw [e2,er]
  have key:=bin_read (E:=(fT n).2) (N:=(fT n).1) (pre:=pre) (post:=post) (d:=d) (n:=a.num) (A:=Dy x) (B:=Dy y) (L:=Gj a x (Af x)) (R:=Gj a y (Af y)) hi (oQ x) hb
   (opnd cx rx clx h0 (by omega) hnn hp (A6 (by unfold Em;split <;> rfl) ((eW y).app hq))) (opnd cy ry cly h0 (by omega) hnn ((hp.app (eW x)).app eO) hq) (fun q=>Xo (Um cx clx) _ _) (fun p q=>Xo (Um cy cly) _ _)
  rw [C1,Co];show orP (fT n).2 (fT n).1 _=_;rw [key];simp
 by_cases h18:a.kind=18
 .
  unfold Dn at hs;rw [h18] at hs
  replace hs:((a.kids.length:Int)==1)=true:=hs
  obtain ⟨x,hkid⟩:=Td (t:=a) (by simpa using hs)
  have cx:Al x .exps=0:=by
   have:=(Ei h (j:=0) (a:=x) (by rw [hkid];rfl)).1;have e:Dm a 0 = .exps:=by unfold Dm;rw [h18];rfl
   rwa [e] at this
  have rx:=ih x (by rw [hkid];simp) cx;have kx:=N2 (Ct (Cq cx).1).1;have hdl:E8 a.kind a.kids=max (C7 x+(if Dc a.kind x.kind then 1 else 0)) 0:=by rw [hkid,E8,E8]
  have hcl:Dc a.kind x.kind=(x.kind==17):=by rw [h18];rfl
  rw [h18] at hde
  replace hde:C7 a=E8 18 a.kids+1:=hde
  rw [h18] at hdl;obtain ⟨m,rfl⟩:∃m,n=m+1:=⟨n-1,by omega⟩
  have e2:Af a=tw F7::Gj a x (Af x):=by
   have k0:Bi a 0=x:=by unfold Bi;rw [hkid];rfl
   rw [Cz];unfold Eg;rw [h18];show [tw F7] ++ []++Gj a (Bi a 0) ((a.kids.map Af).getD 0 [])=_;rw [k0,hkid];rfl
  have hnum:=K6 hf ⟨by omega,by omega,by omega,by omega,by omega⟩
  have hnm:a.text = []/\a.name = []:=by
   unfold Dl at hf;rw [h18] at hf
   replace hf:(if (Mz a != 0)=true then Mz a else if ((!false && !(a.text == []))||(!false && !(a.name == [])))=true then 3 else 0)=0:=hf
   split at hf
   . rename_i h1;rw [hf] at h1;cases h1
   split at hf
   . cases hf
   rename_i h2;have h3:(!(a.text == []) || !(a.name == []))=false:=by simpa using h2
   simp only [Eb,Bd] at h3;exact ⟨by simpa using h3.1,by simpa using h3.2⟩
  have er:Dy a=⟨18,[],[],0,[Dy x],0⟩:=by rw [Fc,h18,hkid,hnm.1,hnm.2,hnum];rfl
  have inner:(My m).1 (Cg (pre ++ [tw F7]) (Gj a x (Af x)++post) (d+1))=(Dy x,Cg (pre ++ [tw F7]++Gj a x (Af x)) post (d+1)):=by
   have hp1:F3 (pre ++ [tw F7]):=hp.app (D8 _ rfl);by_cases hx:x.kind=17
   .
    have hc1:Dc a.kind x.kind=true:=by rw [hcl,hx];rfl
    have hc18:Dc 18 x.kind=true:=by rw [<-h18];exact hc1
    rw [hc18] at hdl;have u:=opnd (q:=a) (a:=x) (d:=d+1) (n:=m) (pre:=pre ++ [tw F7]) (post:=post) cx rx (fun hc=>by rw [hc1] at hc;cases hc) (by omega) (by rw [hc1];simp only [↓reduceIte] at hdl ⊢;omega) (by omega) hp1 hq;rw [neg_low m];exact (uO (N:=(fT m).1) hb u (Xo (Um cx (fun hc=>by rw [hc1] at hc;cases hc)) _ _)).1
   have hc1:Dc a.kind x.kind=false:=by rw [hcl];simpa using hx
   have hc18:Dc 18 x.kind=false:=by rw [<-h18];exact hc1
   rw [hc18] at hdl;simp only [Ak,↓reduceIte] at hdl;have ew:Gj a x (Af x)=Af x:=by unfold Gj;rw [hc1];rfl
   rw [ew];exact (rx m (d+1) (pre ++ [tw F7]) post (by omega) (by omega) (by omega) hp1 hq hb).2 hx
  have ti:Ea F7 (Cg pre (tw F7::(Gj a x (Af x)++post)) d)=true:=by rw [Ci];decide
  have eo:Fs (Cg pre (tw F7::(Gj a x (Af x)++post)) d)=0:=Hy hp (A6 rfl ((Vc (De x)).app hq))
  have key:N3 (My m).2 (My m).1 (Cg pre (tw F7::(Gj a x (Af x)++post)) d)=(Dy a,Cg (pre++tw F7::Gj a x (Af x)) post d):=by
   unfold N3;rw [ti,eo];rw [if_neg (by decide)];rw [uH h0 (by omega)];simp only [inner];rw [We h0 (by omega),er];simp
  rw [e2];exact ⟨uP (bO key (nQ hb)) (q_or hb),fun _=>key⟩
 have hc0:Dc a.kind a.kind=false:=by
  unfold Dc;rw [if_neg (by simpa using h17),if_neg (by simpa using h18)]
 have ew:Gj a a (Af a)=Af a:=by unfold Gj;rw [hc0];rfl
 have hf1:=Um (q:=a) h (fun _=>by omega);rw [ew] at hf1;have u:=nX (d:=d) (pre:=pre) (post:=post) (fT n).2 h ⟨hk.1,by omega⟩ hp hq;have:=uO (N:=(fT n).1) hb u (Xo hf1 _ _);exact ⟨this.2,fun _=>this.1⟩
variable {pre post rest:List Tok} {d:Int} {t:Tok}
def E3 (l:List Syn):List Tok:=l.flatMap fun a=>N8::Af a
theorem J6:∀(x:Syn) (r:List Syn),Hz ((x::r).map Af)=Af x++E3 r
  | x,[]=>by simp [Hz,E3]
  | x,y::r=>by
    have:=J6 y r;rw [Ao] at this;rw [Ao,Ao,Hz,this];simp [E3]
theorem Z9 (l:List Syn):F3 (E3 l):=by
 induction l with
 | nil=>rfl
 | cons x r ih=>exact A6 rfl ((De x).app ih)
theorem wB (l:List Syn):l.length<=(E3 l).length:=by
 induction l with
 | nil=>exact Br _
 | cons x r ih=>show _<=(N8::(Af x++E3 r)).length;simp only [Bb,Au];omega
theorem aG (pre L:List Tok):A3 (Cg pre L d)=L.length+1:=by
 unfold A3 Cg;simp
theorem Vm {F:PS->Syn×PS}{B:List Tok->Prop}(hB:∀r,B (N8::r))(hb:B post)(hq:F3 post)(hc:∀p,Ea D1 (Cg p post d)=false) :
    ∀(l:List Syn) (n:Nat) (pre:List Tok) (out:List Syn),l.length<n->(∀a∈l,∀p q,F3 p->F3 q->B q->F (Cg p (Af a++q) d)=(Dy a,Cg (p++Af a) q d))->F3 pre->
      Ht F n (Cg pre (E3 l++post) d) out=(out++l.map Dy,Cg (pre++E3 l) post d)
  | [],n,pre,out,hn,_,hp=>by
    obtain ⟨m,rfl⟩:∃m,n=m+1:=⟨n-1,by omega⟩;show Ht F (m+1) (Cg pre post d) out=_;unfold Ht;rw [hc];simp [E3]
  | a::r,n,pre,out,hn,hF,hp=>by
    obtain ⟨m,rfl⟩:∃m,n=m+1:=⟨n-1,by omega⟩;have e:E3 (a::r)++post=N8::(Af a++(E3 r++post)):=by simp [E3]
    have hBr:B (E3 r++post):=by
      cases r with
      | nil=>exact hb
      | cons y s=>exact hB _
    have h1:=hF a (I7 ..) (pre ++ [N8]) (E3 r++post) (hp.app (D8 _ rfl)) ((Z9 r).app hq) hBr;rw [e];unfold Ht;rw [Ci,show G8 N8 D1=true by decide,if_pos rfl,Hw,h1];simp only;rw [Vm hB hb hq hc r m _ _ (by rw [Bb] at hn;omega) (fun x hx=>hF x (F9 _ hx)) ((hp.app (D8 _ rfl)).app (De a))];simp [E3]
theorem vP (p:List Tok):Ea D1 (Cg p (Jt::post) d)=false:=by rw [Ci];decide
theorem EE_neg:EE=(My 64).2:=rfl
theorem iR {a:Syn}{p:Pl}(h:Al a p=0)(hk:a.kind=5)(h0:0<=d)(hd:d+(C7 a:Int)<=64)(hp:F3 pre)(hq:F3 post)(hb:Bq post):I5 EE (Cg pre (Af a++post) d)=(Dy a,Cg (pre++Af a) post d):=by
  obtain ⟨_,hs,hn,hf⟩:=Ct (Cq h).1;have k1:=H0 (H1 hn (by rw [hk];rfl) (by omega));have k2:=H0 (aN hn (by rw [hk];rfl) (by omega));have hnum:=K6 hf ⟨by omega,by omega,by omega,by omega,by omega⟩;have e0:Af a = [tw a.text] ++ [] ++ [tw a.name]++(if (a.kids.map Af == [])=true then [] else [tw Me]++(a.kids.map Af).getD 0 []):=by rw [Cz];unfold Eg;rw [hk];rfl
  unfold Dn at hs;rw [hk] at hs
  replace hs:decide ((a.kids.length:Int)<=1)=true:=hs
  simp only [Ck] at hs
  match hkid:a.kids with
  | []=>
    have e2:Af a = [tw a.text,tw a.name]:=by rw [e0,hkid];rfl
    have er:Dy a=⟨5,a.text,a.name,0,[],0⟩:=by rw [S9 hkid,hk,hnum]
    rw [e2,er];show I5 EE (Cg pre (tw a.text::tw a.name::post) d)=_;unfold I5;simp only;rw [(Dk k1).1,(Dk k1).2,(Dk k2).1,(Dk k2).2,hb.not (by decide),Hy hp (A6 rfl (A6 rfl hq))];simp
  | [x]=>
    have hx:=Ei h (j:=0) (a:=x) (by rw [hkid];rfl);have ek:Dm a 0 = .exps:=by unfold Dm;rw [hk];rfl
    rw [ek] at hx;have e2:Af a=tw a.text::tw a.name::tw Me::Af x:=by rw [e0,hkid];simp
    have er:Dy a=⟨5,a.text,a.name,0,[Dy x],0⟩:=by rw [Fc,hk,hkid,hnum];rfl
    have hde:=Mu a;rw [hk,hkid,E8,E8] at hde;have hde2:C7 x<=C7 a:=by rw [hde];omega
    rw [e2,er];show I5 EE (Cg pre (tw a.text::tw a.name::tw Me::(Af x++post)) d)=_;have r:=(bZ x hx.1 64 d (pre ++ [tw a.text] ++ [tw a.name] ++ [tw Me]) post h0 (by omega) (by omega) (((hp.app (D8 _ rfl)).app (D8 _ rfl)).app (D8 _ rfl)) hq hb).1;unfold I5;simp only;rw [(Dk k1).1,(Dk k1).2,(Dk k2).1,(Dk k2).2,Ci,show G8 (tw Me) Me=true by decide,if_pos rfl,Hw,EE_neg,r,Hy hp (A6 rfl (A6 rfl (A6 rfl ((De x).app hq))))];simp
  | x::y::r=>rw [hkid] at hs;simp only [Bb] at hs;omega
def lowT:Nat->PS->Syn×PS
 | 0=>Gd
 | n+1=>kD EE n
theorem pat_low:∀n,kD EE n=U2 EE (lowT n)
 | 0=>rfl
 | _+1=>rfl
def RT (a:Syn):Prop:=∀(n:Nat) (d:Int) (pre post:List Tok),0<=d->d+(C7 a:Int)<=64->64<=(n:Int)+d->F3 pre->F3 post->Bq post->
 kD EE n (Cg pre (Af a++post) d)=(Dy a,Cg (pre++Af a) post d)
theorem xX {k:Int}(hk:6<=k/\k<=12):formL.find? (fun f=>Ea f.1 (Cg pre (tw (Fz k)::post) d))=some (Fz k,k):=by
 unfold formL;rw [List.find?_cons,List.find?_cons,List.find?_cons,List.find?_cons,List.find?_cons,List.find?_cons,List.find?_cons,Ci,Ci,Ci,Ci,Ci,Ci,Ci];have:k=6\/k=7\/k=8\/k=9\/k=10\/k=11\/k=12:=by omega
 rcases this with rfl | rfl | rfl | rfl | rfl | rfl | rfl <;> rfl
theorem form_none {s:Ag}(h:Pk s=false):formL.find? (fun f=>Ea f.1 (Cg pre (tw s::post) d))=none:=by
 rw [List.find?_eq_none];intro x _;rw [Ci,Vo h];decide
theorem call_toks {a:Syn}(hk:6<=a.kind/\a.kind<=12):Af a=tw (Fz a.kind)::Kd::(Hz (a.kids.map Af)++((if (a.kind==11)=true then [N8]++cZ a.num else []) ++ [Jt])):=by
 have no:∀k:Int,k<6\/12<k->¬(a.kind==k)=true:=fun k h=>by simp only [beq_iff_eq];omega
 rw [Cz];unfold Eg;rw [if_neg (no 0 (by omega)),if_neg (no 1 (by omega)),if_neg (no 2 (by omega)),if_neg (no 3 (by omega)),if_neg (no 5 (by omega)),if_neg (no 13 (by omega)),if_neg (no 14 (by omega)),if_neg (no 15 (by omega)),if_neg (no 16 (by omega)),if_neg (no 17 (by omega)),if_neg (no 18 (by omega))];simp
theorem Tb {a:Syn}{n:Nat}{K:List Syn}{m:Int}{M:List Tok}(hk:6<=a.kind/\a.kind<=12)(h0:0<=d)(hd:d<64)(hp:F3 pre)(hq:F3 (Af a++post))
  (h:kC EE (lowT n) a.kind ⟨a.kind,[],[],0,[],0⟩ (Cg (pre ++ [tw (Fz a.kind)]) (Kd::(M++post)) (d+1))=(⟨a.kind,[],[],m,K,0⟩,Cg (pre ++ [tw (Fz a.kind)]++Kd::M) post (d+1)))
  (e:Af a=tw (Fz a.kind)::Kd::M):U2 EE (lowT n) (Cg pre (Af a++post) d)=(⟨a.kind,[],[],m,K,0⟩,Cg (pre++Af a) post d):=by
 rw [e] at hq ⊢;show U2 EE (lowT n) (Cg pre (tw (Fz a.kind)::(Kd::(M++post))) d)=_;rw [pat_form (t:=tw (Fz a.kind)) (post:=Kd::(M++post)) h0 hd hp hq (xX hk)];simp only;rw [h,We h0 hd];simp
theorem nP {a:Syn}(hf:Dl a=0)(hk:(Nu a.kind).1=false/\(Nu a.kind).2=false/\a.kind≠13):a.text = []/\a.name = []:=by
 unfold Dl at hf;rw [if_neg (by simpa using hk.2.2)] at hf;split at hf
 . rename_i h1;rw [hf] at h1;cases h1
 split at hf
 . cases hf
 rename_i h2;rw [hk.1,hk.2.1] at h2;have h3:(!(a.text == []) || !(a.name == []))=false:=by simpa using h2
 simp only [Eb,Bd] at h3;exact ⟨by simpa using h3.1,by simpa using h3.2⟩
theorem pat_read (a:Syn):Al a .pats=0->RT a:=by
  refine Syn.ind (P:=fun a=>Al a .pats=0->RT a) (fun a ih h=>?_) a;have hkk:=Zl (Ct (Cq h).1).1;obtain ⟨_,hs,hn,hf⟩:=Ct (Cq h).1;intro n d pre post h0 hd hnn hp hq hb;rw [pat_low];by_cases h5:a.kind=5
  . have k1:=H0 (H1 hn (by rw [h5];rfl) (by omega))
    have e0:Af a = [tw a.text] ++ [] ++ [tw a.name]++(if (a.kids.map Af == [])=true then [] else [tw Me]++(a.kids.map Af).getD 0 []):=by rw [Cz];unfold Eg;rw [h5];rfl
    have ev:=iR (post:=post) (pre:=pre) h h5 h0 hd hp hq hb;obtain ⟨L,eL⟩:∃L,Af a=tw a.text::L:=⟨_,by rw [e0];simp only [C1];rfl⟩;unfold U2;rw [eL,Co,form_none k1];rw [eL,Co] at ev;exact ev
  . have hk:6<=a.kind/\a.kind<=12:=by omega
    have hde:=Mu a
    have e1:((a.kind==18)||(isPat a.kind&&(a.kind != 5)))=true:=by
      have h6:(a.kind != 5)=true:=by simpa using h5
      unfold isPat;rw [h6,Iu (by omega:(5:Int)<=a.kind),Iu (by omega:a.kind<=12)];simp
    rw [if_pos e1] at hde;obtain ⟨m,rfl⟩:∃m,n=m+1:=⟨n-1,by omega⟩
    have hkey:∀k:Int,6<=k->k<=12->(Nu k).1=false/\(Nu k).2=false:=fun k k6 k12=>by
      have:k=6\/k=7\/k=8\/k=9\/k=10\/k=11\/k=12:=by omega
      rcases this with rfl | rfl | rfl | rfl | rfl | rfl | rfl <;> exact ⟨rfl,rfl⟩
    have hnm:=nP hf ⟨(hkey a.kind hk.1 hk.2).1,(hkey a.kind hk.1 hk.2).2,by omega⟩
    have hcl:∀k:Int,Dc a.kind k=false:=fun k=>by
      unfold Dc;rw [if_neg (by simp only [beq_iff_eq];omega),if_neg (by simp only [beq_iff_eq];omega)]
    have hdk:∀x∈a.kids,C7 x+1<=C7 a:=by
      have key:∀l:List Syn,∀x∈l,C7 x<=E8 a.kind l:=by
        intro l
        induction l with
        | nil=>intro x hx;cases hx
        | cons y r ihl=>
          intro x hx;rw [E8];rcases Db.1 hx with rfl | hx
          . omega
          have:=ihl x hx;omega
      intro x hx;have:=key a.kids x hx;omega
    have eA:=(De a).app hq;have hz:a.kind≠11->a.num=0:=fun h11=>K6 hf ⟨by omega,by omega,by omega,by omega,h11⟩
    have hct:=call_toks hk
    -- a kid that is a pattern, one level deeper
    have rk:∀(j:Nat) x,a.kids[j]? = some x->Dm a j = .pats->∀p q,F3 p->F3 q->Bq q->lowT (m+1) (Cg p (Af x++q) (d+1))=(Dy x,Cg (p++Af x) q (d+1)):=fun j x hx hj p q hp1 hq1 hb1=>by
      have c:=(Ei h hx).1;rw [hj] at c;have hd1:=hdk x (Aj hx);exact ih x (Aj hx) c m (d+1) p q (by omega) (by omega) (by omega) hp1 hq1 hb1
    have p0:Dm a 0 = .pats:=by
      have:a.kind=6\/a.kind=7\/a.kind=8\/a.kind=9\/a.kind=10\/a.kind=11\/a.kind=12:=by omega
      unfold Dm;rcases this with h | h | h | h | h | h | h <;> rw [h] <;> rfl
    have eP:F3 (pre ++ [tw (Fz a.kind)]):=hp.app (D8 _ rfl);have eQ:F3 (pre ++ [tw (Fz a.kind)] ++ [Kd]):=eP.app (D8 _ rfl);by_cases h8:a.kind<=8
    . have hlen:2<=(a.kids.length:Int):=by
        unfold Dn at hs;have:a.kind=6\/a.kind=7\/a.kind=8:=by omega
        rcases this with h | h | h <;> (rw [h] at hs;exact Ey hs)
      match hkid:a.kids with
      | []=>rw [hkid] at hlen;simp at hlen
      | [x]=>rw [hkid] at hlen;simp at hlen
      | x::y::r=>
        have pj:∀j:Nat,Dm a j = .pats:=fun j=>by
          have:a.kind=6\/a.kind=7\/a.kind=8:=by omega
          unfold Dm;rcases this with h | h | h <;> rw [h] <;> rfl
        have h11:¬(a.kind==11)=true:=by simp only [beq_iff_eq];omega
        rw [if_neg h11,C5,hkid,J6] at hct;have er:Dy a=⟨a.kind,[],[],0,Dy x::Dy y::r.map Dy,0⟩:=by rw [Fc,hnm.1,hnm.2,hz (by omega),hkid];rfl
        rw [er];refine Tb (M:=Af x++E3 (y::r) ++ [Jt]) hk h0 (by omega) hp eA ?_ hct;have eT:(Af x++E3 (y::r) ++ [Jt])++post=Af x++(N8::(Af y++(E3 r++Jt::post))):=by simp [E3]
        have r0:=rk 0 x (by rw [hkid];rfl) (pj 0) (pre ++ [tw (Fz a.kind)] ++ [Kd]) (N8::(Af y++(E3 r++Jt::post))) eQ (A6 rfl ((De y).app ((Z9 r).app (A6 rfl hq)))) (.cm _);have r1:=rk 1 y (by rw [hkid];rfl) (pj 1) (pre ++ [tw (Fz a.kind)] ++ [Kd]++Af x ++ [N8]) (E3 r++Jt::post) ((eQ.app (De x)).app (D8 _ rfl)) ((Z9 r).app (A6 rfl hq)) (by cases r with | nil=>exact .rp _ | cons z s=>exact .cm _)
        have r2:=Vm (F:=lowT (m+1)) (d:=d+1) (B:=Bq) (post:=Jt::post) .cm (.rp _) (A6 rfl hq) vP r (A3 (Cg (pre ++ [tw (Fz a.kind)] ++ [Kd]++Af x ++ [N8]++Af y) (E3 r++Jt::post) (d+1))) (pre ++ [tw (Fz a.kind)] ++ [Kd]++Af x ++ [N8]++Af y) [Dy x,Dy y]
          (by rw [aG,Au];have:=wB r;omega) (fun z hz' p q e1 e2 e3=>by
            obtain ⟨j,hj⟩:=Gp.1 hz';exact rk (j+2) z (by rw [hkid];simpa using hj) (pj _) p q e1 e2 e3) (((eQ.app (De x)).app (D8 _ rfl)).app (De y))
        rw [eT];unfold kC;rw [D9 (t:=Kd) (by decide),r0];simp only;unfold Gs;rw [if_pos (Iu h8)];unfold fV;simp only;rw [D9 oK,r1];simp only [Co,C5];rw [r2,D9 (t:=Jt) (by decide)];simp [E3]
    . have h9:a.kind=9\/a.kind=10\/a.kind=11\/a.kind=12:=by omega
      rcases h9 with h9 | h9 | h9 | h9
      . unfold Dn at hs
        rw [h9] at hs
        replace hs:((a.kids.length:Int)==1)=true:=hs
        obtain ⟨x,hkid⟩:=Td (t:=a) (by simpa using hs);have h11:¬(a.kind==11)=true:=by simp only [beq_iff_eq];omega
        rw [if_neg h11,C5,hkid,J6] at hct;have er:Dy a=⟨a.kind,[],[],0,[Dy x],0⟩:=by rw [Fc,hnm.1,hnm.2,hz (by omega),hkid];rfl
        rw [er];refine Tb (M:=Af x++E3 [] ++ [Jt]) hk h0 (by omega) hp eA ?_ hct;have r0:=rk 0 x (by rw [hkid];rfl) p0 (pre ++ [tw (Fz a.kind)] ++ [Kd]) (Jt::post) eQ (A6 rfl hq) (.rp _);have:=patK_plus (E:=EE) (z:=⟨a.kind,[],[],0,[],0⟩) r0;have eT:(Af x++E3 [] ++ [Jt])++post=Af x++Jt::post:=by simp [E3]
        rw [eT];rw [<-h9] at this;rw [this];simp [E3]
      . unfold Dn at hs
        rw [h9] at hs
        replace hs:((a.kids.length:Int)==2)=true:=hs
        obtain ⟨x,y,hkid⟩:=Vk (t:=a) (by simpa using hs);have h11:¬(a.kind==11)=true:=by simp only [beq_iff_eq];omega
        rw [if_neg h11,C5,hkid,J6] at hct;have er:Dy a=⟨a.kind,[],[],0,[Dy x,Dy y],0⟩:=by rw [Fc,hnm.1,hnm.2,hz (by omega),hkid];rfl
        rw [er];refine Tb (M:=Af x++E3 [y] ++ [Jt]) hk h0 (by omega) hp eA ?_ hct;have hy:=Ei h (j:=1) (a:=y) (by rw [hkid];rfl)
        have ky5:y.kind=5:=Fx (n:=5) (by
          have e:Dm a 1 = .only 5:=by unfold Dm;rw [h9];rfl
          rw [<-e];exact hy.2)
        have hdy:=hdk y (by rw [hkid];simp);have r0:=rk 0 x (by rw [hkid];rfl) p0 (pre ++ [tw (Fz a.kind)] ++ [Kd]) (N8::(Af y++Jt::post)) eQ (A6 rfl ((De y).app (A6 rfl hq))) (.cm _);have r1:=iR (d:=d+1) (pre:=pre ++ [tw (Fz a.kind)] ++ [Kd]++Af x ++ [N8]) (post:=Jt::post) hy.1 ky5 (by omega) (by omega) ((eQ.app (De x)).app (D8 _ rfl)) (A6 rfl hq) (.rp _);have eT:(Af x++E3 [y] ++ [Jt])++post=Af x++(N8::(Af y++Jt::post)):=by simp [E3]
        rw [eT];unfold kC;rw [D9 (t:=Kd) (by decide),r0];simp only;unfold Gs;rw [if_neg (by simp only [Ck];omega),if_neg (by rw [h9];decide),if_pos (by rw [h9];decide),D9 oK,r1];simp only;rw [D9 (t:=Jt) (by decide)];simp [E3]
      . unfold Dn at hs
        rw [h9] at hs
        replace hs:((a.kids.length:Int)==1)=true:=hs
        obtain ⟨x,hkid⟩:=Td (t:=a) (by simpa using hs);have h11:(a.kind==11)=true:=by simpa using h9
        have hnum:=lD hf h9;have enk:cZ a.num = [⟨1,Lib.decDigits a.num.toNat,0⟩]:=by unfold cZ;rw [if_neg (by omega)]
        rw [if_pos h11,hkid,J6,enk] at hct;have er:Dy a=⟨a.kind,[],[],a.num,[Dy x],0⟩:=by rw [Fc,hnm.1,hnm.2,hkid];rfl
        rw [er];refine Tb (M:=(Af x++E3 [])++(([N8] ++ [⟨1,Lib.decDigits a.num.toNat,0⟩]) ++ [Jt])) hk h0 (by omega) hp eA ?_ hct;have r0:=rk 0 x (by rw [hkid];rfl) p0 (pre ++ [tw (Fz a.kind)] ++ [Kd]) (N8::⟨1,Lib.decDigits a.num.toNat,0⟩::Jt::post) eQ (A6 rfl (A6 rfl (A6 rfl hq))) (.cm _);have eT:((Af x++E3 [])++(([N8] ++ [⟨1,Lib.decDigits a.num.toNat,0⟩]) ++ [Jt]))++post=Af x++(N8::⟨1,Lib.decDigits a.num.toNat,0⟩::Jt::post):=by simp [E3]
        rw [eT];unfold kC;rw [D9 (t:=Kd) (by decide),r0];simp only;unfold Gs;rw [if_neg (by simp only [Ck];omega),if_neg (by rw [h9];decide),if_neg (by rw [h9];decide),if_pos (by rw [h9];decide),D9 oK];have e1:Ed 1 (Cg (pre ++ [tw (Fz a.kind)] ++ [Kd]++Af x ++ [N8]) (⟨1,Lib.decDigits a.num.toNat,0⟩::Jt::post) (d+1))=Cg (pre ++ [tw (Fz a.kind)] ++ [Kd]++Af x ++ [N8] ++ [⟨1,Lib.decDigits a.num.toNat,0⟩]) (Jt::post) (d+1):=(bC (by rfl)).1
        have e2:Tg (Cg (pre ++ [tw (Fz a.kind)] ++ [Kd]++Af x ++ [N8]) (⟨1,Lib.decDigits a.num.toNat,0⟩::Jt::post) (d+1))=a.num:=by
          unfold Tg;rw [Ou,bS];show (Ua (Lib.decDigits a.num.toNat)).1=_;rw [aQ (by omega)];show ((a.num.toNat:Nat):Int)=a.num;omega
        rw [e1,e2];simp only;rw [D9 (t:=Jt) (by decide)];simp [E3]
      . unfold Dn at hs
        rw [h9] at hs
        replace hs:((a.kids.length:Int)==2)=true:=hs
        obtain ⟨x,y,hkid⟩:=Vk (t:=a) (by simpa using hs);have h11:¬(a.kind==11)=true:=by simp only [beq_iff_eq];omega
        rw [if_neg h11,C5,hkid,J6] at hct;have er:Dy a=⟨a.kind,[],[],0,[Dy x,Dy y],0⟩:=by rw [Fc,hnm.1,hnm.2,hz (by omega),hkid];rfl
        rw [er];refine Tb (M:=Af x++E3 [y] ++ [Jt]) hk h0 (by omega) hp eA ?_ hct;have hy:=Ei h (j:=1) (a:=y) (by rw [hkid];rfl);have e:Dm a 1 = .exps:=by unfold Dm;rw [h9];rfl
        rw [e] at hy;have hdy:=hdk y (by rw [hkid];simp);have r0:=rk 0 x (by rw [hkid];rfl) p0 (pre ++ [tw (Fz a.kind)] ++ [Kd]) (N8::(Af y++Jt::post)) eQ (A6 rfl ((De y).app (A6 rfl hq))) (.cm _);have r1:=(bZ y hy.1 64 (d+1) (pre ++ [tw (Fz a.kind)] ++ [Kd]++Af x ++ [N8]) (Jt::post) (by omega) (by omega) (by omega) ((eQ.app (De x)).app (D8 _ rfl)) (A6 rfl hq) (.rp _)).1;have:=yU (E:=EE) (z:=⟨a.kind,[],[],0,[],0⟩) r0;have eT:(Af x++E3 [y] ++ [Jt])++post=Af x++(N8::(Af y++Jt::post)):=by simp [E3]
        rw [eT];rw [<-h9] at this;rw [this,EE_neg,r1,D9 (t:=Jt) (by decide)];simp [E3]
end Go.Proofs.YtckhoadldibflaaGreatDoor
