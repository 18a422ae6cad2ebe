/-
  Several texts in one: Q0, R3, Ay, Ar, As, R4, R5, R6, Shelm, R7, R8, Rar, R9. No condition.
-/
import Derived.Test.YtckhoadldibflaaGreatDoorK01
import Derived.Test.YtckhoadldibflaaGreatDoorK03
import Derived.Test.YtckhoadldibflaaGreatDoorAx
import Derived.RangeFuncIn
import Derived.RangeFuncLeaves
import Derived.RangeFuncRecord
import Derived.TacticsIn
import Derived.Shelf.Bits.Mul64
import Derived.Test.YtckhoadldibflaaGreatDoorProg
import Derived.IntWalk
import Derived.Test.YtckhoadldibflaaGreatDoorK02
import Derived.ControlIn
set_option linter.unusedVariables false
set_option linter.unusedSimpArgs false
namespace Go.Proofs.YtckhoadldibflaaGreatDoor
open Go Go.Aw
set_option maxRecDepth 100000

theorem Lr {t:Syn}{p:Pl}(h:Cb t p=0):aD p t=0/\Ng t 0 t.kids=0:=by
 rw [Zk] at h;split at h
 . rename_i h1;rw [h] at h1;cases h1
 rename_i h1;exact ⟨by simpa using h1,h⟩
theorem oU {t:Syn}:∀(l:List Syn) (i:Nat),Ng t i l=0->∀j a,l[j]? = some a->Cb a (G1 t (i+j))=0
  | [],i,_,j,a,h=>by simp at h
  | x::r,i,h,j,a,ha=>by
    rw [Ng] at h;split at h
    . rename_i h1;rw [h] at h1;cases h1
    . rename_i h1
      cases j with
      | zero=>rw [List.getElem?_cons_zero] at ha;cases ha;simpa using h1
      | succ j=>rw [List.getElem?_cons_succ] at ha;have:=oU r (i+1) h j a ha;rwa [show i+1+j=i+(j+1) by omega] at this
theorem Ls {p:Pl}{t:Syn}(h:aD p t=0):p.at t.kind=true/\Fy t=true/\Wm t=true/\D8 t=0:=by
 unfold aD at h;split at h
 . cases h
 split at h
 . cases h
 split at h
 . cases h
 rename_i h1 h2 h3;exact ⟨by simpa using h1,by simpa using h2,by simpa using h3,h⟩
theorem Po {t:Syn}{p:Pl}(h:Cb t p=0){j:Nat}{a:Syn}(ha:t.kids[j]? = some a):Cb a (G1 t j)=0/\(G1 t j).at a.kind=true:=by
 have h1:=oU t.kids 0 (Lr h).2 j a ha;rw [Dz] at h1;exact ⟨h1,(Ls (Lr h1).1).1⟩
theorem eR {k:Int}(h:Pl.at .exps k=true):13<=k/\k<=18:=by
 simp only [Pl.at,isExp,Cz,Dp] at h;exact h
theorem aE {k:Int}(h:Pl.at .pats k=true):5<=k/\k<=12:=by
 simp only [Pl.at,isPat,Cz,Dp] at h;exact h
theorem Sd {n k:Int}(h:Pl.at (.only n) k=true):k=n:=by
 simpa [Pl.at] using h
theorem oT {t:Syn}{j:Nat}{k:Int}(h:(G1 t j).at k=true):1<=k/\k<=18:=by
 unfold G1 at h
 repeat' split at h
 all_goals first | (have:=Sd h;omega) | (have:=eR h;omega) | (have:=aE h;omega)

section
variable {t:Syn} {p:Pl}
theorem fJ (h:(t.kids.length:Int)=1):∃a,t.kids = [a]:=by
 match hk:t.kids with
 | []=>rw [hk] at h;cases h
 | [a]=>exact ⟨a,rfl⟩
 | a::b::r=>rw [hk] at h;simp only [A1] at h;omega
theorem oV (h:(t.kids.length:Int)=2):∃a b,t.kids = [a,b]:=by
 match hk:t.kids with
 | []=>rw [hk] at h;cases h
 | [a]=>rw [hk] at h;simp only [A1,A6] at h;omega
 | [a,b]=>exact ⟨a,b,rfl⟩
 | a::b::c::r=>rw [hk] at h;simp only [A1] at h;omega
theorem vI (hf:D8 t=0)(hk:t.kind=17):t.num=5\/t.num=6\/t.num=7\/t.num=8\/t.num=9\/t.num=10\/t.num=11:=by
 unfold D8 Q5 at hf;rw [hk] at hf
 have hf2:(decide (t.num<5)||decide (11<t.num))=false:=by
  cases hq:(decide (t.num<5)||decide (11<t.num)) with
  | false=>rfl
  | true=>rw [hq] at hf;cases hf
 simp only [En,Ih] at hf2;omega
theorem jJ (hf:D8 t=0)(hk:t.kind=2):0<=t.num/\t.num<=2:=by
 unfold D8 Q5 at hf;rw [hk] at hf
 have hf2:(decide (t.num<0)||decide (2<t.num))=false:=by
  cases hq:(decide (t.num<0)||decide (2<t.num)) with
  | false=>rfl
  | true=>rw [hq] at hf;cases hf
 simp only [En,Ih] at hf2;omega
theorem kI (hf:D8 t=0)(hk:t.kind=16):1<=t.num/\t.num<=5:=by
 unfold D8 Q5 at hf;rw [hk] at hf
 have hf2:(decide (t.num<1)||decide (5<t.num))=false:=by
  cases hq:(decide (t.num<1)||decide (5<t.num)) with
  | false=>rfl
  | true=>rw [hq] at hf;cases hf
 simp only [En,Ih] at hf2;omega
theorem uY (hf:D8 t=0)(hk:t.kind=11):0<=t.num/\t.num<=1099511627776:=by
 unfold D8 Q5 at hf;rw [hk] at hf
 have hf2:(decide (t.num<0)||decide (1099511627776<t.num))=false:=by
  cases hq:(decide (t.num<0)||decide (1099511627776<t.num)) with
  | false=>rfl
  | true=>rw [hq] at hf;cases hf
 simp only [En,Ih] at hf2;omega
theorem zero_num (hf:D8 t=0)(hk:t.kind≠13/\t.kind≠2/\t.kind≠16/\t.kind≠17/\t.kind≠11):t.num=0:=by
 obtain ⟨k1,k2,k3,k4,k5⟩:=hk;have e:∀k:Int,t.kind≠k->¬(t.kind==k)=true:=fun k h=>by simpa using h
 unfold D8 at hf;rw [if_neg (e _ k1)] at hf;split at hf
 . rename_i h1;rw [hf] at h1;cases h1
 rename_i h1;have h2:Q5 t=0:=by simpa using h1
 unfold Q5 at h2;rw [if_neg (e _ k2),if_neg (e _ k3),if_neg (e _ k4),if_neg (e _ k5)] at h2;split at h2
 . cases h2
 rename_i h3;simp only [Ff,Dp,not_or] at h3;omega
theorem sS (hf:D8 t=0)(hk:t.kind=13) : -1099511627776<=t.num/\t.num<=1099511627776:=by
 unfold D8 at hf;rw [hk] at hf
 replace hf:G7 t=0:=hf
 unfold G7 at hf
 repeat' split at hf
 all_goals first
  | exact absurd hf (by decide)
  | (simp only [Ff,Dp,not_or,Qa,bne_eq_false_iff_eq] at *;omega)
end

mutual
def Jb:Syn->Nat
 | ⟨_,_,_,_,kids,_⟩=>1+G6 kids
def G6:List Syn->Nat
 | []=>0
 | x::r=>Jb x+G6 r
end
theorem Hm (t:Syn):Jb t=1+G6 t.kids:=by cases t;rw [Jb]
theorem eD:∀l:List Syn,l.length<=G6 l
  | []=>A3 _
  | x::r=>by
    have:=eD r;have h:=Hm x;rw [G6,A1];omega
theorem kY:∀{l:List Syn} {a:Syn},a∈l->Jb a<=G6 l
  | x::r,a,h=>by
    rw [G6];rcases Dn.1 h with rfl | h
    . omega
    have:=kY h;omega
mutual
theorem iZ:∀t:Syn,Hp t<=2*Jb t
  | ⟨k,_,_,_,kids,_⟩=>by
    have h:=eH k kids;rw [Hp,Jb];split <;> omega
theorem eH (k:Int):∀l:List Syn,J3 k l<=2*G6 l+1
  | []=>by rw [J3];omega
  | x::r=>by
    have h1:=iZ x;have h2:=eH k r;have h3:=Hm x;rw [J3,G6];split <;> omega
end
def fO (ws:List Av):Nat:=(ws.map List.length).sum
theorem U4 (x:Av)(r:List Av):fO (x::r)=x.length+fO r:=rfl
theorem fH:∀ws:List Av,(C6 ws).length<=fO ws+2*ws.length
  | []=>by simp [C6]
  | [x]=>by simp [C6,fO]
  | x::y::r=>by
    have:=fH (y::r);rw [C6,U4];simp only [Ax,A1,A6] at this ⊢;omega
theorem get3_len:∀ws:List Av,(ws.getD 0 []).length+(ws.getD 1 []).length+(C6 (ws.drop 2)).length<=fO ws+2*ws.length
  | []=>by simp [C6]
  | [x]=>by simp [C6,fO]
  | x::y::r=>by
    have:=fH r;simp only [List.getD_cons_zero,List.getD_cons_succ,List.drop_succ_cons,Nb,U4,A1];omega
theorem oJ:∀ws:List Av,ws.flatten.length=fO ws
 | []=>rfl
 | x::r=>by rw [Br,Ax,oJ r,U4]
theorem Ui (p k:Syn)(s:Av):(Fw p k s).length<=s.length+2:=by
 unfold Fw;split
 . simp only [Ax,A1,A6];omega
 omega
theorem zZ (c:UInt8):(Of c).length<=4:=by
 unfold Of;split
 . simp
 split <;> simp
theorem gE:∀s:Av,(E5 s).length<=4*s.length
  | []=>by simp [E5]
  | c::r=>by
    have h1:=gE r;have h2:=zZ c;rw [E5];simp only [Ax,A1];omega
theorem kN:(∀n,(K4 n).length<=8)/\(∀n,(Pm n).length<=8)/\(∀n,(H0 n).length<=8)/\(∀n,(Mn n).length<=8):=by
 refine ⟨fun n=>?_,fun n=>?_,fun n=>?_,fun n=>?_⟩
 .
  unfold K4;repeat' split
  all_goals decide
 .
  unfold Pm;repeat' split
  all_goals decide
 .
  unfold H0;repeat' split
  all_goals decide
 unfold Mn;repeat' split
 all_goals decide
theorem Jm {c:Prop}[Decidable c]{a b:Av}{n:Nat}(ha:a.length<=n)(hb:b.length<=n):(if c then a else b).length<=n:=by split <;> assumption
theorem lY {t:Syn}{p:Pl}(h:Cb t p=0) : -1099511627776<=t.num/\t.num<=1099511627776:=by
 obtain ⟨_,_,_,hf⟩:=Ls (Lr h).1;by_cases k1:t.kind=13
 . exact sS hf k1
 by_cases k2:t.kind=2
 . have:=jJ hf k2;omega
 by_cases k3:t.kind=16
 . have:=kI hf k3;omega
 by_cases k4:t.kind=17
 . have:=vI hf k4;omega
 by_cases k5:t.kind=11
 . have:=uY hf k5;omega
 have:=zero_num hf ⟨k1,k2,k3,k4,k5⟩;omega
mutual
def wC:Syn->Nat
 | ⟨_,x,n,_,kids,_⟩=>1+x.length+n.length+wL kids
def wL:List Syn->Nat
 | []=>0
 | x::r=>wC x+wL r
end
theorem Mz (t:Syn):wC t=1+t.text.length+t.name.length+wL t.kids:=by cases t;rw [wC]
theorem w_mem:∀{l:List Syn} {a:Syn},a∈l->wC a<=wL l
  | x::r,a,h=>by
    rw [wL];rcases Dn.1 h with rfl | h
    . omega
    have:=w_mem h;omega
mutual
theorem cnt_w:∀t:Syn,Jb t<=wC t
  | ⟨_,x,n,_,kids,_⟩=>by
    have:=sQ kids;rw [Jb,wC];omega
theorem sQ:∀l:List Syn,G6 l<=wL l
  | []=>by rw [G6,wL];exact B6 _
  | x::r=>by
    have h1:=cnt_w x;have h2:=sQ r;rw [G6,wL];omega
end
def Vp (t:Syn):Prop:=wC t<=1000000
theorem M9 {t a:Syn}(h:Vp t)(ha:a∈t.kids):Vp a:=by
 have h1:=w_mem ha;have h2:=Mz t;unfold Vp at h ⊢;omega
theorem Ue {t:Syn}(h:Vp t):Jb t<=1000000:=Fl (cnt_w t) h
theorem aO {t:Syn}(h:Vp t):t.kids.length<=1000000:=by
 have h1:=Ue h;have h2:=eD t.kids;rw [Hm] at h1;omega
def It (t:Syn):Prop:=((t.text.length<=1000000/\t.name.length<=1000000)/\t.kids.length<=1000000/\wC t<=20000000)/\∀a∈t.kids,Vp a
theorem tM {t:Syn}(h:Vp t):It t:=by
 have h2:=Mz t;have h3:=aO h;exact ⟨⟨⟨by unfold Vp at h;omega,by unfold Vp at h;omega⟩,h3,by unfold Vp at h;omega⟩,fun a ha=>M9 h ha⟩
theorem J1 {t a:Syn}(h:It t)(ha:a∈t.kids):It a:=tM (h.2 a ha)
theorem Od {t:Syn}(h:It t):t.text.length<=1048576/\t.name.length<=1048576:=⟨by have:=h.1.1.1;omega,by have:=h.1.1.2;omega⟩
theorem wT {t:Syn}(h:It t):Jb t<=20000000:=Fl (cnt_w t) h.1.2.2
theorem Yd {t:Syn}(h:It t):t.kids.length<=1000000:=h.1.2.1
theorem lit_len' {t:Syn}{B:Nat}(hi : -1099511627776<=t.num/\t.num<=1099511627776)(hx:t.text.length<=B):(O0 t).length<=4*B+30:=by
 unfold O0;split
 . have:=Lib.itoa_length_le t.num (by omega) (by omega);omega
 split
 .
  split
  . show (4:Nat)<=_;omega
  show (5:Nat)<=_;omega
 unfold Og;split
 . simp
 have:=gE t.text;simp only [Ax,A1,A6];omega
theorem zH {t:Syn}{ws:List Av}{B:Nat}(hi : -1099511627776<=t.num/\t.num<=1099511627776)(hx:t.text.length<=B)(hn:t.name.length<=B)(h0:(Cd t 0).text.length<=B):(D9 t ws).length<=fO ws+2*ws.length+(4*B+60):=by
 have h1:=fH ws;have h2:=get3_len ws;have h3:=oJ ws;have h4:=lit_len' hi hx;obtain ⟨w1,w2,w3,w4⟩:=kN;have k1:=w1 t.num;have k2:=w2 t.num;have k3:=w3 t.num;have k4:=w4 t.kind;have h5:=Lib.itoa_length_le t.num (by omega) (by omega);have r0:=Ui t (Cd t 0) (ws.getD 0 []);have r1:=Ui t (Cd t 1) (ws.getD 1 []);have q1:Mi.length=4:=rfl;have q2:He.length=5:=rfl;have q3:cR.length=2:=rfl;have q4:H4.length=5:=rfl;have q5:Ib.length=6:=rfl;have q6:cG.length=2:=rfl;have q7:Y4.length=5:=rfl;have q8:Wz.length=3:=rfl;unfold D9;refine Jm (by omega) (Jm ?_ (Jm ?_ (Jm ?_ (Jm ?_ (Jm (by omega) (Jm ?_ (Jm ?_ (Jm ?_ (Jm ?_ (Jm ?_ ?_))))))))))
 .
  have:(if (ws == [])=true then [] else [32]++C6 ws ++ [32]:Av).length<=(C6 ws).length+2:=Jm (by simp) (by simp);simp only [Ax,A1,A6] at this ⊢;omega
 . simp only [Ax,A1,A6];omega
 .
  have:(if ((Cd t 0).text == [])=true then [] else [32]++cR ++ [32]++(Cd t 0).text:Av).length<=B+4:=Jm (by simp) (by simp only [Ax,A1,A6];omega);simp only [Ax,A1,A6] at this ⊢;omega
 .
  have:(if (ws == [])=true then [] else [32]++cG ++ [32]++ws.getD 0 []:Av).length<=(ws.getD 0 []).length+6:=Jm (by simp) (by simp only [Ax,A1,A6];omega);simp only [Ax,A1,A6] at this ⊢;omega
 . simp only [Ax,A1,A6];omega
 . simp only [Ax,A1,A6];omega
 .
  have:(if (ws == [])=true then [] else [44,32]++ws.getD 0 []:Av).length<=(ws.getD 0 []).length+2:=Jm (by simp) (by simp only [Ax,A1,A6];omega);simp only [Ax,A1,A6] at this ⊢;omega
 . simp only [Ax,A1,A6];omega
 . simp only [Ax,A1,A6];omega
 have:(if (t.kind==11)=true then [44,32]++Lib.itoa t.num else []:Av).length<=30:=Jm (by simp only [Ax,A1,A6];omega) (by simp);simp only [Ax,A1,A6] at this ⊢;omega
theorem uZ (t:Syn):∀p,Cb t p=0->It t->(Ae t).length+2<=4000064*Jb t:=by
  refine Syn.ind (P:=fun t=>∀p,Cb t p=0->It t->(Ae t).length+2<=4000064*Jb t) (fun t ih p h hf=>?_) t
  have hk0:(Cd t 0).text.length<=1000000:=by
    unfold Cd;rw [Ii];cases hq:t.kids[0]? with
    | none=>simp [Hb]
    | some a=>exact (J1 hf (An hq)).1.1.1
  rw [D5];have h1:=zH (B:=1000000) (ws:=t.kids.map Ae) (lY h) hf.1.1.1 hf.1.1.2 hk0
  have h2:fO (t.kids.map Ae)+2*t.kids.length<=4000064*G6 t.kids:=by
    have key:∀l:List Syn,(∀a∈l,(Ae a).length+2<=4000064*Jb a)->fO (l.map Ae)+2*l.length<=4000064*G6 l:=by
      intro l
      induction l with
      | nil=>intro _;simp [fO]
      | cons x r ihl=>
        intro hl;have h3:=hl x (L5 ..);have h4:=ihl fun a ha=>hl a (Jp _ ha)
        rw [Bj,U4,G6,A1];omega
    refine key _ fun a ha=>?_
    obtain ⟨j,hj⟩:=J9.1 ha;exact ih a ha _ (Po h hj).1 (J1 hf ha)
  have h4:=Hm t;rw [B7] at h1;rw [h4,Nat.mul_add];omega
theorem dE {t:Syn}{p:Pl}(h:Cb t p=0)(hf:It t):(Ae t).length<=100000000000000:=by
 have h1:=uZ t p h hf;have h2:=wT hf;omega
structure RvOK (T:List e8Sc) (V:List Va):Prop where
 tl:T.length<=1048576
 fl:∀s∈T,s.fields.length<=1048576
 vl:V.length<=1048576
 ty:∀v∈V,0<=v.type/\v.type<(T.length:Int)
theorem aT {T:List e8Sc}{V:List Va}(h:RvOK T V){v:Va}(hv:v∈V):∃sc,T[v.type.toNat]? = some sc:=by
 have:=h.ty v hv;exact ⟨_,List.getElem?_eq_getElem (show v.type.toNat<T.length by omega)⟩
theorem Nw {l:List Av}{n:Av}(h:l.contains n=true):0<=Tv l n/\Tv l n<(l.length:Int):=by
 unfold Tv;rw [if_pos h];have:=List.idxOf_lt_length_iff.2 (List.contains_iff_mem.1 h);omega
theorem tC {V:List Va}{n:Av}(h:(Lh V).contains n=true):∃va,V[(Tv (Lh V) n).toNat]? = some va:=by
 have:=Nw h;rw [B7] at this;exact ⟨_,List.getElem?_eq_getElem (show (Tv (Lh V) n).toNat<V.length by omega)⟩
theorem uN {T:List e8Sc}{V:List Va}{v:Int}{va:Va}{sc:e8Sc}(h:V[v.toNat]? = some va)(hs:T[va.type.toNat]? = some sc):Xg T V v=sc:=by
 unfold Xg;rw [h];show (T[va.type.toNat]?).getD Yu=sc;rw [hs];rfl
section
variable {T:List e8Sc} {V:List Va} {t:Syn}
theorem look_1 (h:(((t.kind != 14)&&(t.kind != 15))&&(t.kind != 16))=true):Ms T V t=Xy:=if_pos h
theorem fQ (h:(((t.kind != 14)&&(t.kind != 15))&&(t.kind != 16))=false):Ms T V t=if !((Lh V).contains t.text) then ⟨t.pos,8⟩ else if (t.kind==15)||((t.kind==14)&&(t.name==F6)) then Xy else if decide (Hz (Xg T V (Tv (Lh V) t.text)) t.name<0) then ⟨t.pos,6⟩ else Xy:=Bl h
theorem look_2 (h:(((t.kind != 14)&&(t.kind != 15))&&(t.kind != 16))=false)(h2:(!((Lh V).contains t.text))=true):Ms T V t=⟨t.pos,8⟩:=(fQ h).trans (if_pos h2)
theorem look_3 (h:(((t.kind != 14)&&(t.kind != 15))&&(t.kind != 16))=false)(h2:(!((Lh V).contains t.text))=false)(h3:((t.kind==15)||((t.kind==14)&&(t.name==F6)))=true):Ms T V t=Xy:=(fQ h).trans ((Bl h2).trans (if_pos h3))
theorem look_4 (h:(((t.kind != 14)&&(t.kind != 15))&&(t.kind != 16))=false)(h2:(!((Lh V).contains t.text))=false)(h3:((t.kind==15)||((t.kind==14)&&(t.name==F6)))=false)(h4:decide (Hz (Xg T V (Tv (Lh V) t.text)) t.name<0)=true):Ms T V t=⟨t.pos,6⟩:=(fQ h).trans ((Bl h2).trans ((Bl h3).trans (if_pos h4)))
theorem look_5 (h:(((t.kind != 14)&&(t.kind != 15))&&(t.kind != 16))=false)(h2:(!((Lh V).contains t.text))=false)(h3:((t.kind==15)||((t.kind==14)&&(t.name==F6)))=false)(h4:decide (Hz (Xg T V (Tv (Lh V) t.text)) t.name<0)=false):Ms T V t=Xy:=(fQ h).trans ((Bl h2).trans ((Bl h3).trans (Bl h4)))
theorem walk_1 (h:((Ms T V t).err != 0)=true):H5 T V t=Ms T V t:=(gR T V t).trans (if_pos h)
theorem walk_2 (h:((Ms T V t).err != 0)=false):H5 T V t=Mp (H5 T V) t.kids:=(gR T V t).trans (Bl h)
theorem jA {f:Syn->Fa}:∀{l:List Syn},(Mp f l).err=0->∀a∈l,(f a).err=0
  | [],_,a,ha=>by cases ha
  | x::r,h,a,ha=>by
    rw [Mp] at h;by_cases hx:(f x).err=0
    . rw [if_neg (by simp [hx])] at h
      rcases Dn.1 ha with rfl | ha
      . exact hx
      exact jA h a ha
    rw [if_pos (by simpa using hx)] at h;exact absurd h hx
theorem Kl (h:(H5 T V t).err=0):(Ms T V t).err=0/\∀a∈t.kids,(H5 T V a).err=0:=by
 rw [gR] at h;by_cases hx:(Ms T V t).err=0
 . rw [if_neg (by simp [hx])] at h;exact ⟨hx,jA h⟩
 rw [if_pos (by simpa using hx)] at h;exact absurd h hx
theorem pE (h:(Ms T V t).err=0)(hk:t.kind=14\/t.kind=15\/t.kind=16):(Lh V).contains t.text=true:=by
 have h0:(((t.kind != 14)&&(t.kind != 15))&&(t.kind != 16))=false:=by rcases hk with h | h | h <;> simp [h]
 rw [fQ h0] at h;cases hc:(Lh V).contains t.text with
 | true=>rfl
 | false=>rw [hc,if_pos (by decide)] at h;cases h
theorem leafx_1 {xs:List Ex}(h1:(t.kind==13)=true):S9 T V t xs=⟨0,[],0,0,0,rP t⟩:=if_pos h1
theorem leafx_2 {xs:List Ex}(h1:(t.kind==13)=false)(h2:(t.kind==14)=true)(h3:(t.name==F6)=true):S9 T V t xs=⟨2,[],Tv (Lh V) t.text,0,0,v0⟩:=(Bl h1).trans ((if_pos h2).trans (if_pos h3))
theorem leafx_3 {xs:List Ex}{sc:e8Sc}(h1:(t.kind==13)=false)(h2:(t.kind==14)=true)(h3:(t.name==F6)=false)(hs:Xg T V (Tv (Lh V) t.text)=sc):S9 T V t xs=⟨1,[],Tv (Lh V) t.text,Hz sc t.name,0,v0⟩:=by subst hs;exact (Bl h1).trans ((if_pos h2).trans (Bl h3))
theorem leafx_4 {xs:List Ex}(h1:(t.kind==13)=false)(h2:(t.kind==14)=false)(h4:(t.kind==15)=true):S9 T V t xs=⟨3,[],Tv (Lh V) t.text,0,0,v0⟩:=(Bl h1).trans ((Bl h2).trans (if_pos h4))
theorem leafx_5 {xs:List Ex}{sc:e8Sc}(h1:(t.kind==13)=false)(h2:(t.kind==14)=false)(h4:(t.kind==15)=false)(h5:(t.kind==16)=true)(hs:Xg T V (Tv (Lh V) t.text)=sc)(h6:decide ((0:Int)<(t.kids.length:Int))=true) :
  S9 T V t xs=⟨4,[],Tv (Lh V) t.text,Hz sc t.name,t.num,rP (Cd t 0)⟩:=by
 subst hs;refine (Bl h1).trans ((Bl h2).trans ((Bl h4).trans ((if_pos h5).trans ?_)));rw [if_pos h6]
theorem leafx_6 {xs:List Ex}{sc:e8Sc}(h1:(t.kind==13)=false)(h2:(t.kind==14)=false)(h4:(t.kind==15)=false)(h5:(t.kind==16)=true)(hs:Xg T V (Tv (Lh V) t.text)=sc)(h6:decide ((0:Int)<(t.kids.length:Int))=false) :
  S9 T V t xs=⟨4,[],Tv (Lh V) t.text,Hz sc t.name,t.num,v0⟩:=by
 subst hs;refine (Bl h1).trans ((Bl h2).trans ((Bl h4).trans ((if_pos h5).trans ?_)));rw [Bl h6]
theorem leafx_7 {xs:List Ex}(h1:(t.kind==13)=false)(h2:(t.kind==14)=false)(h4:(t.kind==15)=false)(h5:(t.kind==16)=false)(h7:(t.kind==18)=true):S9 T V t xs=⟨12,xs,0,0,0,v0⟩:=(Bl h1).trans ((Bl h2).trans ((Bl h4).trans ((Bl h5).trans (if_pos h7))))
theorem leafx_8 {xs:List Ex}(h1:(t.kind==13)=false)(h2:(t.kind==14)=false)(h4:(t.kind==15)=false)(h5:(t.kind==16)=false)(h7:(t.kind==18)=false):S9 T V t xs=⟨t.num,xs,0,0,0,v0⟩:=(Bl h1).trans ((Bl h2).trans ((Bl h4).trans ((Bl h5).trans (Bl h7))))
end
end Go.Proofs.YtckhoadldibflaaGreatDoor

namespace Go.Aw
section
variable {P:Program} {T:List (Nat×TD)} {d:Option Nat} {ty:TypeId} {pos:String} {aft:Array Edge} {gd:Option (Nat×Bool)} {ρ:Operand->AV}
def bufsOne (H:List HO):Prop:=∀v es E z,HO.buf v es E z∈H->v.oneCell'=true
theorem Cj.front3 {f:FuncId}{args:List AV}{H R:List HO}{Q:AV->List HO->Prop}{o1 o2 o3:HO}(k3 k2 k1:Nat)(hk3:H[k3]? = some o3)(hk2:(H.eraseIdx k3)[k2]? = some o2)(hk1:((H.eraseIdx k3).eraseIdx k2)[k1]? = some o1)(hR:((H.eraseIdx k3).eraseIdx k2).eraseIdx k1=R)
  (h:Cj P f (o1::o2::o3::R) args Q):Cj P f H args Q:=by
 subst hR;refine h.perm ?_;have h1:=Kc hk3;have h2:=Kc hk2;have h3:=Kc hk1;refine h1.trans ((h2.cons o3).trans (((h3.cons o2).cons o3).trans ?_));exact (List.Perm.swap o2 o3 _).trans (((List.Perm.swap o1 o3 _).cons o2).trans (List.Perm.swap o1 o2 _))
end
end Go.Aw

namespace Go.Aw
open Go

def U7 (l:List Oper):Bool:=l.all fun o=>match o.op with | .defer _=>false | _=>true
theorem T0 {l:List Oper}(h:U7 l=true):∀o∈l,∀c,o.op≠.defer c:=fun o ho c e=>by
 have:=(E3.1 h) o ho;rw [e] at this;cases this

theorem lZ {ro:Option Nat}{n:Nat}{P:Program}{o:Oper}{a:Act}{w:World}{next:Act->World->Prop}{Q Q':Exit->Act->World->Prop}(hd:∀c,o.op≠.defer c)
    (hp:∀c a w,Q (.panic c) a w->Q' (.panic c) a w) (ho:LetsOut Q->LetsOut Q') (h:o.wp P a w next Q):o.wpIn { Fence.wide with round:=ro } n P a w next Q':=by
  refine ⟨fun _ _=>trivial,?_⟩;rw [Oper.semAt_eq _ _ _ hd];unfold Oper.wp at h;generalize (execOp a.eval o).run P w=r at h ⊢;cases r with
  | ok x w'=>
    cases x with
    | value v=>exact h
    | skip=>exact h
    | defer d=>exact h
    | enter f args=>
      have h':Calls P f args w' _:=h;refine ⟨fun e=>(by cases e),callsIn_wide.2 (h'.mono ?_)⟩;intro e w'' hr;cases e with
      | returned v=>exact hr
      | panicked c=>exact hp _ _ _ hr
      | outgrown=>exact ho hr
    | row row args=>
      have h':Rows P row args w' _:=h;exact ⟨fun e=>(by cases e),fun c cs _=>let ⟨v,w'',r,s⟩:=h' c cs;⟨v,w'',r,stepsIn_wide.2 s⟩⟩
    | _=>exact h.elim
  | halt e w'=>
    cases e with
    | panic v=>exact hp _ _ _ h
    | _=>exact h.elim

theorem H6 {ro:Option Nat}{n:Nat}{P:Program}{ops:Array Oper}{Q:Exit->Act->World->Prop}:∀(l rest:List Oper) (a:Act) (w:World),(∀o∈l,∀c,o.op≠.defer c)->
    WOL P ops (fun e a w=>match e with | .normal=>wpListIn { Fence.wide with round:=ro } n P ops Q rest a w | e=>Q e a w) l a w->wpListIn { Fence.wide with round:=ro } n P ops Q (l++rest) a w
  | [],rest,a,w,_,h=>h
  | o::r,rest,a,w,hd,h=>by
    unfold WOL at h;show wpListIn _ n P ops Q (o::(r++rest)) a w;unfold wpListIn;split
    . rename_i hw;rw [if_pos hw] at h
      exact lZ (hd o (L5 ..)) (fun c a w h=>h) (fun h=>h) (Oper.wp_mono (fun a' w' h'=>H6 r rest a' w' (fun x hx=>hd x (Jp _ hx)) h') h)
    . rename_i hw;rw [if_neg hw] at h
      exact ⟨fun _ _=>trivial,H6 r rest _ w (fun x hx=>hd x (Jp _ hx)) h⟩

def Rh (P:Program)(l:Nat)(rec:Loop)(H:List HO)(args:List AV)(R:AV->List HO->Prop):Prop:=
 ∀(n:Nat) (g:Gh) (w:World) (vs:Array Value),HOK g w H->Dh g w vs args->
  RoundIn { Fence.wide with round:=none } n P l rec.fn ((rec.params.zip vs).foldl (fun t (p,v)=>t.setIfInBounds p v) rec.tmps) rec.assign rec.body w
   fun e w'=>∃v g' r H',e = .returned v/\Rep g' w' v r/\HOK g' w' H'/\Ext g w g' w'/\R r H'

theorem wideN:({ Fence.wide with round:=none }:Fence)=Fence.wide:=rfl

def sA (l:Nat)(P:Program)(c:Code)(Q:Exit->St->Prop)(s:St):Prop:=
 ∀(n:Nat) (Q':Exit->Act->World->Prop) (g:Gh) (a:Act) (w:World),Gm g s a w->(∀e g' s' a' w',Gm g' s' a' w'->Ext g w g' w'->Q e s'->Q' e a' w')->c.wpIn { Fence.wide with round:=some l } n P Q' a w

theorem sA.region {l:Nat}{P:Program}{Q:Exit->St->Prop}{s:St}{id:Nat}{ops:Array Oper}(hnd:U7 ops.toList=true)(h:AOL P ops (Q .normal) ops.toList s):sA l P (.region id ops false) Q s:=by
 intro n Q' g a w hG hQ;refine wpIn_region_list ?_;have:=H6 (ro:=some l) (n:=n) (Q:=Q') ops.toList [] a w (T0 hnd) (h.run _ g a w hG fun g' s' a' w' h1 h2 h3=>hQ _ g' s' a' w' h1 h2 h3);simpa using this

theorem sA.block {l:Nat}{P:Program}{Q:Exit->St->Prop}{s:St}{id:Nat}{c:Code}(h:sA l P c (Kw id Q) s):sA l P (.block id c) Q s:=by
  intro n Q' g a w hG hQ;refine wpIn_block (h n _ g a w hG fun e g' s' a' w' hG' hx hq=>?_);cases e with
  | exit j=>
    simp only [Kw] at hq;simp only [Exit.inBlock];by_cases e:j=id
    . subst e;simp at hq;simp;exact hQ _ g' s' a' w' hG' hx hq
    . simp only [e,if_false]
      have:Nat.beq j id=false:=by
        cases hq':Nat.beq j id with
        | false=>rfl
        | true=>exact absurd (Ef hq') e
      simp only [this,cond_false] at hq;exact hQ _ g' s' a' w' hG' hx hq
  | _=>exact hQ _ g' s' a' w' hG' hx hq

theorem bX {g:Gh}{w:World}{H:List HO}(hH:HOK g w H){i b:Nat}{o:Obj}(o':Obj)(hi:H[i]? = some (.obj b o)) :
  HOK g (w.putObj b o') (H.set i (.obj b o'))/\Ext g w g (w.putObj b o'):=by
 have hob:(HO.obj b o).ok g w:=hH.ok _ (An hi);have hlt:b<w.heap.size:=(Array.getElem?_eq_some_iff.1 hob.2).1
 have hx:Ext g w g (w.putObj b o'):=by
  refine ⟨rfl,rfl,rfl,by simp,fun c hc hg=>⟨hg,World.putObj_heap_other (fun e=>by rw [e,hob.1] at hg;cases hg)⟩,fun c n hc hg=>⟨fun m hm=>by rw [hg] at hm;cases hm;exact B6 _,fun x hx=>?_⟩⟩;have hne:c≠b:=fun e=>by rw [e,hob.1] at hg;cases hg;omega
  unfold World.cell?;rw [World.putObj_heap_other hne]
 refine ⟨hH.set hx hi (fun c hc=>.inl hc) ⟨hob.1,World.putObj_heap_same hlt⟩ fun c hc hne _=>⟨rfl,World.putObj_heap_other (fun e=>hne (by rw [e];rfl))⟩,hx⟩

theorem Gm.putObj {g:Gh}{s:St}{a:Act}{w:World}(hG:Gm g s a w){i b:Nat}{o:Obj}(o':Obj)(hi:s.H[i]? = some (.obj b o)) :
  Gm g ⟨s.sl,s.H.set i (.obj b o'),s.n⟩ a (w.putObj b o')/\Ext g w g (w.putObj b o'):=by
 obtain ⟨h1,h2⟩:=bX hG.heap o' hi;exact ⟨⟨hG.size,hG.defers,fun j=>(hG.sl j).mono h2,h1⟩,h2⟩

def AWX (P:Program)(c:Code)(Q:Exit->St->Prop)(X:Gh->World->Exit->Act->World->Prop)(s:St):Prop:=
 ∀(Q':Exit->Act->World->Prop) (g:Gh) (a:Act) (w:World),Gm g s a w->(∀e g' s' a' w',Gm g' s' a' w'->Ext g w g' w'->Q e s'->Q' e a' w')->(∀e a' w',X g w e a' w'->Q' e a' w')->c.wp P Q' a w

def Z6 (D:Nat):Deferred:={ target:=.collected D,args:=#[] }

def pX (P:Program)(fn:Func)(R:AV->List HO->Prop)(g:Gh)(w:World)(e:Exit)(a:Act)(w':World):Prop:=
 e = .ret/\∃D,a.defers = [Z6 D]/\w'.heap[D]? = some (.deferred (some []))/\∃v g' r H',(results fn a.tmps).run P (w'.putObj D (.deferred none)) = .ok v (w'.putObj D (.deferred none))/\
  Rep g' (w'.putObj D (.deferred none)) v r/\HOK g' (w'.putObj D (.deferred none)) H'/\Ext g w g' (w'.putObj D (.deferred none))/\R r H'

section
variable {P:Program} {fn:Func} {R:AV->List HO->Prop} {Q:Exit->St->Prop} {s:St}
theorem pX.mono {g g1:Gh}{w w1:World}(h:Ext g w g1 w1){e:Exit}{a:Act}{w':World}(k:pX P fn R g1 w1 e a w'):pX P fn R g w e a w':=by
 obtain ⟨he,D,h1,h2,v,g',r,H',h3,h4,h5,h6,h7⟩:=k;exact ⟨he,D,h1,h2,v,g',r,H',h3,h4,h5,h.trans h6,h7⟩

theorem AWX.seq {x y:Code}(h:AW P x (Fu (AWX P y Q (pX P fn R)) Q) s):AWX P (.seq x y) Q (pX P fn R) s:=by
 intro Q' g a w hG hQ hX;refine wp_seq (h _ g a w hG fun e g' s' a' w' hG' hx hq=>?_);cases e with
 | normal=>exact hq Q' g' a' w' hG' (fun e g'' s'' a'' w'' h1 h2 h3=>hQ e g'' s'' a'' w'' h1 (hx.trans h2) h3) (fun e a'' w'' hk=>hX e a'' w'' (hk.mono hx))
 | _=>exact hQ _ g' s' a' w' hG' hx hq

def AWX2 (P:Program)(y z:Code)(Q:Exit->St->Prop)(X:Gh->World->Exit->Act->World->Prop)(s:St):Prop:=
 ∀(Q':Exit->Act->World->Prop) (g:Gh) (a:Act) (w:World),Gm g s a w->(∀e g' s' a' w',Gm g' s' a' w'->Ext g w g' w'->Q e s'->Q' e a' w')->(∀e a' w',X g w e a' w'->Q' e a' w')->y.wp P (Exit.then (z.wp P Q') Q') a w

theorem AWX.assoc {x y z:Code}(h:AW P x (Fu (AWX2 P y z Q (pX P fn R)) Q) s):AWX P (.seq (.seq x y) z) Q (pX P fn R) s:=by
 intro Q' g a w hG hQ hX;refine wp_seq (wp_seq (h _ g a w hG fun e g' s' a' w' hG' hx hq=>?_));cases e with
 | normal=>exact hq Q' g' a' w' hG' (fun e g'' s'' a'' w'' h1 h2 h3=>hQ e g'' s'' a'' w'' h1 (hx.trans h2) h3) (fun e a'' w'' hk=>hX e a'' w'' (hk.mono hx))
 | _=>exact hQ _ g' s' a' w' hG' hx hq

theorem Cj.bodyX {T:List (Nat×TD)}(hT:Ir P T){f:FuncId}{c:Code}{args:List AV}{H:List HO}(hf:P.funcs[f]? = some fn)(hb:fn.body=some c){n:Nat}(hn:fn.ntmps=n)(hle:Nat.ble args.length n=true)
    (h:AWX P c (fun e s=>(e = .normal\/e = .ret)/\∃xs,ResL P T s fn.results.toList xs/\∃H',H'.Sublist s.H/\R (Ad xs) H') (pX P fn R) ⟨Hy 0 args,H,n⟩):Cj P f H args R:=by
  intro g w vs hH hr;have hle':=Ct hle;refine (callsIn_wide (n:=1)).1 (callsIn_of_wp_marks hf hb trivial ?_);refine wpIn_wide.2 ?_;refine h _ g _ w ⟨?_,rfl,?_,hH⟩ ?_ ?_
  . simp only [Un,Array.size_replicate,hn,hr.1];omega
  . intro i
    show Rep g w _ (get (Hy 0 args) i);rw [X4];simp only [A3,if_true,Nat.sub_zero];cases hi:args[i]? with
    | none=>exact .junk _
    | some x=>
      have hlt:i<vs.size:=by rw [hr.1];exact (List.getElem?_eq_some_iff.1 hi).1
      have:=hr.2 i x hi;simp only [D6,Array.getElem?_append,hlt,if_true] at this ⊢;exact this
  . rintro e g' s' a' w' hG' hx ⟨he,xs,hr',H',hs,hq⟩
    obtain ⟨v,h1,h2⟩:=T9 hT hr' hG'
    have key:LeavesInM Fence.wide 1 P fn a'.tmps (fun e w'=>∃v g' r H',e = .returned v/\Rep g' w' v r/\HOK g' w' H'/\Ext g w g' w'/\R r H') a'.defers .returning w':=by
      rw [hG'.defers];exact ⟨v,h1,v,g',_,H',rfl,h2,hG'.heap.sub hs,hx,hq⟩
    rcases he with rfl | rfl <;> exact key
  . rintro e a' w' ⟨rfl,D,hD,hk,v,g',r,H',h1,h2,h3,h4,h5⟩
    show LeavesInM Fence.wide 1 P fn a'.tmps _ a'.defers .returning w';rw [hD];exact ⟨by simp,.inl ⟨D,_,rfl,run_takeDeferred hk,v,h1,v,g',r,H',rfl,h2,h3,h4,h5⟩⟩
end

def Act.more (a:Act)(ds:List Deferred):Act:={ a with defers:=a.defers++ds }
theorem Qx (a:Act)(ds:List Deferred)(d:Option Nat)(v:Value):(Act.more a ds).put d v=Act.more (a.put d v) ds:=by cases d <;> rfl
theorem jW (a:Act)(ds:List Deferred):(Act.more a ds).eval=a.eval:=by funext y;cases y <;> rfl

def pH (ds:List Deferred)(Q:Exit->Act->World->Prop)(e:Exit)(a:Act)(w:World):Prop:=∃a0,a=Act.more a0 ds/\Q e a0 w

theorem kO {P:Program}{ops:Array Oper}{Q:Exit->Act->World->Prop}{ds:List Deferred}{i:Nat}{K K':Act->World->Prop}(hK:∀a w,K a w->K' (Act.more a ds) w){a:Act}{w:World}
    (h:wpOp P ops Q i K a w):wpOp P ops (pH ds Q) i K' (Act.more a ds) w:=by
  have hL:LetsOut Q->LetsOut (pH ds Q):=fun ⟨a,w,h⟩=>⟨_,w,a,rfl,h⟩
  unfold wpOp at h ⊢;cases ho:ops[i]? with
  | none=>rw [ho] at h;exact hK _ _ h
  | some o=>
    rw [ho] at h;simp only at h ⊢;have ht:yielded ops (Act.more a ds).tmps=yielded ops a.tmps:=rfl;rw [ht];by_cases hw:Region.wanted o (yielded ops a.tmps)=true
    . rw [if_pos hw] at h ⊢
      rcases h with h | ⟨h,h'⟩
      . left
        unfold Oper.wp at h ⊢;rw [jW];generalize (execOp a.eval o).run P w=r at h ⊢;cases r with
        | ok x w'=>
          cases x with
          | value v=>show K' _ w';rw [Qx];exact hK _ _ h
          | skip=>show K' _ w';rw [Qx];exact hK _ _ h
          | defer d=>
            have:=hK _ _ h;rw [<-Qx] at this;exact this
          | enter f args=>
            have h':Calls P f args w' _:=h;show Calls P f args w' _;refine h'.mono ?_;intro e w'' hr;cases e with
            | returned v=>show K' _ w'';rw [Qx];exact hK _ _ hr
            | panicked c=>exact ⟨a,rfl,hr⟩
            | outgrown=>exact hL hr
          | row row args=>
            have h':Rows P row args w' _:=h;show Rows P row args w' _;exact h'.mono fun v w'' hr=>by rw [Qx];exact hK _ _ hr
          | _=>exact h.elim
        | halt e w'=>
          cases e with
          | panic v=>exact ⟨a,rfl,h⟩
          | _=>exact h.elim
      . right
        refine ⟨?_,hL h'⟩;unfold Oper.asks at h ⊢;rw [jW];exact h
    . rw [if_neg hw] at h ⊢
      rw [Qx];exact hK _ _ h

theorem gT {P:Program}{md:Region.Mode}{ops:Array Oper}{Q:Exit->Act->World->Prop}{ds:List Deferred}:∀(Bm:Nat) (listed:Array Bool) (a:Act) (w:World),wpAny P md ops Q Bm listed a w->
  wpAny P md ops (pH ds Q) Bm listed (Act.more a ds) w
 | 0,listed,a,w,h=>⟨h.1,a,rfl,h.2⟩
 | Bm+1,listed,a,w,h=>⟨fun hr=>⟨a,rfl,h.1 hr⟩,fun i hi=>kO (fun a w h=>gT Bm _ a w h) (h.2 i hi)⟩

section
variable {P:Program} {ops:Array Oper}
theorem tail_more (hm:P.follows .mixedOrders=true){id:Nat}{Qs:St->Prop}{s:St}(K:List HO->Prop)(hK:K s.H)(hdd:E0 ops=true)(h:Gi P ops K Qs (Array.replicate ops.size false) s)
  {Q':Exit->Act->World->Prop} {g:Gh} {a:Act} {w:World} (hG:Gm g s a w) (ds:List Deferred) (hQ:∀g' s' a' w',Gm g' s' a' w'->Ext g w g' w'->Qs s'->Q' .ret (Act.more a' ds) w') :
  ((Code.region id ops true).seq .ret).wp P Q' (Act.more a ds) w:=by
 have hx:=Ext.drew g w;have hG':Gm g s a w.drew:=⟨hG.size,hG.defers,fun i=>(hG.sl i).mono hx,hG.heap.drew⟩
 have key:=CanonI.any hdd h ops.size [] (Array.replicate ops.size false) s.sl g a w.drew (fun e a' w'=>match e with | .normal=>Q' .ret (Act.more a' ds) w' | _=>False)
  ⟨by simp,by simp,by simp,by simp,fun t _=>rfl,by simp,by simp,by simp,by simp,by simp,by simp,by simp,by simp,fun j o hj hl=>by
   have hlt:j<ops.size:=(Array.getElem?_eq_some_iff.1 hj).1;simp [hlt] at hl⟩ hG' (fun _=>hK) (by
   unfold uV;have:=List.length_filter_le (fun j=>!(Array.replicate ops.size false).getD j true) (List.range ops.size);simpa using this) fun g' s' a' w' k1 k2 k3=>hQ g' s' a' w' k1 (hx.trans k2) k3
 have key2:=gT (ds:=ds) _ _ _ _ key;refine wp_seq (wp_mono (wp_region_any hm key2) ?_);rintro e a' w' ⟨a0,rfl,hq⟩;cases e with
 | normal=>exact wp_ret hq
 | _=>exact hq.elim

inductive AWD (P:Program):Code->(St->Prop)->St->Prop where
 | draw (hm:P.follows .mixedOrders=true) {id:Nat} {ops:Array Oper} {Qs:St->Prop} {s:St} (K:List HO->Prop) (hK:K s.H) (hdd:E0 ops=true) (h:Gi P ops K Qs (Array.replicate ops.size false) s):AWD P (.region id ops true) Qs s

def endX (P:Program)(T:List (Nat×TD))(fn:Func)(R:AV->List HO->Prop)(D:Nat)(s:St):Prop:=
 ∃i:Nat,s.H[i]? = some (HO.obj D (Obj.deferred (some [])))/\∃xs,ResL P T ⟨s.sl,s.H.set i (.obj D (.deferred none)),s.n⟩ fn.results.toList xs/\∃H3,H3.Sublist (s.H.set i (.obj D (.deferred none)))/\R (Ad xs) H3

end
end Go.Aw

namespace Go.Aw
open Go
theorem AW.ghostPost {P:Program}{c:Code}{Q:Exit->St->Prop}{s:St}(h:AW P c (fun e s=>∃s',GS s s'/\Q e s') s):AW P c Q s:=by
 intro Q' g a w hG hQ;refine h Q' g a w hG fun e g' s' a' w' h1 h2 ⟨s2,h3,h4⟩=>?_
 obtain ⟨g2,k1,k2⟩:=h3 g' a' w' h1;exact hQ e g2 s2 a' w' k1 (h2.trans k2) h4
def sidx:List (List UInt8×AV)->List UInt8->Option Nat
 | [],_=>none
 | (k,_)::r,n=>if k=n then some 0 else (sidx r n).map (· + 1)
def sput (es:List (List UInt8×AV))(n:List UInt8)(x:AV):List (List UInt8×AV):=match sidx es n with | some j=>es.modify j fun _=>(n,x) | none=>es ++ [(n,x)]
section
variable {P:Program} {T:List (Nat×TD)} {d:Option Nat} {ty:TypeId} {pos:String} {aft:Array Edge} {gd:Option (Nat×Bool)} {ρ:Operand->AV}
end
end Go.Aw

namespace Go.Aw
open Go
theorem GS.heq {sl:List (Nat×AV)}{H H2:List HO}{n:Nat}(h:H=H2):GS ⟨sl,H,n⟩ ⟨sl,H2,n⟩:=by subst h;exact GS.refl _
end Go.Aw
namespace Go.Proofs.YtckhoadldibflaaGreatDoor
open Go Go.Aw
theorem wX {T:List e8Sc}{k:Nat}{s:e8Sc}(h:T[k]? = some s):Nz (T.take k) ++ [s.name]=Nz (T.take (k+1)):=by
 rw [Cf h];simp
theorem nm_new {T:List e8Sc}(hd:(Nz T).Nodup){k:Nat}{s:e8Sc}(h:T[k]? = some s):(Nz (T.take k)).contains s.name=false:=by
 rw [nD];intro hc
 have h2:(Nz (T.take (k+1))).Nodup:=by
  have:(Nz (T.take (k+1))).Sublist (Nz T):=(List.take_sublist _ _).map _;exact hd.sublist this
 rw [<-wX h,Uj] at h2;exact h2.2.2 _ (List.contains_iff_mem.1 hc) _ (by simp) rfl
section
variable {T:List e8Sc} {V:List Va} {t:Syn}
def dFa (T:List e8Sc)(V:List Va)(t:Syn):Fa:=if (M3 T V t != 0) then ⟨t.pos,M3 T V t⟩ else Xy
def dV (T:List e8Sc)(V:List Va)(t:Syn):List Va:=if (M3 T V t != 0) then V else V ++ [Zm T t]
theorem dec_1 (h1:((V.length:Int)==16)=true):M3 T V t=5:=if_pos h1
theorem dec_2 (h1:((V.length:Int)==16)=false)(h2:(!((Nz T).contains t.text))=true):M3 T V t=8:=(Bl h1).trans (if_pos h2)
theorem dec_3 (h1:((V.length:Int)==16)=false)(h2:(!((Nz T).contains t.text))=false)(h3:(Lh V).contains t.name=true):M3 T V t=7:=(Bl h1).trans ((Bl h2).trans (if_pos h3))
theorem dec_4 (h1:((V.length:Int)==16)=false)(h2:(!((Nz T).contains t.text))=false)(h3:(Lh V).contains t.name=false):M3 T V t=0:=(Bl h1).trans ((Bl h2).trans (Bl h3))
theorem sT {e:Int}(h:M3 T V t=e)(he:e≠0):dFa T V t=⟨t.pos,e⟩/\dV T V t=V:=by
 unfold dFa dV;rw [h,if_pos (by simpa using he),if_pos (by simpa using he)];exact ⟨rfl,rfl⟩
theorem dFa_yes (h:M3 T V t=0):dFa T V t=Xy/\dV T V t=V ++ [Zm T t]:=by
 unfold dFa dV;rw [h,if_neg (by decide),if_neg (by decide)];exact ⟨rfl,rfl⟩
theorem Uw (r:List Syn):Qq T V (t::r)=if (M3 T V t != 0) then (V,⟨t.pos,M3 T V t⟩) else Qq T (V ++ [Zm T t]) r:=by rw [Qq]
theorem decS_hit {l:List Syn}{k:Nat}(h:l[k]? = some t)(he:((dFa T V t).err != 0)=true):Qq T V (l.drop k)=(dV T V t,dFa T V t):=by
 have hx:(M3 T V t != 0)=true:=by
  unfold dFa at he;cases hq:M3 T V t != 0 with
  | true=>rfl
  | false=>rw [hq,if_neg (by decide)] at he;exact absurd he (by decide)
 rw [Bd h,Uw,if_pos hx];unfold dFa dV;rw [if_pos hx,if_pos hx]
theorem decS_on {l:List Syn}{k:Nat}(h:l[k]? = some t)(he:((dFa T V t).err != 0)=false):Qq T V (l.drop k)=Qq T (dV T V t) (l.drop (k+1)):=by
 have hx:(M3 T V t != 0)=false:=by
  unfold dFa at he;cases hq:M3 T V t != 0 with
  | false=>rfl
  | true=>rw [hq,if_pos rfl] at he;simp only at he;rw [hq] at he;cases he
 rw [Bd h,Uw,Bl hx];unfold dV;rw [Bl hx]
theorem dV_len (h:V.length<=16):(dV T V t).length<=16:=by
  unfold dV;cases hq:M3 T V t != 0 with
  | true=>rw [if_pos rfl];exact h
  | false=>
    rw [Bl rfl,Ax,Ot]
    have:V.length≠16:=fun h16=>by
      have:=dec_1 (T:=T) (t:=t) (V:=V) (by simp [h16]);rw [this] at hq;exact absurd hq (by decide)
    omega
theorem scVa (l:List Va):∀c∈l.map Ox,A7 c=true:=fun c hc=>by
 obtain ⟨x,_,rfl⟩:=Db.1 hc;rfl
end
section
variable {t:Syn}
theorem aF (h:Cb t .pats=0):5<=t.kind/\t.kind<=12:=aE (Ls (Lr h).1).1
theorem Vb (h:Cb t .pats=0)(hk:t.kind=10\/t.kind=12):t.kids.length=2:=by
 have hs:=(Ls (Lr h).1).2.1;unfold Fy at hs;rcases hk with hk | hk <;> · rw [hk] at hs;simp at hs;omega
theorem U9 (h:Cb t .pats=0)(h5:t.kind≠5){j:Nat}{a:Syn}(ha:t.kids[j]? = some a)(hj:(t.kind=10\/t.kind=12)->j=0):Cb a .pats=0:=by
 have hr:=aF h;have hk:=(Po h ha).1
 have he:G1 t j = .pats:=by
  unfold G1;rw [if_neg (by simp;omega),if_neg (by simp;omega),if_neg (by simp;omega)];by_cases h10:t.kind=10
  .
   have:=hj (.inl h10);subst this;rw [if_pos (by simpa using h10),if_neg (by decide)]
  rw [if_neg (by simpa using h10)];by_cases h12:t.kind=12
  .
   have:=hj (.inr h12);subst this;rw [if_pos (by simpa using h12),if_neg (by decide)]
  rw [if_neg (by simpa using h12),if_neg (by simp;omega),if_neg (by simp;omega)]
 rw [he] at hk;exact hk
theorem H9 (x:Syn)(r:List Syn):G6 (x::r)=Jb x+G6 r:=by rw [G6]
theorem lD (t:Syn):(Xx t).length<=Jb t:=by
  induction t using Syn.ind with
  | h t ih=>
    rw [Zr,Hm]
    have hh:(evH t.kids).length<=G6 t.kids:=by
      cases hk:t.kids with
      | nil=>rw [evH];simp
      | cons x r=>rw [evH,H9];have:=ih x (by rw [hk];simp);omega
    have hf:∀l:List Syn,(∀a∈l,(Xx a).length<=Jb a)->(l.flatMap Xx).length<=G6 l:=by
      intro l
      induction l with
      | nil=>intro _;simp
      | cons x r ih2=>intro hl;rw [P6,Ax,H9];have:=hl x (by simp);have:=ih2 fun a ha=>hl a (by simp [ha]);omega
    split
    . simp
    . split
      . rw [A1];omega
      . split
        . omega
        have:=hf _ ih;omega
theorem Zl:∀(l:List Syn) (k:Nat),G6 (l.take k)<=G6 l
 | [],k=>by simp
 | x::r,0=>by rw [Ul,G6];omega
 | x::r,k+1=>by rw [W0,H9,H9];have:=Zl r k;omega
theorem evF_len (l:List Syn):(l.flatMap Xx).length<=G6 l:=by
 induction l with
 | nil=>simp
 | cons x r ih=>rw [P6,Ax,H9];have:=lD x;omega
theorem ev_part (ht:Vp t)(k:Nat):(((t.kids.take k).flatMap Xx).map C3).length<=1000000:=by
 rw [B7];have h1:=evF_len (t.kids.take k);have h2:=Zl t.kids k;have h3:=sQ t.kids;have h4:=Mz t;unfold Vp at ht;omega
theorem ev_kid (ht:Vp t):((Xx t).map C3).length<=1000000:=by
 rw [B7];exact Fl (lD t) (Ue ht)
theorem scSyn (l:List Syn):∀c∈l.map C3,A7 c=true:=fun c hc=>by
 obtain ⟨x,_,rfl⟩:=Db.1 hc;rw [Bi];rfl
theorem evs_1 (h1:(t.kind==5)=true):(Xx t).map C3 = [cSyn t]:=by
 rw [Zr,if_pos h1,Bj,Ca,Bi]
theorem evs_2 (h1:(t.kind==5)=false)(h2:(t.kind==10)=true)(hl:0<t.kids.length):(Xx t).map C3 = [cSyn (Cd t 1)]++(Xx (Cd t 0)).map C3:=by
 rw [Zr,Bl h1,if_pos h2,Bj,Bi,lC hl];rfl
theorem evs_3 (h1:(t.kind==5)=false)(h2:(t.kind==10)=false)(h3:(t.kind==12)=true)(hl:0<t.kids.length):Xx t=Xx (Cd t 0):=by
 rw [Zr,Bl h1,Bl h2,if_pos h3,lC hl];rfl
theorem evs_4 (h1:(t.kind==5)=false)(h2:(t.kind==10)=false)(h3:(t.kind==12)=false):Xx t=t.kids.flatMap Xx:=by
 rw [Zr,Bl h1,Bl h2,Bl h3]
end
def opL:List (Int×AV):=[(5,.int .i64 0),(6,.int .i64 1),(7,.int .i64 2),(8,.int .i64 3),(9,.int .i64 4),(10,.int .i64 5),(11,.int .i64 6),(12,.int .i64 7)]
theorem op_get {k:Int}(h0:5<=k)(h1:k<=12):Wj opL k=some (.int .i64 (k-5)):=by
 have:k=5\/k=6\/k=7\/k=8\/k=9\/k=10\/k=11\/k=12:=by omega
 rcases this with rfl | rfl | rfl | rfl | rfl | rfl | rfl | rfl <;> rfl
structure NxOK (s:Nx) (n:Nat):Prop where
 a:0<=s.next
 b:0<=s.scopes
 c:s.next+n<=3000000
 d:s.scopes+n<=3000000
section
variable {T:List e8Sc} {V:List Va} {t:Syn}
theorem cond_1 (h:decide ((0:Int)<(t.kids.length:Int))=true):N7 T V t=Gs T V (Cd t 0):=if_pos h
theorem cond_2 (h:decide ((0:Int)<(t.kids.length:Int))=false):N7 T V t=Lb:=Bl h
theorem ptn_args (s:Nx)(xs:List Pt):Q6 T V t s xs = { Q6 T V t s [] with args:=xs }:=by
 unfold Q6;split
 . rfl
 split
 . rfl
 split
 . rfl
 split <;> rfl
theorem gC (t:Syn)(s:Nx):J6 T V t s=({ Q6 T V t s [] with args:=(G2 T V (Hi t) (aB t s)).1 },(G2 T V (Hi t) (aB t s)).2):=by
 rw [xE,ptn_args]
theorem ptn_5 {s:Nx}(h1:(t.kind==5)=true):Q6 T V t s []=⟨0,[],Tv (Nz T) t.text,s.next,0,0,N7 T V t⟩:=if_pos h1
theorem ptn_10 {s:Nx}(h1:(t.kind==5)=false)(h2:(t.kind==10)=true):Q6 T V t s []=⟨5,[],Tv (Nz T) (Cd t 1).text,s.next,s.scopes,0,N7 T V (Cd t 1)⟩:=(Bl h1).trans (if_pos h2)
theorem ptn_11 {s:Nx}(h1:(t.kind==5)=false)(h2:(t.kind==10)=false)(h3:(t.kind==11)=true):Q6 T V t s []=⟨6,[],0,0,s.scopes,t.num,Zs⟩:=(Bl h1).trans ((Bl h2).trans (if_pos h3))
theorem ptn_12 {s:Nx}(h1:(t.kind==5)=false)(h2:(t.kind==10)=false)(h3:(t.kind==11)=false)(h4:(t.kind==12)=true):Q6 T V t s []=⟨7,[],0,0,0,0,Gs T V (Cd t 1)⟩:=(Bl h1).trans ((Bl h2).trans ((Bl h3).trans (if_pos h4)))
theorem ptn_o {s:Nx}(h1:(t.kind==5)=false)(h2:(t.kind==10)=false)(h3:(t.kind==11)=false)(h4:(t.kind==12)=false):Q6 T V t s []=⟨t.kind-5,[],0,0,0,0,Zs⟩:=(Bl h1).trans ((Bl h2).trans ((Bl h3).trans (Bl h4)))
theorem pn_5 {s:Nx}(h1:(t.kind==5)=true):(⟨t.kind-5,[],Tv (Nz T) t.text,s.next,0,0,N7 T V t⟩:Pt)=Q6 T V t s []:=by
 have:t.kind=5:=by simpa using h1
 rw [ptn_5 h1,this];rfl
theorem pn_10 {s:Nx}(h1:(t.kind==5)=false)(h2:(t.kind==10)=true):(⟨t.kind-5,[],Tv (Nz T) (Cd t 1).text,s.next,s.scopes,0,N7 T V (Cd t 1)⟩:Pt)=Q6 T V t s []:=by
 have:t.kind=10:=by simpa using h2
 rw [ptn_10 h1 h2,this];rfl
theorem pn_11 {s:Nx}(h1:(t.kind==5)=false)(h2:(t.kind==10)=false)(h3:(t.kind==11)=true):(⟨t.kind-5,[],0,0,s.scopes,t.num,Zs⟩:Pt)=Q6 T V t s []:=by
 have:t.kind=11:=by simpa using h3
 rw [ptn_11 h1 h2 h3,this];rfl
theorem pn_12 {s:Nx}(h1:(t.kind==5)=false)(h2:(t.kind==10)=false)(h3:(t.kind==11)=false)(h4:(t.kind==12)=true):(⟨t.kind-5,[],0,0,0,0,Gs T V (Cd t 1)⟩:Pt)=Q6 T V t s []:=by
 have:t.kind=12:=by simpa using h4
 rw [ptn_12 h1 h2 h3 h4,this];rfl
theorem nxn_5 {s:Nx}(h1:(t.kind==5)=true):aB t s=⟨s.next+1,s.scopes⟩:=by
 have:t.kind=5:=by simpa using h1
 unfold aB;rw [this];rfl
theorem nxn_10 {s:Nx}(h2:(t.kind==10)=true):aB t s=⟨s.next+1,s.scopes+1⟩:=by
 have:t.kind=10:=by simpa using h2
 unfold aB;rw [this];rfl
theorem nxn_11 {s:Nx}(h3:(t.kind==11)=true):aB t s=⟨s.next,s.scopes+1⟩:=by
 have:t.kind=11:=by simpa using h3
 unfold aB;rw [this];rfl
theorem nxn_o {s:Nx}(h1:(t.kind==5)=false)(h2:(t.kind==10)=false)(h3:(t.kind==11)=false):aB t s=s:=by
 unfold aB;rw [h1,h2,h3];rfl
theorem pk_5 (h1:(t.kind==5)=true):Hi t = []:=if_pos h1
theorem pk_10 (h1:(t.kind==5)=false)(h2:(t.kind==10)=true):Hi t=t.kids.take 1:=by
 unfold Hi;rw [Bl h1,h2];rfl
theorem pk_12 (h1:(t.kind==5)=false)(h4:(t.kind==12)=true):Hi t=t.kids.take 1:=by
 unfold Hi;rw [Bl h1,h4];simp
theorem pk_o (h1:(t.kind==5)=false)(h2:(t.kind==10)=false)(h4:(t.kind==12)=false):Hi t=t.kids:=by
 unfold Hi;rw [Bl h1,h2,h4];rfl
theorem gB {a:Syn}(h:a∈Hi t):a∈t.kids:=by
 unfold Hi at h;split at h
 . cases h
 split at h
 . exact List.mem_of_mem_take h
 exact h
theorem qB (hc:Cb t .pats=0){a:Syn}(h:a∈Hi t):Cb a .pats=0:=by
 have h5:t.kind≠5:=fun e=>by rw [pk_5 (by simpa using e)] at h;cases h
 obtain ⟨j,hj⟩:=J9.1 h;unfold Hi at hj;rw [if_neg (by simpa using h5)] at hj;split at hj
 .
  rename_i hq;have hj0:j=0:=by have:=(List.getElem?_eq_some_iff.1 hj).1;simp at this;omega
  subst hj0;rw [List.getElem?_take_of_lt (by omega)] at hj;exact U9 hc h5 hj fun _=>rfl
 rename_i hq;exact U9 hc h5 hj fun e=>absurd (by simpa using e) hq
theorem cU (t:Syn):G6 (Hi t)<=G6 t.kids:=by
 unfold Hi;split
 . rw [G6];omega
 split
 . exact Zl _ _
 exact B6 _
theorem pk_len (ht:Vp t):(Hi t).length<=1048576:=by
 have h1:=eD (Hi t);have h2:=cU t;have h3:=Ue ht;rw [Hm] at h3;omega
theorem nxn_ok {s:Nx}(h:NxOK s (Jb t)):NxOK (aB t s) (G6 t.kids)/\s.next<=(aB t s).next/\s.scopes<=(aB t s).scopes/\(aB t s).next<=s.next+1/\(aB t s).scopes<=s.scopes+1:=by
 obtain ⟨a,b,c,d⟩:=h;rw [Hm] at c d;unfold aB;refine ⟨⟨?_,?_,?_,?_⟩,?_,?_,?_,?_⟩ <;> simp only <;> split <;> omega
theorem ptt_step:∀t:Syn,∀s:Nx,NxOK s (Jb t)->s.next<=(J6 T V t s).2.next/\s.scopes<=(J6 T V t s).2.scopes/\(J6 T V t s).2.next<=s.next+Jb t/\(J6 T V t s).2.scopes<=s.scopes+Jb t:=by
  intro t
  induction t using Syn.ind with
  | h t ih=>
    intro s hs;obtain ⟨h1,h2,h3,h4,h5⟩:=nxn_ok hs;rw [xE,Hm]
    have key:∀l:List Syn,(∀a∈l,a∈t.kids)->∀s:Nx,NxOK s (G6 l)->s.next<=(G2 T V l s).2.next/\s.scopes<=(G2 T V l s).2.scopes/\(G2 T V l s).2.next<=s.next+G6 l/\(G2 T V l s).2.scopes<=s.scopes+G6 l:=by
      intro l
      induction l with
      | nil=>intro _ s _;rw [G2];simp only;omega
      | cons x r ih2=>
        intro hl s hs;obtain ⟨a,b,c,d⟩:=hs;rw [H9] at c d;have hx:=ih x (hl x (by simp)) s ⟨a,b,by omega,by omega⟩;have hr:=ih2 (fun a ha=>hl a (by simp [ha])) (J6 T V x s).2 ⟨by omega,by omega,by omega,by omega⟩;rw [G2,H9];simp only;omega
    have hp:=cU t;have hk:=key (Hi t) (fun a ha=>gB ha) (aB t s) ⟨h1.a,h1.b,by have:=h1.c;omega,by have:=h1.d;omega⟩;simp only;omega
theorem qF {l:List Syn}{k:Nat}{a:Syn}(h:l[k]? = some a)(s:Nx):G2 T V (l.take (k+1)) s=((G2 T V (l.take k) s).1 ++ [(J6 T V a (G2 T V (l.take k) s).2).1],(J6 T V a (G2 T V (l.take k) s).2).2):=by
 rw [Cf h,qE,G2,G2]
theorem yU {l:List Syn}{k:Nat}{a:Syn}(h:l[k]? = some a):G6 (l.drop k)=Jb a+G6 (l.drop (k+1)):=by rw [Bd h,H9]
theorem nx_on {l:List Syn}{k:Nat}{a:Syn}(h:l[k]? = some a){s:Nx}(hs:NxOK s (G6 (l.drop k))):NxOK s (Jb a)/\NxOK (J6 T V a s).2 (G6 (l.drop (k+1))):=by
 obtain ⟨x1,x2,x3,x4⟩:=hs;rw [yU h] at x3 x4;have ha:NxOK s (Jb a):=⟨x1,x2,by omega,by omega⟩;have:=ptt_step (T:=T) (V:=V) a s ha;exact ⟨ha,by omega,by omega,by omega,by omega⟩
theorem scPt (l:List Pt):∀c∈l.map Jd,A7 c=true:=fun c hc=>by
 obtain ⟨x,_,rfl⟩:=Db.1 hc;rw [Uz];rfl
theorem X8 (hw:(H5 T V t).err=0){j:Nat}(h:j<t.kids.length):(H5 T V (Cd t j)).err=0:=(Kl hw).2 _ (An (Ie h))
theorem lQ (ht:Vp t){j:Nat}(h:j<t.kids.length):Vp (Cd t j):=M9 ht (An (Ie h))
end
end Go.Proofs.YtckhoadldibflaaGreatDoor

namespace Go.Proofs
open Go.Shelf
def Tryz.lays264_ren:Go.Shelf.Ren:=⟨fun | 264=>290 | n=>n,fun | 53=>298 | 46=>271 | n=>n,fun | n=>n⟩
def Tryz.lays212_ren:Go.Shelf.Ren:=⟨fun | 212=>233 | 263=>289 | 264=>290 | n=>n,fun | 46=>271 | 51=>295 | 146=>296 | 53=>298 | 148=>299 | n=>n,fun | n=>n⟩
theorem Tryz.lays212:Go.Proofs.Lays.n212 Tryz.prog Tryz.lays212_ren:={
 mixed:=by kernel_rfl
 f212:=Tryz.func233.trans (congrArg some (by kernel_rfl))
 f263:=Tryz.func289.trans (congrArg some (by kernel_rfl))
 f264:=Tryz.func290.trans (congrArg some (by kernel_rfl))
 t46:=Tryz.underlying271
 a46:=Tryz.isAgg271
 z46:=Tryz.sizeOf271
 v46:=Tryz.zeroValue271
 t51:=Tryz.underlying295
 a51:=Tryz.isAgg295
 z51:=Tryz.sizeOf295
 v51:=Tryz.zeroValue295
 t53:=Tryz.underlying298
 a53:=Tryz.isAgg298
 z53:=Tryz.sizeOf298
 v53:=Tryz.zeroValue298
 t146:=Tryz.underlying296
 a146:=Tryz.isAgg296
 z146:=Tryz.sizeOf296
 v146:=Tryz.zeroValue296
 t148:=Tryz.underlying299
 a148:=Tryz.isAgg299
 z148:=Tryz.sizeOf299
 v148:=Tryz.zeroValue299 }
open Go.RowKit Go.Lib in
theorem Tryz.bits_Mul (x y:Nat)(hx:x<18446744073709551616)(hy:y<18446744073709551616)(w:World) :
 Calls Tryz.prog 233 #[.int .u64 x,.int .u64 y] w fun e w'=>e = .returned (.tuple #[.int .u64 ((x*y / 18446744073709551616:Nat):Int),.int .u64 ((x*y % 18446744073709551616:Nat):Int)])/\w'=w:=Any.bits_Mul Tryz.lays212 x y hx hy w
end Go.Proofs

namespace Go.Proofs.YtckhoadldibflaaGreatDoor
open Go Go.Aw
def ixI (l:List Int)(k:Int):Int:=(l[k.toNat]?).getD 0
def bI (l:List Int):List AV:=l.map (AV.int .i64)
def cI (v:Int):List AV:=[.int .i64 v]
theorem dX (l:List Int):(bI l).length=l.length:=B7 ..
theorem bI_sc (l:List Int):A7 (bI l)=true:=by
 induction l with
 | nil=>rfl
 | cons a r ih=>exact ih
theorem bI_app (l m:List Int):bI (l++m)=bI l++bI m:=Em ..
theorem vG (l:List Int)(k:Nat):(bI l).take k=bI (l.take k):=(Nc ..).symm
theorem bI_drop (l:List Int)(k:Nat):(bI l).drop k=bI (l.drop k):=(List.map_drop ..).symm
theorem vH (n:Nat):(List.replicate n [AV.int .i64 0]).flatten=bI (List.replicate n 0):=by
 induction n with
 | zero=>rfl
 | succ n ih=>rw [List.replicate_succ,Br,ih,List.replicate_succ];rfl
theorem kU (l:List Int):(l.map cI).flatten=bI l:=by
 induction l with
 | nil=>rfl
 | cons a r ih=>rw [Bj,Br,ih];rfl
theorem fX {α:Type}{f:α->List AV}(hf:∀x,(f x).length=1)(l:List α):∀e∈l.map f,e.length=1:=fun e he=>by
 obtain ⟨x,_,rfl⟩:=Db.1 he;exact hf x
theorem dY:∀{l:List Int} {k:Nat} {v:Int},k<l.length->I3 (bI l) k [AV.int .i64 v]=bI (l.set k v)
  | [],k,v,h=>absurd h (by simp)
  | a::r,0,v,h=>by simp [I3,bI]
  | a::r,k+1,v,h=>by
    have ih:=dY (l:=r) (k:=k) (v:=v) (by simpa using h);show AV.int .i64 a::I3 (bI r) k [AV.int .i64 v]=_;rw [ih];rfl
theorem tU (n:Nat):0+n*1=n:=by omega
theorem cS {l:List Int}{k:Nat}(h:k<l.length):Nat.ble (k+1) (bI l).length=true:=Nat.ble_eq_true_of_le (by rw [dX];omega)

def Yj (n:Nat):List Int:=List.replicate n (-1)
def Kq (n k:Nat):List Int:=List.replicate k (-1)++List.replicate (n-k) 0
theorem T7 {n k:Nat}(h:k<=n):(Kq n k).length=n:=by unfold Kq;simp;omega
theorem kD (n:Nat):Kq n n=Yj n:=by unfold Kq Yj;simp
theorem Aad {n k m:Nat}(hk:k+m<=n)(hm:m<=k):I3 (bI (Kq n k)) k (((bI (Kq n k)).drop 0).take m)=bI (Kq n (k+m)):=by
 rw [Nb,vG]
 have h1:(Kq n k).take m=List.replicate m (-1):=by
  unfold Kq;rw [List.take_append_of_le_length (by rw [Ss];exact hm),List.take_replicate,Nat.min_eq_left hm]
 have h2:(Kq n k).take k=List.replicate k (-1):=by
  unfold Kq;rw [List.take_append_of_le_length (by rw [Ss];omega),List.take_replicate,Nat.min_self]
 have h3:(Kq n k).drop (k+m)=List.replicate (n-(k+m)) 0:=by
  unfold Kq;rw [List.drop_append,Ss,List.drop_of_length_le (by rw [Ss];omega),Fp,List.drop_replicate]
  congr 1;omega
 unfold I3;rw [h1,dX,Ss,vG,bI_drop,h2,h3,<-bI_app,<-bI_app]
 congr 1
 unfold Kq;rw [List.replicate_append_replicate]
theorem uC {n:Nat}(hn:0<n):I3 (bI (Kq n 0)) 0 ((([[AV.int .i64 (-1)]]:List (List AV)).flatten).take 1)=bI (Kq n 1):=by
 unfold Kq;obtain ⟨m,rfl⟩:∃m,n=m+1:=⟨n-1,by omega⟩;simp [I3,bI,List.replicate_succ]
theorem kMul (x y:Nat)(hx:x<18446744073709551616)(hy:y<18446744073709551616):Ak Tryz.prog 233 [.int .u64 (x:Int),.int .u64 (y:Int)] (.tuple [.int .u64 ((x*y / 18446744073709551616:Nat):Int),.int .u64 ((x*y % 18446744073709551616:Nat):Int)]):=
 .of_same fun g w vs hg ha=>by
  obtain ⟨u,v,rfl,h1,h2⟩:=ha.inv2;have e1:=h1.inv_int;have e2:=h2.inv_int;subst e1 e2
  exact ⟨_,fun g' w'=>.tuple _ _ rfl (fun i c hc=>by
   match i,hc with
   | 0,hc=>cases hc;exact .int _ _
   | 1,hc=>cases hc;exact .int _ _
   | i+2,hc=>simp at hc),Tryz.bits_Mul x y hx hy w⟩
theorem kMul1 (n:Nat)(hn:n<=1048576):Ak Tryz.prog 233 [.int .u64 1,.int .u64 (n:Int)] (.tuple [.int .u64 0,.int .u64 (n:Int)]):=by
 have h:=kMul 1 n (by decide) (by omega);rw [Nat.one_mul,Nat.div_eq_of_lt (by omega),Nat.mod_eq_of_lt (by omega)] at h;exact h
theorem u64_in {n:Nat}(h:n<=1048576):IntKind.wrap .u64 (n:Int)=(n:Int):=by
 unfold IntKind.wrap;simp [IntKind.bits,IntKind.signed];omega
theorem i64_in {n:Nat}(h:n<=1048576):IntKind.wrap .i64 (n:Int)=(n:Int):=IntWalk.i64_in _ (by omega)
theorem Zi {l:List Int}{k:Nat}{v:Int}(h:k<l.length):(bI (l.set k v))[k]? = some (.int .i64 v):=by
 unfold bI;rw [List.getElem?_map,List.getElem?_set_self h];rfl
section
variable {T:List e8Sc} {n:Av} {va:Va} {sc:e8Sc}
theorem lO {l:List Va}{k:Nat}{out:List Int}(h:l[k]? = some va)(hs:T[va.type.toNat]? = some sc)(hq:decide (Hz sc n<0)=true):Wg T n (l.drop k) out=([],false):=by
 rw [Bd h,Wg,hs];exact if_pos hq
theorem tH {l:List Va}{k:Nat}{out:List Int}(h:l[k]? = some va)(hs:T[va.type.toNat]? = some sc)(hq:decide (Hz sc n<0)=false):Wg T n (l.drop k) out=Wg T n (l.drop (k+1)) (out.set va.type.toNat (Hz sc n)):=by
 rw [Bd h,Wg,hs];exact Bl hq
end
end Go.Proofs.YtckhoadldibflaaGreatDoor

namespace Go.Aw
open Go
section
variable {P:Program} {T:List (Nat×TD)} {d:Option Nat} {ty:TypeId} {pos:String} {aft:Array Edge} {gd:Option (Nat×Bool)} {ρ:Operand->AV} {K:List HO->Prop}
theorem Qd {i:Operand}{t e len:Nat}{td te:TD}{k:IntKind}{n:Int}{gl:Nat}{l cs':List AV}(hT:Ir P T)(hg:∃c,(gl,c)∈globals/\∀cs,c cs->cs=l)(hi:ρ i = .int k n)(ht:Bu T t=some td)(hk:td.kind = .array len e)
  (hte:Bu T e=some te) (h0:0<=n) (hc:n<len) (ho:l.drop (n.toNat*te.size)=cs') (hρ:ρ (.global gl) = .val (.pointer (some ⟨gl,0,none⟩))):Dc P ⟨d,.indexAddr t (.global gl) i,ty,pos,aft,gd⟩ ρ K (.ptr cs'):=by
 intro g w a H next Q hr hH hK hn
 obtain ⟨c,hc',hcl⟩:=hg;obtain ⟨cs,h1,h2⟩:=hH.glob.vars _ hc';obtain rfl:=hcl cs h1;obtain ⟨b,o,he,fv,h3,h4⟩:=h2.inv_ptr;simp only [Value.pointer.injEq,Option.some.injEq,Addr.mk.injEq,and_true] at he;obtain ⟨rfl,rfl⟩:=he;have he:=(hρ▸hr (.global gl) (by simp [Op.operands]):Rep g w _ _).inv_val;have h5:=(hi▸hr i (by simp [Op.operands]):Rep g w _ _).inv_int;have hu:=Nv (hT t td ht) hk
 have hrun:(execOp a.eval ⟨d,.indexAddr t (.global gl) i,ty,pos,aft,gd⟩).run P w = .ok (.value (.pointer (some ⟨gl,0+n.toNat*te.size,none⟩))) w:=by
  simp only [execOp,he,h5,Instr.indexAt,asIntOf,Sem.run_bind,Sem.run_pure,Result.andThen_ok,Bg hu,Instr.sureAddr];simp [h0,hc,Gc (hT e te hte),Gf]
 unfold Oper.wp;rw [hrun];subst ho;refine hn g w _ (.ptr gl (0+n.toNat*te.size) _ (fun j=>fv (n.toNat*te.size+j)) (fun j x hj=>?_) (fun j x hj=>?_)) hH (Ext.refl g w)
 .
  rw [List.getElem?_drop] at hj;have:=h3 (n.toNat*te.size+j) x hj
  rwa [Nat.add_assoc]
 rw [List.getElem?_drop] at hj;exact h4 (n.toNat*te.size+j) x hj
end
end Go.Aw
namespace Go.Proofs.YtckhoadldibflaaGreatDoor
open Go Go.Aw

mutual
def Dd:Pt->List Pt
 | ⟨o,xs,t,v,s,n,c⟩=>⟨o,xs,t,v,s,n,c⟩::ndPs xs
def ndPs:List Pt->List Pt
 | []=>[]
 | a::r=>Dd a++ndPs r
end
theorem pQ:∀l:List Pt,ndPs l=l.flatMap Dd
 | []=>by rw [ndPs];rfl
 | a::r=>by rw [ndPs,pQ r,P6]
theorem Oe (p:Pt):Dd p=p::p.args.flatMap Dd:=by cases p;rw [Dd,pQ]
mutual
def eI:Pt->Nat
 | ⟨_,xs,_,_,_,_,_⟩=>Wb xs+1
def Wb:List Pt->Nat
 | []=>0
 | a::r=>max (eI a) (Wb r)
end
theorem eJ (p:Pt):eI p=Wb p.args+1:=by cases p;rw [eI]
theorem Zp:∀(l:List Pt) (a:Pt),Wb (l ++ [a])=max (Wb l) (eI a)
 | [],a=>by simp [Wb]
 | x::r,a=>by rw [E2,Wb,Zp r a,Wb];omega
theorem dp_le:∀p:Pt,eI p<=Gy p:=by
  intro p
  induction p using Pt.ind with
  | h p ih=>
    rw [eJ,J5]
    have:∀l:List Pt,(∀a∈l,eI a<=Gy a)->Wb l<=(l.map Gy).sum:=by
      intro l
      induction l with
      | nil=>intro _;rw [Wb];simp
      | cons x r ih2=>intro h;rw [Wb,Bj,Ed];have:=h x (by simp);have:=ih2 fun a ha=>h a (by simp [ha]);omega
    have:=this _ ih;omega
theorem K6 {p a:Pt}(h:a∈p.args):Gy a<Gy p:=by
  rw [J5 p]
  have:∀l:List Pt,a∈l->Gy a<=(l.map Gy).sum:=by
    intro l
    induction l with
    | nil=>intro h;cases h
    | cons x r ih => intro h; rw [Bj, Ed]; rcases Dn.1 h with rfl | h
                     . omega
                     have:=ih h;omega
  have:=this _ h;omega
theorem M8 (p:Pt):p.args.length<Gy p:=by
  rw [J5]
  have:∀l:List Pt,l.length<=(l.map Gy).sum:=by
    intro l
    induction l with
    | nil=>simp
    | cons x r ih => rw [A1, Bj, Ed]; have : 1 <= Gy x := by rw [J5]; omega
                     omega
  have:=this p.args;omega
theorem mI:∀(l:List Pt) (k:Nat),((l.take k).map Gy).sum<=(l.map Gy).sum
 | [],k=>by simp
 | x::r,0=>by simp
 | x::r,k+1=>by rw [W0,Bj,Bj,Ed,Ed];have:=mI r k;omega
theorem Pq:∀p:Pt,(Dd p).length=Gy p:=by
  intro p
  induction p using Pt.ind with
  | h p ih=>
    rw [Oe,J5,A1]
    have:∀l:List Pt,(∀a∈l,(Dd a).length=Gy a)->(l.flatMap Dd).length=(l.map Gy).sum:=by
      intro l
      induction l with
      | nil=>intro _;rfl
      | cons x r ih2=>intro h;rw [P6,Ax,Bj,Ed,h x (by simp),ih2 fun a ha=>h a (by simp [ha])]
    rw [this _ ih]
theorem nd_mem {p a q:Pt}(h:a∈p.args)(hq:q∈Dd a):q∈Dd p:=by
 rw [Oe];exact Jp _ (List.mem_flatMap.2 ⟨a,h,hq⟩)
theorem Yg (p:Pt):p∈Dd p:=by rw [Oe];exact L5 ..
theorem Jz {l:List Pt}{k:Nat}{a:Pt}(h:l[k]? = some a):(l.map Jd)[k]? = some (cPt a):=by rw [List.getElem?_map,h];exact congrArg some (Uz a)

structure Shp where
 least:Int
 most:Int
 typed:Bool
 cond:Bool
 scope:Bool
 span:Bool
def cShp (s:Shp):List AV:=[.int .i64 s.least,.int .i64 s.most,.bool s.typed,.bool s.cond,.bool s.scope,.bool s.span]
def shpL:List Shp:=[⟨0,0,true,true,false,false⟩,⟨2,64,false,false,false,false⟩,⟨2,64,false,false,false,false⟩,⟨2,64,false,false,false,false⟩,⟨1,1,false,false,false,false⟩,⟨1,1,true,true,true,false⟩,⟨1,1,false,false,true,true⟩,⟨1,1,false,true,false,false⟩,⟨2,2,false,false,false,false⟩,⟨1,1,true,true,true,false⟩,⟨1,1,false,false,true,true⟩]
def Jg (o:Int):Shp:=(shpL[o.toNat]?).getD ⟨0,0,false,false,false,false⟩
theorem shp_at {o:Int}(h0:0<=o)(h1:o<11):∃rest,Wx.drop (o.toNat*6)=cShp (Jg o)++rest:=by
 have:o=0\/o=1\/o=2\/o=3\/o=4\/o=5\/o=6\/o=7\/o=8\/o=9\/o=10:=by omega
 rcases this with rfl | rfl | rfl | rfl | rfl | rfl | rfl | rfl | rfl | rfl | rfl <;> exact ⟨_,rfl⟩
def wth (u:Bool)(n m:Int):Bool:=!u||(decide (0<=n)&&decide (n<=m))
def unu (u:Bool)(n:Int):Bool:=u||(n==0)
def ckB (p:Pt)(s:Shp):Bool:=(((!wth s.typed p.type 15) || !wth s.typed p.var 15) || !wth s.scope p.scope 63) || !wth s.span p.span 1099511627776
def ckU (p:Pt)(s:Shp):Bool:=(((((!s.cond) && !F4 p.cond Zs) || !unu s.typed p.type) || !unu s.typed p.var) || !unu s.scope p.scope) || !unu s.span p.span
def ckR (p:Pt)(s:Shp):Int:=
 if decide ((p.args.length:Int)<s.least)||decide (s.most<(p.args.length:Int)) then 15
 else if ckB p s then 2
 else if s.cond&&(C2 p.cond != 0) then C2 p.cond
 else if ckU p s then 3 else 0
def bN (p:Pt):Int:=if decide (p.op<0)||decide (11<=p.op) then 1 else ckR p (Jg p.op)
section
variable {p:Pt}
theorem ck_1 (h:(decide (p.op<0)||decide (11<=p.op))=true):bN p=1:=if_pos h
theorem ck_2 (h:(decide (p.op<0)||decide (11<=p.op))=false)(h2:(decide ((p.args.length:Int)<(Jg p.op).least)||decide ((Jg p.op).most<(p.args.length:Int)))=true):bN p=15:=(Bl h).trans (if_pos h2)
theorem ck_3 (h:(decide (p.op<0)||decide (11<=p.op))=false)(h2:(decide ((p.args.length:Int)<(Jg p.op).least)||decide ((Jg p.op).most<(p.args.length:Int)))=false)(h3:ckB p (Jg p.op)=true):bN p=2:=(Bl h).trans ((Bl h2).trans (if_pos h3))
theorem ck_4 (h:(decide (p.op<0)||decide (11<=p.op))=false)(h2:(decide ((p.args.length:Int)<(Jg p.op).least)||decide ((Jg p.op).most<(p.args.length:Int)))=false)(h3:ckB p (Jg p.op)=false)(h4:(Jg p.op).cond=true)(h5:(C2 p.cond != 0)=true):bN p=C2 p.cond:=by
 refine (Bl h).trans ((Bl h2).trans ((Bl h3).trans (if_pos ?_)));rw [h4,h5];rfl
theorem ck_n (h:(decide (p.op<0)||decide (11<=p.op))=false)(h2:(decide ((p.args.length:Int)<(Jg p.op).least)||decide ((Jg p.op).most<(p.args.length:Int)))=false)(h3:ckB p (Jg p.op)=false)(h4:((Jg p.op).cond&&(C2 p.cond != 0))=false):bN p=if ckU p (Jg p.op) then 3 else 0:=(Bl h).trans ((Bl h2).trans ((Bl h3).trans (Bl h4)))
end

def Lj (p:Pt):Int:=if decide ((64:Int)<(Gy p:Int)) then 5 else if decide ((12:Int)<(eI p:Int)) then 12 else Ch bN (Dd p)
def Ph (p:Pt):Int:=if (Lj p != 0) then Lj p else if (Dd p).any (fun q=>decide (8<=q.op)) then 1 else 0
structure Cnt where
 vars:Int
 scopes:Int
 ok:Bool
def Hj (c:Cnt)(q:Pt):Cnt:=
 ⟨if (Jg q.op).typed then c.vars+1 else c.vars,if (Jg q.op).scope then c.scopes+1 else c.scopes,(c.ok&&(!(Jg q.op).typed||(q.var==c.vars)))&&(!(Jg q.op).scope||(q.scope==c.scopes))⟩
def N6 (p:Pt):Cnt:=(Dd p).foldl Hj ⟨0,0,true⟩
def Gj (p:Pt):Int:=if (Ph p != 0) then Ph p else if !(N6 p).ok then 14 else 0

section
variable {S:Type} (live:S->Bool) (step:S->Pt->S)
def Tt:S->List Pt->S
 | s,[]=>s
 | s,p::r=>if live s then Tt (step s p) r else s
theorem X5 {s:S}(h:live s=false):∀l,Tt live step s l=s
 | []=>rfl
 | p::r=>by rw [Tt,if_neg (by rw [h];decide)]
theorem lH:∀(l m:List Pt) (s:S),Tt live step s (l++m)=Tt live step (Tt live step s l) m
  | [],m,s=>rfl
  | p::r,m,s=>by
    rw [E2,Tt,Tt];cases h:live s with
    | true=>rw [if_pos rfl,if_pos rfl];exact lH r m _
    | false=>rw [if_neg (by decide),if_neg (by decide),X5 live step h]
theorem tA {s:S}(hs:live s=true)(p:Pt):Tt live step s (Dd p)=Tt live step (step s p) (p.args.flatMap Dd):=by
 rw [Oe,Tt,if_pos hs]
theorem jQ {M1:S->Nat->Prop}(hmo:∀s n m,M1 s n->m<=n->M1 s m)(hgo:∀s q n,M1 s (n+1)->M1 (step s q) n):∀(l:List Pt) (s:S) (m:Nat),M1 s (l.length+m)->M1 (Tt live step s l) m
  | [],s,m,h=>by rw [Tt];simpa using h
  | p::r,s,m,h=>by
    rw [Tt];cases hl:live s with
    | false=>rw [if_neg (by decide)];exact hmo _ _ _ h (by omega)
    | true=>
      rw [if_pos rfl];exact jQ hmo hgo r _ m (hgo _ _ _ (by rw [A1] at h;rw [show r.length+m+1=r.length+1+m by omega];exact h))
theorem goY_stop {s:S}(hs:live s=true){p:Pt}(h:live (step s p)=false):Tt live step s (Dd p)=step s p:=by
 rw [tA live step hs,X5 live step h]
theorem eZ {s:S}{l:List Pt}{k:Nat}{a:Pt}(h:l[k]? = some a):Tt live step s ((l.take (k+1)).flatMap Dd)=Tt live step (Tt live step s ((l.take k).flatMap Dd)) (Dd a):=by
 rw [Cf h,List.flatMap_append,lH];simp
theorem goY_cut {s:S}{l:List Pt}{k:Nat}{a:Pt}(h:l[k]? = some a)(hd:live (Tt live step s ((l.take (k+1)).flatMap Dd))=false):Tt live step s (l.flatMap Dd)=Tt live step s ((l.take (k+1)).flatMap Dd):=by
 conv=>lhs;rw [<-Xa (k+1) l,List.flatMap_append,lH]
 rw [X5 live step hd]
end
end Go.Proofs.YtckhoadldibflaaGreatDoor

namespace Go.Aw
open Go

section
variable {l:Nat} {P:Program} {Q:Exit->St->Prop} {s:St}
theorem sA.ret (h:Q .ret s):sA l P .ret Q s:=fun n Q' g a w hG hQ=>wpIn_ret (hQ _ g s a w hG (Ext.refl g w) h)
theorem sA.skip (h:Q .normal s):sA l P .skip Q s:=fun n Q' g a w hG hQ=>wpIn_skip (hQ _ g s a w hG (Ext.refl g w) h)
theorem sA.seq {x y:Code}(h:sA l P x (Fu (sA l P y Q) Q) s):sA l P (.seq x y) Q s:=by
 intro n Q' g a w hG hQ;refine wpIn_seq (h n _ g a w hG fun e g' s' a' w' hG' hx hq=>?_);cases e with
 | normal=>exact hq n Q' g' a' w' hG' fun e g'' s'' a'' w'' h1 h2 h3=>hQ e g'' s'' a'' w'' h1 (hx.trans h2) h3
 | _=>exact hQ _ g' s' a' w' hG' hx hq
theorem sA.cond {c:Operand}{x y:Code}{b:Bool}(hb:E8 s.sl c = .bool b)(ht:b=true->sA l P x Q s)(hf:b=false->sA l P y Q s):sA l P (.cond c x y) Q s:=by
 intro n Q' g a w hG hQ;have hv:=(hb▸hG.eval c:Rep g w _ _).inv_bool;exact wpIn_cond_split hv (fun h=>ht h n Q' g a w hG hQ) (fun h=>hf h n Q' g a w hG hQ)
end

theorem Rh.ofE {P:Program}{l:Nat}{rec:Loop}{H:List HO}{args:List AV}{R:AV->List HO->Prop}{sl:List (Nat×AV)}{n0:Nat}(hst:rec.state = .ready)(hpe:rec.pending=none)
  (hsz:rec.tmps.size=n0) (hsl:∀g w vs,Dh g w vs args->∀j,Rep g w (((rec.params.zip vs).foldl (fun t (p,v)=>t.setIfInBounds p v) rec.tmps).getD j undef) (get sl j))
  (h:sA l P rec.assign (fun e s1=>e = .normal/\∃i:Nat,s1.H[i]? = some (HO.obj l (Obj.loop rec))/\sA l P rec.body (fun e s2=>∃j:Nat,s2.H[j]? = some (HO.obj l (Obj.loop { rec with state:=.busy }))/\
   ((e = .normal/\R (.bool true) (s2.H.set j (.obj l (.loop rec))))\/(e = .ret/\R (.bool false) (s2.H.set j (.obj l (.loop { rec with state:=.done,pending:=some .ret })))))) ⟨s1.sl,s1.H.set i (.obj l (.loop { rec with state:=.busy })),s1.n⟩) ⟨sl,H,n0⟩):Rh P l rec H args R:=by
 intro n g w vs hH hr;refine roundIn_of_wpIn trivial ?_
 have hfs:∀(L:List (Tmp×Value)) (t:Array Value),(L.foldl (fun t (p,v)=>t.setIfInBounds p v) t).size=t.size:=by
  intro L;induction L with
  | nil=>intro t;rfl
  | cons p r ih=>intro t;rw [List.foldl_cons,ih];simp
 have hG:Gm g ⟨sl,H,n0⟩ { tmps:=(rec.params.zip vs).foldl (fun t (p,v)=>t.setIfInBounds p v) rec.tmps,defers:=[] } w:=
  ⟨by rw [<-Array.foldl_toList];exact (hfs _ _).trans hsz,rfl,fun j=>hsl g w vs hr j,hH⟩
 refine h n _ g _ w hG ?_;rintro e g1 s1 a1 w1 hG1 hx1 ⟨rfl,i,hi,hb⟩;have hob:(HO.obj l (.loop rec)).ok g1 w1:=hG1.heap.ok _ (An hi);refine ⟨_,run_beginRound hob.2 hst,?_⟩;obtain ⟨hG2,hx2⟩:=hG1.putObj (.loop { rec with state:=.busy }) hi;refine hb n _ g1 a1 _ hG2 ?_;rintro e g3 s3 a3 w3 hG3 hx3 ⟨j,hj,hR⟩;have hob3:(HO.obj l (.loop { rec with state:=.busy })).ok g3 w3:=hG3.heap.ok _ (An hj);rcases hR with ⟨rfl,hR⟩ | ⟨rfl,hR⟩
 .
  obtain ⟨hG4,hx4⟩:=hG3.putObj (.loop rec) hj;refine ⟨_,_,run_endRound none hob3.2,_,g3,.bool true,_,rfl,.bool _,?_,?_,hR⟩
  .
   have:({ ({ rec with state:=.busy }:Loop) with state:=if (none:Option Code).isNone then .ready else .done,pending:=none }:Loop)=rec:=by
    cases rec;simp only at hst hpe;subst hst;subst hpe;rfl
   rw [this];exact hG4.heap
  have:({ ({ rec with state:=.busy }:Loop) with state:=if (none:Option Code).isNone then .ready else .done,pending:=none }:Loop)=rec:=by
   cases rec;simp only at hst hpe;subst hst;subst hpe;rfl
  rw [this];exact ((hx1.trans hx2).trans hx3).trans hx4
 obtain ⟨hG4,hx4⟩:=hG3.putObj (.loop { rec with state:=.done,pending:=some .ret }) hj;exact ⟨_,_,run_endRound (some .ret) hob3.2,_,g3,.bool false,_,rfl,.bool _,hG4.heap,((hx1.trans hx2).trans hx3).trans hx4,hR⟩
theorem AW.regionY2 {P:Program}{Q:Exit->St->Prop}{s:St}{id:Nat}{ops:Array Oper}{pre post:List Oper}{d:Nat}{cal:Operand}{args:Array Operand}{ats:Array TypeId}{ty:TypeId}{pos:String}{aft:Array Edge}
  (hops:ops.toList=pre++⟨some d,.call ⟨.value cal,args,ats⟩,ty,pos,aft,none⟩::post) (hnd:U7 pre=true) (hnd2:U7 post=true)
  (h:AOL P ops (fun s'=>∃l rec R,(∃i:Nat,s'.H[i]? = some (HO.obj l (Obj.loop rec)))/\E8 s'.sl cal = .val (.func (.yield l) #[] #[])/\args.size=rec.params.size/\Nh (some d) s'.n=true/\
   Rh P l rec s'.H (args.toList.map (E8 s'.sl)) R/\∀x H',R x H'->AOL P ops (Q .normal) post ⟨Ec (some d) x s'.sl,H',s'.n⟩) pre s):AW P (.region id ops false) Q s:=by
 intro Q' g a w hG hQ;refine (wpIn_wide (n:=1)).1 ?_;rw [<-wideN];refine wpIn_region_list ?_;rw [hops];refine H6 pre _ a w (T0 hnd) ?_;refine h.run _ g a w hG ?_;rintro g' s' a' w' hG' hx ⟨l,rec,R,⟨i,hi⟩,hcal,hlen,hd,hr,hk⟩;show wpListIn _ 1 P ops Q' (_::post) a' w';unfold wpListIn;rw [if_pos (Fj rfl)];refine ⟨fun _ _=>trivial,?_⟩;have hobj:(HO.obj l (.loop rec)).ok g' w':=hG'.heap.ok _ (An hi);have hv:a'.eval cal = .func (.yield l) #[] #[]:=(hcal▸hG'.eval cal:Rep g' w' _ _).inv_val;have hargs:Dh g' w' (args.map a'.eval) (args.toList.map (E8 s'.sl)):=Yn (ρ:=E8 s'.sl) (a:=a') (g:=g') (w:=w') (args:=args) (fun y _=>hG'.eval y) rfl
 have hrun:(execOp a'.eval ⟨some d,.call ⟨.value cal,args,ats⟩,ty,pos,aft,none⟩).run P w' = .ok (.round l rec.fn ((rec.params.zip (args.map a'.eval)).foldl (fun t (p,v)=>t.setIfInBounds p v) rec.tmps) rec.assign rec.body) w':=by
  have hy:=run_yield (P:=P) (args:=args.map a'.eval) hobj.2 (by simpa using hlen);simp only [execOp,resolve,Sem.run_bind,hv,Deferred.ofValue,Sem.run_pure,Result.andThen_ok,invoke];simpa using hy
 rw [Oper.semAt_eq _ _ _ (fun c e=>by cases e),hrun];refine ⟨fun e=>(by cases e),(hr _ g' w' _ hG'.heap hargs).mono ?_⟩;rintro e w'' ⟨v,g'',r,H',rfl,k1,k2,k3,k4⟩;have hpost:=hk r H' k4;have:=H6 (ro:=none) (n:=1) (Q:=Q') post [] _ w'' (T0 hnd2) (hpost.run _ g'' _ w'' (hG'.put k3 hd k1 k2) fun g3 s3 a3 w3 h1 h2 h3=>hQ _ g3 s3 a3 w3 h1 ((hx.trans k3).trans h2) h3);simpa using this

theorem AW.regionYk {P:Program}{Q:Exit->St->Prop}{s:St}{id:Nat}{ops:Array Oper}(k:Nat){d:Nat}{cal:Operand}{args:Array Operand}{ats:Array TypeId}{ty:TypeId}{pos:String}{aft:Array Edge}
  (hops:ops.toList[k]? = some ⟨some d,.call ⟨.value cal,args,ats⟩,ty,pos,aft,none⟩) (hnd:U7 (ops.toList.take k)=true) (hnd2:U7 (ops.toList.drop (k+1))=true)
  (h:AOL P ops (fun s'=>∃l rec R,(∃i:Nat,s'.H[i]? = some (HO.obj l (Obj.loop rec)))/\E8 s'.sl cal = .val (.func (.yield l) #[] #[])/\args.size=rec.params.size/\Nh (some d) s'.n=true/\
   Rh P l rec s'.H (args.toList.map (E8 s'.sl)) R/\∀x H',R x H'->AOL P ops (Q .normal) (ops.toList.drop (k+1)) ⟨Ec (some d) x s'.sl,H',s'.n⟩) (ops.toList.take k) s):AW P (.region id ops false) Q s:=by
 refine AW.regionY2 (pre:=ops.toList.take k) (post:=ops.toList.drop (k+1)) (ats:=ats) (ty:=ty) (pos:=pos) (aft:=aft) ?_ hnd hnd2 h;obtain ⟨hlt,he⟩:=List.getElem?_eq_some_iff.1 hops;rw [<-he,List.getElem_cons_drop,Xa]

def Tail (P:Program)(z:Code)(Qs:St->Prop)(s:St):Prop:=
 ∀(Q':Exit->Act->World->Prop) (g:Gh) (a:Act) (w:World) (ds:List Deferred),Gm g s a w->(∀g' s' a' w',Gm g' s' a' w'->Ext g w g' w'->Qs s'->Q' .ret (Act.more a' ds) w')->z.wp P Q' (Act.more a ds) w
theorem gU {P:Program}{ops:Array Oper}{Q:Exit->Act->World->Prop}{ds:List Deferred}:∀(l:List Nat) (a:Act) (w:World),wpOps P ops Q l a w->wpOps P ops (pH ds Q) l (Act.more a ds) w
  | [],a,w,h=>⟨a,rfl,h⟩
  | i::rest,a,w,h=>by
    have h':wpOp P ops Q i (wpOps P ops Q rest) a w:=by
      unfold wpOp;unfold wpOps at h;exact h
    have:=kO (ds:=ds) (K':=wpOps P ops (pH ds Q) rest) (fun a w h=>gU rest a w h) h';unfold wpOp at this;unfold wpOps;exact this
theorem Tail.region {P:Program}{id:Nat}{ops:Array Oper}{Qs:St->Prop}{s:St}(h:AOL P ops Qs ops.toList s):Tail P ((Code.region id ops false).seq .ret) Qs s:=by
 intro Q' g a w ds hG hQ;have key:=Nt (P:=P) (ops:=ops) ops.toList 0 a w (by simp) (h.run (fun e a' w'=>match e with | .normal=>Q' .ret (Act.more a' ds) w' | _=>False) g a w hG fun g' s' a' w' h1 h2 h3=>hQ g' s' a' w' h1 h2 h3);rw [<-List.range_eq_range'] at key;have key2:=gU (ds:=ds) _ _ _ key;refine wp_seq (wp_mono (wp_region (by simpa using key2)) ?_);rintro e a' w' ⟨a0,rfl,hq⟩;cases e with
 | normal=>exact wp_ret hq
 | _=>exact hq.elim
theorem Tail.drawn {P:Program}{id:Nat}{ops:Array Oper}{Qs:St->Prop}{s:St}(h:AWD P (.region id ops true) Qs s):Tail P ((Code.region id ops true).seq .ret) Qs s:=by
 intro Q' g a w ds hG hQ;cases h with
 | draw hm K hK hdd hC=>exact tail_more hm K hK hdd hC hG ds hQ

theorem AWX.rangeE {P:Program}{T:List (Nat×TD)}(hT:Ir P T){fn:Func}{R:AV->List HO->Prop}{Q:Exit->St->Prop}{s:St}{go:Operand}{ps:Array Tmp}{assign body z:Code}{bid gf:Nat}{lb:List AV}(Z Y:List HO->Prop)
  (hg:E8 s.sl go = .fn (.func gf) [] lb) (hf:U3 P gf=true)
  (hit:∀(rec:Loop) (D l:Nat),rec.state = .ready->rec.pending=none->rec.params=ps->rec.assign=assign->rec.body=body->rec.tmps.size=s.n->(∀t v,get s.sl t = .val v->rec.tmps.getD t undef=v)->
   Cj P gf (.obj l (.loop rec) :: .obj D (.deferred (some []))::s.H) (.val (.func (.yield l) #[] #[])::lb)
    (fun r H'=>∃rec' H2,H' = .obj l (.loop rec') :: .obj D (.deferred (some []))::H2/\rec'.state≠.busy/\((rec'.pending=none/\Z H2)\/(rec'.pending=some .ret/\Y H2))))
  (ht:∀D H2,Z H2->Tail P z (endX P T fn R D) ⟨s.sl,.obj D (.deferred (some []))::H2,s.n⟩)
  (hy:∀D H2,Y H2->∃s2,GS ⟨s.sl,.obj D (.deferred (some []))::H2,s.n⟩ s2/\endX P T fn R D s2) :
  AWX2 P (Code.block bid (.rangeFunc go ps assign body)) z Q (pX P fn R) s:=by
 intro Q' g0 a w hG hQ hX;refine wp_block ((wpIn_wide (n:=1)).1 (wpIn_rangeFunc ?_));intro f0 _;obtain ⟨vs0,us,hv,h1,h2⟩:=(hg▸hG.eval go:Rep g0 w _ _).inv_fn;have hvs0:vs0 = #[]:=Array.size_eq_zero_iff.1 (by simpa using h1.1);subst hvs0;obtain ⟨rec,hrec⟩:∃rec:Loop,rec=⟨.ready,none,f0,a.tmps,ps,assign,body,w.heap.size⟩:=⟨_,rfl⟩;obtain ⟨W1,hW1⟩:∃W1,(w.alloc (.deferred (some []))).alloc (.loop rec)=W1:=⟨_,rfl⟩;have hs1:(w.alloc (.deferred (some []))).heap.size=w.heap.size+1:=World.size_alloc ..;have hx1:=Ext.alloc g0 w (.deferred (some [])) (some 0)
 have hH1:HOK (g0.put w.heap.size (some 0)) (w.alloc (.deferred (some []))) (.obj w.heap.size (.deferred (some []))::s.H):=
  (hG.heap.alloc (.deferred (some [])) (some 0)).cons ⟨Gh.Aao ..,C1 ..⟩ fun b hb x hx e=>by
   cases hb
   exact absurd (HO.ok_lt (hG.heap.ok x hx) e).1 (Nat.lt_irrefl _)
 have hx2:=Ext.alloc (g0.put w.heap.size (some 0)) (w.alloc (.deferred (some []))) (.loop rec) (some 0)
 have hH2:=(hH1.alloc (.loop rec) (some 0)).cons (o:=.obj (w.alloc (.deferred (some []))).heap.size (.loop rec)) ⟨Gh.Aao ..,C1 ..⟩ fun b hb x hx e=>by
   cases hb
   exact absurd (HO.ok_lt (hH1.ok x hx) e).1 (Nat.lt_irrefl _)
 rw [hs1] at hH2 hx2;rw [hW1] at hH2 hx2;refine ⟨w.heap.size+1,[Z6 w.heap.size],W1,{ target:=.fn (.func gf) us,args:=#[.func (.yield (w.heap.size+1)) #[] #[]] },W1,gf,#[.func (.yield (w.heap.size+1)) #[] #[]]++us,W1,?_,?_,fun _ _=>trivial,?_,fun e=>(by cases e),?_⟩
 . rw [<-hW1,hrec];exact run_enterLoop_outer _ _ _ _ _
 .
  simp only [resolve,hv];simp [go_sem]
 . simp [invoke,go_sem,Xq hf]
 have hx12:=hx1.trans hx2;refine callsIn_wide.2 ((hit rec w.heap.size (w.heap.size+1) (by rw [hrec]) (by rw [hrec]) (by rw [hrec]) (by rw [hrec]) (by rw [hrec]) (by rw [hrec];exact hG.size) (by rw [hrec];exact fun t v hv=>(hv▸hG.sl t:Rep g0 w _ _).inv_val) _ W1 _ hH2 ?_).mono ?_)
 .
  have h2':=h2.mono hx12
  exact Dh.append (xs:=[.val (.func (.yield (w.heap.size+1)) #[] #[])]) ⟨rfl,fun i x hi=>by
   cases i with
   | zero=>simp at hi;subst hi;exact .val _
   | succ i=>simp at hi⟩ h2'
 rintro e w3 ⟨v,g3,r,H',rfl,hr3,hH3,hx3,rec',H2,rfl,hnb,hz⟩;have hob:(HO.obj (w.heap.size+1) (.loop rec')).ok g3 w3:=hH3.ok _ (L5 ..);obtain ⟨hH4,hx4⟩:=bX hH3 (i:=0) (.loop { rec' with state:=.exhausted }) rfl;refine ⟨rec'.pending,_,run_endLoop hob.2 hnb,?_⟩;obtain ⟨st',pe',f',t',p',as',bo',de'⟩:=rec'
 have ha:({ a with defers:=[Z6 w.heap.size]++a.defers }:Act)=Act.more a [Z6 w.heap.size]:=by
  unfold Act.more;rw [hG.defers];rfl
 rw [ha];have hxa:=(hx12.trans hx3).trans hx4
 have fin:∀g5 s5 a5 w5,Gm g5 s5 a5 w5->Ext g0 w g5 w5->endX P T fn R w.heap.size s5->Q' .ret (Act.more a5 [Z6 w.heap.size]) w5:=fun g5 s5 a5 w5 hG5 hx5 hq=>by
  obtain ⟨i,hi,xs,hr,H3,hsub,hR⟩:=hq;obtain ⟨hG6,hx6⟩:=hG5.putObj (.deferred none) hi;have hob5:(HO.obj w.heap.size (.deferred (some []))).ok g5 w5:=hG5.heap.ok _ (An hi);obtain ⟨v6,k1,k2⟩:=T9 hT hr hG6;refine hX _ _ _ ⟨rfl,w.heap.size,by show a5.defers++_=_;rw [hG5.defers];rfl,hob5.2,v6,g5,_,H3,k1,k2,hG6.heap.sub hsub,hx5.trans hx6,hR⟩
 have hG4:Gm g3 ⟨s.sl,.obj w.heap.size (.deferred (some []))::H2,s.n⟩ a (w3.putObj (w.heap.size+1) (.loop ⟨.exhausted,pe',f',t',p',as',bo',de'⟩)):=⟨hG.size,hG.defers,fun i=>(hG.sl i).mono hxa,hH4.sub (List.sublist_cons_self ..)⟩;rcases hz with ⟨hp,hz⟩ | ⟨hp,hz⟩
 .
  obtain rfl:pe'=none:=hp;exact ht w.heap.size H2 hz Q' g3 a _ [Z6 w.heap.size] hG4 fun g5 s5 a5 w5 hG5 hx5 hq=>fin g5 s5 a5 w5 hG5 (hxa.trans hx5) hq
 obtain rfl:pe'=some .ret:=hp;obtain ⟨s2,hgs,he⟩:=hy w.heap.size H2 hz;obtain ⟨g4,hG5,hx7⟩:=hgs _ _ _ hG4;exact wpIn_ret (fin g4 s2 a _ hG5 (hxa.trans hx7) he)
end Go.Aw

namespace Go.Proofs.YtckhoadldibflaaGreatDoor
open Go Go.Aw

def AllK (tmps:Array Value):List (Nat×Value)->Prop
 | []=>True
 | p::r=>tmps.getD p.1 undef=p.2/\AllK tmps r
theorem par1 {tmps:Array Value}{n0 k:Nat}{x:AV}{kn:List (Nat×Value)}(hsz:tmps.size=n0)(hk:Nat.blt k n0=true)(hkn:AllK tmps kn):∀g w vs,Dh g w vs [x]->∀j,
    Rep g w ((((#[k]:Array Tmp).zip vs).foldl (fun t (p,v)=>t.setIfInBounds p v) tmps).getD j undef) (get ((k,x)::kn.map fun p=>(p.1,.val p.2)) j):=by
  intro g w vs hr j;have h0:=hr.2 0 _ rfl;have hs:vs.size=1:=hr.1
  obtain ⟨u, rfl⟩ : ∃ u, vs = #[u] := ⟨vs[0], by apply Array.ext; simp [hs]; intro i h1 h2; have : i = 0 := by omega
                                                 subst this;rfl⟩
  have hlt:k<tmps.size:=by have:=Ct hk;omega
  rw [<-Array.foldl_toList,Array.toList_zip];show Rep g w ((tmps.setIfInBounds k u).getD j undef) _;rw [G9];by_cases e:k=j
  . subst e
    rw [if_pos rfl];simp only [D6,Array.getElem?_setIfInBounds];simp [hlt];simpa using h0
  . rw [if_neg e]
    have:(tmps.setIfInBounds k u).getD j undef=tmps.getD j undef:=by
      simp only [D6,Array.getElem?_setIfInBounds];simp [e]
    rw [this];clear this
    induction kn with
    | nil=>exact .junk _
    | cons p r ih=>
      rw [Bj,G9];by_cases e2:p.1=j
      . rw [if_pos e2,<-hkn.1,e2];exact .val _
      rw [if_neg e2];exact ih hkn.2
theorem Rh.ofE2 {P:Program}{l:Nat}{rec:Loop}{H:List HO}{args:List AV}{R:AV->List HO->Prop}{A B:Code}(sl:List (Nat×AV)){n0:Nat}(hst:rec.state = .ready)(hpe:rec.pending=none)
  (hsz:rec.tmps.size=n0) (hsl:∀g w vs,Dh g w vs args->∀j,Rep g w (((rec.params.zip vs).foldl (fun t (p,v)=>t.setIfInBounds p v) rec.tmps).getD j undef) (get sl j)) (has:rec.assign=A) (hbo:rec.body=B)
  (h:sA l P A (fun e s1=>e = .normal/\∃i:Nat,s1.H[i]? = some (HO.obj l (Obj.loop rec))/\sA l P B (fun e s2=>∃j:Nat,s2.H[j]? = some (HO.obj l (Obj.loop { rec with state:=.busy }))/\
   ((e = .normal/\R (.bool true) (s2.H.set j (.obj l (.loop rec))))\/(e = .ret/\R (.bool false) (s2.H.set j (.obj l (.loop { rec with state:=.done,pending:=some .ret })))))) ⟨s1.sl,s1.H.set i (.obj l (.loop { rec with state:=.busy })),s1.n⟩) ⟨sl,H,n0⟩):Rh P l rec H args R:=by
 subst has hbo;exact Rh.ofE hst hpe hsz hsl h

theorem Zy (f:Pt->Int):∀l:List Pt,Tt (fun e:Int=>e==0) (fun _ q=>f q) 0 l=Ch f l
  | []=>rfl
  | a::r=>by
    rw [Tt,if_pos (show ((0:Int)==0)=true from rfl),Ch];by_cases h:f a=0
    . rw [h,Zy f r];rfl
    rw [X5 _ _ (by simpa using h),if_pos (by simpa using h)]
theorem jM (b:Pt->Bool):∀l:List Pt,Ch (fun q=>if b q then 1 else 0) l=if l.any b then 1 else 0
  | []=>rfl
  | a::r=>by
    rw [Ch,jM b r,Ow];cases b a <;> simp
theorem nd_sub:∀p q:Pt,q∈Dd p->Gy q<=Gy p:=by
  intro p
  induction p using Pt.ind with
  | h p ih=>
    intro q hq;rw [Oe,Dn] at hq;rcases hq with rfl | hq
    . exact B6 _
    . obtain ⟨a,ha,hq⟩:=List.mem_flatMap.1 hq
      have:=ih a ha q hq;have:=K6 ha;omega
structure medP (p:Pt):Prop where
 n:Gy p<=1048576
 cond:∀q∈Dd p,Bz q.cond<=1048576
theorem medP.len {p:Pt}(h:medP p):∀q∈Dd p,Bz q.cond<=1048576/\q.args.length<=1048576:=fun q hq=>⟨h.cond q hq,by have:=nd_sub p q hq;have:=M8 q;have:=h.n;omega⟩
theorem rst_1 {p:Pt}(h:decide ((64:Int)<(Gy p:Int))=true):Lj p=5:=if_pos h
theorem rst_2 {p:Pt}(h:decide ((64:Int)<(Gy p:Int))=false)(h2:decide ((12:Int)<(eI p:Int))=true):Lj p=12:=(Bl h).trans (if_pos h2)
theorem rst_3 {p:Pt}(h:decide ((64:Int)<(Gy p:Int))=false)(h2:decide ((12:Int)<(eI p:Int))=false):Lj p=Ch bN (Dd p):=(Bl h).trans (Bl h2)
theorem rst_0 {p:Pt}(h:(Lj p != 0)=false):Gy p<=64/\eI p<=12/\Ch bN (Dd p)=0:=by
 have h0:Lj p=0:=by simpa using h
 have a:¬(64:Int)<(Gy p:Int):=fun h=>by rw [rst_1 (decide_eq_true h)] at h0;exact absurd h0 (by decide)
 have b:¬(12:Int)<(eI p:Int):=fun h=>by rw [rst_2 (decide_eq_false a) (decide_eq_true h)] at h0;exact absurd h0 (by decide)
 refine ⟨by omega,by omega,?_⟩;rw [<-rst_3 (decide_eq_false a) (decide_eq_false b)];exact h0
theorem U1 {α:Type}{f:α->Int}:∀{l:List α},Ch f l=0->∀q∈l,f q=0
  | [],_,q,hq=>(Xb hq).elim
  | a::r,h,q,hq=>by
    rw [Ch] at h;by_cases ha:f a=0
    . rw [ha,if_neg (by decide)] at h
      rcases Dn.1 hq with rfl | hq
      . exact ha
      exact U1 h q hq
    rw [if_pos (by simpa using ha)] at h;exact absurd h ha
def zM (q:Pt):Prop:=0<=q.op/\q.op<11
theorem ck_op {q:Pt}(h:bN q=0):zM q:=by
 have:(decide (q.op<0)||decide (11<=q.op))=false:=by
  cases hc:(decide (q.op<0)||decide (11<=q.op)) with
  | false=>rfl
  | true=>rw [ck_1 hc] at h;exact absurd h (by decide)
 rw [En] at this;have h1:=Di this.1;have h2:=Di this.2;exact ⟨by omega,by omega⟩
theorem xN {p:Pt}(h:(Lj p != 0)=false):∀q∈Dd p,zM q:=fun q hq=>ck_op (U1 (rst_0 h).2.2 q hq)
def nH (q:Pt):Int:=if decide (8<=q.op) then 1 else 0
theorem whl_1 {p:Pt}(h:(Lj p != 0)=true):Ph p=Lj p:=if_pos h
theorem whl_2 {p:Pt}(h:(Lj p != 0)=false):Ph p=Ch nH (Dd p):=by
 rw [show Ch nH (Dd p)=_ from jM _ _];exact Bl h
theorem whl_0 {p:Pt}(h:(Ph p != 0)=false):(Lj p != 0)=false:=by
 cases hr:Lj p != 0 with
 | false=>rfl
 | true=>rw [whl_1 hr,hr] at h;exact absurd h (by decide)
theorem chk_1 {p:Pt}(h:(Ph p != 0)=true):Gj p=Ph p:=if_pos h
theorem chk_2 {p:Pt}(h:(Ph p != 0)=false)(h2:(!(N6 p).ok)=true):Gj p=14:=(Bl h).trans (if_pos h2)
theorem chk_3 {p:Pt}(h:(Ph p != 0)=false)(h2:(!(N6 p).ok)=false):Gj p=0:=(Bl h).trans (Bl h2)
theorem chk_0 {p:Pt}(h:(Gj p != 0)=false):(Ph p != 0)=false:=by
 cases hr:Ph p != 0 with
 | false=>rfl
 | true=>rw [chk_1 hr,hr] at h;exact absurd h (by decide)

def iU (c:Cnt)(n:Nat):Prop:=0<=c.vars/\0<=c.scopes/\c.vars+n<=3000000/\c.scopes+n<=3000000
theorem cnt_mono (c:Cnt)(n m:Nat)(h:iU c n)(hm:m<=n):iU c m:=⟨h.1,h.2.1,by have:=h.2.2.1;omega,by have:=h.2.2.2;omega⟩
theorem cnt_step (c:Cnt)(q:Pt)(n:Nat)(h:iU c (n+1)):iU (Hj c q) n:=by
 obtain ⟨h1,h2,h3,h4⟩:=h;unfold Hj iU;refine ⟨?_,?_,?_,?_⟩ <;> simp only <;> split <;> omega
theorem wA:∀(l:List Pt) (c:Cnt),Tt (fun _=>true) Hj c l=l.foldl Hj c
 | [],c=>rfl
 | a::r,c=>by rw [Tt,if_pos rfl,wA r,List.foldl_cons]
section
variable {c:Cnt} {q:Pt}
theorem stp_yy (h1:(Jg q.op).typed=true)(h2:(Jg q.op).scope=true):(⟨c.vars+1,c.scopes+1,(c.ok&&(q.var==c.vars))&&(q.scope==c.scopes)⟩:Cnt)=Hj c q:=by unfold Hj;rw [h1,h2];simp
theorem stp_yn (h1:(Jg q.op).typed=true)(h2:(Jg q.op).scope=false):(⟨c.vars+1,c.scopes,c.ok&&(q.var==c.vars)⟩:Cnt)=Hj c q:=by unfold Hj;rw [h1,h2];simp
theorem stp_ny (h1:(Jg q.op).typed=false)(h2:(Jg q.op).scope=true):(⟨c.vars,c.scopes+1,c.ok&&(q.scope==c.scopes)⟩:Cnt)=Hj c q:=by unfold Hj;rw [h1,h2];simp
theorem stp_nn (h1:(Jg q.op).typed=false)(h2:(Jg q.op).scope=false):(⟨c.vars,c.scopes,c.ok⟩:Cnt)=Hj c q:=by unfold Hj;rw [h1,h2];simp
end
end Go.Proofs.YtckhoadldibflaaGreatDoor
