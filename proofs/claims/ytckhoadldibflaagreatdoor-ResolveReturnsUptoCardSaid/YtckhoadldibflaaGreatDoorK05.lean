/-
  Several texts in one: R2, Q0, R3, Ay, Ar, As, R4, R5, R6, Shelm. No condition.
-/
import Derived.Test.YtckhoadldibflaaGreatDoorK02
import Derived.Test.YtckhoadldibflaaGreatDoorTab
import Derived.Test.YtckhoadldibflaaGreatDoorAx
import Derived.Test.YtckhoadldibflaaGreatDoorK04
import Derived.RangeFuncIn
import Derived.RangeFuncLeaves
import Derived.RangeFuncRecord
import Derived.TacticsIn
import Derived.Shelf.Bits.Mul64
import Derived.Test.YtckhoadldibflaaGreatDoorProg
set_option linter.unusedVariables false
set_option linter.unusedSimpArgs false
namespace Go.Aw
open Go
section
variable {P:Program} {T:List (Nat×TD)} {d:Option Nat} {ty:TypeId} {pos:String} {aft:Array Edge} {gd:Option (Nat×Bool)} {ρ:Operand->AV} {K:List HO->Prop}
theorem rN {t:TypeId}{m k v:Operand}{kt et b i:Nat}{td tk:TD}{n:List UInt8}{ks:List (List UInt8)}{x:Int}{H H2:List HO}(hT:Jw P T)(ht:Bs T t=some td)(hk:td.kind = .map kt et)(htk:Bs T kt=some tk)(hkk:tk.kind = .str)
  (hm:ρ m = .val (.map (some b))) (hkey:ρ k = .str n) (hv:ρ v = .int .i64 x) (hH:H[i]? = some (.smap b (Sl ks))) (hx:x=(ks.length:Int)) (hnew:ks.contains n=false) (hH2:H.set i (.smap b (Sl (ks ++ [n])))=H2) :
  Nj P ⟨d,.mapUpdate t m k v,ty,pos,aft,gd⟩ ρ H (fun y H'=>y = .junk/\H'=H2):=by
 subst hx;exact eE hT ht hk htk hkk hm hkey hv hH (smI_new hnew) (by rw [smI_add];exact hH2)
end
end Go.Aw
namespace Go.Proofs.YtckhoadldibflaaGreatDoor
open Go Go.Aw

def Y7 {α:Type}(p:α->Bool):List α->Int
 | []=>-1
 | a::r=>if p a then 0 else if Y7 p r<0 then -1 else Y7 p r+1
theorem jD {α:Type}(p:α->Bool):∀l:List α,(-1<=Y7 p l)/\decide (0<=Y7 p l)=l.any p
  | []=>⟨Ic _,rfl⟩
  | a::r=>by
    obtain ⟨h0,h1⟩:=jD p r;rw [Y7,Rh];cases h:p a with
    | true=>exact ⟨by rw [if_pos rfl];decide,by rw [if_pos rfl];rfl⟩
    | false=>
      rw [if_neg (by decide),Kb,<-h1];by_cases h2:Y7 p r<0
      . rw [if_pos h2]
        exact ⟨Ic _,by rw [decide_eq_decide];constructor <;> intro h <;> omega⟩
      . rw [if_neg h2]
        exact ⟨by omega,by rw [decide_eq_decide];constructor <;> intro h <;> omega⟩
theorem jE {α:Type}{p:α->Bool}:∀{l:List α} {k:Nat} {a:α},l[k]? = some a->(l.take k).any p=false->p a=true->Y7 p l=(k:Int)
  | [],k,a,h,_,_=>by simp at h
  | b::r,0,a,h,_,hp=>by simp at h;subst h;rw [Y7,if_pos hp];rfl
  | b::r,k+1,a,h,hn,hp=>by
    rw [Zt,Rh,Eb] at hn;have ih:=jE (l:=r) (k:=k) (by simpa using h) hn.2 hp;rw [Y7,if_neg (by rw [hn.1];decide),ih,if_neg (by omega)];omega
theorem cK {α:Type}{p:α->Bool}:∀{l:List α},l.any p=false->Y7 p l = -1
  | [],_=>rfl
  | b::r,h=>by
    rw [Rh,Eb] at h;rw [Y7,if_neg (by rw [h.1];decide),cK h.2];rfl
theorem jF {α:Type}(f:α->Ag)(n:Ag):∀l:List α,Y7 (fun a=>f a==n) l=dC (l.map f) n
  | []=>rfl
  | a::r=>by
    have ih:=jF f n r;unfold dC at ih ⊢;rw [Y7,Ao,dY,List.idxOf_cons,ih];by_cases h:f a=n
    . subst h;simp
    . have h1:(f a==n)=false:=by rw [Hm];exact h
      have h2:(n==f a)=false:=by rw [Hm];exact fun e=>h e.symm
      rw [h1,h2,if_neg (by decide),Kb];cases hc:(r.map f).contains n with
      | false=>simp
      | true=>simp;omega
theorem M2 {α:Type}{l:List α}{k:Nat}{a:α}{p:α->Bool}(h:(l.take k).any p=false)(ha:l[k]? = some a)(hp:p a=false):(l.take (k+1)).any p=false:=by
 rw [List.take_add_one,ha];simp [h,hp]
theorem iI {f:Syn->Fa}:∀{l:List Syn} {k:Nat} {a:Syn},l[k]? = some a->(l.take k).any (fun x=>(f x).err != 0)=false->((f a).err != 0)=true->Ja f l=f a
  | [],k,a,h,_,_=>by simp at h
  | b::r,0,a,h,_,hp=>by simp at h;subst h;rw [Ja,if_pos hp]
  | b::r,k+1,a,h,hn,hp=>by
    rw [Zt,Rh,Eb] at hn;rw [Ja,if_neg (by rw [hn.1];decide)];exact iI (by simpa using h) hn.2 hp
theorem bW {f:Syn->Fa}:∀{l:List Syn},l.any (fun x=>(f x).err != 0)=false->Ja f l=Oe
  | [],_=>rfl
  | b::r,h=>by
    rw [Rh,Eb] at h;rw [Ja,if_neg (by rw [h.1];decide)];exact bW h.2
theorem Io {l:List Syn}{k:Nat}{a:Syn}(h:l[k]? = some a):(l.map C6)[k]? = some (cSyn a):=by rw [List.getElem?_map,h];exact congrArg some (Bf a)
theorem He {t:Syn}{k:Nat}(h:k<t.kids.length):t.kids[k]? = some (Bi t k):=by unfold Bi;rw [Ez,List.getElem?_eq_getElem h];rfl
def bP (T:List e8Sc)(V:List Va)(s:Nx):List AV:=[.sl 2 (T.map Lz),.smapv (Sl (Jx T)),.sl 2 (V.map Tn),.smapv (Sl (K8 V)),.int .i64 s.next,.int .i64 s.scopes]
set_option maxRecDepth 100000

theorem Cq {t:Syn}{p:Pl}(h:Al t p=0):aS p t=0/\Mi t 0 t.kids=0:=by
 rw [Sy] at h;split at h
 . rename_i h1;rw [h] at h1;cases h1
 rename_i h1;exact ⟨by simpa using h1,h⟩
theorem tL {t:Syn}:∀(l:List Syn) (i:Nat),Mi t i l=0->∀j a,l[j]? = some a->Al a (Dm t (i+j))=0
  | [],i,_,j,a,h=>by simp at h
  | x::r,i,h,j,a,ha=>by
    rw [Mi] at h;split at h
    . rename_i h1;rw [h] at h1;cases h1
    . rename_i h1
      cases j with
      | zero=>rw [List.getElem?_cons_zero] at ha;cases ha;simpa using h1
      | succ j=>rw [List.getElem?_cons_succ] at ha;have:=tL r (i+1) h j a ha;rwa [show i+1+j=i+(j+1) by omega] at this
theorem Ct {p:Pl}{t:Syn}(h:aS p t=0):p.at t.kind=true/\Dn t=true/\L8 t=true/\Dl t=0:=by
 unfold aS at h;split at h
 . cases h
 split at h
 . cases h
 split at h
 . cases h
 rename_i h1 h2 h3;exact ⟨by simpa using h1,by simpa using h2,by simpa using h3,h⟩
theorem Ei {t:Syn}{p:Pl}(h:Al t p=0){j:Nat}{a:Syn}(ha:t.kids[j]? = some a):Al a (Dm t j)=0/\(Dm t j).at a.kind=true:=by
 have h1:=tL t.kids 0 (Cq h).2 j a ha;rw [D2] at h1;exact ⟨h1,(Ct (Cq h1).1).1⟩
theorem N2 {k:Int}(h:Pl.at .exps k=true):13<=k/\k<=18:=by
 simp only [Pl.at,isExp,Cd,Ck] at h;exact h
theorem Zl {k:Int}(h:Pl.at .pats k=true):5<=k/\k<=12:=by
 simp only [Pl.at,isPat,Cd,Ck] at h;exact h
theorem Fx {n k:Int}(h:Pl.at (.only n) k=true):k=n:=by
 simpa [Pl.at] using h
theorem tJ {t:Syn}{j:Nat}{k:Int}(h:(Dm t j).at k=true):1<=k/\k<=18:=by
 unfold Dm at h
 repeat' split at h
 all_goals first | (have:=Fx h;omega) | (have:=N2 h;omega) | (have:=Zl h;omega)

section
variable {t:Syn} {p:Pl}
theorem Td (h:(t.kids.length:Int)=1):∃a,t.kids = [a]:=by
 match hk:t.kids with
 | []=>rw [hk] at h;cases h
 | [a]=>exact ⟨a,rfl⟩
 | a::b::r=>rw [hk] at h;simp only [Bb] at h;omega
theorem Vk (h:(t.kids.length:Int)=2):∃a b,t.kids = [a,b]:=by
 match hk:t.kids with
 | []=>rw [hk] at h;cases h
 | [a]=>rw [hk] at h;simp only [Bb,Bp] at h;omega
 | [a,b]=>exact ⟨a,b,rfl⟩
 | a::b::c::r=>rw [hk] at h;simp only [Bb] at h;omega
theorem fZ (hf:Dl t=0)(hk:t.kind=17):t.num=5\/t.num=6\/t.num=7\/t.num=8\/t.num=9\/t.num=10\/t.num=11:=by
 unfold Dl Mz at hf;rw [hk] at hf
 have hf2:(decide (t.num<5)||decide (11<t.num))=false:=by
  cases hq:(decide (t.num<5)||decide (11<t.num)) with
  | false=>rfl
  | true=>rw [hq] at hf;cases hf
 simp only [Eb,It] at hf2;omega
theorem cD (hf:Dl t=0)(hk:t.kind=2):0<=t.num/\t.num<=2:=by
 unfold Dl Mz at hf;rw [hk] at hf
 have hf2:(decide (t.num<0)||decide (2<t.num))=false:=by
  cases hq:(decide (t.num<0)||decide (2<t.num)) with
  | false=>rfl
  | true=>rw [hq] at hf;cases hf
 simp only [Eb,It] at hf2;omega
theorem X4 (hf:Dl t=0)(hk:t.kind=16):1<=t.num/\t.num<=5:=by
 unfold Dl Mz at hf;rw [hk] at hf
 have hf2:(decide (t.num<1)||decide (5<t.num))=false:=by
  cases hq:(decide (t.num<1)||decide (5<t.num)) with
  | false=>rfl
  | true=>rw [hq] at hf;cases hf
 simp only [Eb,It] at hf2;omega
theorem lD (hf:Dl t=0)(hk:t.kind=11):0<=t.num/\t.num<=1099511627776:=by
 unfold Dl Mz at hf;rw [hk] at hf
 have hf2:(decide (t.num<0)||decide (1099511627776<t.num))=false:=by
  cases hq:(decide (t.num<0)||decide (1099511627776<t.num)) with
  | false=>rfl
  | true=>rw [hq] at hf;cases hf
 simp only [Eb,It] at hf2;omega
theorem K6 (hf:Dl t=0)(hk:t.kind≠13/\t.kind≠2/\t.kind≠16/\t.kind≠17/\t.kind≠11):t.num=0:=by
 obtain ⟨k1,k2,k3,k4,k5⟩:=hk;have e:∀k:Int,t.kind≠k->¬(t.kind==k)=true:=fun k h=>by simpa using h
 unfold Dl at hf;rw [if_neg (e _ k1)] at hf;split at hf
 . rename_i h1;rw [hf] at h1;cases h1
 rename_i h1;have h2:Mz t=0:=by simpa using h1
 unfold Mz at h2;rw [if_neg (e _ k2),if_neg (e _ k3),if_neg (e _ k4),if_neg (e _ k5)] at h2;split at h2
 . cases h2
 rename_i h3;simp only [G1,Ck,not_or] at h3;omega
theorem xN (hf:Dl t=0)(hk:t.kind=13) : -1099511627776<=t.num/\t.num<=1099511627776:=by
 unfold Dl at hf;rw [hk] at hf
 replace hf:I3 t=0:=hf
 unfold I3 at hf
 repeat' split at hf
 all_goals first
  | exact absurd hf (by decide)
  | (simp only [G1,Ck,not_or,Wt,bne_eq_false_iff_eq] at *;omega)
end

mutual
def Ki:Syn->Nat
 | ⟨_,_,_,_,kids,_⟩=>1+Ij kids
def Ij:List Syn->Nat
 | []=>0
 | x::r=>Ki x+Ij r
end
theorem I1 (t:Syn):Ki t=1+Ij t.kids:=by cases t;rw [Ki]
theorem iC:∀l:List Syn,l.length<=Ij l
  | []=>A9 _
  | x::r=>by
    have:=iC r;have h:=I1 x;rw [Ij,Bb];omega
theorem oM:∀{l:List Syn} {a:Syn},a∈l->Ki a<=Ij l
  | x::r,a,h=>by
    rw [Ij];rcases Db.1 h with rfl | h
    . omega
    have:=oM h;omega
mutual
theorem mI:∀t:Syn,C7 t<=2*Ki t
  | ⟨k,_,_,_,kids,_⟩=>by
    have h:=iE k kids;rw [C7,Ki];split <;> omega
theorem iE (k:Int):∀l:List Syn,E8 k l<=2*Ij l+1
  | []=>by rw [E8];omega
  | x::r=>by
    have h1:=mI x;have h2:=iE k r;have h3:=I1 x;rw [E8,Ij];split <;> omega
end
def jM (ws:List Ag):Nat:=(ws.map List.length).sum
theorem Xt (x:Ag)(r:List Ag):jM (x::r)=x.length+jM r:=rfl
theorem jI:∀ws:List Ag,(D6 ws).length<=jM ws+2*ws.length
  | []=>by simp [D6]
  | [x]=>by simp [D6,jM]
  | x::y::r=>by
    have:=jI (y::r);rw [D6,Xt];simp only [Au,Bb,Bp] at this ⊢;omega
theorem get3_len:∀ws:List Ag,(ws.getD 0 []).length+(ws.getD 1 []).length+(D6 (ws.drop 2)).length<=jM ws+2*ws.length
  | []=>by simp [D6]
  | [x]=>by simp [D6,jM]
  | x::y::r=>by
    have:=jI r;simp only [List.getD_cons_zero,List.getD_cons_succ,List.drop_succ_cons,Qt,Xt,Bb];omega
theorem sX:∀ws:List Ag,ws.flatten.length=jM ws
 | []=>rfl
 | x::r=>by rw [Bj,Au,sX r,Xt]
theorem wR (p k:Syn)(s:Ag):(Hk p k s).length<=s.length+2:=by
 unfold Hk;split
 . simp only [Au,Bb,Bp];omega
 omega
theorem quoteB_le (c:UInt8):(Gy c).length<=4:=by
 unfold Gy;split
 . simp
 split <;> simp
theorem kJ:∀s:Ag,(B0 s).length<=4*s.length
  | []=>by simp [B0]
  | c::r=>by
    have h1:=kJ r;have h2:=quoteB_le c;rw [B0];simp only [Au,Bb];omega
theorem words_len:(∀n,(Im n).length<=8)/\(∀n,(Nl n).length<=8)/\(∀n,(Mk n).length<=8)/\(∀n,(Fz n).length<=8):=by
 refine ⟨fun n=>?_,fun n=>?_,fun n=>?_,fun n=>?_⟩
 .
  unfold Im;repeat' split
  all_goals decide
 .
  unfold Nl;repeat' split
  all_goals decide
 .
  unfold Mk;repeat' split
  all_goals decide
 unfold Fz;repeat' split
 all_goals decide
theorem Kq {c:Prop}[Decidable c]{a b:Ag}{n:Nat}(ha:a.length<=n)(hb:b.length<=n):(if c then a else b).length<=n:=by split <;> assumption
theorem ok_num {t:Syn}{p:Pl}(h:Al t p=0) : -1099511627776<=t.num/\t.num<=1099511627776:=by
 obtain ⟨_,_,_,hf⟩:=Ct (Cq h).1;by_cases k1:t.kind=13
 . exact xN hf k1
 by_cases k2:t.kind=2
 . have:=cD hf k2;omega
 by_cases k3:t.kind=16
 . have:=X4 hf k3;omega
 by_cases k4:t.kind=17
 . have:=fZ hf k4;omega
 by_cases k5:t.kind=11
 . have:=lD hf k5;omega
 have:=K6 hf ⟨k1,k2,k3,k4,k5⟩;omega
mutual
def wC:Syn->Nat
 | ⟨_,x,n,_,kids,_⟩=>1+x.length+n.length+wL kids
def wL:List Syn->Nat
 | []=>0
 | x::r=>wC x+wL r
end
theorem Md (t:Syn):wC t=1+t.text.length+t.name.length+wL t.kids:=by cases t;rw [wC]
theorem w_mem:∀{l:List Syn} {a:Syn},a∈l->wC a<=wL l
  | x::r,a,h=>by
    rw [wL];rcases Db.1 h with rfl | h
    . omega
    have:=w_mem h;omega
mutual
theorem cnt_w:∀t:Syn,Ki t<=wC t
  | ⟨_,x,n,_,kids,_⟩=>by
    have:=xM kids;rw [Ki,wC];omega
theorem xM:∀l:List Syn,Ij l<=wL l
  | []=>by rw [Ij,wL];exact Br _
  | x::r=>by
    have h1:=cnt_w x;have h2:=xM r;rw [Ij,wL];omega
end
def Wg (t:Syn):Prop:=wC t<=1000000
theorem N7 {t a:Syn}(h:Wg t)(ha:a∈t.kids):Wg a:=by
 have h1:=w_mem ha;have h2:=Md t;unfold Wg at h ⊢;omega
theorem Wi {t:Syn}(h:Wg t):Ki t<=1000000:=Ga (cnt_w t) h
theorem dI {t:Syn}(h:Wg t):t.kids.length<=1000000:=by
 have h1:=Wi h;have h2:=iC t.kids;rw [I1] at h1;omega
def Jv (t:Syn):Prop:=((t.text.length<=1000000/\t.name.length<=1000000)/\t.kids.length<=1000000/\wC t<=20000000)/\∀a∈t.kids,Wg a
theorem yI {t:Syn}(h:Wg t):Jv t:=by
 have h2:=Md t;have h3:=dI h;exact ⟨⟨⟨by unfold Wg at h;omega,by unfold Wg at h;omega⟩,h3,by unfold Wg at h;omega⟩,fun a ha=>N7 h ha⟩
theorem yJ {t a:Syn}(h:Jv t)(ha:a∈t.kids):Wg a:=h.2 a ha
theorem T8 {t a:Syn}(h:Jv t)(ha:a∈t.kids):Jv a:=yI (h.2 a ha)
theorem uB {t:Syn}(h:Jv t):t.text.length<=1048576/\t.name.length<=1048576:=⟨by have:=h.1.1.1;omega,by have:=h.1.1.2;omega⟩
theorem med_cnt {t:Syn}(h:Jv t):Ki t<=20000000:=Ga (cnt_w t) h.1.2.2
theorem aL {t:Syn}(h:Jv t):t.kids.length<=1000000:=h.1.2.1
theorem lit_len' {t:Syn}{B:Nat}(hi : -1099511627776<=t.num/\t.num<=1099511627776)(hx:t.text.length<=B):(U1 t).length<=4*B+30:=by
 unfold U1;split
 . have:=Lib.itoa_length_le t.num (by omega) (by omega);omega
 split
 .
  split
  . show (4:Nat)<=_;omega
  show (5:Nat)<=_;omega
 unfold Sj;split
 . simp
 have:=kJ t.text;simp only [Au,Bb,Bp];omega
theorem node_len' {t:Syn}{ws:List Ag}{B:Nat}(hi : -1099511627776<=t.num/\t.num<=1099511627776)(hx:t.text.length<=B)(hn:t.name.length<=B)(h0:(Bi t 0).text.length<=B):(Do t ws).length<=jM ws+2*ws.length+(4*B+60):=by
 have h1:=jI ws;have h2:=get3_len ws;have h3:=sX ws;have h4:=lit_len' hi hx;obtain ⟨w1,w2,w3,w4⟩:=words_len;have k1:=w1 t.num;have k2:=w2 t.num;have k3:=w3 t.num;have k4:=w4 t.kind;have h5:=Lib.itoa_length_le t.num (by omega) (by omega);have r0:=wR t (Bi t 0) (ws.getD 0 []);have r1:=wR t (Bi t 1) (ws.getD 1 []);have q1:Dj.length=4:=rfl;have q2:C0.length=5:=rfl;have q3:Oa.length=2:=rfl;have q4:E4.length=5:=rfl;have q5:Dw.length=6:=rfl;have q6:Me.length=2:=rfl;have q7:Gv.length=5:=rfl;have q8:F7.length=3:=rfl;unfold Do;refine Kq (by omega) (Kq ?_ (Kq ?_ (Kq ?_ (Kq ?_ (Kq (by omega) (Kq ?_ (Kq ?_ (Kq ?_ (Kq ?_ (Kq ?_ ?_))))))))))
 .
  have:(if (ws == [])=true then [] else [32]++D6 ws ++ [32]:Ag).length<=(D6 ws).length+2:=Kq (by simp) (by simp);simp only [Au,Bb,Bp] at this ⊢;omega
 . simp only [Au,Bb,Bp];omega
 .
  have:(if ((Bi t 0).text == [])=true then [] else [32]++Oa ++ [32]++(Bi t 0).text:Ag).length<=B+4:=Kq (by simp) (by simp only [Au,Bb,Bp];omega);simp only [Au,Bb,Bp] at this ⊢;omega
 .
  have:(if (ws == [])=true then [] else [32]++Me ++ [32]++ws.getD 0 []:Ag).length<=(ws.getD 0 []).length+6:=Kq (by simp) (by simp only [Au,Bb,Bp];omega);simp only [Au,Bb,Bp] at this ⊢;omega
 . simp only [Au,Bb,Bp];omega
 . simp only [Au,Bb,Bp];omega
 .
  have:(if (ws == [])=true then [] else [44,32]++ws.getD 0 []:Ag).length<=(ws.getD 0 []).length+2:=Kq (by simp) (by simp only [Au,Bb,Bp];omega);simp only [Au,Bb,Bp] at this ⊢;omega
 . simp only [Au,Bb,Bp];omega
 . simp only [Au,Bb,Bp];omega
 have:(if (t.kind==11)=true then [44,32]++Lib.itoa t.num else []:Ag).length<=30:=Kq (by simp only [Au,Bb,Bp];omega) (by simp);simp only [Au,Bb,Bp] at this ⊢;omega
theorem write_len' (t:Syn):∀p,Al t p=0->Jv t->(Ae t).length+2<=4000064*Ki t:=by
  refine Syn.ind (P:=fun t=>∀p,Al t p=0->Jv t->(Ae t).length+2<=4000064*Ki t) (fun t ih p h hf=>?_) t
  have hk0:(Bi t 0).text.length<=1000000:=by
    unfold Bi;rw [Ez];cases hq:t.kids[0]? with
    | none=>simp [Gz]
    | some a=>exact (T8 hf (Aj hq)).1.1.1
  rw [Fl];have h1:=node_len' (B:=1000000) (ws:=t.kids.map Ae) (ok_num h) hf.1.1.1 hf.1.1.2 hk0
  have h2:jM (t.kids.map Ae)+2*t.kids.length<=4000064*Ij t.kids:=by
    have key:∀l:List Syn,(∀a∈l,(Ae a).length+2<=4000064*Ki a)->jM (l.map Ae)+2*l.length<=4000064*Ij l:=by
      intro l
      induction l with
      | nil=>intro _;simp [jM]
      | cons x r ihl=>
        intro hl;have h3:=hl x (I7 ..);have h4:=ihl fun a ha=>hl a (F9 _ ha)
        rw [Ao,Xt,Ij,Bb];omega
    refine key _ fun a ha=>?_
    obtain ⟨j,hj⟩:=Gp.1 ha;exact ih a ha _ (Ei h hj).1 (T8 hf ha)
  have h4:=I1 t;rw [Bt] at h1;rw [h4,Nat.mul_add];omega
theorem med_big {t:Syn}{p:Pl}(h:Al t p=0)(hf:Jv t):(Ae t).length<=100000000000000:=by
 have h1:=write_len' t p h hf;have h2:=med_cnt hf;omega
structure RvOK (T:List e8Sc) (V:List Va):Prop where
 tl:T.length<=1048576
 fl:∀s∈T,s.fields.length<=1048576
 vl:V.length<=1048576
 ty:∀v∈V,0<=v.type/\v.type<(T.length:Int)
theorem dN {T:List e8Sc}{V:List Va}(h:RvOK T V){v:Va}(hv:v∈V):∃sc,T[v.type.toNat]? = some sc:=by
 have:=h.ty v hv;exact ⟨_,List.getElem?_eq_getElem (show v.type.toNat<T.length by omega)⟩
theorem O4 {l:List Ag}{n:Ag}(h:l.contains n=true):0<=Sr l n/\Sr l n<(l.length:Int):=by
 unfold Sr;rw [if_pos h];have:=List.idxOf_lt_length_iff.2 (List.contains_iff_mem.1 h);omega
theorem yB {V:List Va}{n:Ag}(h:(K8 V).contains n=true):∃va,V[(Sr (K8 V) n).toNat]? = some va:=by
 have:=O4 h;rw [Bt] at this;exact ⟨_,List.getElem?_eq_getElem (show (Sr (K8 V) n).toNat<V.length by omega)⟩
theorem qK {T:List e8Sc}{V:List Va}{v:Int}{va:Va}{sc:e8Sc}(h:V[v.toNat]? = some va)(hs:T[va.type.toNat]? = some sc):X1 T V v=sc:=by
 unfold X1;rw [h];show (T[va.type.toNat]?).getD lQ=sc;rw [hs];rfl
section
variable {T:List e8Sc} {V:List Va} {t:Syn}
theorem look_1 (h:(((t.kind != 14)&&(t.kind != 15))&&(t.kind != 16))=true):J7 T V t=Oe:=if_pos h
theorem jP (h:(((t.kind != 14)&&(t.kind != 15))&&(t.kind != 16))=false):J7 T V t=if !((K8 V).contains t.text) then ⟨t.pos,8⟩ else if (t.kind==15)||((t.kind==14)&&(t.name==F6)) then Oe else if decide (Js (X1 T V (Sr (K8 V) t.text)) t.name<0) then ⟨t.pos,6⟩ else Oe:=Bo h
theorem look_2 (h:(((t.kind != 14)&&(t.kind != 15))&&(t.kind != 16))=false)(h2:(!((K8 V).contains t.text))=true):J7 T V t=⟨t.pos,8⟩:=(jP h).trans (if_pos h2)
theorem pU (h:(((t.kind != 14)&&(t.kind != 15))&&(t.kind != 16))=false)(h2:(!((K8 V).contains t.text))=false)(h3:((t.kind==15)||((t.kind==14)&&(t.name==F6)))=true):J7 T V t=Oe:=(jP h).trans ((Bo h2).trans (if_pos h3))
theorem look_4 (h:(((t.kind != 14)&&(t.kind != 15))&&(t.kind != 16))=false)(h2:(!((K8 V).contains t.text))=false)(h3:((t.kind==15)||((t.kind==14)&&(t.name==F6)))=false)(h4:decide (Js (X1 T V (Sr (K8 V) t.text)) t.name<0)=true):J7 T V t=⟨t.pos,6⟩:=(jP h).trans ((Bo h2).trans ((Bo h3).trans (if_pos h4)))
theorem yH (h:(((t.kind != 14)&&(t.kind != 15))&&(t.kind != 16))=false)(h2:(!((K8 V).contains t.text))=false)(h3:((t.kind==15)||((t.kind==14)&&(t.name==F6)))=false)(h4:decide (Js (X1 T V (Sr (K8 V) t.text)) t.name<0)=false):J7 T V t=Oe:=(jP h).trans ((Bo h2).trans ((Bo h3).trans (Bo h4)))
theorem walk_1 (h:((J7 T V t).err != 0)=true):G4 T V t=J7 T V t:=(Wn T V t).trans (if_pos h)
theorem Ob (h:((J7 T V t).err != 0)=false):G4 T V t=Ja (G4 T V) t.kids:=(Wn T V t).trans (Bo h)
theorem mK {f:Syn->Fa}:∀{l:List Syn},(Ja f l).err=0->∀a∈l,(f a).err=0
  | [],_,a,ha=>by cases ha
  | x::r,h,a,ha=>by
    rw [Ja] at h;by_cases hx:(f x).err=0
    . rw [if_neg (by simp [hx])] at h
      rcases Db.1 ha with rfl | ha
      . exact hx
      exact mK h a ha
    rw [if_pos (by simpa using hx)] at h;exact absurd h hx
theorem Lp (h:(G4 T V t).err=0):(J7 T V t).err=0/\∀a∈t.kids,(G4 T V a).err=0:=by
 rw [Wn] at h;by_cases hx:(J7 T V t).err=0
 . rw [if_neg (by simp [hx])] at h;exact ⟨hx,mK h⟩
 rw [if_pos (by simpa using hx)] at h;exact absurd h hx
theorem tX (h:(J7 T V t).err=0)(hk:t.kind=14\/t.kind=15\/t.kind=16):(K8 V).contains t.text=true:=by
 have h0:(((t.kind != 14)&&(t.kind != 15))&&(t.kind != 16))=false:=by rcases hk with h | h | h <;> simp [h]
 rw [jP h0] at h;cases hc:(K8 V).contains t.text with
 | true=>rfl
 | false=>rw [hc,if_pos (by decide)] at h;cases h
theorem leafx_1 {xs:List Ex}(h1:(t.kind==13)=true):Mj T V t xs=⟨0,[],0,0,0,dP t⟩:=if_pos h1
theorem leafx_2 {xs:List Ex}(h1:(t.kind==13)=false)(h2:(t.kind==14)=true)(h3:(t.name==F6)=true):Mj T V t xs=⟨2,[],Sr (K8 V) t.text,0,0,v0⟩:=(Bo h1).trans ((if_pos h2).trans (if_pos h3))
theorem leafx_3 {xs:List Ex}{sc:e8Sc}(h1:(t.kind==13)=false)(h2:(t.kind==14)=true)(h3:(t.name==F6)=false)(hs:X1 T V (Sr (K8 V) t.text)=sc):Mj T V t xs=⟨1,[],Sr (K8 V) t.text,Js sc t.name,0,v0⟩:=by subst hs;exact (Bo h1).trans ((if_pos h2).trans (Bo h3))
theorem leafx_4 {xs:List Ex}(h1:(t.kind==13)=false)(h2:(t.kind==14)=false)(h4:(t.kind==15)=true):Mj T V t xs=⟨3,[],Sr (K8 V) t.text,0,0,v0⟩:=(Bo h1).trans ((Bo h2).trans (if_pos h4))
theorem leafx_5 {xs:List Ex}{sc:e8Sc}(h1:(t.kind==13)=false)(h2:(t.kind==14)=false)(h4:(t.kind==15)=false)(h5:(t.kind==16)=true)(hs:X1 T V (Sr (K8 V) t.text)=sc)(h6:decide ((0:Int)<(t.kids.length:Int))=true) :
  Mj T V t xs=⟨4,[],Sr (K8 V) t.text,Js sc t.name,t.num,dP (Bi t 0)⟩:=by
 subst hs;refine (Bo h1).trans ((Bo h2).trans ((Bo h4).trans ((if_pos h5).trans ?_)));rw [if_pos h6]
theorem leafx_6 {xs:List Ex}{sc:e8Sc}(h1:(t.kind==13)=false)(h2:(t.kind==14)=false)(h4:(t.kind==15)=false)(h5:(t.kind==16)=true)(hs:X1 T V (Sr (K8 V) t.text)=sc)(h6:decide ((0:Int)<(t.kids.length:Int))=false) :
  Mj T V t xs=⟨4,[],Sr (K8 V) t.text,Js sc t.name,t.num,v0⟩:=by
 subst hs;refine (Bo h1).trans ((Bo h2).trans ((Bo h4).trans ((if_pos h5).trans ?_)));rw [Bo h6]
theorem leafx_7 {xs:List Ex}(h1:(t.kind==13)=false)(h2:(t.kind==14)=false)(h4:(t.kind==15)=false)(h5:(t.kind==16)=false)(h7:(t.kind==18)=true):Mj T V t xs=⟨12,xs,0,0,0,v0⟩:=(Bo h1).trans ((Bo h2).trans ((Bo h4).trans ((Bo h5).trans (if_pos h7))))
theorem leafx_8 {xs:List Ex}(h1:(t.kind==13)=false)(h2:(t.kind==14)=false)(h4:(t.kind==15)=false)(h5:(t.kind==16)=false)(h7:(t.kind==18)=false):Mj T V t xs=⟨t.num,xs,0,0,0,v0⟩:=(Bo h1).trans ((Bo h2).trans ((Bo h4).trans ((Bo h5).trans (Bo h7))))
end
end Go.Proofs.YtckhoadldibflaaGreatDoor

namespace Go.Aw
section
variable {P:Program} {T:List (Nat×TD)} {d:Option Nat} {ty:TypeId} {pos:String} {aft:Array Edge} {gd:Option (Nat×Bool)} {ρ:Operand->AV}
theorem Cf.front3 {f:FuncId}{args:List AV}{H R:List HO}{Q:AV->List HO->Prop}{o1 o2 o3:HO}(k3 k2 k1:Nat)(hk3:H[k3]? = some o3)(hk2:(H.eraseIdx k3)[k2]? = some o2)(hk1:((H.eraseIdx k3).eraseIdx k2)[k1]? = some o1)(hR:((H.eraseIdx k3).eraseIdx k2).eraseIdx k1=R)
  (h:Cf P f (o1::o2::o3::R) args Q):Cf P f H args Q:=by
 subst hR;refine h.perm ?_;have h1:=Lj hk3;have h2:=Lj hk2;have h3:=Lj hk1;refine h1.trans ((h2.cons o3).trans (((h3.cons o2).cons o3).trans ?_));exact (List.Perm.swap o2 o3 _).trans (((List.Perm.swap o1 o3 _).cons o2).trans (List.Perm.swap o1 o2 _))
end
end Go.Aw

namespace Go.Aw
open Go

def Xw (l:List Oper):Bool:=l.all fun o=>match o.op with | .defer _=>false | _=>true
theorem Vp {l:List Oper}(h:Xw l=true):∀o∈l,∀c,o.op≠.defer c:=fun o ho c e=>by
 have:=(Fu.1 h) o ho;rw [e] at this;cases this

theorem pZ {ro:Option Nat}{n:Nat}{P:Program}{o:Oper}{a:Act}{w:World}{next:Act->World->Prop}{Q Q':Exit->Act->World->Prop}(hd:∀c,o.op≠.defer c)
    (hp:∀c a w,Q (.panic c) a w->Q' (.panic c) a w) (ho:LetsOut Q->LetsOut Q') (h:o.wp P a w next Q):o.wpIn { Fence.wide with round:=ro } n P a w next Q':=by
  refine ⟨fun _ _=>trivial,?_⟩;rw [Oper.semAt_eq _ _ _ hd];unfold Oper.wp at h;generalize (execOp a.eval o).run P w=r at h ⊢;cases r with
  | ok x w'=>
    cases x with
    | value v=>exact h
    | skip=>exact h
    | defer d=>exact h
    | enter f args=>
      have h':Calls P f args w' _:=h;refine ⟨fun e=>(by cases e),callsIn_wide.2 (h'.mono ?_)⟩;intro e w'' hr;cases e with
      | returned v=>exact hr
      | panicked c=>exact hp _ _ _ hr
      | outgrown=>exact ho hr
    | row row args=>
      have h':Rows P row args w' _:=h;exact ⟨fun e=>(by cases e),fun c cs _=>let ⟨v,w'',r,s⟩:=h' c cs;⟨v,w'',r,stepsIn_wide.2 s⟩⟩
    | _=>exact h.elim
  | halt e w'=>
    cases e with
    | panic v=>exact hp _ _ _ h
    | _=>exact h.elim

theorem Jf {ro:Option Nat}{n:Nat}{P:Program}{ops:Array Oper}{Q:Exit->Act->World->Prop}:∀(l rest:List Oper) (a:Act) (w:World),(∀o∈l,∀c,o.op≠.defer c)->
    WOL P ops (fun e a w=>match e with | .normal=>wpListIn { Fence.wide with round:=ro } n P ops Q rest a w | e=>Q e a w) l a w->wpListIn { Fence.wide with round:=ro } n P ops Q (l++rest) a w
  | [],rest,a,w,_,h=>h
  | o::r,rest,a,w,hd,h=>by
    unfold WOL at h;show wpListIn _ n P ops Q (o::(r++rest)) a w;unfold wpListIn;split
    . rename_i hw;rw [if_pos hw] at h
      exact pZ (hd o (I7 ..)) (fun c a w h=>h) (fun h=>h) (Oper.wp_mono (fun a' w' h'=>Jf r rest a' w' (fun x hx=>hd x (F9 _ hx)) h') h)
    . rename_i hw;rw [if_neg hw] at h
      exact ⟨fun _ _=>trivial,Jf r rest _ w (fun x hx=>hd x (F9 _ hx)) h⟩

def Tp (P:Program)(l:Nat)(rec:Loop)(H:List HO)(args:List AV)(R:AV->List HO->Prop):Prop:=
 ∀(n:Nat) (g:Gh) (w:World) (vs:Array Value),HOK g w H->Dv g w vs args->
  RoundIn { Fence.wide with round:=none } n P l rec.fn ((rec.params.zip vs).foldl (fun t (p,v)=>t.setIfInBounds p v) rec.tmps) rec.assign rec.body w
   fun e w'=>∃v g' r H',e = .returned v/\Rep g' w' v r/\HOK g' w' H'/\Ext g w g' w'/\R r H'

theorem wideN:({ Fence.wide with round:=none }:Fence)=Fence.wide:=rfl

def wY (l:Nat)(P:Program)(c:Code)(Q:Exit->St->Prop)(s:St):Prop:=
 ∀(n:Nat) (Q':Exit->Act->World->Prop) (g:Gh) (a:Act) (w:World),Gm g s a w->(∀e g' s' a' w',Gm g' s' a' w'->Ext g w g' w'->Q e s'->Q' e a' w')->c.wpIn { Fence.wide with round:=some l } n P Q' a w

theorem wY.region {l:Nat}{P:Program}{Q:Exit->St->Prop}{s:St}{id:Nat}{ops:Array Oper}(hnd:Xw ops.toList=true)(h:AOL P ops (Q .normal) ops.toList s):wY l P (.region id ops false) Q s:=by
 intro n Q' g a w hG hQ;refine wpIn_region_list ?_;have:=Jf (ro:=some l) (n:=n) (Q:=Q') ops.toList [] a w (Vp hnd) (h.run _ g a w hG fun g' s' a' w' h1 h2 h3=>hQ _ g' s' a' w' h1 h2 h3);simpa using this

theorem wY.block {l:Nat}{P:Program}{Q:Exit->St->Prop}{s:St}{id:Nat}{c:Code}(h:wY l P c (Ly id Q) s):wY l P (.block id c) Q s:=by
  intro n Q' g a w hG hQ;refine wpIn_block (h n _ g a w hG fun e g' s' a' w' hG' hx hq=>?_);cases e with
  | exit j=>
    simp only [Ly] at hq;simp only [Exit.inBlock];by_cases e:j=id
    . subst e;simp at hq;simp;exact hQ _ g' s' a' w' hG' hx hq
    . simp only [e,if_false]
      have:Nat.beq j id=false:=by
        cases hq':Nat.beq j id with
        | false=>rfl
        | true=>exact absurd (E0 hq') e
      simp only [this,cond_false] at hq;exact hQ _ g' s' a' w' hG' hx hq
  | _=>exact hQ _ g' s' a' w' hG' hx hq

theorem eZ {g:Gh}{w:World}{H:List HO}(hH:HOK g w H){i b:Nat}{o:Obj}(o':Obj)(hi:H[i]? = some (.obj b o)) :
  HOK g (w.putObj b o') (H.set i (.obj b o'))/\Ext g w g (w.putObj b o'):=by
 have hob:(HO.obj b o).ok g w:=hH.ok _ (Aj hi);have hlt:b<w.heap.size:=(Array.getElem?_eq_some_iff.1 hob.2).1
 have hx:Ext g w g (w.putObj b o'):=by
  refine ⟨rfl,rfl,rfl,by simp,fun c hc hg=>⟨hg,World.putObj_heap_other (fun e=>by rw [e,hob.1] at hg;cases hg)⟩,fun c n hc hg=>⟨fun m hm=>by rw [hg] at hm;cases hm;exact Br _,fun x hx=>?_⟩⟩;have hne:c≠b:=fun e=>by rw [e,hob.1] at hg;cases hg;omega
  unfold World.cell?;rw [World.putObj_heap_other hne]
 refine ⟨hH.set hx hi (fun c hc=>.inl hc) ⟨hob.1,World.putObj_heap_same hlt⟩ fun c hc hne _=>⟨rfl,World.putObj_heap_other (fun e=>hne (by rw [e];rfl))⟩,hx⟩

theorem Gm.putObj {g:Gh}{s:St}{a:Act}{w:World}(hG:Gm g s a w){i b:Nat}{o:Obj}(o':Obj)(hi:s.H[i]? = some (.obj b o)) :
  Gm g ⟨s.sl,s.H.set i (.obj b o'),s.n⟩ a (w.putObj b o')/\Ext g w g (w.putObj b o'):=by
 obtain ⟨h1,h2⟩:=eZ hG.heap o' hi;exact ⟨⟨hG.size,hG.defers,fun j=>(hG.sl j).mono h2,h1⟩,h2⟩

def AWX (P:Program)(c:Code)(Q:Exit->St->Prop)(X:Gh->World->Exit->Act->World->Prop)(s:St):Prop:=
 ∀(Q':Exit->Act->World->Prop) (g:Gh) (a:Act) (w:World),Gm g s a w->(∀e g' s' a' w',Gm g' s' a' w'->Ext g w g' w'->Q e s'->Q' e a' w')->(∀e a' w',X g w e a' w'->Q' e a' w')->c.wp P Q' a w

def cT (D:Nat):Deferred:={ target:=.collected D,args:=#[] }

def uQ (P:Program)(fn:Func)(R:AV->List HO->Prop)(g:Gh)(w:World)(e:Exit)(a:Act)(w':World):Prop:=
 e = .ret/\∃D,a.defers = [cT D]/\w'.heap[D]? = some (.deferred (some []))/\∃v g' r H',(results fn a.tmps).run P (w'.putObj D (.deferred none)) = .ok v (w'.putObj D (.deferred none))/\
  Rep g' (w'.putObj D (.deferred none)) v r/\HOK g' (w'.putObj D (.deferred none)) H'/\Ext g w g' (w'.putObj D (.deferred none))/\R r H'

section
variable {P:Program} {fn:Func} {R:AV->List HO->Prop} {Q:Exit->St->Prop} {s:St}
theorem uQ.mono {g g1:Gh}{w w1:World}(h:Ext g w g1 w1){e:Exit}{a:Act}{w':World}(k:uQ P fn R g1 w1 e a w'):uQ P fn R g w e a w':=by
 obtain ⟨he,D,h1,h2,v,g',r,H',h3,h4,h5,h6,h7⟩:=k;exact ⟨he,D,h1,h2,v,g',r,H',h3,h4,h5,h.trans h6,h7⟩

theorem AWX.seq {x y:Code}(h:AW P x (Gf (AWX P y Q (uQ P fn R)) Q) s):AWX P (.seq x y) Q (uQ P fn R) s:=by
 intro Q' g a w hG hQ hX;refine wp_seq (h _ g a w hG fun e g' s' a' w' hG' hx hq=>?_);cases e with
 | normal=>exact hq Q' g' a' w' hG' (fun e g'' s'' a'' w'' h1 h2 h3=>hQ e g'' s'' a'' w'' h1 (hx.trans h2) h3) (fun e a'' w'' hk=>hX e a'' w'' (hk.mono hx))
 | _=>exact hQ _ g' s' a' w' hG' hx hq

def AWX2 (P:Program)(y z:Code)(Q:Exit->St->Prop)(X:Gh->World->Exit->Act->World->Prop)(s:St):Prop:=
 ∀(Q':Exit->Act->World->Prop) (g:Gh) (a:Act) (w:World),Gm g s a w->(∀e g' s' a' w',Gm g' s' a' w'->Ext g w g' w'->Q e s'->Q' e a' w')->(∀e a' w',X g w e a' w'->Q' e a' w')->y.wp P (Exit.then (z.wp P Q') Q') a w

theorem AWX.assoc {x y z:Code}(h:AW P x (Gf (AWX2 P y z Q (uQ P fn R)) Q) s):AWX P (.seq (.seq x y) z) Q (uQ P fn R) s:=by
 intro Q' g a w hG hQ hX;refine wp_seq (wp_seq (h _ g a w hG fun e g' s' a' w' hG' hx hq=>?_));cases e with
 | normal=>exact hq Q' g' a' w' hG' (fun e g'' s'' a'' w'' h1 h2 h3=>hQ e g'' s'' a'' w'' h1 (hx.trans h2) h3) (fun e a'' w'' hk=>hX e a'' w'' (hk.mono hx))
 | _=>exact hQ _ g' s' a' w' hG' hx hq

theorem Cf.bodyX {T:List (Nat×TD)}(hT:Jw P T){f:FuncId}{c:Code}{args:List AV}{H:List HO}(hf:P.funcs[f]? = some fn)(hb:fn.body=some c){n:Nat}(hn:fn.ntmps=n)(hle:Nat.ble args.length n=true)
    (h:AWX P c (fun e s=>(e = .normal\/e = .ret)/\∃xs,ResL P T s fn.results.toList xs/\∃H',H'.Sublist s.H/\R (Ah xs) H') (uQ P fn R) ⟨I9 0 args,H,n⟩):Cf P f H args R:=by
  intro g w vs hH hr;have hle':=Cv hle;refine (callsIn_wide (n:=1)).1 (callsIn_of_wp_marks hf hb trivial ?_);refine wpIn_wide.2 ?_;refine h _ g _ w ⟨?_,rfl,?_,hH⟩ ?_ ?_
  . simp only [Ww,Array.size_replicate,hn,hr.1];omega
  . intro i
    show Rep g w _ (get (I9 0 args) i);rw [aH];simp only [A9,if_true,Nat.sub_zero];cases hi:args[i]? with
    | none=>exact .junk _
    | some x=>
      have hlt:i<vs.size:=by rw [hr.1];exact (List.getElem?_eq_some_iff.1 hi).1
      have:=hr.2 i x hi;simp only [Ek,Array.getElem?_append,hlt,if_true] at this ⊢;exact this
  . rintro e g' s' a' w' hG' hx ⟨he,xs,hr',H',hs,hq⟩
    obtain ⟨v,h1,h2⟩:=Wa hT hr' hG'
    have key:LeavesInM Fence.wide 1 P fn a'.tmps (fun e w'=>∃v g' r H',e = .returned v/\Rep g' w' v r/\HOK g' w' H'/\Ext g w g' w'/\R r H') a'.defers .returning w':=by
      rw [hG'.defers];exact ⟨v,h1,v,g',_,H',rfl,h2,hG'.heap.sub hs,hx,hq⟩
    rcases he with rfl | rfl <;> exact key
  . rintro e a' w' ⟨rfl,D,hD,hk,v,g',r,H',h1,h2,h3,h4,h5⟩
    show LeavesInM Fence.wide 1 P fn a'.tmps _ a'.defers .returning w';rw [hD];exact ⟨by simp,.inl ⟨D,_,rfl,run_takeDeferred hk,v,h1,v,g',r,H',rfl,h2,h3,h4,h5⟩⟩
end

def Act.more (a:Act)(ds:List Deferred):Act:={ a with defers:=a.defers++ds }
theorem Tf (a:Act)(ds:List Deferred)(d:Option Nat)(v:Value):(Act.more a ds).put d v=Act.more (a.put d v) ds:=by cases d <;> rfl
theorem nK (a:Act)(ds:List Deferred):(Act.more a ds).eval=a.eval:=by funext y;cases y <;> rfl

def uC (ds:List Deferred)(Q:Exit->Act->World->Prop)(e:Exit)(a:Act)(w:World):Prop:=∃a0,a=Act.more a0 ds/\Q e a0 w

theorem oA {P:Program}{ops:Array Oper}{Q:Exit->Act->World->Prop}{ds:List Deferred}{i:Nat}{K K':Act->World->Prop}(hK:∀a w,K a w->K' (Act.more a ds) w){a:Act}{w:World}
    (h:wpOp P ops Q i K a w):wpOp P ops (uC ds Q) i K' (Act.more a ds) w:=by
  have hL:LetsOut Q->LetsOut (uC ds Q):=fun ⟨a,w,h⟩=>⟨_,w,a,rfl,h⟩
  unfold wpOp at h ⊢;cases ho:ops[i]? with
  | none=>rw [ho] at h;exact hK _ _ h
  | some o=>
    rw [ho] at h;simp only at h ⊢;have ht:yielded ops (Act.more a ds).tmps=yielded ops a.tmps:=rfl;rw [ht];by_cases hw:Region.wanted o (yielded ops a.tmps)=true
    . rw [if_pos hw] at h ⊢
      rcases h with h | ⟨h,h'⟩
      . left
        unfold Oper.wp at h ⊢;rw [nK];generalize (execOp a.eval o).run P w=r at h ⊢;cases r with
        | ok x w'=>
          cases x with
          | value v=>show K' _ w';rw [Tf];exact hK _ _ h
          | skip=>show K' _ w';rw [Tf];exact hK _ _ h
          | defer d=>
            have:=hK _ _ h;rw [<-Tf] at this;exact this
          | enter f args=>
            have h':Calls P f args w' _:=h;show Calls P f args w' _;refine h'.mono ?_;intro e w'' hr;cases e with
            | returned v=>show K' _ w'';rw [Tf];exact hK _ _ hr
            | panicked c=>exact ⟨a,rfl,hr⟩
            | outgrown=>exact hL hr
          | row row args=>
            have h':Rows P row args w' _:=h;show Rows P row args w' _;exact h'.mono fun v w'' hr=>by rw [Tf];exact hK _ _ hr
          | _=>exact h.elim
        | halt e w'=>
          cases e with
          | panic v=>exact ⟨a,rfl,h⟩
          | _=>exact h.elim
      . right
        refine ⟨?_,hL h'⟩;unfold Oper.asks at h ⊢;rw [nK];exact h
    . rw [if_neg hw] at h ⊢
      rw [Tf];exact hK _ _ h

theorem lE {P:Program}{md:Region.Mode}{ops:Array Oper}{Q:Exit->Act->World->Prop}{ds:List Deferred}:∀(A3:Nat) (listed:Array Bool) (a:Act) (w:World),wpAny P md ops Q A3 listed a w->
  wpAny P md ops (uC ds Q) A3 listed (Act.more a ds) w
 | 0,listed,a,w,h=>⟨h.1,a,rfl,h.2⟩
 | A3+1,listed,a,w,h=>⟨fun hr=>⟨a,rfl,h.1 hr⟩,fun i hi=>oA (fun a w h=>lE A3 _ a w h) (h.2 i hi)⟩

section
variable {P:Program} {ops:Array Oper}
theorem tail_more (hm:P.follows .mixedOrders=true){id:Nat}{Qs:St->Prop}{s:St}(K:List HO->Prop)(hK:K s.H)(hdd:Fp ops=true)(h:Hq P ops K Qs (Array.replicate ops.size false) s)
  {Q':Exit->Act->World->Prop} {g:Gh} {a:Act} {w:World} (hG:Gm g s a w) (ds:List Deferred) (hQ:∀g' s' a' w',Gm g' s' a' w'->Ext g w g' w'->Qs s'->Q' .ret (Act.more a' ds) w') :
  ((Code.region id ops true).seq .ret).wp P Q' (Act.more a ds) w:=by
 have hx:=Ext.drew g w;have hG':Gm g s a w.drew:=⟨hG.size,hG.defers,fun i=>(hG.sl i).mono hx,hG.heap.drew⟩
 have key:=CanonI.any hdd h ops.size [] (Array.replicate ops.size false) s.sl g a w.drew (fun e a' w'=>match e with | .normal=>Q' .ret (Act.more a' ds) w' | _=>False)
  ⟨by simp,by simp,by simp,by simp,fun t _=>rfl,by simp,by simp,by simp,by simp,by simp,by simp,by simp,by simp,fun j o hj hl=>by
   have hlt:j<ops.size:=(Array.getElem?_eq_some_iff.1 hj).1;simp [hlt] at hl⟩ hG' (fun _=>hK) (by
   unfold unl;have:=List.length_filter_le (fun j=>!(Array.replicate ops.size false).getD j true) (List.range ops.size);simpa using this) fun g' s' a' w' k1 k2 k3=>hQ g' s' a' w' k1 (hx.trans k2) k3
 have key2:=lE (ds:=ds) _ _ _ _ key;refine wp_seq (wp_mono (wp_region_any hm key2) ?_);rintro e a' w' ⟨a0,rfl,hq⟩;cases e with
 | normal=>exact wp_ret hq
 | _=>exact hq.elim

inductive AWD (P:Program):Code->(St->Prop)->St->Prop where
 | draw (hm:P.follows .mixedOrders=true) {id:Nat} {ops:Array Oper} {Qs:St->Prop} {s:St} (K:List HO->Prop) (hK:K s.H) (hdd:Fp ops=true) (h:Hq P ops K Qs (Array.replicate ops.size false) s):AWD P (.region id ops true) Qs s

def endX (P:Program)(T:List (Nat×TD))(fn:Func)(R:AV->List HO->Prop)(D:Nat)(s:St):Prop:=
 ∃i:Nat,s.H[i]? = some (HO.obj D (Obj.deferred (some [])))/\∃xs,ResL P T ⟨s.sl,s.H.set i (.obj D (.deferred none)),s.n⟩ fn.results.toList xs/\∃H3,H3.Sublist (s.H.set i (.obj D (.deferred none)))/\R (Ah xs) H3

end
end Go.Aw

namespace Go.Aw
open Go
theorem AW.ghostPost {P:Program}{c:Code}{Q:Exit->St->Prop}{s:St}(h:AW P c (fun e s=>∃s',GS s s'/\Q e s') s):AW P c Q s:=by
 intro Q' g a w hG hQ;refine h Q' g a w hG fun e g' s' a' w' h1 h2 ⟨s2,h3,h4⟩=>?_
 obtain ⟨g2,k1,k2⟩:=h3 g' a' w' h1;exact hQ e g2 s2 a' w' k1 (h2.trans k2) h4
section
variable {P:Program} {T:List (Nat×TD)} {d:Option Nat} {ty:TypeId} {pos:String} {aft:Array Edge} {gd:Option (Nat×Bool)} {ρ:Operand->AV}
end
end Go.Aw

namespace Go.Aw
open Go
theorem GS.heq {sl:List (Nat×AV)}{H H2:List HO}{n:Nat}(h:H=H2):GS ⟨sl,H,n⟩ ⟨sl,H2,n⟩:=by subst h;exact GS.refl _
end Go.Aw
namespace Go.Proofs.YtckhoadldibflaaGreatDoor
open Go Go.Aw
theorem nm_take {T:List e8Sc}{k:Nat}{s:e8Sc}(h:T[k]? = some s):Jx (T.take k) ++ [s.name]=Jx (T.take (k+1)):=by
 rw [C9 h];simp
theorem nm_new {T:List e8Sc}(hd:(Jx T).Nodup){k:Nat}{s:e8Sc}(h:T[k]? = some s):(Jx (T.take k)).contains s.name=false:=by
 rw [rA];intro hc
 have h2:(Jx (T.take (k+1))).Nodup:=by
  have:(Jx (T.take (k+1))).Sublist (Jx T):=(List.take_sublist _ _).map _;exact hd.sublist this
 rw [<-nm_take h,Mf] at h2;exact h2.2.2 _ (List.contains_iff_mem.1 hc) _ (by simp) rfl
section
variable {T:List e8Sc} {V:List Va} {t:Syn}
def dFa (T:List e8Sc)(V:List Va)(t:Syn):Fa:=if (Mg T V t != 0) then ⟨t.pos,Mg T V t⟩ else Oe
def dV (T:List e8Sc)(V:List Va)(t:Syn):List Va:=if (Mg T V t != 0) then V else V ++ [Oo T t]
theorem dec_1 (h1:((V.length:Int)==16)=true):Mg T V t=5:=if_pos h1
theorem dec_2 (h1:((V.length:Int)==16)=false)(h2:(!((Jx T).contains t.text))=true):Mg T V t=8:=(Bo h1).trans (if_pos h2)
theorem dec_3 (h1:((V.length:Int)==16)=false)(h2:(!((Jx T).contains t.text))=false)(h3:(K8 V).contains t.name=true):Mg T V t=7:=(Bo h1).trans ((Bo h2).trans (if_pos h3))
theorem dec_4 (h1:((V.length:Int)==16)=false)(h2:(!((Jx T).contains t.text))=false)(h3:(K8 V).contains t.name=false):Mg T V t=0:=(Bo h1).trans ((Bo h2).trans (Bo h3))
theorem xP {e:Int}(h:Mg T V t=e)(he:e≠0):dFa T V t=⟨t.pos,e⟩/\dV T V t=V:=by
 unfold dFa dV;rw [h,if_pos (by simpa using he),if_pos (by simpa using he)];exact ⟨rfl,rfl⟩
theorem dFa_yes (h:Mg T V t=0):dFa T V t=Oe/\dV T V t=V ++ [Oo T t]:=by
 unfold dFa dV;rw [h,if_neg (by decide),if_neg (by decide)];exact ⟨rfl,rfl⟩
theorem Mt (r:List Syn):L2 T V (t::r)=if (Mg T V t != 0) then (V,⟨t.pos,Mg T V t⟩) else L2 T (V ++ [Oo T t]) r:=by rw [L2]
theorem decS_hit {l:List Syn}{k:Nat}(h:l[k]? = some t)(he:((dFa T V t).err != 0)=true):L2 T V (l.drop k)=(dV T V t,dFa T V t):=by
 have hx:(Mg T V t != 0)=true:=by
  unfold dFa at he;cases hq:Mg T V t != 0 with
  | true=>rfl
  | false=>rw [hq,if_neg (by decide)] at he;exact absurd he (by decide)
 rw [A2 h,Mt,if_pos hx];unfold dFa dV;rw [if_pos hx,if_pos hx]
theorem decS_on {l:List Syn}{k:Nat}(h:l[k]? = some t)(he:((dFa T V t).err != 0)=false):L2 T V (l.drop k)=L2 T (dV T V t) (l.drop (k+1)):=by
 have hx:(Mg T V t != 0)=false:=by
  unfold dFa at he;cases hq:Mg T V t != 0 with
  | false=>rfl
  | true=>rw [hq,if_pos rfl] at he;simp only at he;rw [hq] at he;cases he
 rw [A2 h,Mt,Bo hx];unfold dV;rw [Bo hx]
theorem dV_len (h:V.length<=16):(dV T V t).length<=16:=by
  unfold dV;cases hq:Mg T V t != 0 with
  | true=>rw [if_pos rfl];exact h
  | false=>
    rw [Bo rfl,Au,Hl]
    have:V.length≠16:=fun h16=>by
      have:=dec_1 (T:=T) (t:=t) (V:=V) (by simp [h16]);rw [this] at hq;exact absurd hq (by decide)
    omega
theorem scVa (l:List Va):∀c∈l.map Tn,A0 c=true:=fun c hc=>by
 obtain ⟨x,_,rfl⟩:=Cl.1 hc;rfl
end
section
variable {t:Syn}
theorem dB (h:Al t .pats=0):5<=t.kind/\t.kind<=12:=Zl (Ct (Cq h).1).1
theorem Ma (h:Al t .pats=0)(hk:t.kind=10\/t.kind=12):t.kids.length=2:=by
 have hs:=(Ct (Cq h).1).2.1;unfold Dn at hs;rcases hk with hk | hk <;> · rw [hk] at hs;simp at hs;omega
theorem Xy (h:Al t .pats=0)(h5:t.kind≠5){j:Nat}{a:Syn}(ha:t.kids[j]? = some a)(hj:(t.kind=10\/t.kind=12)->j=0):Al a .pats=0:=by
 have hr:=dB h;have hk:=(Ei h ha).1
 have he:Dm t j = .pats:=by
  unfold Dm;rw [if_neg (by simp;omega),if_neg (by simp;omega),if_neg (by simp;omega)];by_cases h10:t.kind=10
  .
   have:=hj (.inl h10);subst this;rw [if_pos (by simpa using h10),if_neg (by decide)]
  rw [if_neg (by simpa using h10)];by_cases h12:t.kind=12
  .
   have:=hj (.inr h12);subst this;rw [if_pos (by simpa using h12),if_neg (by decide)]
  rw [if_neg (by simpa using h12),if_neg (by simp;omega),if_neg (by simp;omega)]
 rw [he] at hk;exact hk
theorem pat_ev (h:Al t .pats=0)(hk:t.kind=10):Al (Bi t 1) (.only 5)=0:=by
 have h2:=Ma h (.inl hk);have hg:=He (t:=t) (k:=1) (by omega);have hk1:=(Ei h hg).1
 have he:Dm t 1 = .only 5:=by
  unfold Dm;rw [hk];rfl
 rw [he] at hk1;exact hk1
theorem pat_cond (h:Al t .pats=0)(hk:t.kind=12):Al (Bi t 1) .exps=0:=by
 have h2:=Ma h (.inr hk);have hg:=He (t:=t) (k:=1) (by omega);have hk1:=(Ei h hg).1
 have he:Dm t 1 = .exps:=by
  unfold Dm;rw [hk];rfl
 rw [he] at hk1;exact hk1
theorem Ji (x:Syn)(r:List Syn):Ij (x::r)=Ki x+Ij r:=by rw [Ij]
theorem oV (t:Syn):(O2 t).length<=Ki t:=by
  induction t using Syn.ind with
  | h t ih=>
    rw [Y2,I1]
    have hh:(evH t.kids).length<=Ij t.kids:=by
      cases hk:t.kids with
      | nil=>rw [evH];simp
      | cons x r=>rw [evH,Ji];have:=ih x (by rw [hk];simp);omega
    have hf:∀l:List Syn,(∀a∈l,(O2 a).length<=Ki a)->(l.flatMap O2).length<=Ij l:=by
      intro l
      induction l with
      | nil=>intro _;simp
      | cons x r ih2=>intro hl;rw [Ld,Au,Ji];have:=hl x (by simp);have:=ih2 fun a ha=>hl a (by simp [ha]);omega
    split
    . simp
    . split
      . rw [Bb];omega
      . split
        . omega
        have:=hf _ ih;omega
theorem bR:∀(l:List Syn) (k:Nat),Ij (l.take k)<=Ij l
 | [],k=>by simp
 | x::r,0=>by rw [Wu,Ij];omega
 | x::r,k+1=>by rw [Zt,Ji,Ji];have:=bR r k;omega
theorem evF_len (l:List Syn):(l.flatMap O2).length<=Ij l:=by
 induction l with
 | nil=>simp
 | cons x r ih=>rw [Ld,Au,Ji];have:=oV x;omega
theorem ev_part (ht:Wg t)(k:Nat):(((t.kids.take k).flatMap O2).map C6).length<=1000000:=by
 rw [Bt];have h1:=evF_len (t.kids.take k);have h2:=bR t.kids k;have h3:=xM t.kids;have h4:=Md t;unfold Wg at ht;omega
theorem ev_kid (ht:Wg t):((O2 t).map C6).length<=1000000:=by
 rw [Bt];exact Ga (oV t) (Wi ht)
theorem scSyn (l:List Syn):∀c∈l.map C6,A0 c=true:=fun c hc=>by
 obtain ⟨x,_,rfl⟩:=Cl.1 hc;rw [Bf];rfl
theorem evs_1 (h1:(t.kind==5)=true):(O2 t).map C6 = [cSyn t]:=by
 rw [Y2,if_pos h1,Ao,A5,Bf]
theorem evs_2 (h1:(t.kind==5)=false)(h2:(t.kind==10)=true)(hl:0<t.kids.length):(O2 t).map C6 = [cSyn (Bi t 1)]++(O2 (Bi t 0)).map C6:=by
 rw [Y2,Bo h1,if_pos h2,Ao,Bf,oU hl];rfl
theorem evs_3 (h1:(t.kind==5)=false)(h2:(t.kind==10)=false)(h3:(t.kind==12)=true)(hl:0<t.kids.length):O2 t=O2 (Bi t 0):=by
 rw [Y2,Bo h1,Bo h2,if_pos h3,oU hl];rfl
theorem evs_4 (h1:(t.kind==5)=false)(h2:(t.kind==10)=false)(h3:(t.kind==12)=false):O2 t=t.kids.flatMap O2:=by
 rw [Y2,Bo h1,Bo h2,Bo h3]
end
def opL:List (Int×AV):=[(5,.int .i64 0),(6,.int .i64 1),(7,.int .i64 2),(8,.int .i64 3),(9,.int .i64 4),(10,.int .i64 5),(11,.int .i64 6),(12,.int .i64 7)]
theorem op_get {k:Int}(h0:5<=k)(h1:k<=12):Zh opL k=some (.int .i64 (k-5)):=by
 have:k=5\/k=6\/k=7\/k=8\/k=9\/k=10\/k=11\/k=12:=by omega
 rcases this with rfl | rfl | rfl | rfl | rfl | rfl | rfl | rfl <;> rfl
structure NxOK (s:Nx) (n:Nat):Prop where
 a:0<=s.next
 b:0<=s.scopes
 c:s.next+n<=3000000
 d:s.scopes+n<=3000000
section
variable {T:List e8Sc} {V:List Va} {t:Syn}
theorem cond_1 (h:decide ((0:Int)<(t.kids.length:Int))=true):Mh T V t=F1 T V (Bi t 0):=if_pos h
theorem cond_2 (h:decide ((0:Int)<(t.kids.length:Int))=false):Mh T V t=Mc:=Bo h
theorem ptn_args (s:Nx)(xs:List Pt):Ow T V t s xs = { Ow T V t s [] with args:=xs }:=by
 unfold Ow;split
 . rfl
 split
 . rfl
 split
 . rfl
 split <;> rfl
theorem aV (t:Syn)(s:Nx):Kk T V t s=({ Ow T V t s [] with args:=(Gn T V (D7 t) (Yi t s)).1 },(Gn T V (D7 t) (Yi t s)).2):=by
 rw [gM,ptn_args]
theorem ptn_5 {s:Nx}(h1:(t.kind==5)=true):Ow T V t s []=⟨0,[],Sr (Jx T) t.text,s.next,0,0,Mh T V t⟩:=if_pos h1
theorem ptn_10 {s:Nx}(h1:(t.kind==5)=false)(h2:(t.kind==10)=true):Ow T V t s []=⟨5,[],Sr (Jx T) (Bi t 1).text,s.next,s.scopes,0,Mh T V (Bi t 1)⟩:=(Bo h1).trans (if_pos h2)
theorem ptn_11 {s:Nx}(h1:(t.kind==5)=false)(h2:(t.kind==10)=false)(h3:(t.kind==11)=true):Ow T V t s []=⟨6,[],0,0,s.scopes,t.num,rC⟩:=(Bo h1).trans ((Bo h2).trans (if_pos h3))
theorem ptn_12 {s:Nx}(h1:(t.kind==5)=false)(h2:(t.kind==10)=false)(h3:(t.kind==11)=false)(h4:(t.kind==12)=true):Ow T V t s []=⟨7,[],0,0,0,0,F1 T V (Bi t 1)⟩:=(Bo h1).trans ((Bo h2).trans ((Bo h3).trans (if_pos h4)))
theorem ptn_o {s:Nx}(h1:(t.kind==5)=false)(h2:(t.kind==10)=false)(h3:(t.kind==11)=false)(h4:(t.kind==12)=false):Ow T V t s []=⟨t.kind-5,[],0,0,0,0,rC⟩:=(Bo h1).trans ((Bo h2).trans ((Bo h3).trans (Bo h4)))
theorem pn_5 {s:Nx}(h1:(t.kind==5)=true):(⟨t.kind-5,[],Sr (Jx T) t.text,s.next,0,0,Mh T V t⟩:Pt)=Ow T V t s []:=by
 have:t.kind=5:=by simpa using h1
 rw [ptn_5 h1,this];rfl
theorem pn_10 {s:Nx}(h1:(t.kind==5)=false)(h2:(t.kind==10)=true):(⟨t.kind-5,[],Sr (Jx T) (Bi t 1).text,s.next,s.scopes,0,Mh T V (Bi t 1)⟩:Pt)=Ow T V t s []:=by
 have:t.kind=10:=by simpa using h2
 rw [ptn_10 h1 h2,this];rfl
theorem pn_11 {s:Nx}(h1:(t.kind==5)=false)(h2:(t.kind==10)=false)(h3:(t.kind==11)=true):(⟨t.kind-5,[],0,0,s.scopes,t.num,rC⟩:Pt)=Ow T V t s []:=by
 have:t.kind=11:=by simpa using h3
 rw [ptn_11 h1 h2 h3,this];rfl
theorem pn_12 {s:Nx}(h1:(t.kind==5)=false)(h2:(t.kind==10)=false)(h3:(t.kind==11)=false)(h4:(t.kind==12)=true):(⟨t.kind-5,[],0,0,0,0,F1 T V (Bi t 1)⟩:Pt)=Ow T V t s []:=by
 have:t.kind=12:=by simpa using h4
 rw [ptn_12 h1 h2 h3 h4,this];rfl
theorem nxn_5 {s:Nx}(h1:(t.kind==5)=true):Yi t s=⟨s.next+1,s.scopes⟩:=by
 have:t.kind=5:=by simpa using h1
 unfold Yi;rw [this];rfl
theorem nxn_10 {s:Nx}(h2:(t.kind==10)=true):Yi t s=⟨s.next+1,s.scopes+1⟩:=by
 have:t.kind=10:=by simpa using h2
 unfold Yi;rw [this];rfl
theorem nxn_11 {s:Nx}(h3:(t.kind==11)=true):Yi t s=⟨s.next,s.scopes+1⟩:=by
 have:t.kind=11:=by simpa using h3
 unfold Yi;rw [this];rfl
theorem nxn_o {s:Nx}(h1:(t.kind==5)=false)(h2:(t.kind==10)=false)(h3:(t.kind==11)=false):Yi t s=s:=by
 unfold Yi;rw [h1,h2,h3];rfl
theorem pk_5 (h1:(t.kind==5)=true):D7 t = []:=if_pos h1
theorem pk_10 (h1:(t.kind==5)=false)(h2:(t.kind==10)=true):D7 t=t.kids.take 1:=by
 unfold D7;rw [Bo h1,h2];rfl
theorem pk_12 (h1:(t.kind==5)=false)(h4:(t.kind==12)=true):D7 t=t.kids.take 1:=by
 unfold D7;rw [Bo h1,h4];simp
theorem pk_o (h1:(t.kind==5)=false)(h2:(t.kind==10)=false)(h4:(t.kind==12)=false):D7 t=t.kids:=by
 unfold D7;rw [Bo h1,h2,h4];rfl
theorem Vu {a:Syn}(h:a∈D7 t):a∈t.kids:=by
 unfold D7 at h;split at h
 . cases h
 split at h
 . exact List.mem_of_mem_take h
 exact h
theorem Vt (hc:Al t .pats=0){a:Syn}(h:a∈D7 t):Al a .pats=0:=by
 have h5:t.kind≠5:=fun e=>by rw [pk_5 (by simpa using e)] at h;cases h
 obtain ⟨j,hj⟩:=Gp.1 h;unfold D7 at hj;rw [if_neg (by simpa using h5)] at hj;split at hj
 .
  rename_i hq;have hj0:j=0:=by have:=(List.getElem?_eq_some_iff.1 hj).1;simp at this;omega
  subst hj0;rw [List.getElem?_take_of_lt (by omega)] at hj;exact Xy hc h5 hj fun _=>rfl
 rename_i hq;exact Xy hc h5 hj fun e=>absurd (by simpa using e) hq
theorem gB (t:Syn):Ij (D7 t)<=Ij t.kids:=by
 unfold D7;split
 . rw [Ij];omega
 split
 . exact bR _ _
 exact Br _
theorem pk_len (ht:Wg t):(D7 t).length<=1048576:=by
 have h1:=iC (D7 t);have h2:=gB t;have h3:=Wi ht;rw [I1] at h3;omega
theorem nxn_ok {s:Nx}(h:NxOK s (Ki t)):NxOK (Yi t s) (Ij t.kids)/\s.next<=(Yi t s).next/\s.scopes<=(Yi t s).scopes/\(Yi t s).next<=s.next+1/\(Yi t s).scopes<=s.scopes+1:=by
 obtain ⟨a,b,c,d⟩:=h;rw [I1] at c d;unfold Yi;refine ⟨⟨?_,?_,?_,?_⟩,?_,?_,?_,?_⟩ <;> simp only <;> split <;> omega
theorem ptt_step:∀t:Syn,∀s:Nx,NxOK s (Ki t)->s.next<=(Kk T V t s).2.next/\s.scopes<=(Kk T V t s).2.scopes/\(Kk T V t s).2.next<=s.next+Ki t/\(Kk T V t s).2.scopes<=s.scopes+Ki t:=by
  intro t
  induction t using Syn.ind with
  | h t ih=>
    intro s hs;obtain ⟨h1,h2,h3,h4,h5⟩:=nxn_ok hs;rw [gM,I1]
    have key:∀l:List Syn,(∀a∈l,a∈t.kids)->∀s:Nx,NxOK s (Ij l)->s.next<=(Gn T V l s).2.next/\s.scopes<=(Gn T V l s).2.scopes/\(Gn T V l s).2.next<=s.next+Ij l/\(Gn T V l s).2.scopes<=s.scopes+Ij l:=by
      intro l
      induction l with
      | nil=>intro _ s _;rw [Gn];simp only;omega
      | cons x r ih2=>
        intro hl s hs;obtain ⟨a,b,c,d⟩:=hs;rw [Ji] at c d;have hx:=ih x (hl x (by simp)) s ⟨a,b,by omega,by omega⟩;have hr:=ih2 (fun a ha=>hl a (by simp [ha])) (Kk T V x s).2 ⟨by omega,by omega,by omega,by omega⟩;rw [Gn,Ji];simp only;omega
    have hp:=gB t;have hk:=key (D7 t) (fun a ha=>Vu ha) (Yi t s) ⟨h1.a,h1.b,by have:=h1.c;omega,by have:=h1.d;omega⟩;simp only;omega
theorem uZ {l:List Syn}{k:Nat}{a:Syn}(h:l[k]? = some a)(s:Nx):Gn T V (l.take (k+1)) s=((Gn T V (l.take k) s).1 ++ [(Kk T V a (Gn T V (l.take k) s).2).1],(Kk T V a (Gn T V (l.take k) s).2).2):=by
 rw [C9 h,uY,Gn,Gn]
theorem cntL_drop {l:List Syn}{k:Nat}{a:Syn}(h:l[k]? = some a):Ij (l.drop k)=Ki a+Ij (l.drop (k+1)):=by rw [A2 h,Ji]
theorem nx_on {l:List Syn}{k:Nat}{a:Syn}(h:l[k]? = some a){s:Nx}(hs:NxOK s (Ij (l.drop k))):NxOK s (Ki a)/\NxOK (Kk T V a s).2 (Ij (l.drop (k+1))):=by
 obtain ⟨x1,x2,x3,x4⟩:=hs;rw [cntL_drop h] at x3 x4;have ha:NxOK s (Ki a):=⟨x1,x2,by omega,by omega⟩;have:=ptt_step (T:=T) (V:=V) a s ha;exact ⟨ha,by omega,by omega,by omega,by omega⟩
theorem scPt (l:List Pt):∀c∈l.map Oq,A0 c=true:=fun c hc=>by
 obtain ⟨x,_,rfl⟩:=Cl.1 hc;rw [Xk];rfl
theorem aK (hw:(G4 T V t).err=0){j:Nat}(h:j<t.kids.length):(G4 T V (Bi t j)).err=0:=(Lp hw).2 _ (Aj (He h))
theorem pP (ht:Wg t){j:Nat}(h:j<t.kids.length):Wg (Bi t j):=N7 ht (Aj (He h))
end
end Go.Proofs.YtckhoadldibflaaGreatDoor

namespace Go.Proofs
open Go.Shelf
def Tryz.lays212_ren:Go.Shelf.Ren:=⟨fun | 212=>233 | 263=>289 | 264=>290 | n=>n,fun | 46=>271 | 51=>295 | 146=>296 | 53=>298 | 148=>299 | n=>n,fun | n=>n⟩
theorem Tryz.lays212:Go.Proofs.Lays.n212 Tryz.prog Tryz.lays212_ren:={
 mixed:=by kernel_rfl
 f212:=Tryz.func233.trans (congrArg some (by kernel_rfl))
 f263:=Tryz.func289.trans (congrArg some (by kernel_rfl))
 f264:=Tryz.func290.trans (congrArg some (by kernel_rfl))
 t46:=Tryz.underlying271
 a46:=Tryz.isAgg271
 z46:=Tryz.sizeOf271
 v46:=Tryz.zeroValue271
 t51:=Tryz.underlying295
 a51:=Tryz.isAgg295
 z51:=Tryz.sizeOf295
 v51:=Tryz.zeroValue295
 t53:=Tryz.underlying298
 a53:=Tryz.isAgg298
 z53:=Tryz.sizeOf298
 v53:=Tryz.zeroValue298
 t146:=Tryz.underlying296
 a146:=Tryz.isAgg296
 z146:=Tryz.sizeOf296
 v146:=Tryz.zeroValue296
 t148:=Tryz.underlying299
 a148:=Tryz.isAgg299
 z148:=Tryz.sizeOf299
 v148:=Tryz.zeroValue299 }
open Go.RowKit Go.Lib in
theorem Tryz.bits_Mul (x y:Nat)(hx:x<18446744073709551616)(hy:y<18446744073709551616)(w:World) :
 Calls Tryz.prog 233 #[.int .u64 x,.int .u64 y] w fun e w'=>e = .returned (.tuple #[.int .u64 ((x*y / 18446744073709551616:Nat):Int),.int .u64 ((x*y % 18446744073709551616:Nat):Int)])/\w'=w:=Any.bits_Mul Tryz.lays212 x y hx hy w
end Go.Proofs
