/-
  Several texts in one: R2, Q0, R3, Ay, Ar, As, R4, R5, R6, Shelm. No condition.
-/
import Derived.Test.YtckhoadldibflaaGreatDoorK03
import Derived.Test.YtckhoadldibflaaGreatDoorTab
import Derived.Test.YtckhoadldibflaaGreatDoorAx
import Derived.Test.YtckhoadldibflaaGreatDoorK05
import Derived.Test.YtckhoadldibflaaGreatDoorK02
import Derived.RangeFuncIn
import Derived.RangeFuncLeaves
import Derived.RangeFuncRecord
import Derived.TacticsIn
import Derived.Shelf.Bits.Mul64
import Derived.Test.YtckhoadldibflaaGreatDoorProg
set_option linter.unusedVariables false
set_option linter.unusedSimpArgs false
namespace Go.Aw
open Go
section
variable {P:Program} {T:List (Nat×TD)} {d:Option Nat} {ty:TypeId} {pos:String} {aft:Array Edge} {gd:Option (Nat×Bool)} {ρ:Operand→AV} {K:List HO→Prop}
theorem gI {t:TypeId}{m k v:Operand}{kt et b i:Nat}{td tk:TD}{n:List UInt8}{ks:List (List UInt8)}{x:Int}{H H2:List HO}(hT:Hl P T)(ht:Bj T t=some td)(hk:td.kind = .map kt et)(htk:Bj T kt=some tk)(hkk:tk.kind = .str)
  (hm:ρ m = .val (.map (some b))) (hkey:ρ k = .str n) (hv:ρ v = .int .i64 x) (hH:H[i]? = some (.smap b (Mo ks))) (hx:x=(ks.length:Int)) (hnew:ks.contains n=false) (hH2:H.set i (.smap b (Mo (ks ++ [n])))=H2) :
  Lu P ⟨d,.mapUpdate t m k v,ty,pos,aft,gd⟩ ρ H (fun y H'=>y = .junk∧H'=H2):=by
 subst hx;exact Vr hT ht hk htk hkk hm hkey hv hH (smI_new hnew) (by rw [smI_add];exact hH2)
end
end Go.Aw
namespace Go.Proofs.YtckhoadldibflaaGreatDoor
open Go Go.Aw

def aC {α:Type}(p:α→Bool):List α→Int
 | []=>-1
 | a::r=>if p a then 0 else if aC p r<0 then -1 else aC p r+1
theorem jO {α:Type}{p:α→Bool}:∀{l:List α} {k:Nat} {a:α},l[k]? = some a→(l.take k).any p=false→p a=true→aC p l=(k:Int)
  | [],k,a,h,_,_=>by simp at h
  | b::r,0,a,h,_,hp=>by simp at h;subst h;rw [aC,if_pos hp];rfl
  | b::r,k+1,a,h,hn,hp=>by
    rw [kW,aD,Ka] at hn;have ih:=jO (l:=r) (k:=k) (by simpa using h) hn.2 hp;rw [aC,if_neg (by rw [hn.1];decide),ih,if_neg (by omega)];omega
theorem aZ {α:Type}{p:α→Bool}:∀{l:List α},l.any p=false→aC p l = -1
  | [],_=>rfl
  | b::r,h=>by
    rw [aD,Ka] at h;rw [aC,if_neg (by rw [h.1];decide),aZ h.2];rfl
theorem Zc {α:Type}(f:α→Am)(n:Am):∀l:List α,aC (fun a=>f a==n) l=Kc (l.map f) n
  | []=>rfl
  | a::r=>by
    have ih:=Zc f n r;unfold Kc at ih ⊢;rw [aC,Dn,List.contains_cons,List.idxOf_cons,ih];by_cases h:f a=n
    · subst h;simp
    · have h1:(f a==n)=false:=by rw [Pu];exact h
      have h2:(n==f a)=false:=by rw [Pu];exact fun e=>h e.symm
      rw [h1,h2,if_neg (by decide),Lb];cases hc:(r.map f).contains n with
      | false=>simp
      | true=>simp;omega
theorem Jg {α:Type}{l:List α}{k:Nat}{a:α}{p:α→Bool}(h:(l.take k).any p=false)(ha:l[k]? = some a)(hp:p a=false):(l.take (k+1)).any p=false:=by
 rw [List.take_add_one,ha];simp [h,hp]
theorem Zr {f:Syn→Fa}:∀{l:List Syn} {k:Nat} {a:Syn},l[k]? = some a→(l.take k).any (fun x=>(f x).err != 0)=false→((f a).err != 0)=true→Fh f l=f a
  | [],k,a,h,_,_=>by simp at h
  | b::r,0,a,h,_,hp=>by simp at h;subst h;rw [Fh,if_pos hp]
  | b::r,k+1,a,h,hn,hp=>by
    rw [kW,aD,Ka] at hn;rw [Fh,if_neg (by rw [hn.1];decide)];exact Zr (by simpa using h) hn.2 hp
theorem Vb {f:Syn→Fa}:∀{l:List Syn},l.any (fun x=>(f x).err != 0)=false→Fh f l=O3
  | [],_=>rfl
  | b::r,h=>by
    rw [aD,Ka] at h;rw [Fh,if_neg (by rw [h.1];decide)];exact Vb h.2
theorem Gp {l:List Syn}{k:Nat}{a:Syn}(h:l[k]? = some a):(l.map Cl)[k]? = some (cSyn a):=by rw [List.getElem?_map,h];exact congrArg some (Ba a)
theorem D8 {t:Syn}{k:Nat}(h:k<t.kids.length):t.kids[k]? = some (A3 t k):=by unfold A3;rw [N2,List.getElem?_eq_getElem h];rfl
def Uk (T:List e8Sc)(V:List Va)(s:Nx):List AV:=[.sl 2 (T.map Mt),.smapv (Mo (Ky T)),.sl 2 (V.map O2),.smapv (Mo (Id V)),.int .i64 s.next,.int .i64 s.scopes]
set_option maxRecDepth 100000

theorem F6 {t:Syn}{p:Pl}(h:A4 t p=0):Ro p t=0∧Ko t 0 t.kids=0:=by
 rw [Qv] at h;split at h
 · rename_i h1;rw [h] at h1;cases h1
 rename_i h1;exact ⟨by simpa using h1,h⟩
theorem gB {t:Syn}:∀(l:List Syn) (i:Nat),Ko t i l=0→∀j a,l[j]? = some a→A4 a (Ec t (i+j))=0
  | [],i,_,j,a,h=>by simp at h
  | x::r,i,h,j,a,ha=>by
    rw [Ko] at h;split at h
    · rename_i h1;rw [h] at h1;cases h1
    · rename_i h1
      cases j with
      | zero=>rw [List.getElem?_cons_zero] at ha;cases ha;simpa using h1
      | succ j=>rw [List.getElem?_cons_succ] at ha;have:=gB r (i+1) h j a ha;rwa [show i+1+j=i+(j+1) by omega] at this
theorem Gq {p:Pl}{t:Syn}(h:Ro p t=0):p.at t.kind=true∧Ei t=true∧Pf t=true∧C9 t=0:=by
 unfold Ro at h;split at h
 · cases h
 split at h
 · cases h
 split at h
 · cases h
 rename_i h1 h2 h3;exact ⟨by simpa using h1,by simpa using h2,by simpa using h3,h⟩
theorem Gn {t:Syn}{p:Pl}(h:A4 t p=0){j:Nat}{a:Syn}(ha:t.kids[j]? = some a):A4 a (Ec t j)=0∧(Ec t j).at a.kind=true:=by
 have h1:=gB t.kids 0 (F6 h).2 j a ha;rw [F9] at h1;exact ⟨h1,(Gq (F6 h1).1).1⟩
theorem Yh {k:Int}(h:Pl.at .exps k=true):13≤k∧k≤18:=by
 simp only [Pl.at,isExp,Gs,H5] at h;exact h
theorem cA {k:Int}(h:Pl.at .pats k=true):5≤k∧k≤12:=by
 simp only [Pl.at,isPat,Gs,H5] at h;exact h
theorem L8 {n k:Int}(h:Pl.at (.only n) k=true):k=n:=by
 simpa [Pl.at] using h
theorem tM {t:Syn}{j:Nat}{k:Int}(h:(Ec t j).at k=true):1≤k∧k≤18:=by
 unfold Ec at h
 repeat' split at h
 all_goals first | (have:=L8 h;omega) | (have:=Yh h;omega) | (have:=cA h;omega)

section
variable {t:Syn} {p:Pl}
theorem wY (h:(t.kids.length:Int)=1):∃a,t.kids = [a]:=by
 match hk:t.kids with
 | []=>rw [hk] at h;cases h
 | [a]=>exact ⟨a,rfl⟩
 | a::b::r=>rw [hk] at h;simp only [Ep] at h;omega
theorem wJ (h:(t.kids.length:Int)=2):∃a b,t.kids = [a,b]:=by
 match hk:t.kids with
 | []=>rw [hk] at h;cases h
 | [a]=>rw [hk] at h;simp only [Ep,Ch] at h;omega
 | [a,b]=>exact ⟨a,b,rfl⟩
 | a::b::c::r=>rw [hk] at h;simp only [Ep] at h;omega
theorem nZ (hf:C9 t=0)(hk:t.kind=17):t.num=5∨t.num=6∨t.num=7∨t.num=8∨t.num=9∨t.num=10∨t.num=11:=by
 unfold C9 Nm at hf;rw [hk] at hf
 have hf2:(decide (t.num<5)||decide (11<t.num))=false:=by
  cases hq:(decide (t.num<5)||decide (11<t.num)) with
  | false=>rfl
  | true=>rw [hq] at hf;cases hf
 simp only [Ka,Wu] at hf2;omega
theorem bQ (hf:C9 t=0)(hk:t.kind=2):0≤t.num∧t.num≤2:=by
 unfold C9 Nm at hf;rw [hk] at hf
 have hf2:(decide (t.num<0)||decide (2<t.num))=false:=by
  cases hq:(decide (t.num<0)||decide (2<t.num)) with
  | false=>rfl
  | true=>rw [hq] at hf;cases hf
 simp only [Ka,Wu] at hf2;omega
theorem aR (hf:C9 t=0)(hk:t.kind=16):1≤t.num∧t.num≤5:=by
 unfold C9 Nm at hf;rw [hk] at hf
 have hf2:(decide (t.num<1)||decide (5<t.num))=false:=by
  cases hq:(decide (t.num<1)||decide (5<t.num)) with
  | false=>rfl
  | true=>rw [hq] at hf;cases hf
 simp only [Ka,Wu] at hf2;omega
theorem lK (hf:C9 t=0)(hk:t.kind=11):0≤t.num∧t.num≤1099511627776:=by
 unfold C9 Nm at hf;rw [hk] at hf
 have hf2:(decide (t.num<0)||decide (1099511627776<t.num))=false:=by
  cases hq:(decide (t.num<0)||decide (1099511627776<t.num)) with
  | false=>rfl
  | true=>rw [hq] at hf;cases hf
 simp only [Ka,Wu] at hf2;omega
theorem xU (hf:C9 t=0)(hk:t.kind≠13∧t.kind≠2∧t.kind≠16∧t.kind≠17∧t.kind≠11):t.num=0:=by
 obtain ⟨k1,k2,k3,k4,k5⟩:=hk;have e:∀k:Int,t.kind≠k→¬(t.kind==k)=true:=fun k h=>by simpa using h
 unfold C9 at hf;rw [if_neg (e _ k1)] at hf;split at hf
 · rename_i h1;rw [hf] at h1;cases h1
 rename_i h1;have h2:Nm t=0:=by simpa using h1
 unfold Nm at h2;rw [if_neg (e _ k2),if_neg (e _ k3),if_neg (e _ k4),if_neg (e _ k5)] at h2;split at h2
 · cases h2
 rename_i h3;simp only [Nv,H5,not_or] at h3;omega
theorem kC (hf:C9 t=0)(hk:t.kind=13) : -1099511627776≤t.num∧t.num≤1099511627776:=by
 unfold C9 at hf;rw [hk] at hf
 replace hf:Ho t=0:=hf
 unfold Ho at hf
 repeat' split at hf
 all_goals first
  | exact absurd hf (by decide)
  | (simp only [Nv,H5,not_or,Bool.not_eq_true,bne_eq_false_iff_eq] at *;omega)
end

theorem wrap_sm {n:Int}(h0 : -1000≤n)(h1:n≤1000):IntKind.i64.wrap n=n:=by
 unfold IntKind.wrap IntKind.signed IntKind.bits;simp only [↓reduceIte,Lk,H5,ge_iff_le];split <;> omega
mutual
def D7:Syn→Nat
 | ⟨_,_,_,_,kids,_⟩=>1+Dy kids
def Dy:List Syn→Nat
 | []=>0
 | x::r=>D7 x+Dy r
end
theorem Eg (t:Syn):D7 t=1+Dy t.kids:=by cases t;rw [D7]
theorem Yx:∀l:List Syn,l.length≤Dy l
  | []=>E2 _
  | x::r=>by
    have:=Yx r;have h:=Eg x;rw [Dy,Ep];omega
theorem dE:∀{l:List Syn} {a:Syn},a∈l→D7 a≤Dy l
  | x::r,a,h=>by
    rw [Dy];rcases G2.1 h with rfl | h
    · omega
    have:=dE h;omega
theorem Ug {t:Syn}(h:I7 t=true):t.text.length≤80∧t.name.length≤80∧H9 t≤200∧Rx t≤90∧Xu t.kids=true:=by
 rw [cW] at h;split at h
 · cases h
 rename_i h1;simp only [Nv,H5,not_or] at h1;exact ⟨by omega,by omega,by omega,by omega,h⟩
theorem fQ:∀{l:List Syn},Xu l=true→∀a∈l,I7 a=true
  | x::r,h,a,ha=>by
    rw [Xu] at h;split at h
    · cases h
    · rename_i h1
      rcases G2.1 ha with rfl | ha
      · simpa using h1
      exact fQ h a ha
theorem oY {t a:Syn}(h:I7 t=true)(ha:a∈t.kids):I7 a=true:=fQ (Ug h).2.2.2.2 a ha
theorem Xo:∀(l:List Syn) (n:Int),(∀a∈l,H9 a=(D7 a:Int)∧D7 a≤200)→0≤n→Ib l n≤200→Ib l n=n+(Dy l:Int)
  | [],n,_,_,_=>by rw [Ib,Dy];simp
  | x::r,n,h,h0,h2=>by
    rw [Ib] at h2 ⊢;split at h2
    · rename_i h1
      rw [if_pos h1];simp only [H5] at h1;obtain ⟨e,hx⟩:=h x (Sx ..);have hw:IntKind.i64.wrap (n+H9 x)=n+(D7 x:Int):=by rw [e];exact wrap_sm (by omega) (by omega)
      rw [hw] at h2 ⊢;rw [Xo r _ (fun a ha=>h a (Oy _ ha)) (by omega) h2,Dy];omega
    · rename_i h1
      simp only [H5] at h1;omega
theorem dS (t:Syn):I7 t=true→H9 t=(D7 t:Int)∧D7 t≤200:=by
 refine Syn.ind (P:=fun t=>I7 t=true→H9 t=(D7 t:Int)∧D7 t≤200) (fun t ih h=>?_) t;have hp:=Ug h;have e:=aL t;have h3:=hp.2.2.1;rw [e] at h3;have h4:=Xo t.kids 1 (fun a ha=>ih a ha (oY h ha)) (by omega) h3;have h5:=Eg t;rw [e];exact ⟨by omega,by omega⟩
mutual
theorem bV:∀t:Syn,Fz t≤2*D7 t
  | ⟨k,_,_,_,kids,_⟩=>by
    have h:=X3 k kids;rw [Fz,D7];split <;> omega
theorem X3 (k:Int):∀l:List Syn,Ff k l≤2*Dy l+1
  | []=>by rw [Ff];omega
  | x::r=>by
    have h1:=bV x;have h2:=X3 k r;have h3:=Eg x;rw [Ff,Dy];split <;> omega
end
def Tz (ws:List Am):Nat:=(ws.map List.length).sum
theorem M6 (x:Am)(r:List Am):Tz (x::r)=x.length+Tz r:=rfl
theorem Ym:∀ws:List Am,(Cz ws).length≤Tz ws+2*ws.length
  | []=>by simp [Cz]
  | [x]=>by simp [Cz,Tz]
  | x::y::r=>by
    have:=Ym (y::r);rw [Cz,M6];simp only [D9,Ep,Ch] at this ⊢;omega
theorem wV:∀ws:List Am,(ws.getD 0 []).length+(ws.getD 1 []).length+(Cz (ws.drop 2)).length≤Tz ws+2*ws.length
  | []=>by simp [Cz]
  | [x]=>by simp [Cz,Tz]
  | x::y::r=>by
    have:=Ym r;simp only [List.getD_cons_zero,List.getD_cons_succ,List.drop_succ_cons,Tm,M6,Ep];omega
theorem jD:∀ws:List Am,ws.flatten.length=Tz ws
 | []=>rfl
 | x::r=>by rw [Ca,D9,jD r,M6]
theorem gK (p k:Syn)(s:Am):(F8 p k s).length≤s.length+2:=by
 unfold F8;split
 · simp only [D9,Ep,Ch];omega
 omega
theorem pR (c:UInt8):(Og c).length≤4:=by
 unfold Og;split
 · simp
 split <;> simp
theorem Zn:∀s:Am,(D6 s).length≤4*s.length
  | []=>by simp [D6]
  | c::r=>by
    have h1:=Zn r;have h2:=pR c;rw [D6];simp only [D9,Ep];omega
theorem pM:(∀n,(L5 n).length≤8)∧(∀n,(Zo n).length≤8)∧(∀n,(Ld n).length≤8)∧(∀n,(Vm n).length≤8):=by
 refine ⟨fun n=>?_,fun n=>?_,fun n=>?_,fun n=>?_⟩
 ·
  unfold L5;repeat' split
  all_goals decide
 ·
  unfold Zo;repeat' split
  all_goals decide
 ·
  unfold Ld;repeat' split
  all_goals decide
 unfold Vm;repeat' split
 all_goals decide
theorem Hp {c:Prop}[Decidable c]{a b:Am}{n:Nat}(ha:a.length≤n)(hb:b.length≤n):(if c then a else b).length≤n:=by split <;> assumption
theorem kO {t:Syn}{p:Pl}(h:A4 t p=0) : -1099511627776≤t.num∧t.num≤1099511627776:=by
 obtain ⟨_,_,_,hf⟩:=Gq (F6 h).1;by_cases k1:t.kind=13
 · exact kC hf k1
 by_cases k2:t.kind=2
 · have:=bQ hf k2;omega
 by_cases k3:t.kind=16
 · have:=aR hf k3;omega
 by_cases k4:t.kind=17
 · have:=nZ hf k4;omega
 by_cases k5:t.kind=11
 · have:=lK hf k5;omega
 have:=xU hf ⟨k1,k2,k3,k4,k5⟩;omega
mutual
def wC:Syn→Nat
 | ⟨_,x,n,_,kids,_⟩=>1+x.length+n.length+wL kids
def wL:List Syn→Nat
 | []=>0
 | x::r=>wC x+wL r
end
theorem Ln (t:Syn):wC t=1+t.text.length+t.name.length+wL t.kids:=by cases t;rw [wC]
theorem aT:∀{l:List Syn} {a:Syn},a∈l→wC a≤wL l
  | x::r,a,h=>by
    rw [wL];rcases G2.1 h with rfl | h
    · omega
    have:=aT h;omega
mutual
theorem cnt_w:∀t:Syn,D7 t≤wC t
  | ⟨_,x,n,_,kids,_⟩=>by
    have:=kH kids;rw [D7,wC];omega
theorem kH:∀l:List Syn,Dy l≤wL l
  | []=>by rw [Dy,wL];exact C4 _
  | x::r=>by
    have h1:=cnt_w x;have h2:=kH r;rw [Dy,wL];omega
end
def E7 (t:Syn):Prop:=wC t≤1000000
theorem E6 {t a:Syn}(h:E7 t)(ha:a∈t.kids):E7 a:=by
 have h1:=aT ha;have h2:=Ln t;unfold E7 at h ⊢;omega
theorem Yn {t:Syn}(h:E7 t):t.text.length≤1048576∧t.name.length≤1048576:=by
 have h2:=Ln t;unfold E7 at h;exact ⟨by omega,by omega⟩
theorem Hz {t:Syn}(h:E7 t):D7 t≤1000000:=Kx (cnt_w t) h
theorem Hy {t:Syn}(h:E7 t):t.kids.length≤1000000:=by
 have h1:=Hz h;have h2:=Yx t.kids;rw [Eg] at h1;omega
theorem few_w (t:Syn):I7 t=true→wC t≤161*D7 t:=by
  refine Syn.ind (P:=fun t=>I7 t=true→wC t≤161*D7 t) (fun t ih h=>?_) t;have hp:=Ug h
  have key:∀l:List Syn,(∀a∈l,wC a≤161*D7 a)→wL l≤161*Dy l:=by
    intro l
    induction l with
    | nil=>intro _;rw [wL];exact E2 _
    | cons x r ihl=>
      intro hl;have h3:=hl x (Sx ..);have h4:=ihl fun a ha=>hl a (Oy _ ha)
      rw [wL,Dy];omega
  have h1:=key t.kids fun a ha=>ih a ha (oY h ha)
  have h2:=Ln t;have h3:=Eg t;omega
theorem eA {t:Syn}(h:I7 t=true):wC t≤32200:=by
 have h1:=few_w t h;have h2:=(dS t h).2;omega
theorem Kv {t:Syn}(h:I7 t=true):E7 t:=by
 have:=eA h;unfold E7;omega
theorem sJ {t:Syn}{B:Nat}(hi : -1099511627776≤t.num∧t.num≤1099511627776)(hx:t.text.length≤B):(Ss t).length≤4*B+30:=by
 unfold Ss;split
 · have:=Lib.itoa_length_le t.num (by omega) (by omega);omega
 split
 ·
  split
  · show (4:Nat)≤_;omega
  show (5:Nat)≤_;omega
 unfold N8;split
 · simp
 have:=Zn t.text;simp only [D9,Ep,Ch];omega
theorem bZ {t:Syn}{ws:List Am}{B:Nat}(hi : -1099511627776≤t.num∧t.num≤1099511627776)(hx:t.text.length≤B)(hn:t.name.length≤B)(h0:(A3 t 0).text.length≤B):(Fj t ws).length≤Tz ws+2*ws.length+(4*B+60):=by
 have h1:=Ym ws;have h2:=wV ws;have h3:=jD ws;have h4:=sJ hi hx;obtain ⟨w1,w2,w3,w4⟩:=pM;have k1:=w1 t.num;have k2:=w2 t.num;have k3:=w3 t.num;have k4:=w4 t.kind;have h5:=Lib.itoa_length_le t.num (by omega) (by omega);have r0:=gK t (A3 t 0) (ws.getD 0 []);have r1:=gK t (A3 t 1) (ws.getD 1 []);have q1:Md.length=4:=rfl;have q2:Fk.length=5:=rfl;have q3:Z0.length=2:=rfl;have q4:Gb.length=5:=rfl;have q5:Gi.length=6:=rfl;have q6:Y8.length=2:=rfl;have q7:Ty.length=5:=rfl;have q8:Ur.length=3:=rfl;unfold Fj;refine Hp (by omega) (Hp ?_ (Hp ?_ (Hp ?_ (Hp ?_ (Hp (by omega) (Hp ?_ (Hp ?_ (Hp ?_ (Hp ?_ (Hp ?_ ?_))))))))))
 ·
  have:(if (ws == [])=true then [] else [32]++Cz ws ++ [32]:Am).length≤(Cz ws).length+2:=Hp (by simp) (by simp);simp only [D9,Ep,Ch] at this ⊢;omega
 · simp only [D9,Ep,Ch];omega
 ·
  have:(if ((A3 t 0).text == [])=true then [] else [32]++Z0 ++ [32]++(A3 t 0).text:Am).length≤B+4:=Hp (by simp) (by simp only [D9,Ep,Ch];omega);simp only [D9,Ep,Ch] at this ⊢;omega
 ·
  have:(if (ws == [])=true then [] else [32]++Y8 ++ [32]++ws.getD 0 []:Am).length≤(ws.getD 0 []).length+6:=Hp (by simp) (by simp only [D9,Ep,Ch];omega);simp only [D9,Ep,Ch] at this ⊢;omega
 · simp only [D9,Ep,Ch];omega
 · simp only [D9,Ep,Ch];omega
 ·
  have:(if (ws == [])=true then [] else [44,32]++ws.getD 0 []:Am).length≤(ws.getD 0 []).length+2:=Hp (by simp) (by simp only [D9,Ep,Ch];omega);simp only [D9,Ep,Ch] at this ⊢;omega
 · simp only [D9,Ep,Ch];omega
 · simp only [D9,Ep,Ch];omega
 have:(if (t.kind==11)=true then [44,32]++Lib.itoa t.num else []:Am).length≤30:=Hp (by simp only [D9,Ep,Ch];omega) (by simp);simp only [D9,Ep,Ch] at this ⊢;omega
theorem mP {B:Nat}(t:Syn):∀p,A4 t p=0→wC t≤B→(Ak t).length+2≤(4*B+64)*D7 t:=by
  refine Syn.ind (P:=fun t=>∀p,A4 t p=0→wC t≤B→(Ak t).length+2≤(4*B+64)*D7 t) (fun t ih p h hf=>?_) t;have hw:=Ln t
  have hk0:(A3 t 0).text.length≤B:=by
    unfold A3;rw [N2];cases hq:t.kids[0]? with
    | none=>simp [Mz]
    | some a=>
      have h3:=aT (B4 hq);have h4:=Ln a;show a.text.length≤B;omega
  rw [Jb];have h1:=bZ (B:=B) (ws:=t.kids.map Ak) (kO h) (by omega) (by omega) hk0
  have h2:Tz (t.kids.map Ak)+2*t.kids.length≤(4*B+64)*Dy t.kids:=by
    have key:∀l:List Syn,(∀a∈l,(Ak a).length+2≤(4*B+64)*D7 a)→Tz (l.map Ak)+2*l.length≤(4*B+64)*Dy l:=by
      intro l
      induction l with
      | nil=>intro _;simp [Tz]
      | cons x r ihl=>
        intro hl;have h3:=hl x (Sx ..);have h4:=ihl fun a ha=>hl a (Oy _ ha)
        have h5:=Nat.mul_add (4*B+64) (D7 x) (Dy r);rw [Dn,M6,Dy,Ep];omega
    refine key _ fun a ha=>?_
    obtain ⟨j,hj⟩:=jN.1 ha;exact ih a ha _ (Gn h hj).1 (Kx (aT ha) (by omega))
  have h4:=Eg t;rw [Dx] at h1;rw [h4,Nat.mul_add];omega
theorem med_big {t:Syn}{p:Pl}(h:A4 t p=0)(hf:E7 t):(Ak t).length≤10000000000000:=by
 have h1:=mP (B:=1000000) t p h hf;have h2:(4*1000000+64)*D7 t≤(4*1000000+64)*1000000:=Nat.mul_le_mul_left _ (Hz hf);omega
structure RvOK (T:List e8Sc) (V:List Va):Prop where
 tl:T.length≤1048576
 fl:∀s∈T,s.fields.length≤1048576
 vl:V.length≤1048576
 ty:∀v∈V,0≤v.type∧v.type<(T.length:Int)
theorem Xz {T:List e8Sc}{V:List Va}(h:RvOK T V){v:Va}(hv:v∈V):∃sc,T[v.type.toNat]? = some sc:=by
 have:=h.ty v hv;exact ⟨_,List.getElem?_eq_getElem (show v.type.toNat<T.length by omega)⟩
theorem Hg {l:List Am}{n:Am}(h:l.contains n=true):0≤L7 l n∧L7 l n<(l.length:Int):=by
 unfold L7;rw [if_pos h];have:=List.idxOf_lt_length_iff.2 (List.contains_iff_mem.1 h);omega
theorem lJ {V:List Va}{n:Am}(h:(Id V).contains n=true):∃va,V[(L7 (Id V) n).toNat]? = some va:=by
 have:=Hg h;rw [Dx] at this;exact ⟨_,List.getElem?_eq_getElem (show (L7 (Id V) n).toNat<V.length by omega)⟩
theorem lZ {T:List e8Sc}{V:List Va}{v:Int}{va:Va}{sc:e8Sc}(h:V[v.toNat]? = some va)(hs:T[va.type.toNat]? = some sc):bC T V v=sc:=by
 unfold bC;rw [h];show (T[va.type.toNat]?).getD cR=sc;rw [hs];rfl
section
variable {T:List e8Sc} {V:List Va} {t:Syn}
theorem dL (h:(((t.kind != 14)&&(t.kind != 15))&&(t.kind != 16))=true):G7 T V t=O3:=if_pos h
theorem Za (h:(((t.kind != 14)&&(t.kind != 15))&&(t.kind != 16))=false):G7 T V t=if !((Id V).contains t.text) then ⟨t.pos,8⟩ else if (t.kind==15)||((t.kind==14)&&(t.name==Eh)) then O3 else if decide (Dl (bC T V (L7 (Id V) t.text)) t.name<0) then ⟨t.pos,6⟩ else O3:=Bl h
theorem look_2 (h:(((t.kind != 14)&&(t.kind != 15))&&(t.kind != 16))=false)(h2:(!((Id V).contains t.text))=true):G7 T V t=⟨t.pos,8⟩:=(Za h).trans (if_pos h2)
theorem look_3 (h:(((t.kind != 14)&&(t.kind != 15))&&(t.kind != 16))=false)(h2:(!((Id V).contains t.text))=false)(h3:((t.kind==15)||((t.kind==14)&&(t.name==Eh)))=true):G7 T V t=O3:=(Za h).trans ((Bl h2).trans (if_pos h3))
theorem sN (h:(((t.kind != 14)&&(t.kind != 15))&&(t.kind != 16))=false)(h2:(!((Id V).contains t.text))=false)(h3:((t.kind==15)||((t.kind==14)&&(t.name==Eh)))=false)(h4:decide (Dl (bC T V (L7 (Id V) t.text)) t.name<0)=true):G7 T V t=⟨t.pos,6⟩:=(Za h).trans ((Bl h2).trans ((Bl h3).trans (if_pos h4)))
theorem look_5 (h:(((t.kind != 14)&&(t.kind != 15))&&(t.kind != 16))=false)(h2:(!((Id V).contains t.text))=false)(h3:((t.kind==15)||((t.kind==14)&&(t.name==Eh)))=false)(h4:decide (Dl (bC T V (L7 (Id V) t.text)) t.name<0)=false):G7 T V t=O3:=(Za h).trans ((Bl h2).trans ((Bl h3).trans (Bl h4)))
theorem walk_1 (h:((G7 T V t).err != 0)=true):D4 T V t=G7 T V t:=(Qd T V t).trans (if_pos h)
theorem U6 (h:((G7 T V t).err != 0)=false):D4 T V t=Fh (D4 T V) t.kids:=(Qd T V t).trans (Bl h)
theorem Ul {f:Syn→Fa}:∀{l:List Syn},(Fh f l).err=0→∀a∈l,(f a).err=0
  | [],_,a,ha=>by cases ha
  | x::r,h,a,ha=>by
    rw [Fh] at h;by_cases hx:(f x).err=0
    · rw [if_neg (by simp [hx])] at h
      rcases G2.1 ha with rfl | ha
      · exact hx
      exact Ul h a ha
    rw [if_pos (by simpa using hx)] at h;exact absurd h hx
theorem Fp (h:(D4 T V t).err=0):(G7 T V t).err=0∧∀a∈t.kids,(D4 T V a).err=0:=by
 rw [Qd] at h;by_cases hx:(G7 T V t).err=0
 · rw [if_neg (by simp [hx])] at h;exact ⟨hx,Ul h⟩
 rw [if_pos (by simpa using hx)] at h;exact absurd h hx
theorem Nf (h:(G7 T V t).err=0)(hk:t.kind=14∨t.kind=15∨t.kind=16):(Id V).contains t.text=true:=by
 have h0:(((t.kind != 14)&&(t.kind != 15))&&(t.kind != 16))=false:=by rcases hk with h | h | h <;> simp [h]
 rw [Za h0] at h;cases hc:(Id V).contains t.text with
 | true=>rfl
 | false=>rw [hc,if_pos (by decide)] at h;cases h
theorem eE {xs:List Ex}(h1:(t.kind==13)=true):Ip T V t xs=⟨0,[],0,0,0,Zx t⟩:=if_pos h1
theorem oA {xs:List Ex}(h1:(t.kind==13)=false)(h2:(t.kind==14)=true)(h3:(t.name==Eh)=true):Ip T V t xs=⟨2,[],L7 (Id V) t.text,0,0,v0⟩:=(Bl h1).trans ((if_pos h2).trans (if_pos h3))
theorem nV {xs:List Ex}{sc:e8Sc}(h1:(t.kind==13)=false)(h2:(t.kind==14)=true)(h3:(t.name==Eh)=false)(hs:bC T V (L7 (Id V) t.text)=sc):Ip T V t xs=⟨1,[],L7 (Id V) t.text,Dl sc t.name,0,v0⟩:=by subst hs;exact (Bl h1).trans ((if_pos h2).trans (Bl h3))
theorem nK {xs:List Ex}(h1:(t.kind==13)=false)(h2:(t.kind==14)=false)(h4:(t.kind==15)=true):Ip T V t xs=⟨3,[],L7 (Id V) t.text,0,0,v0⟩:=(Bl h1).trans ((Bl h2).trans (if_pos h4))
theorem oD {xs:List Ex}{sc:e8Sc}(h1:(t.kind==13)=false)(h2:(t.kind==14)=false)(h4:(t.kind==15)=false)(h5:(t.kind==16)=true)(hs:bC T V (L7 (Id V) t.text)=sc)(h6:decide ((0:Int)<(t.kids.length:Int))=true) :
  Ip T V t xs=⟨4,[],L7 (Id V) t.text,Dl sc t.name,t.num,Zx (A3 t 0)⟩:=by
 subst hs;refine (Bl h1).trans ((Bl h2).trans ((Bl h4).trans ((if_pos h5).trans ?_)));rw [if_pos h6]
theorem nJ {xs:List Ex}{sc:e8Sc}(h1:(t.kind==13)=false)(h2:(t.kind==14)=false)(h4:(t.kind==15)=false)(h5:(t.kind==16)=true)(hs:bC T V (L7 (Id V) t.text)=sc)(h6:decide ((0:Int)<(t.kids.length:Int))=false) :
  Ip T V t xs=⟨4,[],L7 (Id V) t.text,Dl sc t.name,t.num,v0⟩:=by
 subst hs;refine (Bl h1).trans ((Bl h2).trans ((Bl h4).trans ((if_pos h5).trans ?_)));rw [Bl h6]
theorem oV {xs:List Ex}(h1:(t.kind==13)=false)(h2:(t.kind==14)=false)(h4:(t.kind==15)=false)(h5:(t.kind==16)=false)(h7:(t.kind==18)=true):Ip T V t xs=⟨12,xs,0,0,0,v0⟩:=(Bl h1).trans ((Bl h2).trans ((Bl h4).trans ((Bl h5).trans (if_pos h7))))
theorem oO {xs:List Ex}(h1:(t.kind==13)=false)(h2:(t.kind==14)=false)(h4:(t.kind==15)=false)(h5:(t.kind==16)=false)(h7:(t.kind==18)=false):Ip T V t xs=⟨t.num,xs,0,0,0,v0⟩:=(Bl h1).trans ((Bl h2).trans ((Bl h4).trans ((Bl h5).trans (Bl h7))))
end
end Go.Proofs.YtckhoadldibflaaGreatDoor

namespace Go.Aw
section
variable {P:Program} {T:List (Nat×TD)} {d:Option Nat} {ty:TypeId} {pos:String} {aft:Array Edge} {gd:Option (Nat×Bool)} {ρ:Operand→AV}
def bufsOne (H:List HO):Prop:=∀v es E z,HO.buf v es E z∈H→v.oneCell'=true
theorem Bp.front3 {f:FuncId}{args:List AV}{H R:List HO}{Q:AV→List HO→Prop}{o1 o2 o3:HO}(k3 k2 k1:Nat)(hk3:H[k3]? = some o3)(hk2:(H.eraseIdx k3)[k2]? = some o2)(hk1:((H.eraseIdx k3).eraseIdx k2)[k1]? = some o1)(hR:((H.eraseIdx k3).eraseIdx k2).eraseIdx k1=R)
  (h:Bp P f (o1::o2::o3::R) args Q):Bp P f H args Q:=by
 subst hR;refine h.perm ?_;have h1:=Ig hk3;have h2:=Ig hk2;have h3:=Ig hk1;refine h1.trans ((h2.cons o3).trans (((h3.cons o2).cons o3).trans ?_));exact (List.Perm.swap o2 o3 _).trans (((List.Perm.swap o1 o3 _).cons o2).trans (List.Perm.swap o1 o2 _))
end
end Go.Aw

namespace Go.Aw
open Go

def Q3 (l:List Oper):Bool:=l.all fun o=>match o.op with | .defer _=>false | _=>true
theorem Pw {l:List Oper}(h:Q3 l=true):∀o∈l,∀c,o.op≠.defer c:=fun o ho c e=>by
 have:=(Z2.1 h) o ho;rw [e] at this;cases this

theorem eD {ro:Option Nat}{n:Nat}{P:Program}{o:Oper}{a:Act}{w:World}{next:Act→World→Prop}{Q Q':Exit→Act→World→Prop}(hd:∀c,o.op≠.defer c)
    (hp:∀c a w,Q (.panic c) a w→Q' (.panic c) a w) (ho:LetsOut Q→LetsOut Q') (h:o.wp P a w next Q):o.wpIn { Fence.wide with round:=ro } n P a w next Q':=by
  refine ⟨fun _ _=>trivial,?_⟩;rw [Oper.semAt_eq _ _ _ hd];unfold Oper.wp at h;generalize (execOp a.eval o).run P w=r at h ⊢;cases r with
  | ok x w'=>
    cases x with
    | value v=>exact h
    | skip=>exact h
    | defer d=>exact h
    | enter f args=>
      have h':Calls P f args w' _:=h;refine ⟨fun e=>(by cases e),callsIn_wide.2 (h'.mono ?_)⟩;intro e w'' hr;cases e with
      | returned v=>exact hr
      | panicked c=>exact hp _ _ _ hr
      | outgrown=>exact ho hr
    | row row args=>
      have h':Rows P row args w' _:=h;exact ⟨fun e=>(by cases e),fun c cs _=>let ⟨v,w'',r,s⟩:=h' c cs;⟨v,w'',r,stepsIn_wide.2 s⟩⟩
    | _=>exact h.elim
  | halt e w'=>
    cases e with
    | panic v=>exact hp _ _ _ h
    | _=>exact h.elim

theorem F7 {ro:Option Nat}{n:Nat}{P:Program}{ops:Array Oper}{Q:Exit→Act→World→Prop}:∀(l rest:List Oper) (a:Act) (w:World),(∀o∈l,∀c,o.op≠.defer c)→
    uQ P ops (fun e a w=>match e with | .normal=>wpListIn { Fence.wide with round:=ro } n P ops Q rest a w | e=>Q e a w) l a w→wpListIn { Fence.wide with round:=ro } n P ops Q (l++rest) a w
  | [],rest,a,w,_,h=>h
  | o::r,rest,a,w,hd,h=>by
    unfold uQ at h;show wpListIn _ n P ops Q (o::(r++rest)) a w;unfold wpListIn;split
    · rename_i hw;rw [if_pos hw] at h
      exact eD (hd o (Sx ..)) (fun c a w h=>h) (fun h=>h) (Oper.wp_mono (fun a' w' h'=>F7 r rest a' w' (fun x hx=>hd x (Oy _ hx)) h') h)
    · rename_i hw;rw [if_neg hw] at h
      exact ⟨fun _ _=>trivial,F7 r rest _ w (fun x hx=>hd x (Oy _ hx)) h⟩

def Nw (P:Program)(l:Nat)(rec:Loop)(H:List HO)(args:List AV)(R:AV→List HO→Prop):Prop:=
 ∀(n:Nat) (g:Gh) (w:World) (vs:Array Value),HOK g w H→Cd g w vs args→
  RoundIn { Fence.wide with round:=none } n P l rec.fn ((rec.params.zip vs).foldl (fun t (p,v)=>t.setIfInBounds p v) rec.tmps) rec.assign rec.body w
   fun e w'=>∃v g' r H',e = .returned v∧Rep g' w' v r∧HOK g' w' H'∧Ext g w g' w'∧R r H'

theorem wideN:({ Fence.wide with round:=none }:Fence)=Fence.wide:=rfl

def kM (l:Nat)(P:Program)(c:Code)(Q:Exit→St→Prop)(s:St):Prop:=
 ∀(n:Nat) (Q':Exit→Act→World→Prop) (g:Gh) (a:Act) (w:World),Gm g s a w→(∀e g' s' a' w',Gm g' s' a' w'→Ext g w g' w'→Q e s'→Q' e a' w')→c.wpIn { Fence.wide with round:=some l } n P Q' a w

theorem kM.region {l:Nat}{P:Program}{Q:Exit→St→Prop}{s:St}{id:Nat}{ops:Array Oper}(hnd:Q3 ops.toList=true)(h:AOL P ops (Q .normal) ops.toList s):kM l P (.region id ops false) Q s:=by
 intro n Q' g a w hG hQ;refine wpIn_region_list ?_;have:=F7 (ro:=some l) (n:=n) (Q:=Q') ops.toList [] a w (Pw hnd) (h.run _ g a w hG fun g' s' a' w' h1 h2 h3=>hQ _ g' s' a' w' h1 h2 h3);simpa using this

theorem kM.block {l:Nat}{P:Program}{Q:Exit→St→Prop}{s:St}{id:Nat}{c:Code}(h:kM l P c (I1 id Q) s):kM l P (.block id c) Q s:=by
  intro n Q' g a w hG hQ;refine wpIn_block (h n _ g a w hG fun e g' s' a' w' hG' hx hq=>?_);cases e with
  | exit j=>
    simp only [I1] at hq;simp only [Exit.inBlock];by_cases e:j=id
    · subst e;simp at hq;simp;exact hQ _ g' s' a' w' hG' hx hq
    · simp only [e,if_false]
      have:Nat.beq j id=false:=by
        cases hq':Nat.beq j id with
        | false=>rfl
        | true=>exact absurd (H8 hq') e
      simp only [this,cond_false] at hq;exact hQ _ g' s' a' w' hG' hx hq
  | _=>exact hQ _ g' s' a' w' hG' hx hq

theorem Wa {g:Gh}{w:World}{H:List HO}(hH:HOK g w H){i b:Nat}{o:Obj}(o':Obj)(hi:H[i]? = some (.obj b o)) :
  HOK g (w.putObj b o') (H.set i (.obj b o'))∧Ext g w g (w.putObj b o'):=by
 have hob:(HO.obj b o).ok g w:=hH.ok _ (B4 hi);have hlt:b<w.heap.size:=(Array.getElem?_eq_some_iff.1 hob.2).1
 have hx:Ext g w g (w.putObj b o'):=by
  refine ⟨rfl,rfl,rfl,by simp,fun c hc hg=>⟨hg,World.putObj_heap_other (fun e=>by rw [e,hob.1] at hg;cases hg)⟩,fun c n hc hg=>⟨fun m hm=>by rw [hg] at hm;cases hm;exact C4 _,fun x hx=>?_⟩⟩;have hne:c≠b:=fun e=>by rw [e,hob.1] at hg;cases hg;omega
  unfold World.cell?;rw [World.putObj_heap_other hne]
 refine ⟨hH.set hx hi (fun c hc=>.inl hc) ⟨hob.1,World.putObj_heap_same hlt⟩ fun c hc hne _=>⟨rfl,World.putObj_heap_other (fun e=>hne (by rw [e];rfl))⟩,hx⟩

theorem Gm.putObj {g:Gh}{s:St}{a:Act}{w:World}(hG:Gm g s a w){i b:Nat}{o:Obj}(o':Obj)(hi:s.H[i]? = some (.obj b o)) :
  Gm g ⟨s.sl,s.H.set i (.obj b o'),s.n⟩ a (w.putObj b o')∧Ext g w g (w.putObj b o'):=by
 obtain ⟨h1,h2⟩:=Wa hG.heap o' hi;exact ⟨⟨hG.size,hG.defers,fun j=>(hG.sl j).mono h2,h1⟩,h2⟩

def AWX (P:Program)(c:Code)(Q:Exit→St→Prop)(X:Gh→World→Exit→Act→World→Prop)(s:St):Prop:=
 ∀(Q':Exit→Act→World→Prop) (g:Gh) (a:Act) (w:World),Gm g s a w→(∀e g' s' a' w',Gm g' s' a' w'→Ext g w g' w'→Q e s'→Q' e a' w')→(∀e a' w',X g w e a' w'→Q' e a' w')→c.wp P Q' a w

def U3 (D:Nat):Deferred:={ target:=.collected D,args:=#[] }

def fZ (P:Program)(fn:Func)(R:AV→List HO→Prop)(g:Gh)(w:World)(e:Exit)(a:Act)(w':World):Prop:=
 e = .ret∧∃D,a.defers = [U3 D]∧w'.heap[D]? = some (.deferred (some []))∧∃v g' r H',(results fn a.tmps).run P (w'.putObj D (.deferred none)) = .ok v (w'.putObj D (.deferred none))∧
  Rep g' (w'.putObj D (.deferred none)) v r∧HOK g' (w'.putObj D (.deferred none)) H'∧Ext g w g' (w'.putObj D (.deferred none))∧R r H'

section
variable {P:Program} {fn:Func} {R:AV→List HO→Prop} {Q:Exit→St→Prop} {s:St}
theorem fZ.mono {g g1:Gh}{w w1:World}(h:Ext g w g1 w1){e:Exit}{a:Act}{w':World}(k:fZ P fn R g1 w1 e a w'):fZ P fn R g w e a w':=by
 obtain ⟨he,D,h1,h2,v,g',r,H',h3,h4,h5,h6,h7⟩:=k;exact ⟨he,D,h1,h2,v,g',r,H',h3,h4,h5,h.trans h6,h7⟩

theorem AWX.seq {x y:Code}(h:AW P x (Ea (AWX P y Q (fZ P fn R)) Q) s):AWX P (.seq x y) Q (fZ P fn R) s:=by
 intro Q' g a w hG hQ hX;refine wp_seq (h _ g a w hG fun e g' s' a' w' hG' hx hq=>?_);cases e with
 | normal=>exact hq Q' g' a' w' hG' (fun e g'' s'' a'' w'' h1 h2 h3=>hQ e g'' s'' a'' w'' h1 (hx.trans h2) h3) (fun e a'' w'' hk=>hX e a'' w'' (hk.mono hx))
 | _=>exact hQ _ g' s' a' w' hG' hx hq

def AWX2 (P:Program)(y z:Code)(Q:Exit→St→Prop)(X:Gh→World→Exit→Act→World→Prop)(s:St):Prop:=
 ∀(Q':Exit→Act→World→Prop) (g:Gh) (a:Act) (w:World),Gm g s a w→(∀e g' s' a' w',Gm g' s' a' w'→Ext g w g' w'→Q e s'→Q' e a' w')→(∀e a' w',X g w e a' w'→Q' e a' w')→y.wp P (Exit.then (z.wp P Q') Q') a w

theorem AWX.assoc {x y z:Code}(h:AW P x (Ea (AWX2 P y z Q (fZ P fn R)) Q) s):AWX P (.seq (.seq x y) z) Q (fZ P fn R) s:=by
 intro Q' g a w hG hQ hX;refine wp_seq (wp_seq (h _ g a w hG fun e g' s' a' w' hG' hx hq=>?_));cases e with
 | normal=>exact hq Q' g' a' w' hG' (fun e g'' s'' a'' w'' h1 h2 h3=>hQ e g'' s'' a'' w'' h1 (hx.trans h2) h3) (fun e a'' w'' hk=>hX e a'' w'' (hk.mono hx))
 | _=>exact hQ _ g' s' a' w' hG' hx hq

theorem Bp.bodyX {T:List (Nat×TD)}(hT:Hl P T){f:FuncId}{c:Code}{args:List AV}{H:List HO}(hf:P.funcs[f]? = some fn)(hb:fn.body=some c){n:Nat}(hn:fn.ntmps=n)(hle:Nat.ble args.length n=true)
    (h:AWX P c (fun e s=>(e = .normal∨e = .ret)∧∃xs,ResL P T s fn.results.toList xs∧∃H',H'.Sublist s.H∧R (Ai xs) H') (fZ P fn R) ⟨Hw 0 args,H,n⟩):Bp P f H args R:=by
  intro g w vs hH hr;have hle':=Em hle;refine (callsIn_wide (n:=1)).1 (callsIn_of_wp_marks hf hb trivial ?_);refine wpIn_wide.2 ?_;refine h _ g _ w ⟨?_,rfl,?_,hH⟩ ?_ ?_
  · simp only [iI,Array.size_replicate,hn,hr.1];omega
  · intro i
    show Rep g w _ (get (Hw 0 args) i);rw [T6];simp only [E2,if_true,Nat.sub_zero];cases hi:args[i]? with
    | none=>exact .junk _
    | some x=>
      have hlt:i<vs.size:=by rw [hr.1];exact (List.getElem?_eq_some_iff.1 hi).1
      have:=hr.2 i x hi;simp only [Hf,Array.getElem?_append,hlt,if_true] at this ⊢;exact this
  · rintro e g' s' a' w' hG' hx ⟨he,xs,hr',H',hs,hq⟩
    obtain ⟨v,h1,h2⟩:=Pq hT hr' hG'
    have key:LeavesInM Fence.wide 1 P fn a'.tmps (fun e w'=>∃v g' r H',e = .returned v∧Rep g' w' v r∧HOK g' w' H'∧Ext g w g' w'∧R r H') a'.defers .returning w':=by
      rw [hG'.defers];exact ⟨v,h1,v,g',_,H',rfl,h2,hG'.heap.sub hs,hx,hq⟩
    rcases he with rfl | rfl <;> exact key
  · rintro e a' w' ⟨rfl,D,hD,hk,v,g',r,H',h1,h2,h3,h4,h5⟩
    show LeavesInM Fence.wide 1 P fn a'.tmps _ a'.defers .returning w';rw [hD];exact ⟨by simp,.inl ⟨D,_,rfl,run_takeDeferred hk,v,h1,v,g',r,H',rfl,h2,h3,h4,h5⟩⟩
end

def Act.more (a:Act)(ds:List Deferred):Act:={ a with defers:=a.defers++ds }
theorem M3 (a:Act)(ds:List Deferred)(d:Option Nat)(v:Value):(Act.more a ds).put d v=Act.more (a.put d v) ds:=by cases d <;> rfl
theorem aJ (a:Act)(ds:List Deferred):(Act.more a ds).eval=a.eval:=by funext y;cases y <;> rfl

def gM (ds:List Deferred)(Q:Exit→Act→World→Prop)(e:Exit)(a:Act)(w:World):Prop:=∃a0,a=Act.more a0 ds∧Q e a0 w

theorem aU {P:Program}{ops:Array Oper}{Q:Exit→Act→World→Prop}{ds:List Deferred}{i:Nat}{K K':Act→World→Prop}(hK:∀a w,K a w→K' (Act.more a ds) w){a:Act}{w:World}
    (h:wpOp P ops Q i K a w):wpOp P ops (gM ds Q) i K' (Act.more a ds) w:=by
  have hL:LetsOut Q→LetsOut (gM ds Q):=fun ⟨a,w,h⟩=>⟨_,w,a,rfl,h⟩
  unfold wpOp at h ⊢;cases ho:ops[i]? with
  | none=>rw [ho] at h;exact hK _ _ h
  | some o=>
    rw [ho] at h;simp only at h ⊢;have ht:yielded ops (Act.more a ds).tmps=yielded ops a.tmps:=rfl;rw [ht];by_cases hw:Region.wanted o (yielded ops a.tmps)=true
    · rw [if_pos hw] at h ⊢
      rcases h with h | ⟨h,h'⟩
      · left
        unfold Oper.wp at h ⊢;rw [aJ];generalize (execOp a.eval o).run P w=r at h ⊢;cases r with
        | ok x w'=>
          cases x with
          | value v=>show K' _ w';rw [M3];exact hK _ _ h
          | skip=>show K' _ w';rw [M3];exact hK _ _ h
          | defer d=>
            have:=hK _ _ h;rw [←M3] at this;exact this
          | enter f args=>
            have h':Calls P f args w' _:=h;show Calls P f args w' _;refine h'.mono ?_;intro e w'' hr;cases e with
            | returned v=>show K' _ w'';rw [M3];exact hK _ _ hr
            | panicked c=>exact ⟨a,rfl,hr⟩
            | outgrown=>exact hL hr
          | row row args=>
            have h':Rows P row args w' _:=h;show Rows P row args w' _;exact h'.mono fun v w'' hr=>by rw [M3];exact hK _ _ hr
          | _=>exact h.elim
        | halt e w'=>
          cases e with
          | panic v=>exact ⟨a,rfl,h⟩
          | _=>exact h.elim
      · right
        refine ⟨?_,hL h'⟩;unfold Oper.asks at h ⊢;rw [aJ];exact h
    · rw [if_neg hw] at h ⊢
      rw [M3];exact hK _ _ h

theorem X7 {P:Program}{md:Region.Mode}{ops:Array Oper}{Q:Exit→Act→World→Prop}{ds:List Deferred}:∀(A8:Nat) (listed:Array Bool) (a:Act) (w:World),wpAny P md ops Q A8 listed a w→
  wpAny P md ops (gM ds Q) A8 listed (Act.more a ds) w
 | 0,listed,a,w,h=>⟨h.1,a,rfl,h.2⟩
 | A8+1,listed,a,w,h=>⟨fun hr=>⟨a,rfl,h.1 hr⟩,fun i hi=>aU (fun a w h=>X7 A8 _ a w h) (h.2 i hi)⟩

section
variable {P:Program} {ops:Array Oper}
theorem pO (hm:P.follows .mixedOrders=true){id:Nat}{Qs:St→Prop}{s:St}(K:List HO→Prop)(hK:K s.H)(hdd:Du ops=true)(h:Gz P ops K Qs (Array.replicate ops.size false) s)
  {Q':Exit→Act→World→Prop} {g:Gh} {a:Act} {w:World} (hG:Gm g s a w) (ds:List Deferred) (hQ:∀g' s' a' w',Gm g' s' a' w'→Ext g w g' w'→Qs s'→Q' .ret (Act.more a' ds) w') :
  ((Code.region id ops true).seq .ret).wp P Q' (Act.more a ds) w:=by
 have hx:=Ext.drew g w;have hG':Gm g s a w.drew:=⟨hG.size,hG.defers,fun i=>(hG.sl i).mono hx,hG.heap.drew⟩
 have key:=CanonI.any hdd h ops.size [] (Array.replicate ops.size false) s.sl g a w.drew (fun e a' w'=>match e with | .normal=>Q' .ret (Act.more a' ds) w' | _=>False)
  ⟨by simp,by simp,by simp,by simp,fun t _=>rfl,by simp,by simp,by simp,by simp,by simp,by simp,by simp,by simp,fun j o hj hl=>by
   have hlt:j<ops.size:=(Array.getElem?_eq_some_iff.1 hj).1;simp [hlt] at hl⟩ hG' (fun _=>hK) (by
   unfold lX;have:=List.length_filter_le (fun j=>!(Array.replicate ops.size false).getD j true) (List.range ops.size);simpa using this) fun g' s' a' w' k1 k2 k3=>hQ g' s' a' w' k1 (hx.trans k2) k3
 have key2:=X7 (ds:=ds) _ _ _ _ key;refine wp_seq (wp_mono (wp_region_any hm key2) ?_);rintro e a' w' ⟨a0,rfl,hq⟩;cases e with
 | normal=>exact wp_ret hq
 | _=>exact hq.elim

inductive AWD (P:Program):Code→(St→Prop)→St→Prop where
 | draw (hm:P.follows .mixedOrders=true) {id:Nat} {ops:Array Oper} {Qs:St→Prop} {s:St} (K:List HO→Prop) (hK:K s.H) (hdd:Du ops=true) (h:Gz P ops K Qs (Array.replicate ops.size false) s):AWD P (.region id ops true) Qs s

def endX (P:Program)(T:List (Nat×TD))(fn:Func)(R:AV→List HO→Prop)(D:Nat)(s:St):Prop:=
 ∃i:Nat,s.H[i]? = some (HO.obj D (Obj.deferred (some [])))∧∃xs,ResL P T ⟨s.sl,s.H.set i (.obj D (.deferred none)),s.n⟩ fn.results.toList xs∧∃H3,H3.Sublist (s.H.set i (.obj D (.deferred none)))∧R (Ai xs) H3

end
end Go.Aw

namespace Go.Aw
open Go
theorem AW.ghostPost {P:Program}{c:Code}{Q:Exit→St→Prop}{s:St}(h:AW P c (fun e s=>∃s',GS s s'∧Q e s') s):AW P c Q s:=by
 intro Q' g a w hG hQ;refine h Q' g a w hG fun e g' s' a' w' h1 h2 ⟨s2,h3,h4⟩=>?_
 obtain ⟨g2,k1,k2⟩:=h3 g' a' w' h1;exact hQ e g2 s2 a' w' k1 (h2.trans k2) h4
def sidx:List (List UInt8×AV)→List UInt8→Option Nat
 | [],_=>none
 | (k,_)::r,n=>if k=n then some 0 else (sidx r n).map (· + 1)
def sput (es:List (List UInt8×AV))(n:List UInt8)(x:AV):List (List UInt8×AV):=match sidx es n with | some j=>es.modify j fun _=>(n,x) | none=>es ++ [(n,x)]
section
variable {P:Program} {T:List (Nat×TD)} {d:Option Nat} {ty:TypeId} {pos:String} {aft:Array Edge} {gd:Option (Nat×Bool)} {ρ:Operand→AV}
end
end Go.Aw

namespace Go.Aw
open Go
theorem GS.heq {sl:List (Nat×AV)}{H H2:List HO}{n:Nat}(h:H=H2):GS ⟨sl,H,n⟩ ⟨sl,H2,n⟩:=by subst h;exact GS.refl _
end Go.Aw
namespace Go.Proofs.YtckhoadldibflaaGreatDoor
open Go Go.Aw
theorem nC {T:List e8Sc}{k:Nat}{s:e8Sc}(h:T[k]? = some s):Ky (T.take k) ++ [s.name]=Ky (T.take (k+1)):=by
 rw [Eu h];simp
theorem nm_new {T:List e8Sc}(hd:(Ky T).Nodup){k:Nat}{s:e8Sc}(h:T[k]? = some s):(Ky (T.take k)).contains s.name=false:=by
 rw [zz53];intro hc
 have h2:(Ky (T.take (k+1))).Nodup:=by
  have:(Ky (T.take (k+1))).Sublist (Ky T):=(List.take_sublist _ _).map _;exact hd.sublist this
 rw [←nC h,List.nodup_append] at h2;exact h2.2.2 _ (List.contains_iff_mem.1 hc) _ (by simp) rfl
section
variable {T:List e8Sc} {V:List Va} {t:Syn}
def tK (T:List e8Sc)(V:List Va)(t:Syn):Fa:=if (Io T V t != 0) then ⟨t.pos,Io T V t⟩ else O3
def dV (T:List e8Sc)(V:List Va)(t:Syn):List Va:=if (Io T V t != 0) then V else V ++ [Ou T t]
theorem dec_1 (h1:((V.length:Int)==16)=true):Io T V t=5:=if_pos h1
theorem dec_2 (h1:((V.length:Int)==16)=false)(h2:(!((Ky T).contains t.text))=true):Io T V t=8:=(Bl h1).trans (if_pos h2)
theorem dec_3 (h1:((V.length:Int)==16)=false)(h2:(!((Ky T).contains t.text))=false)(h3:(Id V).contains t.name=true):Io T V t=7:=(Bl h1).trans ((Bl h2).trans (if_pos h3))
theorem dec_4 (h1:((V.length:Int)==16)=false)(h2:(!((Ky T).contains t.text))=false)(h3:(Id V).contains t.name=false):Io T V t=0:=(Bl h1).trans ((Bl h2).trans (Bl h3))
theorem kL {e:Int}(h:Io T V t=e)(he:e≠0):tK T V t=⟨t.pos,e⟩∧dV T V t=V:=by
 unfold tK dV;rw [h,if_pos (by simpa using he),if_pos (by simpa using he)];exact ⟨rfl,rfl⟩
theorem dFa_yes (h:Io T V t=0):tK T V t=O3∧dV T V t=V ++ [Ou T t]:=by
 unfold tK dV;rw [h,if_neg (by decide),if_neg (by decide)];exact ⟨rfl,rfl⟩
theorem Jj (r:List Syn):Hi T V (t::r)=if (Io T V t != 0) then (V,⟨t.pos,Io T V t⟩) else Hi T (V ++ [Ou T t]) r:=by rw [Hi]
theorem wM {l:List Syn}{k:Nat}(h:l[k]? = some t)(he:((tK T V t).err != 0)=true):Hi T V (l.drop k)=(dV T V t,tK T V t):=by
 have hx:(Io T V t != 0)=true:=by
  unfold tK at he;cases hq:Io T V t != 0 with
  | true=>rfl
  | false=>rw [hq,if_neg (by decide)] at he;exact absurd he (by decide)
 rw [A5 h,Jj,if_pos hx];unfold tK dV;rw [if_pos hx,if_pos hx]
theorem decS_on {l:List Syn}{k:Nat}(h:l[k]? = some t)(he:((tK T V t).err != 0)=false):Hi T V (l.drop k)=Hi T (dV T V t) (l.drop (k+1)):=by
 have hx:(Io T V t != 0)=false:=by
  unfold tK at he;cases hq:Io T V t != 0 with
  | false=>rfl
  | true=>rw [hq,if_pos rfl] at he;simp only at he;rw [hq] at he;cases he
 rw [A5 h,Jj,Bl hx];unfold dV;rw [Bl hx]
theorem dV_len (h:V.length≤16):(dV T V t).length≤16:=by
  unfold dV;cases hq:Io T V t != 0 with
  | true=>rw [if_pos rfl];exact h
  | false=>
    rw [Bl rfl,D9,Zl]
    have:V.length≠16:=fun h16=>by
      have:=dec_1 (T:=T) (t:=t) (V:=V) (by simp [h16]);rw [this] at hq;exact absurd hq (by decide)
    omega
theorem scVa (l:List Va):∀c∈l.map O2,Bb c=true:=fun c hc=>by
 obtain ⟨x,_,rfl⟩:=Mu.1 hc;rfl
end
section
variable {t:Syn}
theorem Qx (h:A4 t .pats=0):5≤t.kind∧t.kind≤12:=cA (Gq (F6 h).1).1
theorem H0 (h:A4 t .pats=0)(hk:t.kind=10∨t.kind=12):t.kids.length=2:=by
 have hs:=(Gq (F6 h).1).2.1;unfold Ei at hs;rcases hk with hk | hk <;> · rw [hk] at hs;simp at hs;omega
theorem Ql (h:A4 t .pats=0)(h5:t.kind≠5){j:Nat}{a:Syn}(ha:t.kids[j]? = some a)(hj:(t.kind=10∨t.kind=12)→j=0):A4 a .pats=0:=by
 have hr:=Qx h;have hk:=(Gn h ha).1
 have he:Ec t j = .pats:=by
  unfold Ec;rw [if_neg (by simp;omega),if_neg (by simp;omega),if_neg (by simp;omega)];by_cases h10:t.kind=10
  ·
   have:=hj (.inl h10);subst this;rw [if_pos (by simpa using h10),if_neg (by decide)]
  rw [if_neg (by simpa using h10)];by_cases h12:t.kind=12
  ·
   have:=hj (.inr h12);subst this;rw [if_pos (by simpa using h12),if_neg (by decide)]
  rw [if_neg (by simpa using h12),if_neg (by simp;omega),if_neg (by simp;omega)]
 rw [he] at hk;exact hk
theorem yJ (h:A4 t .pats=0)(hk:t.kind=10):A4 (A3 t 1) (.only 5)=0:=by
 have h2:=H0 h (.inl hk);have hg:=D8 (t:=t) (k:=1) (by omega);have hk1:=(Gn h hg).1
 have he:Ec t 1 = .only 5:=by
  unfold Ec;rw [hk];rfl
 rw [he] at hk1;exact hk1
theorem wO (h:A4 t .pats=0)(hk:t.kind=12):A4 (A3 t 1) .exps=0:=by
 have h2:=H0 h (.inr hk);have hg:=D8 (t:=t) (k:=1) (by omega);have hk1:=(Gn h hg).1
 have he:Ec t 1 = .exps:=by
  unfold Ec;rw [hk];rfl
 rw [he] at hk1;exact hk1
theorem Gg (x:Syn)(r:List Syn):Dy (x::r)=D7 x+Dy r:=by rw [Dy]
theorem dQ (t:Syn):(I4 t).length≤D7 t:=by
  induction t using Syn.ind with
  | h t ih=>
    rw [Oc,Eg]
    have hh:(rT t.kids).length≤Dy t.kids:=by
      cases hk:t.kids with
      | nil=>rw [rT];simp
      | cons x r=>rw [rT,Gg];have:=ih x (by rw [hk];simp);omega
    have hf:∀l:List Syn,(∀a∈l,(I4 a).length≤D7 a)→(l.flatMap I4).length≤Dy l:=by
      intro l
      induction l with
      | nil=>intro _;simp
      | cons x r ih2=>intro hl;rw [aE,D9,Gg];have:=hl x (by simp);have:=ih2 fun a ha=>hl a (by simp [ha]);omega
    split
    · simp
    · split
      · rw [Ep];omega
      · split
        · omega
        have:=hf _ ih;omega
theorem Uu:∀(l:List Syn) (k:Nat),Dy (l.take k)≤Dy l
 | [],k=>by simp
 | x::r,0=>by rw [List.take_zero,Dy];omega
 | x::r,k+1=>by rw [kW,Gg,Gg];have:=Uu r k;omega
theorem evF_len (l:List Syn):(l.flatMap I4).length≤Dy l:=by
 induction l with
 | nil=>simp
 | cons x r ih=>rw [aE,D9,Gg];have:=dQ x;omega
theorem ev_part (ht:E7 t)(k:Nat):(((t.kids.take k).flatMap I4).map Cl).length≤1000000:=by
 rw [Dx];have h1:=evF_len (t.kids.take k);have h2:=Uu t.kids k;have h3:=kH t.kids;have h4:=Ln t;unfold E7 at ht;omega
theorem vZ (ht:E7 t):((I4 t).map Cl).length≤1000000:=by
 rw [Dx];exact Kx (dQ t) (Hz ht)
theorem tH (l:List Syn):∀c∈l.map Cl,Bb c=true:=fun c hc=>by
 obtain ⟨x,_,rfl⟩:=Mu.1 hc;rw [Ba];rfl
theorem evs_1 (h1:(t.kind==5)=true):(I4 t).map Cl = [cSyn t]:=by
 rw [Oc,if_pos h1,Dn,C8,Ba]
theorem evs_2 (h1:(t.kind==5)=false)(h2:(t.kind==10)=true)(hl:0<t.kids.length):(I4 t).map Cl = [cSyn (A3 t 1)]++(I4 (A3 t 0)).map Cl:=by
 rw [Oc,Bl h1,if_pos h2,Dn,Ba,dO hl];rfl
theorem evs_3 (h1:(t.kind==5)=false)(h2:(t.kind==10)=false)(h3:(t.kind==12)=true)(hl:0<t.kids.length):I4 t=I4 (A3 t 0):=by
 rw [Oc,Bl h1,Bl h2,if_pos h3,dO hl];rfl
theorem evs_4 (h1:(t.kind==5)=false)(h2:(t.kind==10)=false)(h3:(t.kind==12)=false):I4 t=t.kids.flatMap I4:=by
 rw [Oc,Bl h1,Bl h2,Bl h3]
end
def opL:List (Int×AV):=[(5,.int .i64 0),(6,.int .i64 1),(7,.int .i64 2),(8,.int .i64 3),(9,.int .i64 4),(10,.int .i64 5),(11,.int .i64 6),(12,.int .i64 7)]
theorem op_get {k:Int}(h0:5≤k)(h1:k≤12):Y6 opL k=some (.int .i64 (k-5)):=by
 have:k=5∨k=6∨k=7∨k=8∨k=9∨k=10∨k=11∨k=12:=by omega
 rcases this with rfl | rfl | rfl | rfl | rfl | rfl | rfl | rfl <;> rfl
structure NxOK (s:Nx) (n:Nat):Prop where
 a:0≤s.next
 b:0≤s.scopes
 c:s.next+n≤3000000
 d:s.scopes+n≤3000000
section
variable {T:List e8Sc} {V:List Va} {t:Syn}
theorem sH (h:decide ((0:Int)<(t.kids.length:Int))=true):Ij T V t=Cp T V (A3 t 0):=if_pos h
theorem tT (h:decide ((0:Int)<(t.kids.length:Int))=false):Ij T V t=Pn:=Bl h
theorem vT (s:Nx)(xs:List Pt):Kb T V t s xs = { Kb T V t s [] with args:=xs }:=by
 unfold Kb;split
 · rfl
 split
 · rfl
 split
 · rfl
 split <;> rfl
theorem S7 (t:Syn)(s:Nx):G3 T V t s=({ Kb T V t s [] with args:=(Dq T V (De t) (Sg t s)).1 },(Dq T V (De t) (Sg t s)).2):=by
 rw [Q6,vT]
theorem wF {s:Nx}(h1:(t.kind==5)=true):Kb T V t s []=⟨0,[],L7 (Ky T) t.text,s.next,0,0,Ij T V t⟩:=if_pos h1
theorem ptn_10 {s:Nx}(h1:(t.kind==5)=false)(h2:(t.kind==10)=true):Kb T V t s []=⟨5,[],L7 (Ky T) (A3 t 1).text,s.next,s.scopes,0,Ij T V (A3 t 1)⟩:=(Bl h1).trans (if_pos h2)
theorem ptn_11 {s:Nx}(h1:(t.kind==5)=false)(h2:(t.kind==10)=false)(h3:(t.kind==11)=true):Kb T V t s []=⟨6,[],0,0,s.scopes,t.num,Un⟩:=(Bl h1).trans ((Bl h2).trans (if_pos h3))
theorem ptn_12 {s:Nx}(h1:(t.kind==5)=false)(h2:(t.kind==10)=false)(h3:(t.kind==11)=false)(h4:(t.kind==12)=true):Kb T V t s []=⟨7,[],0,0,0,0,Cp T V (A3 t 1)⟩:=(Bl h1).trans ((Bl h2).trans ((Bl h3).trans (if_pos h4)))
theorem ptn_o {s:Nx}(h1:(t.kind==5)=false)(h2:(t.kind==10)=false)(h3:(t.kind==11)=false)(h4:(t.kind==12)=false):Kb T V t s []=⟨t.kind-5,[],0,0,0,0,Un⟩:=(Bl h1).trans ((Bl h2).trans ((Bl h3).trans (Bl h4)))
theorem pn_5 {s:Nx}(h1:(t.kind==5)=true):(⟨t.kind-5,[],L7 (Ky T) t.text,s.next,0,0,Ij T V t⟩:Pt)=Kb T V t s []:=by
 have:t.kind=5:=by simpa using h1
 rw [wF h1,this];rfl
theorem pn_10 {s:Nx}(h1:(t.kind==5)=false)(h2:(t.kind==10)=true):(⟨t.kind-5,[],L7 (Ky T) (A3 t 1).text,s.next,s.scopes,0,Ij T V (A3 t 1)⟩:Pt)=Kb T V t s []:=by
 have:t.kind=10:=by simpa using h2
 rw [ptn_10 h1 h2,this];rfl
theorem pn_11 {s:Nx}(h1:(t.kind==5)=false)(h2:(t.kind==10)=false)(h3:(t.kind==11)=true):(⟨t.kind-5,[],0,0,s.scopes,t.num,Un⟩:Pt)=Kb T V t s []:=by
 have:t.kind=11:=by simpa using h3
 rw [ptn_11 h1 h2 h3,this];rfl
theorem pn_12 {s:Nx}(h1:(t.kind==5)=false)(h2:(t.kind==10)=false)(h3:(t.kind==11)=false)(h4:(t.kind==12)=true):(⟨t.kind-5,[],0,0,0,0,Cp T V (A3 t 1)⟩:Pt)=Kb T V t s []:=by
 have:t.kind=12:=by simpa using h4
 rw [ptn_12 h1 h2 h3 h4,this];rfl
theorem nxn_5 {s:Nx}(h1:(t.kind==5)=true):Sg t s=⟨s.next+1,s.scopes⟩:=by
 have:t.kind=5:=by simpa using h1
 unfold Sg;rw [this];rfl
theorem nxn_10 {s:Nx}(h2:(t.kind==10)=true):Sg t s=⟨s.next+1,s.scopes+1⟩:=by
 have:t.kind=10:=by simpa using h2
 unfold Sg;rw [this];rfl
theorem nxn_11 {s:Nx}(h3:(t.kind==11)=true):Sg t s=⟨s.next,s.scopes+1⟩:=by
 have:t.kind=11:=by simpa using h3
 unfold Sg;rw [this];rfl
theorem nxn_o {s:Nx}(h1:(t.kind==5)=false)(h2:(t.kind==10)=false)(h3:(t.kind==11)=false):Sg t s=s:=by
 unfold Sg;rw [h1,h2,h3];rfl
theorem pk_5 (h1:(t.kind==5)=true):De t = []:=if_pos h1
theorem pk_10 (h1:(t.kind==5)=false)(h2:(t.kind==10)=true):De t=t.kids.take 1:=by
 unfold De;rw [Bl h1,h2];rfl
theorem pk_12 (h1:(t.kind==5)=false)(h4:(t.kind==12)=true):De t=t.kids.take 1:=by
 unfold De;rw [Bl h1,h4];simp
theorem pk_o (h1:(t.kind==5)=false)(h2:(t.kind==10)=false)(h4:(t.kind==12)=false):De t=t.kids:=by
 unfold De;rw [Bl h1,h2,h4];rfl
theorem Lq {a:Syn}(h:a∈De t):a∈t.kids:=by
 unfold De at h;split at h
 · cases h
 split at h
 · exact List.mem_of_mem_take h
 exact h
theorem Le (hc:A4 t .pats=0){a:Syn}(h:a∈De t):A4 a .pats=0:=by
 have h5:t.kind≠5:=fun e=>by rw [pk_5 (by simpa using e)] at h;cases h
 obtain ⟨j,hj⟩:=jN.1 h;unfold De at hj;rw [if_neg (by simpa using h5)] at hj;split at hj
 ·
  rename_i hq;have hj0:j=0:=by have:=(List.getElem?_eq_some_iff.1 hj).1;simp at this;omega
  subst hj0;rw [List.getElem?_take_of_lt (by omega)] at hj;exact Ql hc h5 hj fun _=>rfl
 rename_i hq;exact Ql hc h5 hj fun e=>absurd (by simpa using e) hq
theorem Xe (t:Syn):Dy (De t)≤Dy t.kids:=by
 unfold De;split
 · rw [Dy];omega
 split
 · exact Uu _ _
 exact C4 _
theorem pk_len (ht:E7 t):(De t).length≤1048576:=by
 have h1:=Yx (De t);have h2:=Xe t;have h3:=Hz ht;rw [Eg] at h3;omega
theorem sL {s:Nx}(h:NxOK s (D7 t)):NxOK (Sg t s) (Dy t.kids)∧s.next≤(Sg t s).next∧s.scopes≤(Sg t s).scopes∧(Sg t s).next≤s.next+1∧(Sg t s).scopes≤s.scopes+1:=by
 obtain ⟨a,b,c,d⟩:=h;rw [Eg] at c d;unfold Sg;refine ⟨⟨?_,?_,?_,?_⟩,?_,?_,?_,?_⟩ <;> simp only <;> split <;> omega
theorem uI:∀t:Syn,∀s:Nx,NxOK s (D7 t)→s.next≤(G3 T V t s).2.next∧s.scopes≤(G3 T V t s).2.scopes∧(G3 T V t s).2.next≤s.next+D7 t∧(G3 T V t s).2.scopes≤s.scopes+D7 t:=by
  intro t
  induction t using Syn.ind with
  | h t ih=>
    intro s hs;obtain ⟨h1,h2,h3,h4,h5⟩:=sL hs;rw [Q6,Eg]
    have key:∀l:List Syn,(∀a∈l,a∈t.kids)→∀s:Nx,NxOK s (Dy l)→s.next≤(Dq T V l s).2.next∧s.scopes≤(Dq T V l s).2.scopes∧(Dq T V l s).2.next≤s.next+Dy l∧(Dq T V l s).2.scopes≤s.scopes+Dy l:=by
      intro l
      induction l with
      | nil=>intro _ s _;rw [Dq];simp only;omega
      | cons x r ih2=>
        intro hl s hs;obtain ⟨a,b,c,d⟩:=hs;rw [Gg] at c d;have hx:=ih x (hl x (by simp)) s ⟨a,b,by omega,by omega⟩;have hr:=ih2 (fun a ha=>hl a (by simp [ha])) (G3 T V x s).2 ⟨by omega,by omega,by omega,by omega⟩;rw [Dq,Gg];simp only;omega
    have hp:=Xe t;have hk:=key (De t) (fun a ha=>Lq ha) (Sg t s) ⟨h1.a,h1.b,by have:=h1.c;omega,by have:=h1.d;omega⟩;simp only;omega
theorem iC {l:List Syn}{k:Nat}{a:Syn}(h:l[k]? = some a)(s:Nx):Dq T V (l.take (k+1)) s=((Dq T V (l.take k) s).1 ++ [(G3 T V a (Dq T V (l.take k) s).2).1],(G3 T V a (Dq T V (l.take k) s).2).2):=by
 rw [Eu h,jS,Dq,Dq]
theorem rG {l:List Syn}{k:Nat}{a:Syn}(h:l[k]? = some a):Dy (l.drop k)=D7 a+Dy (l.drop (k+1)):=by rw [A5 h,Gg]
theorem nx_on {l:List Syn}{k:Nat}{a:Syn}(h:l[k]? = some a){s:Nx}(hs:NxOK s (Dy (l.drop k))):NxOK s (D7 a)∧NxOK (G3 T V a s).2 (Dy (l.drop (k+1))):=by
 obtain ⟨x1,x2,x3,x4⟩:=hs;rw [rG h] at x3 x4;have ha:NxOK s (D7 a):=⟨x1,x2,by omega,by omega⟩;have:=uI (T:=T) (V:=V) a s ha;exact ⟨ha,by omega,by omega,by omega,by omega⟩
theorem scPt (l:List Pt):∀c∈l.map Lw,Bb c=true:=fun c hc=>by
 obtain ⟨x,_,rfl⟩:=Mu.1 hc;rw [Tw];rfl
theorem Th (hw:(D4 T V t).err=0){j:Nat}(h:j<t.kids.length):(D4 T V (A3 t j)).err=0:=(Fp hw).2 _ (B4 (D8 h))
theorem Xg (ht:E7 t){j:Nat}(h:j<t.kids.length):E7 (A3 t j):=E6 ht (B4 (D8 h))
end
end Go.Proofs.YtckhoadldibflaaGreatDoor

namespace Go.Proofs
open Go.Shelf
def Tryz.lays264_ren:Go.Shelf.Ren:=⟨fun | 264=>290 | n=>n,fun | 53=>298 | 46=>271 | n=>n,fun | n=>n⟩
def Tryz.lays212_ren:Go.Shelf.Ren:=⟨fun | 212=>233 | 263=>289 | 264=>290 | n=>n,fun | 46=>271 | 51=>295 | 146=>296 | 53=>298 | 148=>299 | n=>n,fun | n=>n⟩
theorem Tryz.lays212:Go.Proofs.Lays.n212 Tryz.prog Tryz.lays212_ren:={
 mixed:=by kernel_rfl
 f212:=Tryz.func233.trans (congrArg some (by kernel_rfl))
 f263:=Tryz.func289.trans (congrArg some (by kernel_rfl))
 f264:=Tryz.func290.trans (congrArg some (by kernel_rfl))
 t46:=Tryz.underlying271
 a46:=Tryz.isAgg271
 z46:=Tryz.sizeOf271
 v46:=Tryz.zeroValue271
 t51:=Tryz.underlying295
 a51:=Tryz.isAgg295
 z51:=Tryz.sizeOf295
 v51:=Tryz.zeroValue295
 t53:=Tryz.underlying298
 a53:=Tryz.isAgg298
 z53:=Tryz.sizeOf298
 v53:=Tryz.zeroValue298
 t146:=Tryz.underlying296
 a146:=Tryz.isAgg296
 z146:=Tryz.sizeOf296
 v146:=Tryz.zeroValue296
 t148:=Tryz.underlying299
 a148:=Tryz.isAgg299
 z148:=Tryz.sizeOf299
 v148:=Tryz.zeroValue299 }
open Go.RowKit Go.Lib in
theorem Tryz.bits_Mul (x y:Nat)(hx:x<18446744073709551616)(hy:y<18446744073709551616)(w:World) :
 Calls Tryz.prog 233 #[.int .u64 x,.int .u64 y] w fun e w'=>e = .returned (.tuple #[.int .u64 ((x*y / 18446744073709551616:Nat):Int),.int .u64 ((x*y % 18446744073709551616:Nat):Int)])∧w'=w:=Any.bits_Mul Tryz.lays212 x y hx hy w
end Go.Proofs
