/-
  Several texts in one: S19, S20, S21, S22. No condition.
-/
import Derived.Test.YtjedflcpjlgokaaGreatDoorK11
import Derived.Test.YtjedflcpjlgokaaGreatDoorK03
set_option linter.unusedVariables false
set_option linter.unusedSimpArgs false
namespace Go.Proofs.YtjedflcpjlgokaaGreatDoor
open Go Go.Aw

theorem cQ:∀g w u,Rep g w u (.sl 1 [[.val (.slice none 0 0)]])→Rep g w u (.sl 1 [[.sl 9 []]]):=fun g w u h=>by
  cases h with
  | sl b o n cap z es hn hc hm hz f hs hr=>
    refine .sl b o n cap 1 _ hn hc hm (fun e he=>by rw [List.mem_singleton.1 he];rfl) f (fun i e hi j x hj=>?_) (fun i e hi j x hj=>?_)
    · cases i with
      | succ i=>simp at hi
      | zero=>
        cases j with
        | succ j=>simp at hi;subst hi;simp at hj
        | zero=>exact hs 0 _ rfl 0 _ rfl
    · cases i with
      | succ i=>simp at hi
      | zero=>
        cases j with
        | succ j=>simp at hi;subst hi;simp at hj
        | zero=>
          simp at hi;subst hi;simp at hj;subst hj
          have:=(hr 0 _ rfl 0 _ rfl).inv_val
          rw [this];exact .sl0 _ _ _ (Nat.zero_le _)

theorem uU {α:Type}{a b:List (List α)}(h:decide ((256:Int)<(a.length:Int)*(b.length:Int))=true):Kg a b=([],false):=by rw [Kg,if_pos h]
theorem bZ {α:Type}{a b:List (List α)}(h:decide ((256:Int)<(a.length:Int)*(b.length:Int))=false):Kg a b=(a.flatMap fun x=>b.map fun y=>x++y,true):=by rw [Kg,Cu h]
theorem mA {α:Type}{a b:List (List α)}{k:Nat}{x:List α}(h:a[k]? = some x):((a.take (k+1)).flatMap fun x=>b.map fun y=>x++y)=((a.take k).flatMap fun x=>b.map fun y=>x++y)++b.map fun y=>x++y:=by
 rw [Cx h,List.flatMap_append];simp
theorem dA {α:Type}(a b:List (List α)):(a.flatMap fun x=>b.map fun y=>x++y).length=a.length*b.length:=by
 induction a with
 | nil=>simp
 | cons x r ih=>rw [List.flatMap_cons,List.length_append,ih,List.length_map,List.length_cons,Nat.succ_mul];omega
theorem xK {α:Type}{a b:List (List α)}{k j:Nat}(hk:k<a.length)(hj:j<b.length)(h:decide ((256:Int)<(a.length:Int)*(b.length:Int))=false):k*b.length+j<256:=by
 have h1:a.length*b.length≤256:=by
  have:¬(256:Int)<(a.length:Int)*(b.length:Int):=by simpa using h
  have h2:((a.length*b.length:Nat):Int)=(a.length:Int)*(b.length:Int):=by simp
  omega
 have h2:(k+1)*b.length≤a.length*b.length:=Nat.mul_le_mul_right _ hk
 rw [Nat.succ_mul] at h2
 omega
theorem sZ {a b:Cs}(h:(!a.2 || !b.2)=true):Dy a b=([],false):=by rw [Dy,if_pos h]
theorem Xk {a b:Cs}(h:(!a.2 || !b.2)=false):Dy a b=Kg a.1 b.1:=by rw [Dy,Cu h]
theorem uE {a b:Cs}(h:((!a.2 || !b.2)||decide ((256:Int)<(a.1.length:Int)+(b.1.length:Int)))=true):Hf a b=([],false):=by rw [Hf,if_pos h]
theorem rU {a b:Cs}(h:((!a.2 || !b.2)||decide ((256:Int)<(a.1.length:Int)+(b.1.length:Int)))=false):Hf a b=(a.1++b.1,true):=by rw [Hf,Cu h]

structure csOK (n:Nat) (c:Cs):Prop where
 len:c.1.length≤256
 lits:∀x∈c.1,x.length≤n
theorem csOK.mono {n m:Nat}{c:Cs}(h:csOK n c)(hm:n≤m):csOK m c:=⟨h.len,fun x hx=>Nat.le_trans (h.lits x hx) hm⟩
theorem Zk {n:Nat}:csOK n ([],false):=⟨Nat.zero_le _,fun x hx=>by cases hx⟩
theorem K8 {n m:Nat}{a b:Cs}(ha:csOK n a)(hb:csOK m b):csOK (n+m) (Dy a b):=by
 unfold Dy
 split
 · exact Zk
 ·
  unfold Kg
  split
  · exact Zk
  ·
   rename_i h
   refine ⟨?_,fun x hx=>?_⟩
   ·
    show (a.1.flatMap fun x=>b.1.map fun y=>x++y).length≤256
    rw [dA]
    have h1:¬(256:Int)<(a.1.length:Int)*(b.1.length:Int):=by simpa using h
    have h2:((a.1.length*b.1.length:Nat):Int)=(a.1.length:Int)*(b.1.length:Int):=by simp
    omega
   ·
    obtain ⟨y,hy,hm⟩:=List.mem_flatMap.1 hx
    obtain ⟨z,hz,rfl⟩:=List.mem_map.1 hm
    have:=ha.lits y hy
    have:=hb.lits z hz
    rw [List.length_append];omega
theorem kJ {n:Nat}{a b:Cs}(ha:csOK n a)(hb:csOK n b):csOK n (Hf a b):=by
 unfold Hf
 split
 · exact Zk
 ·
  rename_i h
  refine ⟨?_,fun x hx=>?_⟩
  ·
   show (a.1++b.1).length≤256
   simp at h
   rw [List.length_append];omega
  ·
   rcases List.mem_append.1 hx with h | h
   · exact ha.lits x h
   · exact hb.lits x h
section
variable {T:List Sc} {V:List Va}
abbrev wV:F4:=fun _=>([],false)
theorem Eh {e:Ex}{s:Bool}(h:(e.op==0)=true)(h1:((e.val.num==1)==s)=true):Bw T V e s=([[]],true):=by rw [Ip,M0,if_pos h,if_pos h1]
theorem Ef {e:Ex}{s:Bool}(h:(e.op==0)=true)(h1:((e.val.num==1)==s)=false):Bw T V e s=([],true):=by rw [Ip,M0,if_pos h,Cu h1]
theorem Ed {e:Ex}{s:Bool}(hl:0<e.args.length)(h:(e.op==12)=true):Bw T V e s=Bw T V (Ap e) (!s):=by
 rw [Ip,M0,Cu (by simp at h ⊢;omega),if_pos h,Ju _ _ hl]
theorem Ei {e:Ex}{s:Bool}(hl:1<e.args.length)(h:(e.op==10||e.op==11)=true)(h1:((e.op==10)==s)=true):Bw T V e s=Dy (Bw T V (Ap e) s) (Bw T V (B3 e) s):=by
 rw [Ip,M0,Cu (by simp at h ⊢;omega),Cu (by simp at h ⊢;omega),if_pos h,if_pos h1,Ju _ _ (by omega),Kr _ _ hl]
theorem Eg {e:Ex}{s:Bool}(hl:1<e.args.length)(h:(e.op==10||e.op==11)=true)(h1:((e.op==10)==s)=false):Bw T V e s=Hf (Bw T V (Ap e) s) (Bw T V (B3 e) s):=by
 rw [Ip,M0,Cu (by simp at h ⊢;omega),Cu (by simp at h ⊢;omega),if_pos h,Cu h1,Ju _ _ (by omega),Kr _ _ hl]
theorem Ej {e:Ex}{s:Bool}(hl:1<e.args.length)(h:(e.op==9)=true)(h1:(Ak T V (Ap e)==1)=true) :
  Bw T V e s=Hf (Dy (Bw T V (Ap e) true) (Bw T V (B3 e) s)) (Dy (Bw T V (Ap e) false) (Bw T V (B3 e) (!s))):=by
 rw [Ip,M0,Cu (by simp at h ⊢;omega),Cu (by simp at h ⊢;omega),Cu (by simp at h ⊢;omega),if_pos (by rw [h,h1];rfl),Ju _ _ (by omega),Kr _ _ hl]
theorem Ee {e:Ex}{s:Bool}(h:(e.op==9)=true)(h1:(Ak T V (Ap e)==1)=false)(h2:(Ak T V (Ap e)==0 && !s)=true) :
  Bw T V e s=Dn [⟨two 7 (Ap e) (B3 e),false⟩,⟨two 7 (B3 e) (Ap e),false⟩]:=by
 rw [Ip,M0,Cu (by simp at h ⊢;omega),Cu (by simp at h ⊢;omega),Cu (by simp at h ⊢;omega),Cu (by rw [h1,Bool.and_false]),if_pos (by rw [h,h2];rfl)]
theorem Hq {e:Ex}{s:Bool}(h:(e.op==9)=true)(h1:(Ak T V (Ap e)==1)=false)(h2:(Ak T V (Ap e)==0 && !s)=false):Bw T V e s=Dn [⟨e,!s⟩]:=by
 rw [Ip,M0,Cu (by simp at h ⊢;omega),Cu (by simp at h ⊢;omega),Cu (by simp at h ⊢;omega),Cu (by rw [h1,Bool.and_false]),Cu (by rw [h2,Bool.and_false])]
theorem Jk {e:Ex}{s:Bool}(h0:(e.op==0)=false)(h12:(e.op==12)=false)(h10:(e.op==10||e.op==11)=false)(h:(e.op==9)=false):Bw T V e s=Dn [⟨e,!s⟩]:=by
 rw [Ip,M0,Cu h0,Cu h12,Cu h10,Cu (by rw [h];rfl),Cu (by rw [h];rfl)]
theorem Gz {e:Ex}(s:Bool)(hk:KOK T V e) :
    (e.op==0)=true∨((e.op==12)=true∧0<e.args.length)∨((e.op==10||e.op==11)=true∧1<e.args.length)∨((e.op==9)=true∧1<e.args.length∧(Ak T V (Ap e)==1)=true)∨
    ((e.op==9)=true∧1<e.args.length∧(Ak T V (Ap e)==1)=false∧(Ak T V (Ap e)==0 && !s)=true)∨((e.op==0)=false∧(e.op==12)=false∧(e.op==10||e.op==11)=false∧Bw T V e s=Dn [⟨e,!s⟩]∧((e.op==9)=true→(Ak T V (Ap e)==1)=false∧(Ak T V (Ap e)==0 && !s)=false)):=by
  have hz:=A9 hk.nodes
  cases h0:e.op==0 with
  | true=>exact .inl rfl
  | false=>
  cases h12:e.op==12 with
  | true=>exact .inr (.inl ⟨rfl,kU hz.1 (eq_of_beq h12)⟩)
  | false=>
  cases h10:(e.op==10||e.op==11) with
  | true=>exact .inr (.inr (.inl ⟨rfl,Ea hz.1 (by simp at h10;omega)⟩))
  | false=>
  cases h9:e.op==9 with
  | true=>
    have hl:=Ea hz.1 (by simp at h9;omega)
    cases h1:Ak T V (Ap e)==1 with
    | true=>exact .inr (.inr (.inr (.inl ⟨rfl,hl,rfl⟩)))
    | false=>
      cases h2:(Ak T V (Ap e)==0 && !s) with
      | true=>exact .inr (.inr (.inr (.inr (.inl ⟨rfl,hl,rfl,rfl⟩))))
      | false=>exact .inr (.inr (.inr (.inr (.inr ⟨rfl,rfl,rfl,Hq h9 h1 h2,fun _=>⟨rfl,rfl⟩⟩))))
  | false=>exact .inr (.inr (.inr (.inr (.inr ⟨rfl,rfl,rfl,Jk h0 h12 h10 h9,fun h=>Bool.noConfusion h⟩))))
theorem Ge (e:Ex):KOK T V e→∀s,csOK (Av e) (Bw T V e s):=by
 refine Ex.Aa8 (P:=fun e=>KOK T V e→∀s,csOK (Av e) (Bw T V e s)) (fun e ih hk s=>?_) e
 have hsz:1≤Av e:=by rw [Dj];omega
 rcases Gz s hk with h | ⟨h,hl⟩ | ⟨h,hl⟩ | ⟨h,hl,h1⟩ | ⟨h,hl,h1,h2⟩ | ⟨_,_,_,h,_⟩
 ·
  cases h1:((e.val.num==1)==s) with
  | true=>rw [Eh h h1];exact ⟨by simp,by simp⟩
  | false=>rw [Ef h h1];exact ⟨by simp,by simp⟩
 ·
  rw [Ed hl h]
  exact (ih _ (Ax hl) (An hk (Ax hl)) _).mono (Nat.le_of_lt (yU hl))
 ·
  have m0:=Ax (show 0<e.args.length by omega)
  have m1:=Bf hl
  have i0:=ih _ m0 (An hk m0) s
  have i1:=ih _ m1 (An hk m1) s
  have hs:=Da hl
  cases h1:((e.op==10)==s) with
  | true=>rw [Ei hl h h1];exact (K8 i0 i1).mono (by omega)
  | false=>rw [Eg hl h h1];exact kJ (i0.mono (by omega)) (i1.mono (by omega))
 ·
  have m0:=Ax (show 0<e.args.length by omega)
  have m1:=Bf hl
  have i0:=ih _ m0 (An hk m0)
  have i1:=ih _ m1 (An hk m1)
  have hs:=Da hl
  rw [Ej hl h h1]
  exact kJ ((K8 (i0 _) (i1 _)).mono (by omega)) ((K8 (i0 _) (i1 _)).mono (by omega))
 · rw [Ee h h1 h2];exact ⟨by simp [Dn],by simp [Dn];omega⟩
 · rw [h];exact ⟨by simp [Dn],by simp [Dn];omega⟩
def jB (a b:List (List Lit)):Cs:=(a++b,decide (((a++b).length:Int)≤256))
def jM (a b:Cs)(times:Bool):Cs:=if !a.2 || !b.2 then ([],false) else if times then Kg a.1 b.1 else jB a.1 b.1
def tT (a b:Cs):Cs:=if !a.2 || !b.2 then ([],false) else jB a.1 b.1
section
variable (T V)
def rnormN (e:Ex)(fs:List F4):F4:=fun sign=>
 if e.op==0 then (if (e.val.num==1)==sign then ([[]],true) else ([],true))
 else if e.op==12 then (Ps wV fs:F4) (!sign)
 else if e.op==10 then jM ((Ps wV fs:F4) sign) ((Xo wV fs:F4) sign) sign
 else if e.op==11 then jM ((Ps wV fs:F4) sign) ((Xo wV fs:F4) sign) (!sign)
 else if e.op==9&&Ak T V (Ap e)==1 then tT (jM ((Ps wV fs:F4) true) ((Xo wV fs:F4) sign) true) (jM ((Ps wV fs:F4) false) ((Xo wV fs:F4) (!sign)) true)
 else if e.op==9&&(Ak T V (Ap e)==0 && !sign) then Dn [⟨two 7 (Ap e) (B3 e),false⟩,⟨two 7 (B3 e) (Ap e),false⟩]
 else Dn [⟨e,!sign⟩]
def rnormS:Ex→F4:=Or (rnormN T V)
end
def csR (r p:Cs):Prop:=r.2=p.2∧(p.2=true→r=p)
structure rcOK (n:Nat) (c:Cs):Prop where
 len:c.1.length≤512
 lits:∀x∈c.1,x.length≤n
end

theorem N7 {e:Ex}(h:0<e.args.length):e.args[0]? = some (Ap e):=by
 unfold Ap
 cases ha:e.args with
 | nil=>rw [ha] at h;cases h
 | cons a r=>rfl
theorem Ql {e:Ex}(h:1<e.args.length):e.args[1]? = some (B3 e):=by
  unfold B3
  cases ha:e.args with
  | nil=>rw [ha] at h;cases h
  | cons a r=>
    cases r with
    | nil=>rw [ha] at h;simp at h
    | cons b r=>rfl
section
variable {T:List Sc} {V:List Va} {e:Ex}
theorem Yu (h:(C4 T V e != 0)=true):Cp T V e=([],C4 T V e):=by rw [Cp,if_pos h]
theorem Xv (h:(C4 T V e != 0)=false)(h2:(!(Bw T V e true).2)=true):Cp T V e=([],17):=by rw [Cp,Cu h,if_pos h2]
theorem Wz (h:(C4 T V e != 0)=false)(h2:(!(Bw T V e true).2)=false):Cp T V e=((Bw T V e true).1,0):=by rw [Cp,Cu h,Cu h2]
end
section
variable {T:List Sc} {V:List Va} {e:Ex}
end
def bA:List Lit→List Lit→Bool
 | [],[]=>true
 | a::r,b::q=>!(a.neg != b.neg || !qR a.cond b.cond)&&bA r q
 | _,_=>false
def xA:List (List Lit)→List (List Lit)→Bool
 | [],[]=>true
 | a::r,b::q=>bA a b&&xA r q
 | _,_=>false

section
variable {T:List Sc} {V:List Va}
def Ww (T:List Sc)(V:List Va)(c:Lit):Int:=if C4 T V c.cond != 0 then C4 T V c.cond else if By T V c.cond||(c.neg&&(c.cond.op==9&&Ak T V (Ap c.cond)==0)) then 3 else 0
theorem rA {l:List Lit}(h:((Cf T V (E4 true)).2 != 0)=true):Ez T V l=(Cf T V (E4 true)).2:=by rw [Ez,if_pos h]
theorem tA {l:List Lit}(h:((Cf T V (E4 true)).2 != 0)=false)(h2:decide ((256:Int)<(l.length:Int))=true):Ez T V l=5:=by rw [Ez,Cu h,if_pos h2]
theorem Uw {l:List Lit}(h:((Cf T V (E4 true)).2 != 0)=false)(h2:decide ((256:Int)<(l.length:Int))=false):Ez T V l=At (Ww T V) l:=by rw [Ez,Cu h,Cu h2];rfl
theorem yJ {c:Lit}(h:(C4 T V c.cond != 0)=true):Ww T V c=C4 T V c.cond:=by rw [Ww,if_pos h]
theorem yW {c:Lit}(h:(C4 T V c.cond != 0)=false)(h2:(By T V c.cond||((c.neg&&c.cond.op==9)&&Ak T V (Ap c.cond)==0))=true):Ww T V c=3:=by
 rw [Ww,Cu h,if_pos (by rw [←Bool.and_assoc];exact h2)]
theorem lit_3 {c:Lit}(h:(C4 T V c.cond != 0)=false)(h2:(By T V c.cond||((c.neg&&c.cond.op==9)&&Ak T V (Ap c.cond)==0))=false):Ww T V c=0:=by
 rw [Ww,Cu h,Cu (by rw [←Bool.and_assoc];exact h2)]
theorem Mf {α:Type}{f:α→Int}{l:List α}{k:Nat}{a:α}(hk:At f (l.take k)=0)(ha:l[k]? = some a)(h:f a≠0):At f l=f a:=by
  induction l generalizing k with
  | nil=>simp at ha
  | cons x r ih=>
    cases k with
    | zero => have : x = a := by simpa using ha
              subst this
              rw [At,if_pos (by simpa using h)]
    | succ k=>
      rw [List.take_succ_cons,At] at hk
      by_cases hx:(f x != 0)=true
      · rw [if_pos hx] at hk;rw [hk] at hx;cases hx
      · rw [if_neg hx] at hk
        rw [At,if_neg hx]
        exact ih hk (by simpa using ha)
theorem Pf {α:Type}{f:α→Int}{l:List α}{k:Nat}{a:α}(hk:At f (l.take k)=0)(ha:l[k]? = some a)(h:f a=0):At f (l.take (k+1))=0:=by
  rw [Cx ha]
  generalize l.take k=m at hk
  induction m with
  | nil=>simp [At,h]
  | cons x r ih=>
    rw [At] at hk
    by_cases hx:(f x != 0)=true
    · rw [if_pos hx] at hk;rw [hk] at hx;cases hx
    · rw [if_neg hx] at hk
      rw [List.cons_append,At,if_neg hx]
      exact ih hk
theorem g9c {e:Ex}(hk:KOK T V e){x b:Bool}(hG:Hl [(x,false),(b&&e.op==9,true)]):1<e.args.length:=by
 have h:(b&&e.op==9)=true:=hG (b&&e.op==9,true) (by simp)
 have h9:e.op=9:=by simp at h;exact h.2
 exact Ea (A9 hk.nodes).1 (by omega)
def Q9 (T:List Sc)(V:List Va)(l:List Lit):Prop:=∀c∈l,KOK T V c.cond∧Av c.cond≤64
theorem xI {l:List Lit}(h:At (Ww T V) l=0):Q9 T V l:=fun c hc=>by
 have h1:=Hx h c hc
 unfold Ww at h1
 by_cases h2:(C4 T V c.cond != 0)=true
 · rw [if_pos h2] at h1;rw [h1] at h2;cases h2
 ·
  have hk:=(Nh (by simpa using h2)).1
  exact ⟨hk.kok,Kv hk⟩
theorem nX {l:List Lit}(h:(Ez T V l != 0)=false):Q9 T V l∧l.length≤256:=by
 have h0:Ez T V l=0:=by simpa using h
 unfold Ez at h0
 by_cases h1:((Cf T V (E4 true)).2 != 0)=true
 · rw [if_pos h1] at h0;rw [h0] at h1;cases h1
 ·
  rw [if_neg h1] at h0
  by_cases h2:decide ((256:Int)<(l.length:Int))=true
  · rw [if_pos h2] at h0;cases h0
  ·
   rw [if_neg h2] at h0
   exact ⟨xI h0,by simp at h2;omega⟩
theorem Ys {l:Lit}(h:(l.cond.op==1)=true):Aa T V l=(⟨[Dh l.cond],[],0⟩,true):=by rw [Aa,if_pos h]
theorem bS {l:Lit}(h:(l.cond.op==1)=false)(h2:(!Cc l.cond||C0 T V l.cond)=true):Aa T V l=(oI,false):=by rw [Aa,Cu h,if_pos h2]
theorem cD {l:Lit}(h:(l.cond.op==1)=false)(h2:(!Cc l.cond||C0 T V l.cond)=false):Aa T V l=Bu (Ap l.cond) (B3 l.cond):=by rw [Aa,Cu h,Cu h2]
theorem Qu {l:Lit}(h2:(!Cc l.cond||C0 T V l.cond)=false):Cc l.cond=true:=by
 cases hq:Cc l.cond with
 | true=>rfl
 | false=>rw [hq] at h2;simp at h2
theorem yD {t:Tm}(h:(t.op==2)=true):Cw T V t=(0,1099511627776):=by rw [Cw,if_pos h]
theorem yI {t:Tm}(h:(t.op==2)=false)(h2:(Ak T V (Hs t)==1)=true):Cw T V t=(0,1):=by rw [Cw,Cu h,if_pos h2]
theorem zC {t:Tm}(h:(t.op==2)=false)(h2:(Ak T V (Hs t)==1)=false):Cw T V t=(-1099511627776,1099511627776):=by rw [Cw,Cu h,Cu h2]

theorem Yb (e:Ex):KOK T V e→∀{b:Int} {s:Su},(∀p∈s.ts,KOK T V (Hs p.1))→∀p∈(A5 e b s).1.ts,KOK T V (Hs p.1):=by
  refine Ex.Aa8 (P:=fun e=>KOK T V e→∀{b:Int} {s:Su},(∀p∈s.ts,KOK T V (Hs p.1))→∀p∈(A5 e b s).1.ts,KOK T V (Hs p.1)) (fun e ih hk b s hs=>?_) e
  have hz:=A9 hk.nodes
  rcases Ka hz.1 with h | ⟨h,h1⟩ | ⟨h,hl⟩ | ⟨h,h1,h2,h3⟩
  · rw [D2 h];exact hs
  · rw [Bs h h1]
    intro p hp
    have key:∀{ts:List (Tm×Int)},(∀p∈ts,KOK T V (Hs p.1))→∀p∈He (Dh e) b ts,KOK T V (Hs p.1):=by
      intro ts
      induction ts with
      | nil=>intro _ p hp;rw [He,List.mem_singleton] at hp;rw [hp];rw [Lw hz.1 h1];exact hk
      | cons q r ihr=>
        intro hts p hp
        rw [He] at hp
        split at hp
        · rcases List.mem_cons.1 hp with rfl | hp
          · exact hts q (List.mem_cons_self ..)
          · exact hts p (List.mem_cons_of_mem _ hp)
        · rcases List.mem_cons.1 hp with rfl | hp
          · exact hts p (List.mem_cons_self ..)
          · exact ihr (fun p hp=>hts p (List.mem_cons_of_mem _ hp)) p hp
    exact key hs p hp
  · have m0:=Ax (show 0<e.args.length by omega)
    have m1:=Bf hl
    have key:∀c,∀p∈(if !(A5 (Ap e) b s).2 then ((A5 (Ap e) b s).1,false) else A5 (B3 e) c (A5 (Ap e) b s).1).1.ts,KOK T V (Hs p.1):=fun c=>by
      have i0:=ih _ m0 (An hk m0) (b:=b) hs
      split
      · exact i0
      · exact ih _ m1 (An hk m1) i0
    rcases h with h | h
    · rw [G6 (c:=b) hl (.inl ⟨h,rfl⟩)];exact key b
    · rw [G6 (c:=0-b) hl (.inr ⟨h,rfl⟩)];exact key _
  · rw [Eb h h1 h2 h3];exact hs
theorem H4 {P:Tm→Prop}:∀{ts:List (Tm×Int)} {p m p' m':List Tm},(∀t∈ts,P t.1)→(∀t∈p,P t)→(∀t∈m,P t)→C2 ts p m=some (p',m')→(∀t∈p',P t)∧∀t∈m',P t
  | [],p,m,p',m',_,hp,hm,h=>by rw [C2] at h;cases h;exact ⟨hp,hm⟩
  | t::r,p,m,p',m',ht,hp,hm,h=>by
    rw [C2] at h
    have hr:∀t∈r,P t.1:=fun x hx=>ht x (List.mem_cons_of_mem _ hx)
    have h0:P t.1:=ht t (List.mem_cons_self ..)
    have snoc:∀{l:List Tm},(∀t∈l,P t)→∀x∈l ++ [t.1],P x:=fun hl x hx=>by
      rcases List.mem_append.1 hx with h | h
      · exact hl x h
      · rw [List.mem_singleton.1 h];exact h0
    split at h
    · exact H4 hr hp hm h
    · split at h
      · exact H4 hr (snoc hp) hm h
      · split at h
        · exact H4 hr hp (snoc hm) h
        · cases h
theorem Zx {a b:Ex}(ha:KOK T V a)(hb:KOK T V b):∀p∈(Cr a b).ts,KOK T V (Hs p.1):=by
 have h1:=Yb a ha (b:=1) (s:=H9) (fun p hp=>by cases hp)
 unfold Cr
 split
 · exact h1
 · exact Yb b hb h1
structure GOK (T:List Sc) (V:List Va) (g:Gp):Prop where
 plus:∀t∈g.plus,KOK T V (Hs t)
 minus:∀t∈g.minus,KOK T V (Hs t)
 rest : -140737488355328≤g.rest∧g.rest≤140737488355328
 lp:g.plus.length≤128
 lm:g.minus.length≤128
theorem aD:GOK T V oI:=⟨fun t h=>(by cases h),fun t h=>(by cases h),by simp [oI],by simp [oI],by simp [oI]⟩
theorem N6:∀{ts:List (Tm×Int)} {p m p' m':List Tm},C2 ts p m=some (p',m')→p'.length≤p.length+ts.length∧m'.length≤m.length+ts.length
  | [],p,m,p',m',h=>by rw [C2] at h;cases h;simp
  | t::r,p,m,p',m',h=>by
    rw [C2] at h
    split at h
    · have:=N6 h;simp only [List.length_cons];omega
    · split at h
      · have:=N6 h;simp only [List.length_cons,List.length_append,List.length_nil] at this ⊢;omega
      · split at h
        · have:=N6 h;simp only [List.length_cons,List.length_append,List.length_nil] at this ⊢;omega
        · cases h
theorem fN {a b:Ex}(ha:KOK T V a)(hb:KOK T V b)(hs:Av a+Av b≤128):GOK T V (Bu a b).1:=by
  unfold Bu
  split
  · exact aD
  rename_i h1
  split
  · exact aD
  rename_i h2
  have he:(A5 b (-1) (A5 a 1 H9).1).1=Cr a b:=by unfold Cr;rw [if_neg h1]
  rw [he]
  have ho:=Xw ha.nodes hb.nodes
  unfold Mk
  cases hp:C2 (Cr a b).ts [] [] with
  | none=>exact aD
  | some p=>
    obtain ⟨p,m⟩:=p
    obtain ⟨t1,t2⟩:=H4 (P:=fun t=>KOK T V (Hs t)) (Zx ha hb) (fun t h=>by cases h) (fun t h=>by cases h) hp
    obtain ⟨l1,l2⟩:=N6 hp
    have hr:=ho.rest
    have hl:=ho.len
    simp only [List.length_nil,Nat.zero_add] at l1 l2
    exact ⟨t1,t2,by simp only;omega,by simp only;omega,by simp only;omega⟩
theorem Pb {l:Lit}(hk:KOK T V l.cond)(hs:Av l.cond≤64):GOK T V (Aa T V l).1:=by
  cases h:l.cond.op==1 with
  | true=>
    rw [Ys h]
    refine ⟨fun t ht=>?_,fun t ht=>(by cases ht),by simp,by simp,by simp⟩
    rw [List.mem_singleton.1 ht,Lw (A9 hk.nodes).1 (by rw [h];rfl)]
    exact hk
  | false=>
    cases h2:(!Cc l.cond||C0 T V l.cond) with
    | true=>rw [bS h h2];exact aD
    | false=>
      rw [cD h h2]
      have hl:=Jt hk (Qu h2)
      have hs2:=Da hl
      exact fN (An hk (Ax (by omega))) (An hk (Bf hl)) (by omega)
end

def sW:Nat→List Tm→List (List AV×AV)
 | _,[]=>[]
 | i,t::r=>(G2 t,.int .i64 ((i:Int)+1))::sW (i+1) r
def Rq (ts:List Tm):List (List AV×AV):=sW 0 ts
theorem pA (t:Tm):∀(ts:List Tm) (i:Nat),∀p∈sW i ts,F0 TL [(0,1,true,3),(1,1,true,3),(2,1,true,3)] (G2 t) p.1=some (Gc t p.1)
  | [],_,p,hp=>by cases hp
  | u::r,i,p,hp=>by
    rw [sW] at hp
    rcases List.mem_cons.1 hp with rfl | hp
    · show F0 TL _ (G2 t) (G2 u)=some (Gc t (G2 u));rw [Za,Qd]
    · exact pA t r (i+1) p hp
theorem aF (t:Tm)(ts:List Tm):∀p∈Rq ts,F0 TL [(0,1,true,3),(1,1,true,3),(2,1,true,3)] (G2 t) p.1=some (Gc t p.1):=pA t ts 0
theorem jL (t:Tm):∀(ts:List Tm) (i:Nat),F5 (Gc t) (sW i ts)=if ts.contains t then some (.int .i64 ((i:Int)+(ts.idxOf t:Nat)+1)) else none
  | [],_=>rfl
  | u::r,i=>by
    rw [sW,F5,Qd,jL t r (i+1),List.contains_cons,List.idxOf_cons]
    cases hq:Zi t u with
    | true=>
      have:=Jy.1 hq
      subst this
      simp
    | false=>
      have hne:t≠u:=fun h=>by rw [Jy.2 h] at hq;cases hq
      have h1:(t==u)=false:=by simpa using hne
      have h2:(u==t)=false:=by simpa using Ne.symm hne
      rw [h1,h2]
      simp only [Bool.false_or,cond_false,Bool.false_eq_true,if_false]
      split
      · congr 2;push_cast;omega
      · rfl
theorem Qk (t:Tm)(ts:List Tm):F5 (Gc t) (Rq ts)=if ts.contains t then some (.int .i64 (((ts.idxOf t:Nat):Int)+1)) else none:=by
 unfold Rq
 rw [jL]
 simp
theorem pZ (t:Tm)(ts:List Tm):(F5 (Gc t) (Rq ts)).isSome=ts.contains t:=by
 rw [Qk];cases ts.contains t <;> rfl
theorem nP {t:Tm}{ts:List Tm}(h:ts.contains t=false):F5 (Gc t) (Rq ts)=none:=by rw [Qk,h];rfl
theorem fA (t:Tm):∀(ts:List Tm) (i:Nat),sW i (ts ++ [t])=sW i ts ++ [(G2 t,.int .i64 ((i:Int)+ts.length+1))]
  | [],i=>by simp [sW]
  | u::r,i=>by
    rw [List.cons_append,sW,sW,fA t r (i+1)]
    simp only [List.cons_append,List.length_cons]
    rw [show ((i+1:Nat):Int)+(r.length:Int)+1=(i:Int)+((r.length+1:Nat):Int)+1 by omega]
theorem mU (t:Tm)(ts:List Tm):Rq (ts ++ [t])=Rq ts ++ [(G2 t,.int .i64 ((ts.length:Int)+1))]:=by
 unfold Rq;rw [fA];simp
theorem look_y {t:Tm}{ts:List Tm}(h:ts.contains t=true):match F5 (Gc t) (Rq ts) with | some y=>y = .int .i64 (((ts.idxOf t:Nat):Int)+1) | none=>[AV.int .i64 0] = [.int .i64 (((ts.idxOf t:Nat):Int)+1)]:=by
 rw [Qk,if_pos h]
theorem xP (t:Tm)(ts:List Tm):match F5 (Gc t) (Rq ts) with | some y=>y = .int .i64 (if ts.contains t then ((ts.idxOf t:Nat):Int)+1 else 0) | none=>[AV.int .i64 0] = [.int .i64 (if ts.contains t then ((ts.idxOf t:Nat):Int)+1 else 0)]:=by
 rw [Qk]
 cases ts.contains t <;> rfl
theorem Uc (t:Tm)(l ts:List Tm):(Ar ts (t::l)).contains t=true:=by
 unfold Ar
 simp only
 split
 · assumption
 · simp
theorem mM {t:Tm}{l ts:List Tm}(h:ts.contains t=false):Ar ts (t::l)=ts ++ [t]:=by unfold Ar;simp only;rw [h];rfl
theorem nL {t:Tm}{l ts:List Tm}(h:ts.contains t=true):Ar ts (t::l)=ts:=by unfold Ar;simp only;rw [if_pos h]
theorem addTm_nil {ts:List Tm}:Ar ts []=ts:=rfl
theorem N3 (ts l:List Tm):(Ar ts l).length≤ts.length+1:=by
 cases l with
 | nil=>simp [Ar]
 | cons t r=>unfold Ar;simp only;split <;> simp
theorem J6 {P:Tm→Prop}{ts l:List Tm}(h:∀t∈ts,P t)(hl:∀t∈l,P t):∀t∈Ar ts l,P t:=by
  cases l with
  | nil=>exact h
  | cons t r=>
    unfold Ar
    simp only
    split
    · exact h
    · intro u hu
      rcases List.mem_append.1 hu with hu | hu
      · exact h u hu
      · rw [List.mem_singleton.1 hu];exact hl t (List.mem_cons_self ..)
abbrev eI (m yb:Nat)(v:Value)(c0 c1:AV)(ts:List Tm)(R:List HO):List HO:=.row v (ts.map G2).length 103 3 :: .box yb 101 [c0,c1,.row v 3 (ts.map G2),.val (.map (some m))] :: .kmap m (Rq ts)::R
theorem xH {m yb:Nat}{v:Value}{c0 c1:AV}{ts l:List Tm}{t:Tm}{R:List HO}(h:ts.contains t=true):eI m yb v c0 c1 ts R=eI m yb v c0 c1 (Ar ts (t::l)) R:=by rw [nL h]
theorem tR {m yb:Nat}{v:Value}{c0 c1:AV}{ts l:List Tm}{t:Tm}{R:List HO}(h:ts.contains t=false) :
  (HO.row v (ts.map G2 ++ [G2 t]).length 103 3 :: .box yb 101 [c0,c1,.row v 3 (ts.map G2 ++ [G2 t]),.val (.map (some m))] :: .kmap m (Rq ts ++ [(G2 t,.int .i64 ((ts.length:Int)+1))])::R)=eI m yb v c0 c1 (Ar ts (t::l)) R:=by
 rw [mM h]
 simp only [eI]
 rw [mU,List.map_append];rfl
theorem num_old {t:Tm}{l ts:List Tm}:Bv (Ar ts (t::l)) (t::l)=(((Ar ts (t::l)).idxOf t:Nat):Int)+1:=rfl
section
variable {T:List Sc} {V:List Va}
theorem Jh {s:Sy}{c:Lit}(h:(!(Aa T V c).2)=true):Cq T V s c=s:=by rw [Cq,if_pos h]
theorem Jc {s:Sy}{c:Lit}(h:(!(Aa T V c).2)=false):Cq T V s c=⟨Ar (Ar s.ts (Aa T V c).1.plus) (Aa T V c).1.minus,
 s.bs++Dk c (Bv (Ar s.ts (Aa T V c).1.plus) (Aa T V c).1.plus) (Bv (Ar (Ar s.ts (Aa T V c).1.plus) (Aa T V c).1.minus) (Aa T V c).1.minus) (Aa T V c).1.rest⟩:=by rw [Cq,Cu h]
theorem eV {l:List Lit}{k:Nat}{c:Lit}(h:l[k]? = some c):Bz T V (l.take (k+1))=Cq T V (Bz T V (l.take k)) c:=by
 unfold Bz
 rw [Cx h,List.foldl_append];rfl
theorem gQ (c:Lit)(x z rest:Int):(Dk c x z rest).length≤2:=by
 unfold Dk
 repeat' split
 all_goals simp
structure syOK (T:List Sc) (V:List Va) (n:Nat) (s:Sy):Prop where
 len:s.ts.length≤2*n
 bnds:s.bs.length≤2*n
 terms:∀t∈s.ts,KOK T V (Hs t)
theorem rR:∀{l:List Lit},Q9 T V l→∀{n:Nat} {s:Sy},syOK T V n s→syOK T V (n+l.length) (l.foldl (Cq T V) s)
  | [],_,n,s,hs=>hs
  | c::r,hl,n,s,hs=>by
    rw [List.foldl_cons,List.length_cons,show n+(r.length+1)=(n+1)+r.length by omega]
    refine rR (fun x hx=>hl x (List.mem_cons_of_mem _ hx)) ?_
    cases h : !(Aa T V c).2 with
    | true=>rw [Jh h];exact ⟨by have:=hs.len;omega,by have:=hs.bnds;omega,hs.terms⟩
    | false=>
      rw [Jc h]
      have hg:=Pb (hl c (List.mem_cons_self ..)).1 (hl c (List.mem_cons_self ..)).2
      refine ⟨?_,?_,?_⟩
      · have h1:=N3 s.ts (Aa T V c).1.plus
        have h2:=N3 (Ar s.ts (Aa T V c).1.plus) (Aa T V c).1.minus
        have:=hs.len
        simp only;omega
      · simp only [List.length_append]
        have:=gQ c (Bv (Ar s.ts (Aa T V c).1.plus) (Aa T V c).1.plus) (Bv (Ar (Ar s.ts (Aa T V c).1.plus) (Aa T V c).1.minus) (Aa T V c).1.minus) (Aa T V c).1.rest
        have:=hs.bnds
        omega
      · exact J6 (J6 hs.terms hg.plus) hg.minus
theorem J7 {l:List Lit}(h:Q9 T V l):syOK T V l.length (Bz T V l):=by
 have:=rR h (n:=0) (s:=⟨[],[]⟩) ⟨by simp,by simp,fun t ht=>by cases ht⟩
 rw [Nat.zero_add] at this
 exact this
theorem sT {l:List Lit}(h:Q9 T V l)(k:Nat):Q9 T V (l.take k):=fun c hc=>h c (List.mem_of_mem_take hc)
theorem dT:∀(ts:List Tm) (i:Nat) (t:Tm),Gu T V i (ts ++ [t])=Gu T V i ts ++ [⟨(i:Int)+ts.length+1,0,(Cw T V t).2⟩,⟨0,(i:Int)+ts.length+1,0-(Cw T V t).1⟩]
  | [],i,t=>by simp [Gu]
  | u::r,i,t=>by
    rw [List.cons_append,Gu,Gu,dT r (i+1) t]
    simp only [List.cons_append,List.length_cons]
    rw [show ((i+1:Nat):Int)+(r.length:Int)+1=(i:Int)+((r.length+1:Nat):Int)+1 by omega]
theorem pQ {ts:List Tm}{k:Nat}{t:Tm}(h:ts[k]? = some t):Gu T V 0 (ts.take (k+1))=Gu T V 0 (ts.take k) ++ [⟨(k:Int)+1,0,(Cw T V t).2⟩,⟨0,(k:Int)+1,0-(Cw T V t).1⟩]:=by
 have hl:=Bh h
 rw [Cx h,dT]
 simp [Nat.min_eq_left (Nat.le_of_lt hl)]
theorem Tk:∀(ts:List Tm) (i:Nat),(Gu T V i ts).length=2*ts.length
 | [],i=>rfl
 | t::r,i=>by rw [Gu];simp only [List.length_cons,Tk r (i+1)];omega
theorem Lu (t:Tm) : -1099511627776≤(Cw T V t).1∧(Cw T V t).1≤1099511627776∧-1099511627776≤(Cw T V t).2∧(Cw T V t).2≤1099511627776:=by
 unfold Cw
 repeat' split
 all_goals simp
def oF (T:List Sc)(V:List Va)(l:List Lit):List AV:=[.int .i64 (A7 T V l).n,.sl 3 ((A7 T V l).bs.map Ml),.sl 3 ((Bz T V l).ts.map G2),.junk]
theorem uN {α:Type}{l:List α}(h:(((l.length:Nat):Int)==0)=false):∃t r,l=t::r:=by
 cases l with
 | nil=>cases h
 | cons t r=>exact ⟨t,r,rfl⟩
theorem Aaz {α:Type}{l:List α}(h:(((l.length:Nat):Int)==0)=true):l = []:=by
 cases l with
 | nil=>rfl
 | cons t r=>simp at h;omega
theorem zS {a b:List AV}(h1:Bg a=true)(h2:Bg b=true):∀c∈[a,b],Bg c=true:=fun c hc=>by
 rcases List.mem_cons.1 hc with rfl | hc
 · exact h1
 · rw [List.mem_singleton.1 hc];exact h2
theorem bd_1 {c:Lit}{x z r:Int}(h:(c.cond.op==1&&c.neg)=true):Dk c x z r = [⟨x,z,0-r⟩]:=by rw [Dk,if_pos (by rw [h];rfl)]
theorem bd_2 {c:Lit}{x z r:Int}(h:(c.cond.op==8 && !c.neg)=true):Dk c x z r = [⟨x,z,0-r⟩]:=by rw [Dk,if_pos (by rw [h];simp)]
theorem oQ {c:Lit}{x z r:Int}(h:(c.cond.op==1&&c.neg)=false)(h2:(c.cond.op==8 && !c.neg)=false):Dk c x z r=if c.cond.op==1||c.cond.op==8 then [⟨z,x,r-1⟩] else if c.cond.op==7 && !c.neg then [⟨x,z,0-r-1⟩] else if c.cond.op==7 then [⟨z,x,r⟩] else [⟨x,z,0-r⟩,⟨z,x,r⟩]:=by
 rw [Dk,Cu (by rw [h,h2];rfl)]
theorem bd_3 {c:Lit}{x z r:Int}(h:(c.cond.op==1&&c.neg)=false)(h2:(c.cond.op==8 && !c.neg)=false)(h3:(c.cond.op==1)=true):Dk c x z r = [⟨z,x,r-1⟩]:=by rw [oQ h h2,if_pos (by rw [h3];rfl)]
theorem bd_4 {c:Lit}{x z r:Int}(h:(c.cond.op==1&&c.neg)=false)(h2:(c.cond.op==8 && !c.neg)=false)(h3:(c.cond.op==8)=true):Dk c x z r = [⟨z,x,r-1⟩]:=by rw [oQ h h2,if_pos (by rw [h3];simp)]
theorem bd_5 {c:Lit}{x z r:Int}(h:(c.cond.op==1&&c.neg)=false)(h2:(c.cond.op==8 && !c.neg)=false)(h3:(c.cond.op==1)=false)(h4:(c.cond.op==8)=false)(h5:(c.cond.op==7 && !c.neg)=true):Dk c x z r = [⟨x,z,0-r-1⟩]:=by rw [oQ h h2,Cu (by rw [h3,h4];rfl),if_pos h5]
theorem bd_6 {c:Lit}{x z r:Int}(h:(c.cond.op==1&&c.neg)=false)(h2:(c.cond.op==8 && !c.neg)=false)(h3:(c.cond.op==1)=false)(h4:(c.cond.op==8)=false)(h5:(c.cond.op==7 && !c.neg)=false)(h6:(c.cond.op==7)=true):Dk c x z r = [⟨z,x,r⟩]:=by rw [oQ h h2,Cu (by rw [h3,h4];rfl),Cu h5,if_pos h6]
theorem bd_7 {c:Lit}{x z r:Int}(h:(c.cond.op==1&&c.neg)=false)(h2:(c.cond.op==8 && !c.neg)=false)(h3:(c.cond.op==1)=false)(h4:(c.cond.op==8)=false)(h5:(c.cond.op==7 && !c.neg)=false)(h6:(c.cond.op==7)=false):Dk c x z r = [⟨x,z,0-r⟩,⟨z,x,r⟩]:=by rw [oQ h h2,Cu (by rw [h3,h4];rfl),Cu h5,Cu h6]
theorem Aaf {l:List Lit}{s:Sy}{eZ eB:List (List AV)}(h:s=Bz T V l)(hz:eZ=(Gu T V 0 s.ts).map Ml)(hb:eB=s.bs.map Ml):AV.ptr [.int .i64 ((s.ts.length:Int)+1),.sl 3 (eZ++eB),.sl 3 (s.ts.map G2),.junk] = .ptr (oF T V l):=by
 rw [hz,hb,←List.map_append,h];rfl
theorem Kk {l:List Lit}{k:Nat}{c:Lit}{s:Sy}{bs:List Bd}(h:l[k]? = some c)(hs:s=Bz T V (l.take k))(hn:(!(Aa T V c).2)=false)
  (hb:Dk c (Bv (Ar s.ts (Aa T V c).1.plus) (Aa T V c).1.plus) (Bv (Ar (Ar s.ts (Aa T V c).1.plus) (Aa T V c).1.minus) (Aa T V c).1.minus) (Aa T V c).1.rest=bs) :
  (⟨Ar (Ar s.ts (Aa T V c).1.plus) (Aa T V c).1.minus,s.bs++bs⟩:Sy)=Bz T V (l.take (k+1)):=by
 rw [eV h,←hs,Jc hn,hb]
theorem oR {l:List Lit}{k:Nat}{c:Lit}{s:Sy}(h:l[k]? = some c)(hs:s=Bz T V (l.take k))(hn:(!(Aa T V c).2)=true):s=Bz T V (l.take (k+1)):=by
 rw [eV h,←hs,Jh hn]
theorem K5 {s:List Bd}{e:List (List AV)}{b:Bd}(h:e=s.map Ml):e ++ [Ml b]=(s ++ [b]).map Ml:=by rw [h,List.map_append];rfl
theorem mQ {s:List Bd}{e:List (List AV)}{b c:Bd}(h:e=s.map Ml):(e ++ [Ml b]) ++ [Ml c]=(s ++ [b,c]).map Ml:=by rw [h,List.map_append,List.append_assoc];rfl
theorem mF {ts l:List Tm}{n:Nat}(h:ts.length≤n):0≤Bv ts l∧Bv ts l≤(n:Int)+1:=by
  unfold Bv
  cases l with
  | nil=>simp only;omega
  | cons t r=>
    simp only
    have:ts.idxOf t≤ts.length:=List.idxOf_le_length
    omega
theorem zU {l:List Lit}(h:(Ez T V l != 0)=true):Mm T V l=⟨zn0,[],Ez T V l⟩:=by rw [Mm,if_pos h]
theorem zG {l:List Lit}(h:(Ez T V l != 0)=false)(h2:(!Ha (A7 T V l))=true):Mm T V l=⟨zn0,[],17⟩:=by rw [Mm,Cu h,if_pos h2]
theorem Aae {l:List Lit}(h:(Ez T V l != 0)=false)(h2:(!Ha (A7 T V l))=false):Mm T V l=⟨A7 T V l,(Bz T V l).ts.map Hs,0⟩:=by rw [Mm,Cu h,Cu h2]
end
end Go.Proofs.YtjedflcpjlgokaaGreatDoor
