/-
  Several texts in one: S19, S20, S21. No condition.
-/
import Derived.Test.YtkddpedfbicbeaaGreatDoorK15
import Derived.Test.YtkddpedfbicbeaaGreatDoorK04
set_option linter.unusedVariables false
set_option linter.unusedSimpArgs false
namespace Go.Proofs.YtkddpedfbicbeaaGreatDoor
open Go Go.Aw

theorem iB:∀g w u,Rep g w u (.sl 1 [[.val (.slice none 0 0)]])→Rep g w u (.sl 1 [[.sl 9 []]]):=fun g w u h=>by
  cases h with
  | sl b o n cap z es hn hc hm hz f hs hr=>
    refine .sl b o n cap 1 _ hn hc hm (fun e he=>by rw [List.mem_singleton.1 he];rfl) f (fun i e hi j x hj=>?_) (fun i e hi j x hj=>?_)
    · cases i with
      | succ i=>simp at hi
      | zero=>
        cases j with
        | succ j=>simp at hi;subst hi;simp at hj
        | zero=>exact hs 0 _ rfl 0 _ rfl
    · cases i with
      | succ i=>simp at hi
      | zero=>
        cases j with
        | succ j=>simp at hi;subst hi;simp at hj
        | zero=>
          simp at hi;subst hi;simp at hj;subst hj
          have:=(hr 0 _ rfl 0 _ rfl).inv_val
          rw [this];exact .sl0 _ _ _ (Nat.zero_le _)

theorem nW {α:Type}{a b:List (List α)}(h:decide ((256:Int)<(a.length:Int)*(b.length:Int))=true):Na a b=([],false):=by rw [Na,if_pos h]
theorem Xn {α:Type}{a b:List (List α)}(h:decide ((256:Int)<(a.length:Int)*(b.length:Int))=false):Na a b=(a.flatMap fun x=>b.map fun y=>x++y,true):=by rw [Na,Cz h]
theorem sT {α:Type}{a b:List (List α)}{k:Nat}{x:List α}(h:a[k]? = some x):((a.take (k+1)).flatMap fun x=>b.map fun y=>x++y)=((a.take k).flatMap fun x=>b.map fun y=>x++y)++b.map fun y=>x++y:=by
 rw [Cm h,List.flatMap_append];simp
theorem gZ {α:Type}(a b:List (List α)):(a.flatMap fun x=>b.map fun y=>x++y).length=a.length*b.length:=by
 induction a with
 | nil=>simp
 | cons x r ih=>rw [List.flatMap_cons,List.length_append,ih,List.length_map,List.length_cons,Nat.succ_mul];omega
theorem prod_le {α:Type}{a b:List (List α)}{k j:Nat}(hk:k<a.length)(hj:j<b.length)(h:decide ((256:Int)<(a.length:Int)*(b.length:Int))=false):k*b.length+j<256:=by
 have h1:a.length*b.length≤256:=by
  have:¬(256:Int)<(a.length:Int)*(b.length:Int):=by simpa using h
  have h2:((a.length*b.length:Nat):Int)=(a.length:Int)*(b.length:Int):=by simp
  omega
 have h2:(k+1)*b.length≤a.length*b.length:=Nat.mul_le_mul_right _ hk
 rw [Nat.succ_mul] at h2
 omega
theorem gH {a b:Cs}(h:(!a.2 || !b.2)=true):Ee a b=([],false):=by rw [Ee,if_pos h]
theorem Tq {a b:Cs}(h:(!a.2 || !b.2)=false):Ee a b=Na a.1 b.1:=by rw [Ee,Cz h]
theorem oY {a b:Cs}(h:((!a.2 || !b.2)||decide ((256:Int)<(a.1.length:Int)+(b.1.length:Int)))=true):Ii a b=([],false):=by rw [Ii,if_pos h]
theorem Yh {a b:Cs}(h:((!a.2 || !b.2)||decide ((256:Int)<(a.1.length:Int)+(b.1.length:Int)))=false):Ii a b=(a.1++b.1,true):=by rw [Ii,Cz h]

structure csOK (n:Nat) (c:Cs):Prop where
 len:c.1.length≤256
 lits:∀x∈c.1,x.length≤n
theorem csOK.mono {n m:Nat}{c:Cs}(h:csOK n c)(hm:n≤m):csOK m c:=⟨h.len,fun x hx=>Nat.le_trans (h.lits x hx) hm⟩
theorem dP {n:Nat}:csOK n ([],false):=⟨Nat.zero_le _,fun x hx=>by cases hx⟩
theorem Kg {n m:Nat}{a b:Cs}(ha:csOK n a)(hb:csOK m b):csOK (n+m) (Ee a b):=by
 unfold Ee
 split
 · exact dP
 ·
  unfold Na
  split
  · exact dP
  ·
   rename_i h
   refine ⟨?_,fun x hx=>?_⟩
   ·
    show (a.1.flatMap fun x=>b.1.map fun y=>x++y).length≤256
    rw [gZ]
    have h1:¬(256:Int)<(a.1.length:Int)*(b.1.length:Int):=by simpa using h
    have h2:((a.1.length*b.1.length:Nat):Int)=(a.1.length:Int)*(b.1.length:Int):=by simp
    omega
   ·
    obtain ⟨y,hy,hm⟩:=List.mem_flatMap.1 hx
    obtain ⟨z,hz,rfl⟩:=List.mem_map.1 hm
    have:=ha.lits y hy
    have:=hb.lits z hz
    rw [List.length_append];omega
theorem pG {n:Nat}{a b:Cs}(ha:csOK n a)(hb:csOK n b):csOK n (Ii a b):=by
 unfold Ii
 split
 · exact dP
 ·
  rename_i h
  refine ⟨?_,fun x hx=>?_⟩
  ·
   show (a.1++b.1).length≤256
   simp at h
   rw [List.length_append];omega
  ·
   rcases List.mem_append.1 hx with h | h
   · exact ha.lits x h
   · exact hb.lits x h
section
variable {T:List Sc} {V:List Va}
abbrev NF0:G8:=fun _=>([],false)
theorem Fl {e:Ex}{s:Bool}(h:(e.op==0)=true)(h1:((e.val.num==1)==s)=true):C4 T V e s=([[]],true):=by rw [Jj,Or,if_pos h,if_pos h1]
theorem Fh {e:Ex}{s:Bool}(h:(e.op==0)=true)(h1:((e.val.num==1)==s)=false):C4 T V e s=([],true):=by rw [Jj,Or,if_pos h,Cz h1]
theorem Fo {e:Ex}{s:Bool}(hl:0<e.args.length)(h:(e.op==12)=true):C4 T V e s=C4 T V (Ao e) (!s):=by
 rw [Jj,Or,Cz (by simp at h ⊢;omega),if_pos h,K7 _ _ hl]
theorem Fk {e:Ex}{s:Bool}(hl:1<e.args.length)(h:(e.op==10||e.op==11)=true)(h1:((e.op==10)==s)=true):C4 T V e s=Ee (C4 T V (Ao e) s) (C4 T V (Bj e) s):=by
 rw [Jj,Or,Cz (by simp at h ⊢;omega),Cz (by simp at h ⊢;omega),if_pos h,if_pos h1,K7 _ _ (by omega),L1 _ _ hl]
theorem Fg {e:Ex}{s:Bool}(hl:1<e.args.length)(h:(e.op==10||e.op==11)=true)(h1:((e.op==10)==s)=false):C4 T V e s=Ii (C4 T V (Ao e) s) (C4 T V (Bj e) s):=by
 rw [Jj,Or,Cz (by simp at h ⊢;omega),Cz (by simp at h ⊢;omega),if_pos h,Cz h1,K7 _ _ (by omega),L1 _ _ hl]
theorem Fj {e:Ex}{s:Bool}(hl:1<e.args.length)(h:(e.op==9)=true)(h1:(Am T V (Ao e)==1)=true) :
  C4 T V e s=Ii (Ee (C4 T V (Ao e) true) (C4 T V (Bj e) s)) (Ee (C4 T V (Ao e) false) (C4 T V (Bj e) (!s))):=by
 rw [Jj,Or,Cz (by simp at h ⊢;omega),Cz (by simp at h ⊢;omega),Cz (by simp at h ⊢;omega),if_pos (by rw [h,h1];rfl),K7 _ _ (by omega),L1 _ _ hl]
theorem Fq {e:Ex}{s:Bool}(h:(e.op==9)=true)(h1:(Am T V (Ao e)==1)=false)(h2:(Am T V (Ao e)==0 && !s)=true) :
  C4 T V e s=Dz [⟨two 7 (Ao e) (Bj e),false⟩,⟨two 7 (Bj e) (Ao e),false⟩]:=by
 rw [Jj,Or,Cz (by simp at h ⊢;omega),Cz (by simp at h ⊢;omega),Cz (by simp at h ⊢;omega),Cz (by rw [h1,Bool.and_false]),if_pos (by rw [h,h2];rfl)]
theorem Io {e:Ex}{s:Bool}(h:(e.op==9)=true)(h1:(Am T V (Ao e)==1)=false)(h2:(Am T V (Ao e)==0 && !s)=false):C4 T V e s=Dz [⟨e,!s⟩]:=by
 rw [Jj,Or,Cz (by simp at h ⊢;omega),Cz (by simp at h ⊢;omega),Cz (by simp at h ⊢;omega),Cz (by rw [h1,Bool.and_false]),Cz (by rw [h2,Bool.and_false])]
theorem Kq {e:Ex}{s:Bool}(h0:(e.op==0)=false)(h12:(e.op==12)=false)(h10:(e.op==10||e.op==11)=false)(h:(e.op==9)=false):C4 T V e s=Dz [⟨e,!s⟩]:=by
 rw [Jj,Or,Cz h0,Cz h12,Cz h10,Cz (by rw [h];rfl),Cz (by rw [h];rfl)]
theorem Iy {e:Ex}(s:Bool)(hk:KOK T V e) :
    (e.op==0)=true∨((e.op==12)=true∧0<e.args.length)∨((e.op==10||e.op==11)=true∧1<e.args.length)∨((e.op==9)=true∧1<e.args.length∧(Am T V (Ao e)==1)=true)∨
    ((e.op==9)=true∧1<e.args.length∧(Am T V (Ao e)==1)=false∧(Am T V (Ao e)==0 && !s)=true)∨((e.op==0)=false∧(e.op==12)=false∧(e.op==10||e.op==11)=false∧C4 T V e s=Dz [⟨e,!s⟩]∧((e.op==9)=true→(Am T V (Ao e)==1)=false∧(Am T V (Ao e)==0 && !s)=false)):=by
  have hz:=Ba hk.nodes
  cases h0:e.op==0 with
  | true=>exact .inl rfl
  | false=>
  cases h12:e.op==12 with
  | true=>exact .inr (.inl ⟨rfl,mP hz.1 (eq_of_beq h12)⟩)
  | false=>
  cases h10:(e.op==10||e.op==11) with
  | true=>exact .inr (.inr (.inl ⟨rfl,E1 hz.1 (by simp at h10;omega)⟩))
  | false=>
  cases h9:e.op==9 with
  | true=>
    have hl:=E1 hz.1 (by simp at h9;omega)
    cases h1:Am T V (Ao e)==1 with
    | true=>exact .inr (.inr (.inr (.inl ⟨rfl,hl,rfl⟩)))
    | false=>
      cases h2:(Am T V (Ao e)==0 && !s) with
      | true=>exact .inr (.inr (.inr (.inr (.inl ⟨rfl,hl,rfl,rfl⟩))))
      | false=>exact .inr (.inr (.inr (.inr (.inr ⟨rfl,rfl,rfl,Io h9 h1 h2,fun _=>⟨rfl,rfl⟩⟩))))
  | false=>exact .inr (.inr (.inr (.inr (.inr ⟨rfl,rfl,rfl,Kq h0 h12 h10 h9,fun h=>Bool.noConfusion h⟩))))
theorem Fm (e:Ex):KOK T V e→∀s,csOK (Av e) (C4 T V e s):=by
 refine Ex.Aa0 (P:=fun e=>KOK T V e→∀s,csOK (Av e) (C4 T V e s)) (fun e ih hk s=>?_) e
 have hsz:1≤Av e:=by rw [Ef];omega
 rcases Iy s hk with h | ⟨h,hl⟩ | ⟨h,hl⟩ | ⟨h,hl,h1⟩ | ⟨h,hl,h1,h2⟩ | ⟨_,_,_,h,_⟩
 ·
  cases h1:((e.val.num==1)==s) with
  | true=>rw [Fl h h1];exact ⟨by simp,by simp⟩
  | false=>rw [Fh h h1];exact ⟨by simp,by simp⟩
 ·
  rw [Fo hl h]
  exact (ih _ (A4 hl) (Ax hk (A4 hl)) _).mono (Nat.le_of_lt (uY hl))
 ·
  have m0:=A4 (show 0<e.args.length by omega)
  have m1:=Bn hl
  have i0:=ih _ m0 (Ax hk m0) s
  have i1:=ih _ m1 (Ax hk m1) s
  have hs:=Dd hl
  cases h1:((e.op==10)==s) with
  | true=>rw [Fk hl h h1];exact (Kg i0 i1).mono (by omega)
  | false=>rw [Fg hl h h1];exact pG (i0.mono (by omega)) (i1.mono (by omega))
 ·
  have m0:=A4 (show 0<e.args.length by omega)
  have m1:=Bn hl
  have i0:=ih _ m0 (Ax hk m0)
  have i1:=ih _ m1 (Ax hk m1)
  have hs:=Dd hl
  rw [Fj hl h h1]
  exact pG ((Kg (i0 _) (i1 _)).mono (by omega)) ((Kg (i0 _) (i1 _)).mono (by omega))
 · rw [Fq h h1 h2];exact ⟨by simp [Dz],by simp [Dz];omega⟩
 · rw [h];exact ⟨by simp [Dz],by simp [Dz];omega⟩
def oJ (a b:List (List Lit)):Cs:=(a++b,decide (((a++b).length:Int)≤256))
def oO (a b:Cs)(times:Bool):Cs:=if !a.2 || !b.2 then ([],false) else if times then Na a.1 b.1 else oJ a.1 b.1
def equalS' (a b:Cs):Cs:=if !a.2 || !b.2 then ([],false) else oJ a.1 b.1
section
variable (T V)
def rnormN (e:Ex)(fs:List G8):G8:=fun sign=>
 if e.op==0 then (if (e.val.num==1)==sign then ([[]],true) else ([],true))
 else if e.op==12 then (Ro NF0 fs:G8) (!sign)
 else if e.op==10 then oO ((Ro NF0 fs:G8) sign) ((aY NF0 fs:G8) sign) sign
 else if e.op==11 then oO ((Ro NF0 fs:G8) sign) ((aY NF0 fs:G8) sign) (!sign)
 else if e.op==9&&Am T V (Ao e)==1 then equalS' (oO ((Ro NF0 fs:G8) true) ((aY NF0 fs:G8) sign) true) (oO ((Ro NF0 fs:G8) false) ((aY NF0 fs:G8) (!sign)) true)
 else if e.op==9&&(Am T V (Ao e)==0 && !sign) then Dz [⟨two 7 (Ao e) (Bj e),false⟩,⟨two 7 (Bj e) (Ao e),false⟩]
 else Dz [⟨e,!sign⟩]
def rnormS:Ex→G8:=Re (rnormN T V)
end
def csR (r p:Cs):Prop:=r.2=p.2∧(p.2=true→r=p)
structure rcOK (n:Nat) (c:Cs):Prop where
 len:c.1.length≤512
 lits:∀x∈c.1,x.length≤n
end

theorem Qa {e:Ex}(h:0<e.args.length):e.args[0]? = some (Ao e):=by
 unfold Ao
 cases ha:e.args with
 | nil=>rw [ha] at h;cases h
 | cons a r=>rfl
theorem Si {e:Ex}(h:1<e.args.length):e.args[1]? = some (Bj e):=by
  unfold Bj
  cases ha:e.args with
  | nil=>rw [ha] at h;cases h
  | cons a r=>
    cases r with
    | nil=>rw [ha] at h;simp at h
    | cons b r=>rfl
section
variable {T:List Sc} {V:List Va} {e:Ex}
theorem qS (h:(Dx T V e != 0)=true):Jl T V e=([],Dx T V e):=by rw [Jl,if_pos h]
theorem qC (h:(Dx T V e != 0)=false)(h2:(!(C4 T V e true).2)=true):Jl T V e=([],17):=by rw [Jl,Cz h,if_pos h2]
theorem sN (h:(Dx T V e != 0)=false)(h2:(!(C4 T V e true).2)=false):Jl T V e=((C4 T V e true).1,0):=by rw [Jl,Cz h,Cz h2]
end
section
variable {T:List Sc} {V:List Va} {e:Ex}
theorem Wc {a b:Cs}(h:(!a.2 || !b.2)=false):a.2=true∧b.2=true:=by
 cases h1:a.2 <;> cases h2:b.2 <;> simp_all
end
def F2:List Lit→List Lit→Bool
 | [],[]=>true
 | a::r,b::q=>!(a.neg != b.neg || !Li a.cond b.cond)&&F2 r q
 | _,_=>false
def J7:List (List Lit)→List (List Lit)→Bool
 | [],[]=>true
 | a::r,b::q=>F2 a b&&J7 r q
 | _,_=>false
theorem F5:∀a b:List Lit,F2 a b=true↔a=b
  | [],[]=>by simp [F2]
  | [],b::q=>by simp [F2]
  | a::r,[]=>by simp [F2]
  | a::r,b::q=>by
    have ih:=F5 r q
    rw [F2,Bool.and_eq_true,ih]
    cases a with | mk c n=>
    cases b with | mk d m=>
    have hs:=Tj c d
    cases hn:(n != m) with
    | true => have : n ≠ m := by simpa using hn
              simp [this]
    | false=>
      have:n=m:=by simpa using hn
      subst this
      cases hc:Li c d with
      | true=>simp [hs.1 hc]
      | false=>
        have:c≠d:=fun h=>by rw [hs.2 h] at hc;cases hc
        simp [this]
theorem Kd:∀a b:List (List Lit),J7 a b=true↔a=b
 | [],[]=>by simp [J7]
 | [],b::q=>by simp [J7]
 | a::r,[]=>by simp [J7]
 | a::r,b::q=>by rw [J7,Bool.and_eq_true,Kd r q,F5];simp
theorem cU {a b:List Lit}(h:((a.length:Int) != (b.length:Int))=true):F2 a b=false:=by
 rw [Bool.eq_false_iff]
 intro h1
 rw [(F5 a b).1 h1] at h;simp at h
theorem eU {a b:List (List Lit)}(h:((a.length:Int) != (b.length:Int))=true):J7 a b=false:=by
 rw [Bool.eq_false_iff]
 intro h1
 rw [(Kd a b).1 h1] at h;simp at h
theorem dH {a b:List Lit}{k:Nat}{x y:Lit}(hx:a[k]? = some x)(hy:b[k]? = some y)(h:(x.neg != y.neg || !Li x.cond y.cond)=true):F2 a b=false:=by
 rw [Bool.eq_false_iff]
 intro h1
 have:=(F5 a b).1 h1
 subst this
 rw [hx] at hy;cases hy
 rw [lQ] at h;simp at h
theorem gK {a b:List (List Lit)}{k:Nat}{x y:List Lit}(hx:a[k]? = some x)(hy:b[k]? = some y)(h:(!F2 x y)=true):J7 a b=false:=by
 rw [Bool.eq_false_iff]
 intro h1
 have:=(Kd a b).1 h1
 subst this
 rw [hx] at hy;cases hy
 rw [(F5 x x).2 rfl] at h;cases h
theorem uH {x y:Lit}(h:(x.neg != y.neg || !Li x.cond y.cond)=false):x=y:=by
 have:F2 [x] [y]=true:=by rw [F2,h];rfl
 have:=(F5 _ _).1 this
 simpa using this
theorem vX {x y:List Lit}(h:(!F2 x y)=false):x=y:=(F5 x y).1 (by simpa using h)

section
variable {T:List Sc} {V:List Va}
def Zd (T:List Sc)(V:List Va)(c:Lit):Int:=if Dx T V c.cond != 0 then Dx T V c.cond else if Cg T V c.cond||(c.neg&&(c.cond.op==9&&Am T V (Ao c.cond)==0)) then 3 else 0
theorem yV {l:List Lit}(h:((C9 T V (Fw true)).2 != 0)=true):Gg T V l=(C9 T V (Fw true)).2:=by rw [Gg,if_pos h]
theorem wS {l:List Lit}(h:((C9 T V (Fw true)).2 != 0)=false)(h2:decide ((256:Int)<(l.length:Int))=true):Gg T V l=5:=by rw [Gg,Cz h,if_pos h2]
theorem Y7 {l:List Lit}(h:((C9 T V (Fw true)).2 != 0)=false)(h2:decide ((256:Int)<(l.length:Int))=false):Gg T V l=Aq (Zd T V) l:=by rw [Gg,Cz h,Cz h2];rfl
theorem lit_1 {c:Lit}(h:(Dx T V c.cond != 0)=true):Zd T V c=Dx T V c.cond:=by rw [Zd,if_pos h]
theorem lit_2 {c:Lit}(h:(Dx T V c.cond != 0)=false)(h2:(Cg T V c.cond||((c.neg&&c.cond.op==9)&&Am T V (Ao c.cond)==0))=true):Zd T V c=3:=by
 rw [Zd,Cz h,if_pos (by rw [←Bool.and_assoc];exact h2)]
theorem lit_3 {c:Lit}(h:(Dx T V c.cond != 0)=false)(h2:(Cg T V c.cond||((c.neg&&c.cond.op==9)&&Am T V (Ao c.cond)==0))=false):Zd T V c=0:=by
 rw [Zd,Cz h,Cz (by rw [←Bool.and_assoc];exact h2)]
theorem N4 {α:Type}{f:α→Int}{l:List α}{k:Nat}{a:α}(hk:Aq f (l.take k)=0)(ha:l[k]? = some a)(h:f a≠0):Aq f l=f a:=by
  induction l generalizing k with
  | nil=>simp at ha
  | cons x r ih=>
    cases k with
    | zero => have : x = a := by simpa using ha
              subst this
              rw [Aq,if_pos (by simpa using h)]
    | succ k=>
      rw [List.take_succ_cons,Aq] at hk
      by_cases hx:(f x != 0)=true
      · rw [if_pos hx] at hk;rw [hk] at hx;cases hx
      · rw [if_neg hx] at hk
        rw [Aq,if_neg hx]
        exact ih hk (by simpa using ha)
theorem Rb {α:Type}{f:α→Int}{l:List α}{k:Nat}{a:α}(hk:Aq f (l.take k)=0)(ha:l[k]? = some a)(h:f a=0):Aq f (l.take (k+1))=0:=by
  rw [Cm ha]
  generalize l.take k=m at hk
  induction m with
  | nil=>simp [Aq,h]
  | cons x r ih=>
    rw [Aq] at hk
    by_cases hx:(f x != 0)=true
    · rw [if_pos hx] at hk;rw [hk] at hx;cases hx
    · rw [if_neg hx] at hk
      rw [List.cons_append,Aq,if_neg hx]
      exact ih hk
theorem g9c {e:Ex}(hk:KOK T V e){x b:Bool}(hG:Il [(x,false),(b&&e.op==9,true)]):1<e.args.length:=by
 have h:(b&&e.op==9)=true:=hG (b&&e.op==9,true) (by simp)
 have h9:e.op=9:=by simp at h;exact h.2
 exact E1 (Ba hk.nodes).1 (by omega)
def Un (T:List Sc)(V:List Va)(l:List Lit):Prop:=∀c∈l,KOK T V c.cond∧Av c.cond≤64
theorem Aaa {l:List Lit}(h:Aq (Zd T V) l=0):Un T V l:=fun c hc=>by
 have h1:=G3 h c hc
 unfold Zd at h1
 by_cases h2:(Dx T V c.cond != 0)=true
 · rw [if_pos h2] at h1;rw [h1] at h2;cases h2
 ·
  have hk:=(Sr (by simpa using h2)).1
  exact ⟨hk.kok,Ip hk⟩
theorem rW {l:List Lit}(h:(Gg T V l != 0)=false):Un T V l∧l.length≤256:=by
 have h0:Gg T V l=0:=by simpa using h
 unfold Gg at h0
 by_cases h1:((C9 T V (Fw true)).2 != 0)=true
 · rw [if_pos h1] at h0;rw [h0] at h1;cases h1
 ·
  rw [if_neg h1] at h0
  by_cases h2:decide ((256:Int)<(l.length:Int))=true
  · rw [if_pos h2] at h0;cases h0
  ·
   rw [if_neg h2] at h0
   exact ⟨Aaa h0,by simp at h2;omega⟩
theorem Zv {l:Lit}(h:(l.cond.op==1)=true):Aa T V l=(⟨[Dy l.cond],[],0⟩,true):=by rw [Aa,if_pos h]
theorem nA {l:Lit}(h:(l.cond.op==1)=false)(h2:(!Cr l.cond||Cl T V l.cond)=true):Aa T V l=(tL,false):=by rw [Aa,Cz h,if_pos h2]
theorem aS {l:Lit}(h:(l.cond.op==1)=false)(h2:(!Cr l.cond||Cl T V l.cond)=false):Aa T V l=B2 (Ao l.cond) (Bj l.cond):=by rw [Aa,Cz h,Cz h2]
theorem Wh {l:Lit}(h2:(!Cr l.cond||Cl T V l.cond)=false):Cr l.cond=true:=by
 cases hq:Cr l.cond with
 | true=>rfl
 | false=>rw [hq] at h2;simp at h2
theorem vY {t:Tm}(h:(t.op==2)=true):C3 T V t=(0,1099511627776):=by rw [C3,if_pos h]
theorem xH {t:Tm}(h:(t.op==2)=false)(h2:(Am T V (Hf t)==1)=true):C3 T V t=(0,1):=by rw [C3,Cz h,if_pos h2]
theorem uZ {t:Tm}(h:(t.op==2)=false)(h2:(Am T V (Hf t)==1)=false):C3 T V t=(-1099511627776,1099511627776):=by rw [C3,Cz h,Cz h2]

theorem Zp (e:Ex):KOK T V e→∀{b:Int} {s:Su},(∀p∈s.ts,KOK T V (Hf p.1))→∀p∈(Bb e b s).1.ts,KOK T V (Hf p.1):=by
  refine Ex.Aa0 (P:=fun e=>KOK T V e→∀{b:Int} {s:Su},(∀p∈s.ts,KOK T V (Hf p.1))→∀p∈(Bb e b s).1.ts,KOK T V (Hf p.1)) (fun e ih hk b s hs=>?_) e
  have hz:=Ba hk.nodes
  rcases Lt hz.1 with h | ⟨h,h1⟩ | ⟨h,hl⟩ | ⟨h,h1,h2,h3⟩
  · rw [Ei h];exact hs
  · rw [B0 h h1]
    intro p hp
    have key:∀{ts:List (Tm×Int)},(∀p∈ts,KOK T V (Hf p.1))→∀p∈Ij (Dy e) b ts,KOK T V (Hf p.1):=by
      intro ts
      induction ts with
      | nil=>intro _ p hp;rw [Ij,List.mem_singleton] at hp;rw [hp];rw [K8 hz.1 h1];exact hk
      | cons q r ihr=>
        intro hts p hp
        rw [Ij] at hp
        split at hp
        · rcases List.mem_cons.1 hp with rfl | hp
          · exact hts q (List.mem_cons_self ..)
          · exact hts p (List.mem_cons_of_mem _ hp)
        · rcases List.mem_cons.1 hp with rfl | hp
          · exact hts p (List.mem_cons_self ..)
          · exact ihr (fun p hp=>hts p (List.mem_cons_of_mem _ hp)) p hp
    exact key hs p hp
  · have m0:=A4 (show 0<e.args.length by omega)
    have m1:=Bn hl
    have key:∀c,∀p∈(if !(Bb (Ao e) b s).2 then ((Bb (Ao e) b s).1,false) else Bb (Bj e) c (Bb (Ao e) b s).1).1.ts,KOK T V (Hf p.1):=fun c=>by
      have i0:=ih _ m0 (Ax hk m0) (b:=b) hs
      split
      · exact i0
      · exact ih _ m1 (Ax hk m1) i0
    rcases h with h | h
    · rw [H4 (c:=b) hl (.inl ⟨h,rfl⟩)];exact key b
    · rw [H4 (c:=0-b) hl (.inr ⟨h,rfl⟩)];exact key _
  · rw [E2 h h1 h2 h3];exact hs
theorem I5 {P:Tm→Prop}:∀{ts:List (Tm×Int)} {p m p' m':List Tm},(∀t∈ts,P t.1)→(∀t∈p,P t)→(∀t∈m,P t)→Dl ts p m=some (p',m')→(∀t∈p',P t)∧∀t∈m',P t
  | [],p,m,p',m',_,hp,hm,h=>by rw [Dl] at h;cases h;exact ⟨hp,hm⟩
  | t::r,p,m,p',m',ht,hp,hm,h=>by
    rw [Dl] at h
    have hr:∀t∈r,P t.1:=fun x hx=>ht x (List.mem_cons_of_mem _ hx)
    have h0:P t.1:=ht t (List.mem_cons_self ..)
    have snoc:∀{l:List Tm},(∀t∈l,P t)→∀x∈l ++ [t.1],P x:=fun hl x hx=>by
      rcases List.mem_append.1 hx with h | h
      · exact hl x h
      · rw [List.mem_singleton.1 h];exact h0
    split at h
    · exact I5 hr hp hm h
    · split at h
      · exact I5 hr (snoc hp) hm h
      · split at h
        · exact I5 hr hp (snoc hm) h
        · cases h
theorem cA {a b:Ex}(ha:KOK T V a)(hb:KOK T V b):∀p∈(C7 a b).ts,KOK T V (Hf p.1):=by
 have h1:=Zp a ha (b:=1) (s:=Jc) (fun p hp=>by cases hp)
 unfold C7
 split
 · exact h1
 · exact Zp b hb h1
structure GOK (T:List Sc) (V:List Va) (g:Gp):Prop where
 plus:∀t∈g.plus,KOK T V (Hf t)
 minus:∀t∈g.minus,KOK T V (Hf t)
 rest : -140737488355328≤g.rest∧g.rest≤140737488355328
 lp:g.plus.length≤128
 lm:g.minus.length≤128
theorem dC:GOK T V tL:=⟨fun t h=>(by cases h),fun t h=>(by cases h),by simp [tL],by simp [tL],by simp [tL]⟩
theorem Pp:∀{ts:List (Tm×Int)} {p m p' m':List Tm},Dl ts p m=some (p',m')→p'.length≤p.length+ts.length∧m'.length≤m.length+ts.length
  | [],p,m,p',m',h=>by rw [Dl] at h;cases h;simp
  | t::r,p,m,p',m',h=>by
    rw [Dl] at h
    split at h
    · have:=Pp h;simp only [List.length_cons];omega
    · split at h
      · have:=Pp h;simp only [List.length_cons,List.length_append,List.length_nil] at this ⊢;omega
      · split at h
        · have:=Pp h;simp only [List.length_cons,List.length_append,List.length_nil] at this ⊢;omega
        · cases h
theorem lZ {a b:Ex}(ha:KOK T V a)(hb:KOK T V b)(hs:Av a+Av b≤128):GOK T V (B2 a b).1:=by
  unfold B2
  split
  · exact dC
  rename_i h1
  split
  · exact dC
  rename_i h2
  have he:(Bb b (-1) (Bb a 1 Jc).1).1=C7 a b:=by unfold C7;rw [if_neg h1]
  rw [he]
  have ho:=Z2 ha.nodes hb.nodes
  unfold N7
  cases hp:Dl (C7 a b).ts [] [] with
  | none=>exact dC
  | some p=>
    obtain ⟨p,m⟩:=p
    obtain ⟨t1,t2⟩:=I5 (P:=fun t=>KOK T V (Hf t)) (cA ha hb) (fun t h=>by cases h) (fun t h=>by cases h) hp
    obtain ⟨l1,l2⟩:=Pp hp
    have hr:=ho.rest
    have hl:=ho.len
    simp only [List.length_nil,Nat.zero_add] at l1 l2
    exact ⟨t1,t2,by simp only;omega,by simp only;omega,by simp only;omega⟩
theorem Q0 {l:Lit}(hk:KOK T V l.cond)(hs:Av l.cond≤64):GOK T V (Aa T V l).1:=by
  cases h:l.cond.op==1 with
  | true=>
    rw [Zv h]
    refine ⟨fun t ht=>?_,fun t ht=>(by cases ht),by simp,by simp,by simp⟩
    rw [List.mem_singleton.1 ht,K8 (Ba hk.nodes).1 (by rw [h];rfl)]
    exact hk
  | false=>
    cases h2:(!Cr l.cond||Cl T V l.cond) with
    | true=>rw [nA h h2];exact dC
    | false=>
      rw [aS h h2]
      have hl:=K6 hk (Wh h2)
      have hs2:=Dd hl
      exact lZ (Ax hk (A4 (by omega))) (Ax hk (Bn hl)) (by omega)
end
end Go.Proofs.YtkddpedfbicbeaaGreatDoor
