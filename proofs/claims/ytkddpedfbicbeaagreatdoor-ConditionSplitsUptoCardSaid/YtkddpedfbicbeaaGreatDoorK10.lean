/-
  Several texts in one: S19, S20, S21, S22. No condition.
-/
import Derived.Test.YtkddpedfbicbeaaGreatDoorK09
import Derived.Test.YtkddpedfbicbeaaGreatDoorK02
set_option linter.unusedVariables false
set_option linter.unusedSimpArgs false
namespace Go.Proofs.YtkddpedfbicbeaaGreatDoor
open Go Go.Aw

theorem nilsl_sl:∀g w u,Rep g w u (.sl 1 [[.val (.slice none 0 0)]])→Rep g w u (.sl 1 [[.sl 9 []]]):=fun g w u h=>by
  cases h with
  | sl b o n cap z es hn hc hm hz f hs hr=>
    refine .sl b o n cap 1 _ hn hc hm (fun e he=>by rw [List.mem_singleton.1 he];rfl) f (fun i e hi j x hj=>?_) (fun i e hi j x hj=>?_)
    · cases i with
      | succ i=>simp at hi
      | zero=>
        cases j with
        | succ j=>simp at hi;subst hi;simp at hj
        | zero=>exact hs 0 _ rfl 0 _ rfl
    · cases i with
      | succ i=>simp at hi
      | zero=>
        cases j with
        | succ j=>simp at hi;subst hi;simp at hj
        | zero=>
          simp at hi;subst hi;simp at hj;subst hj
          have:=(hr 0 _ rfl 0 _ rfl).inv_val
          rw [this];exact .sl0 _ _ _ (Nat.zero_le _)

/-! ### products -/
theorem prod_no {α:Type}{a b:List (List α)}(h:decide ((256:Int)<(a.length:Int)*(b.length:Int))=true):prodS a b=([],false):=by rw [prodS,if_pos h]
theorem prod_yes {α:Type}{a b:List (List α)}(h:decide ((256:Int)<(a.length:Int)*(b.length:Int))=false):prodS a b=(a.flatMap fun x=>b.map fun y=>x++y,true):=by rw [prodS,ifF h]
theorem prod_take {α:Type}{a b:List (List α)}{k:Nat}{x:List α}(h:a[k]? = some x):((a.take (k+1)).flatMap fun x=>b.map fun y=>x++y)=((a.take k).flatMap fun x=>b.map fun y=>x++y)++b.map fun y=>x++y:=by
 rw [take_get h,List.flatMap_append];simp
theorem prod_len {α:Type}(a b:List (List α)):(a.flatMap fun x=>b.map fun y=>x++y).length=a.length*b.length:=by
 induction a with
 | nil=>simp
 | cons x r ih=>rw [List.flatMap_cons,List.length_append,ih,List.length_map,List.length_cons,Nat.succ_mul];omega
theorem prod_le {α:Type}{a b:List (List α)}{k j:Nat}(hk:k<a.length)(hj:j<b.length)(h:decide ((256:Int)<(a.length:Int)*(b.length:Int))=false):k*b.length+j<256:=by
 have h1:a.length*b.length≤256:=by
  have:¬(256:Int)<(a.length:Int)*(b.length:Int):=by simpa using h
  have h2:((a.length*b.length:Nat):Int)=(a.length:Int)*(b.length:Int):=by simp
  omega
 have h2:(k+1)*b.length≤a.length*b.length:=Nat.mul_le_mul_right _ hk
 rw [Nat.succ_mul] at h2
 omega
theorem times_no {a b:Cs}(h:(!a.2 || !b.2)=true):timesS a b=([],false):=by rw [timesS,if_pos h]
theorem times_yes {a b:Cs}(h:(!a.2 || !b.2)=false):timesS a b=prodS a.1 b.1:=by rw [timesS,ifF h]
theorem plus_no {a b:Cs}(h:((!a.2 || !b.2)||decide ((256:Int)<(a.1.length:Int)+(b.1.length:Int)))=true):plusS a b=([],false):=by rw [plusS,if_pos h]
theorem plus_yes {a b:Cs}(h:((!a.2 || !b.2)||decide ((256:Int)<(a.1.length:Int)+(b.1.length:Int)))=false):plusS a b=(a.1++b.1,true):=by rw [plusS,ifF h]

/-! ### how long they are -/
/-- at most 256 clauses, each at most so long -/
structure csOK (n:Nat) (c:Cs):Prop where
 len:c.1.length≤256
 lits:∀x∈c.1,x.length≤n
theorem csOK.mono {n m:Nat}{c:Cs}(h:csOK n c)(hm:n≤m):csOK m c:=⟨h.len,fun x hx=>Nat.le_trans (h.lits x hx) hm⟩
theorem cs_none {n:Nat}:csOK n ([],false):=⟨Nat.zero_le _,fun x hx=>by cases hx⟩
theorem times_ok {n m:Nat}{a b:Cs}(ha:csOK n a)(hb:csOK m b):csOK (n+m) (timesS a b):=by
 unfold timesS
 split
 · exact cs_none
 ·
  unfold prodS
  split
  · exact cs_none
  ·
   rename_i h
   refine ⟨?_,fun x hx=>?_⟩
   ·
    show (a.1.flatMap fun x=>b.1.map fun y=>x++y).length≤256
    rw [prod_len]
    have h1:¬(256:Int)<(a.1.length:Int)*(b.1.length:Int):=by simpa using h
    have h2:((a.1.length*b.1.length:Nat):Int)=(a.1.length:Int)*(b.1.length:Int):=by simp
    omega
   ·
    obtain ⟨y,hy,hm⟩:=List.mem_flatMap.1 hx
    obtain ⟨z,hz,rfl⟩:=List.mem_map.1 hm
    have:=ha.lits y hy
    have:=hb.lits z hz
    rw [List.length_append];omega
theorem plus_ok {n:Nat}{a b:Cs}(ha:csOK n a)(hb:csOK n b):csOK n (plusS a b):=by
 unfold plusS
 split
 · exact cs_none
 ·
  rename_i h
  refine ⟨?_,fun x hx=>?_⟩
  ·
   show (a.1++b.1).length≤256
   simp at h
   rw [List.length_append];omega
  ·
   rcases List.mem_append.1 hx with h | h
   · exact ha.lits x h
   · exact hb.lits x h
section
variable {T:List Sc} {V:List Va}
abbrev NF0:NormF:=fun _=>([],false)
theorem norm_0t {e:Ex}{s:Bool}(h:(e.op==0)=true)(h1:((e.val.num==1)==s)=true):normS T V e s=([[]],true):=by rw [normS_eq,normN,if_pos h,if_pos h1]
theorem norm_0f {e:Ex}{s:Bool}(h:(e.op==0)=true)(h1:((e.val.num==1)==s)=false):normS T V e s=([],true):=by rw [normS_eq,normN,if_pos h,ifF h1]
theorem norm_12 {e:Ex}{s:Bool}(hl:0<e.args.length)(h:(e.op==12)=true):normS T V e s=normS T V (arg0 e) (!s):=by
 rw [normS_eq,normN,ifF (by simp at h ⊢;omega),if_pos h,hd0_map _ _ hl]
theorem norm_1t {e:Ex}{s:Bool}(hl:1<e.args.length)(h:(e.op==10||e.op==11)=true)(h1:((e.op==10)==s)=true):normS T V e s=timesS (normS T V (arg0 e) s) (normS T V (arg1 e) s):=by
 rw [normS_eq,normN,ifF (by simp at h ⊢;omega),ifF (by simp at h ⊢;omega),if_pos h,if_pos h1,hd0_map _ _ (by omega),hd1_map _ _ hl]
theorem norm_1f {e:Ex}{s:Bool}(hl:1<e.args.length)(h:(e.op==10||e.op==11)=true)(h1:((e.op==10)==s)=false):normS T V e s=plusS (normS T V (arg0 e) s) (normS T V (arg1 e) s):=by
 rw [normS_eq,normN,ifF (by simp at h ⊢;omega),ifF (by simp at h ⊢;omega),if_pos h,ifF h1,hd0_map _ _ (by omega),hd1_map _ _ hl]
theorem norm_9b {e:Ex}{s:Bool}(hl:1<e.args.length)(h:(e.op==9)=true)(h1:(kindR T V (arg0 e)==1)=true) :
  normS T V e s=plusS (timesS (normS T V (arg0 e) true) (normS T V (arg1 e) s)) (timesS (normS T V (arg0 e) false) (normS T V (arg1 e) (!s))):=by
 rw [normS_eq,normN,ifF (by simp at h ⊢;omega),ifF (by simp at h ⊢;omega),ifF (by simp at h ⊢;omega),if_pos (by rw [h,h1];rfl),hd0_map _ _ (by omega),hd1_map _ _ hl]
theorem norm_9i {e:Ex}{s:Bool}(h:(e.op==9)=true)(h1:(kindR T V (arg0 e)==1)=false)(h2:(kindR T V (arg0 e)==0 && !s)=true) :
  normS T V e s=singleC [⟨two 7 (arg0 e) (arg1 e),false⟩,⟨two 7 (arg1 e) (arg0 e),false⟩]:=by
 rw [normS_eq,normN,ifF (by simp at h ⊢;omega),ifF (by simp at h ⊢;omega),ifF (by simp at h ⊢;omega),ifF (by rw [h1,Bool.and_false]),if_pos (by rw [h,h2];rfl)]
theorem norm_9o {e:Ex}{s:Bool}(h:(e.op==9)=true)(h1:(kindR T V (arg0 e)==1)=false)(h2:(kindR T V (arg0 e)==0 && !s)=false):normS T V e s=singleC [⟨e,!s⟩]:=by
 rw [normS_eq,normN,ifF (by simp at h ⊢;omega),ifF (by simp at h ⊢;omega),ifF (by simp at h ⊢;omega),ifF (by rw [h1,Bool.and_false]),ifF (by rw [h2,Bool.and_false])]
theorem norm_o {e:Ex}{s:Bool}(h0:(e.op==0)=false)(h12:(e.op==12)=false)(h10:(e.op==10||e.op==11)=false)(h:(e.op==9)=false):normS T V e s=singleC [⟨e,!s⟩]:=by
 rw [normS_eq,normN,ifF h0,ifF h12,ifF h10,ifF (by rw [h];rfl),ifF (by rw [h];rfl)]
/-- how an expression may look to normS -/
theorem norm_cases {e:Ex}(s:Bool)(hk:KOK T V e) :
    (e.op==0)=true∨((e.op==12)=true∧0<e.args.length)∨((e.op==10||e.op==11)=true∧1<e.args.length)∨((e.op==9)=true∧1<e.args.length∧(kindR T V (arg0 e)==1)=true)∨
    ((e.op==9)=true∧1<e.args.length∧(kindR T V (arg0 e)==1)=false∧(kindR T V (arg0 e)==0 && !s)=true)∨((e.op==0)=false∧(e.op==12)=false∧(e.op==10||e.op==11)=false∧normS T V e s=singleC [⟨e,!s⟩]∧((e.op==9)=true→(kindR T V (arg0 e)==1)=false∧(kindR T V (arg0 e)==0 && !s)=false)):=by
  have hz:=nodes_zero hk.nodes
  cases h0:e.op==0 with
  | true=>exact .inl rfl
  | false=>
  cases h12:e.op==12 with
  | true=>exact .inr (.inl ⟨rfl,len_not hz.1 (eq_of_beq h12)⟩)
  | false=>
  cases h10:(e.op==10||e.op==11) with
  | true=>exact .inr (.inr (.inl ⟨rfl,len_two' hz.1 (by simp at h10;omega)⟩))
  | false=>
  cases h9:e.op==9 with
  | true=>
    have hl:=len_two' hz.1 (by simp at h9;omega)
    cases h1:kindR T V (arg0 e)==1 with
    | true=>exact .inr (.inr (.inr (.inl ⟨rfl,hl,rfl⟩)))
    | false=>
      cases h2:(kindR T V (arg0 e)==0 && !s) with
      | true=>exact .inr (.inr (.inr (.inr (.inl ⟨rfl,hl,rfl,rfl⟩))))
      | false=>exact .inr (.inr (.inr (.inr (.inr ⟨rfl,rfl,rfl,norm_9o h9 h1 h2,fun _=>⟨rfl,rfl⟩⟩))))
  | false=>exact .inr (.inr (.inr (.inr (.inr ⟨rfl,rfl,rfl,norm_o h0 h12 h10 h9,fun h=>Bool.noConfusion h⟩))))
theorem norm_ok (e:Ex):KOK T V e→∀s,csOK (sizeN e) (normS T V e s):=by
 refine Ex.ind (P:=fun e=>KOK T V e→∀s,csOK (sizeN e) (normS T V e s)) (fun e ih hk s=>?_) e
 have hsz:1≤sizeN e:=by rw [sizeN_eq];omega
 rcases norm_cases s hk with h | ⟨h,hl⟩ | ⟨h,hl⟩ | ⟨h,hl,h1⟩ | ⟨h,hl,h1,h2⟩ | ⟨_,_,_,h,_⟩
 ·
  cases h1:((e.val.num==1)==s) with
  | true=>rw [norm_0t h h1];exact ⟨by simp,by simp⟩
  | false=>rw [norm_0f h h1];exact ⟨by simp,by simp⟩
 ·
  rw [norm_12 hl h]
  exact (ih _ (arg0_mem hl) (kok_arg hk (arg0_mem hl)) _).mono (Nat.le_of_lt (size0 hl))
 ·
  have m0:=arg0_mem (show 0<e.args.length by omega)
  have m1:=arg1_mem hl
  have i0:=ih _ m0 (kok_arg hk m0) s
  have i1:=ih _ m1 (kok_arg hk m1) s
  have hs:=arg_sizes hl
  cases h1:((e.op==10)==s) with
  | true=>rw [norm_1t hl h h1];exact (times_ok i0 i1).mono (by omega)
  | false=>rw [norm_1f hl h h1];exact plus_ok (i0.mono (by omega)) (i1.mono (by omega))
 ·
  have m0:=arg0_mem (show 0<e.args.length by omega)
  have m1:=arg1_mem hl
  have i0:=ih _ m0 (kok_arg hk m0)
  have i1:=ih _ m1 (kok_arg hk m1)
  have hs:=arg_sizes hl
  rw [norm_9b hl h h1]
  exact plus_ok ((times_ok (i0 _) (i1 _)).mono (by omega)) ((times_ok (i0 _) (i1 _)).mono (by omega))
 · rw [norm_9i h h1 h2];exact ⟨by simp [singleC],by simp [singleC];omega⟩
 · rw [h];exact ⟨by simp [singleC],by simp [singleC];omega⟩
/-! ### The reference's -/
def eitherS (a b:List (List Lit)):Cs:=(a++b,decide (((a++b).length:Int)≤256))
def pairS (a b:Cs)(times:Bool):Cs:=if !a.2 || !b.2 then ([],false) else if times then prodS a.1 b.1 else eitherS a.1 b.1
def equalS' (a b:Cs):Cs:=if !a.2 || !b.2 then ([],false) else eitherS a.1 b.1
section
variable (T V)
def rnormN (e:Ex)(fs:List NormF):NormF:=fun sign=>
 if e.op==0 then (if (e.val.num==1)==sign then ([[]],true) else ([],true))
 else if e.op==12 then (hd0 NF0 fs:NormF) (!sign)
 else if e.op==10 then pairS ((hd0 NF0 fs:NormF) sign) ((hd1 NF0 fs:NormF) sign) sign
 else if e.op==11 then pairS ((hd0 NF0 fs:NormF) sign) ((hd1 NF0 fs:NormF) sign) (!sign)
 else if e.op==9&&kindR T V (arg0 e)==1 then equalS' (pairS ((hd0 NF0 fs:NormF) true) ((hd1 NF0 fs:NormF) sign) true) (pairS ((hd0 NF0 fs:NormF) false) ((hd1 NF0 fs:NormF) (!sign)) true)
 else if e.op==9&&(kindR T V (arg0 e)==0 && !sign) then singleC [⟨two 7 (arg0 e) (arg1 e),false⟩,⟨two 7 (arg1 e) (arg0 e),false⟩]
 else singleC [⟨e,!sign⟩]
def rnormS:Ex→NormF:=recE (rnormN T V)
end
/-- where the program's list is not ok the reference's is not, either; else they are the same -/
def csR (r p:Cs):Prop:=r.2=p.2∧(p.2=true→r=p)
/-- how long the reference's are -/
structure rcOK (n:Nat) (c:Cs):Prop where
 len:c.1.length≤512
 lits:∀x∈c.1,x.length≤n
end

theorem arg_at0 {e:Ex}(h:0<e.args.length):e.args[0]? = some (arg0 e):=by
 unfold arg0
 cases ha:e.args with
 | nil=>rw [ha] at h;cases h
 | cons a r=>rfl
theorem arg_at1 {e:Ex}(h:1<e.args.length):e.args[1]? = some (arg1 e):=by
  unfold arg1
  cases ha:e.args with
  | nil=>rw [ha] at h;cases h
  | cons a r=>
    cases r with
    | nil=>rw [ha] at h;simp at h
    | cons b r=>rfl
section
variable {T:List Sc} {V:List Va} {e:Ex}
theorem Clauses_1 (h:(condE T V e != 0)=true):ClausesS T V e=([],condE T V e):=by rw [ClausesS,if_pos h]
theorem Clauses_2 (h:(condE T V e != 0)=false)(h2:(!(normS T V e true).2)=true):ClausesS T V e=([],17):=by rw [ClausesS,ifF h,if_pos h2]
theorem Clauses_3 (h:(condE T V e != 0)=false)(h2:(!(normS T V e true).2)=false):ClausesS T V e=((normS T V e true).1,0):=by rw [ClausesS,ifF h,ifF h2]
end
section
variable {T:List Sc} {V:List Va} {e:Ex}
theorem both_ok {a b:Cs}(h:(!a.2 || !b.2)=false):a.2=true∧b.2=true:=by
 cases h1:a.2 <;> cases h2:b.2 <;> simp_all
end
/-! ### Comparing clauses -/
def sameLits:List Lit→List Lit→Bool
 | [],[]=>true
 | a::r,b::q=>!(a.neg != b.neg || !sameS a.cond b.cond)&&sameLits r q
 | _,_=>false
def sameCls:List (List Lit)→List (List Lit)→Bool
 | [],[]=>true
 | a::r,b::q=>sameLits a b&&sameCls r q
 | _,_=>false
theorem sameLits_iff:∀a b:List Lit,sameLits a b=true↔a=b
  | [],[]=>by simp [sameLits]
  | [],b::q=>by simp [sameLits]
  | a::r,[]=>by simp [sameLits]
  | a::r,b::q=>by
    have ih:=sameLits_iff r q
    rw [sameLits,Bool.and_eq_true,ih]
    cases a with | mk c n=>
    cases b with | mk d m=>
    have hs:=sameS_iff c d
    cases hn:(n != m) with
    | true => have : n ≠ m := by simpa using hn
              simp [this]
    | false=>
      have:n=m:=by simpa using hn
      subst this
      cases hc:sameS c d with
      | true=>simp [hs.1 hc]
      | false=>
        have:c≠d:=fun h=>by rw [hs.2 h] at hc;cases hc
        simp [this]
theorem sameCls_iff:∀a b:List (List Lit),sameCls a b=true↔a=b
 | [],[]=>by simp [sameCls]
 | [],b::q=>by simp [sameCls]
 | a::r,[]=>by simp [sameCls]
 | a::r,b::q=>by rw [sameCls,Bool.and_eq_true,sameCls_iff r q,sameLits_iff];simp
theorem sameLits_len {a b:List Lit}(h:((a.length:Int) != (b.length:Int))=true):sameLits a b=false:=by
 rw [Bool.eq_false_iff]
 intro h1
 rw [(sameLits_iff a b).1 h1] at h;simp at h
theorem sameCls_len {a b:List (List Lit)}(h:((a.length:Int) != (b.length:Int))=true):sameCls a b=false:=by
 rw [Bool.eq_false_iff]
 intro h1
 rw [(sameCls_iff a b).1 h1] at h;simp at h
theorem sameLits_bad {a b:List Lit}{k:Nat}{x y:Lit}(hx:a[k]? = some x)(hy:b[k]? = some y)(h:(x.neg != y.neg || !sameS x.cond y.cond)=true):sameLits a b=false:=by
 rw [Bool.eq_false_iff]
 intro h1
 have:=(sameLits_iff a b).1 h1
 subst this
 rw [hx] at hy;cases hy
 rw [sameS_refl] at h;simp at h
theorem sameCls_bad {a b:List (List Lit)}{k:Nat}{x y:List Lit}(hx:a[k]? = some x)(hy:b[k]? = some y)(h:(!sameLits x y)=true):sameCls a b=false:=by
 rw [Bool.eq_false_iff]
 intro h1
 have:=(sameCls_iff a b).1 h1
 subst this
 rw [hx] at hy;cases hy
 rw [(sameLits_iff x x).2 rfl] at h;cases h
theorem lit_good {x y:Lit}(h:(x.neg != y.neg || !sameS x.cond y.cond)=false):x=y:=by
 have:sameLits [x] [y]=true:=by rw [sameLits,h];rfl
 have:=(sameLits_iff _ _).1 this
 simpa using this
theorem cls_good {x y:List Lit}(h:(!sameLits x y)=false):x=y:=(sameLits_iff x y).1 (by simpa using h)

section
variable {T:List Sc} {V:List Va}
/-- the error of a literal -/
def litE (T:List Sc)(V:List Va)(c:Lit):Int:=if condE T V c.cond != 0 then condE T V c.cond else if composedS T V c.cond||(c.neg&&(c.cond.op==9&&kindR T V (arg0 c.cond)==0)) then 3 else 0
theorem clause_1 {l:List Lit}(h:((KindS T V (truthE true)).2 != 0)=true):clauseE T V l=(KindS T V (truthE true)).2:=by rw [clauseE,if_pos h]
theorem clause_2 {l:List Lit}(h:((KindS T V (truthE true)).2 != 0)=false)(h2:decide ((256:Int)<(l.length:Int))=true):clauseE T V l=5:=by rw [clauseE,ifF h,if_pos h2]
theorem clause_f {l:List Lit}(h:((KindS T V (truthE true)).2 != 0)=false)(h2:decide ((256:Int)<(l.length:Int))=false):clauseE T V l=firstS (litE T V) l:=by rw [clauseE,ifF h,ifF h2];rfl
theorem lit_1 {c:Lit}(h:(condE T V c.cond != 0)=true):litE T V c=condE T V c.cond:=by rw [litE,if_pos h]
theorem lit_2 {c:Lit}(h:(condE T V c.cond != 0)=false)(h2:(composedS T V c.cond||((c.neg&&c.cond.op==9)&&kindR T V (arg0 c.cond)==0))=true):litE T V c=3:=by
 rw [litE,ifF h,if_pos (by rw [←Bool.and_assoc];exact h2)]
theorem lit_3 {c:Lit}(h:(condE T V c.cond != 0)=false)(h2:(composedS T V c.cond||((c.neg&&c.cond.op==9)&&kindR T V (arg0 c.cond)==0))=false):litE T V c=0:=by
 rw [litE,ifF h,ifF (by rw [←Bool.and_assoc];exact h2)]
theorem first_take {α:Type}{f:α→Int}{l:List α}{k:Nat}{a:α}(hk:firstS f (l.take k)=0)(ha:l[k]? = some a)(h:f a≠0):firstS f l=f a:=by
  induction l generalizing k with
  | nil=>simp at ha
  | cons x r ih=>
    cases k with
    | zero => have : x = a := by simpa using ha
              subst this
              rw [firstS,if_pos (by simpa using h)]
    | succ k=>
      rw [List.take_succ_cons,firstS] at hk
      by_cases hx:(f x != 0)=true
      · rw [if_pos hx] at hk;rw [hk] at hx;cases hx
      · rw [if_neg hx] at hk
        rw [firstS,if_neg hx]
        exact ih hk (by simpa using ha)
theorem first_snoc {α:Type}{f:α→Int}{l:List α}{k:Nat}{a:α}(hk:firstS f (l.take k)=0)(ha:l[k]? = some a)(h:f a=0):firstS f (l.take (k+1))=0:=by
  rw [take_get ha]
  generalize l.take k=m at hk
  induction m with
  | nil=>simp [firstS,h]
  | cons x r ih=>
    rw [firstS] at hk
    by_cases hx:(f x != 0)=true
    · rw [if_pos hx] at hk;rw [hk] at hx;cases hx
    · rw [if_neg hx] at hk
      rw [List.cons_append,firstS,if_neg hx]
      exact ih hk
theorem g9c {e:Ex}(hk:KOK T V e){x b:Bool}(hG:allG [(x,false),(b&&e.op==9,true)]):1<e.args.length:=by
 have h:(b&&e.op==9)=true:=hG (b&&e.op==9,true) (by simp)
 have h9:e.op=9:=by simp at h;exact h.2
 exact len_two' (nodes_zero hk.nodes).1 (by omega)
/-- well-typed literals within the limits -/
def LOK (T:List Sc)(V:List Va)(l:List Lit):Prop:=∀c∈l,KOK T V c.cond∧sizeN c.cond≤64
theorem lits_ok {l:List Lit}(h:firstS (litE T V) l=0):LOK T V l:=fun c hc=>by
 have h1:=first_zero h c hc
 unfold litE at h1
 by_cases h2:(condE T V c.cond != 0)=true
 · rw [if_pos h2] at h1;rw [h1] at h2;cases h2
 ·
  have hk:=(condE_kc (by simpa using h2)).1
  exact ⟨hk.kok,kc_size hk⟩
theorem clause_ok {l:List Lit}(h:(clauseE T V l != 0)=false):LOK T V l∧l.length≤256:=by
 have h0:clauseE T V l=0:=by simpa using h
 unfold clauseE at h0
 by_cases h1:((KindS T V (truthE true)).2 != 0)=true
 · rw [if_pos h1] at h0;rw [h0] at h1;cases h1
 ·
  rw [if_neg h1] at h0
  by_cases h2:decide ((256:Int)<(l.length:Int))=true
  · rw [if_pos h2] at h0;cases h0
  ·
   rw [if_neg h2] at h0
   exact ⟨lits_ok h0,by simp at h2;omega⟩
theorem num_1 {l:Lit}(h:(l.cond.op==1)=true):numericS T V l=(⟨[tmOf l.cond],[],0⟩,true):=by rw [numericS,if_pos h]
theorem num_2 {l:Lit}(h:(l.cond.op==1)=false)(h2:(!comparesS l.cond||textsS T V l.cond)=true):numericS T V l=(gp0,false):=by rw [numericS,ifF h,if_pos h2]
theorem num_3 {l:Lit}(h:(l.cond.op==1)=false)(h2:(!comparesS l.cond||textsS T V l.cond)=false):numericS T V l=betweenS (arg0 l.cond) (arg1 l.cond):=by rw [numericS,ifF h,ifF h2]
theorem num_cmp {l:Lit}(h2:(!comparesS l.cond||textsS T V l.cond)=false):comparesS l.cond=true:=by
 cases hq:comparesS l.cond with
 | true=>rfl
 | false=>rw [hq] at h2;simp at h2
theorem lim_1 {t:Tm}(h:(t.op==2)=true):limitsS T V t=(0,1099511627776):=by rw [limitsS,if_pos h]
theorem lim_2 {t:Tm}(h:(t.op==2)=false)(h2:(kindR T V (tmE t)==1)=true):limitsS T V t=(0,1):=by rw [limitsS,ifF h,if_pos h2]
theorem lim_3 {t:Tm}(h:(t.op==2)=false)(h2:(kindR T V (tmE t)==1)=false):limitsS T V t=(-1099511627776,1099511627776):=by rw [limitsS,ifF h,ifF h2]

/-! ### the terms of a well-typed sum -/
theorem lin_terms (e:Ex):KOK T V e→∀{b:Int} {s:Su},(∀p∈s.ts,KOK T V (tmE p.1))→∀p∈(linS e b s).1.ts,KOK T V (tmE p.1):=by
  refine Ex.ind (P:=fun e=>KOK T V e→∀{b:Int} {s:Su},(∀p∈s.ts,KOK T V (tmE p.1))→∀p∈(linS e b s).1.ts,KOK T V (tmE p.1)) (fun e ih hk b s hs=>?_) e
  have hz:=nodes_zero hk.nodes
  rcases op_cases hz.1 with h | ⟨h,h1⟩ | ⟨h,hl⟩ | ⟨h,h1,h2,h3⟩
  · rw [lin_const h];exact hs
  · rw [lin_term h h1]
    intro p hp
    have key:∀{ts:List (Tm×Int)},(∀p∈ts,KOK T V (tmE p.1))→∀p∈addT (tmOf e) b ts,KOK T V (tmE p.1):=by
      intro ts
      induction ts with
      | nil=>intro _ p hp;rw [addT,List.mem_singleton] at hp;rw [hp];rw [leaf_tm hz.1 h1];exact hk
      | cons q r ihr=>
        intro hts p hp
        rw [addT] at hp
        split at hp
        · rcases List.mem_cons.1 hp with rfl | hp
          · exact hts q (List.mem_cons_self ..)
          · exact hts p (List.mem_cons_of_mem _ hp)
        · rcases List.mem_cons.1 hp with rfl | hp
          · exact hts p (List.mem_cons_self ..)
          · exact ihr (fun p hp=>hts p (List.mem_cons_of_mem _ hp)) p hp
    exact key hs p hp
  · have m0:=arg0_mem (show 0<e.args.length by omega)
    have m1:=arg1_mem hl
    have key:∀c,∀p∈(if !(linS (arg0 e) b s).2 then ((linS (arg0 e) b s).1,false) else linS (arg1 e) c (linS (arg0 e) b s).1).1.ts,KOK T V (tmE p.1):=fun c=>by
      have i0:=ih _ m0 (kok_arg hk m0) (b:=b) hs
      split
      · exact i0
      · exact ih _ m1 (kok_arg hk m1) i0
    rcases h with h | h
    · rw [lin_two (c:=b) hl (.inl ⟨h,rfl⟩)];exact key b
    · rw [lin_two (c:=0-b) hl (.inr ⟨h,rfl⟩)];exact key _
  · rw [lin_else h h1 h2 h3];exact hs
theorem parts_terms {P:Tm→Prop}:∀{ts:List (Tm×Int)} {p m p' m':List Tm},(∀t∈ts,P t.1)→(∀t∈p,P t)→(∀t∈m,P t)→partsS ts p m=some (p',m')→(∀t∈p',P t)∧∀t∈m',P t
  | [],p,m,p',m',_,hp,hm,h=>by rw [partsS] at h;cases h;exact ⟨hp,hm⟩
  | t::r,p,m,p',m',ht,hp,hm,h=>by
    rw [partsS] at h
    have hr:∀t∈r,P t.1:=fun x hx=>ht x (List.mem_cons_of_mem _ hx)
    have h0:P t.1:=ht t (List.mem_cons_self ..)
    have snoc:∀{l:List Tm},(∀t∈l,P t)→∀x∈l ++ [t.1],P x:=fun hl x hx=>by
      rcases List.mem_append.1 hx with h | h
      · exact hl x h
      · rw [List.mem_singleton.1 h];exact h0
    split at h
    · exact parts_terms hr hp hm h
    · split at h
      · exact parts_terms hr (snoc hp) hm h
      · split at h
        · exact parts_terms hr hp (snoc hm) h
        · cases h
theorem sumEnd_terms {a b:Ex}(ha:KOK T V a)(hb:KOK T V b):∀p∈(sumEnd a b).ts,KOK T V (tmE p.1):=by
 have h1:=lin_terms a ha (b:=1) (s:=su0) (fun p hp=>by cases hp)
 unfold sumEnd
 split
 · exact h1
 · exact lin_terms b hb h1
/-- what a difference is made of -/
structure GOK (T:List Sc) (V:List Va) (g:Gp):Prop where
 plus:∀t∈g.plus,KOK T V (tmE t)
 minus:∀t∈g.minus,KOK T V (tmE t)
 rest : -140737488355328≤g.rest∧g.rest≤140737488355328
 lp:g.plus.length≤128
 lm:g.minus.length≤128
theorem gp0_ok:GOK T V gp0:=⟨fun t h=>(by cases h),fun t h=>(by cases h),by simp [gp0],by simp [gp0],by simp [gp0]⟩
theorem parts_len:∀{ts:List (Tm×Int)} {p m p' m':List Tm},partsS ts p m=some (p',m')→p'.length≤p.length+ts.length∧m'.length≤m.length+ts.length
  | [],p,m,p',m',h=>by rw [partsS] at h;cases h;simp
  | t::r,p,m,p',m',h=>by
    rw [partsS] at h
    split at h
    · have:=parts_len h;simp only [List.length_cons];omega
    · split at h
      · have:=parts_len h;simp only [List.length_cons,List.length_append,List.length_nil] at this ⊢;omega
      · split at h
        · have:=parts_len h;simp only [List.length_cons,List.length_append,List.length_nil] at this ⊢;omega
        · cases h
theorem between_ok {a b:Ex}(ha:KOK T V a)(hb:KOK T V b)(hs:sizeN a+sizeN b≤128):GOK T V (betweenS a b).1:=by
  unfold betweenS
  split
  · exact gp0_ok
  rename_i h1
  split
  · exact gp0_ok
  rename_i h2
  have he:(linS b (-1) (linS a 1 su0).1).1=sumEnd a b:=by unfold sumEnd;rw [if_neg h1]
  rw [he]
  have ho:=sumEnd_ok ha.nodes hb.nodes
  unfold gapOf
  cases hp:partsS (sumEnd a b).ts [] [] with
  | none=>exact gp0_ok
  | some p=>
    obtain ⟨p,m⟩:=p
    obtain ⟨t1,t2⟩:=parts_terms (P:=fun t=>KOK T V (tmE t)) (sumEnd_terms ha hb) (fun t h=>by cases h) (fun t h=>by cases h) hp
    obtain ⟨l1,l2⟩:=parts_len hp
    have hr:=ho.rest
    have hl:=ho.len
    simp only [List.length_nil,Nat.zero_add] at l1 l2
    exact ⟨t1,t2,by simp only;omega,by simp only;omega,by simp only;omega⟩
theorem numeric_ok {l:Lit}(hk:KOK T V l.cond)(hs:sizeN l.cond≤64):GOK T V (numericS T V l).1:=by
  cases h:l.cond.op==1 with
  | true=>
    rw [num_1 h]
    refine ⟨fun t ht=>?_,fun t ht=>(by cases ht),by simp,by simp,by simp⟩
    rw [List.mem_singleton.1 ht,leaf_tm (nodes_zero hk.nodes).1 (by rw [h];rfl)]
    exact hk
  | false=>
    cases h2:(!comparesS l.cond||textsS T V l.cond) with
    | true=>rw [num_2 h h2];exact gp0_ok
    | false=>
      rw [num_3 h h2]
      have hl:=cmp_two hk (num_cmp h2)
      have hs2:=arg_sizes hl
      exact between_ok (kok_arg hk (arg0_mem (by omega))) (kok_arg hk (arg1_mem hl)) (by omega)
end

/-! ### the index of the terms -/
def yGo:Nat→List Tm→List (List AV×AV)
 | _,[]=>[]
 | i,t::r=>(cTm t,.int .i64 ((i:Int)+1))::yGo (i+1) r
def yMap (ts:List Tm):List (List AV×AV):=yGo 0 ts
theorem yGo_eq (t:Tm):∀(ts:List Tm) (i:Nat),∀p∈yGo i ts,aeqs TL [(0,1,true,3),(1,1,true,3),(2,1,true,3)] (cTm t) p.1=some (eqTm t p.1)
  | [],_,p,hp=>by cases hp
  | u::r,i,p,hp=>by
    rw [yGo] at hp
    rcases List.mem_cons.1 hp with rfl | hp
    · show aeqs TL _ (cTm t) (cTm u)=some (eqTm t (cTm u));rw [eqTm_is,eqTm_tm]
    · exact yGo_eq t r (i+1) p hp
theorem yMap_eq (t:Tm)(ts:List Tm):∀p∈yMap ts,aeqs TL [(0,1,true,3),(1,1,true,3),(2,1,true,3)] (cTm t) p.1=some (eqTm t p.1):=yGo_eq t ts 0
theorem yGo_get (t:Tm):∀(ts:List Tm) (i:Nat),kget (eqTm t) (yGo i ts)=if ts.contains t then some (.int .i64 ((i:Int)+(ts.idxOf t:Nat)+1)) else none
  | [],_=>rfl
  | u::r,i=>by
    rw [yGo,kget,eqTm_tm,yGo_get t r (i+1),List.contains_cons,List.idxOf_cons]
    cases hq:eqT t u with
    | true=>
      have:=eqT_iff.1 hq
      subst this
      simp
    | false=>
      have hne:t≠u:=fun h=>by rw [eqT_iff.2 h] at hq;cases hq
      have h1:(t==u)=false:=by simpa using hne
      have h2:(u==t)=false:=by simpa using Ne.symm hne
      rw [h1,h2]
      simp only [Bool.false_or,cond_false,Bool.false_eq_true,if_false]
      split
      · congr 2;push_cast;omega
      · rfl
theorem yMap_get (t:Tm)(ts:List Tm):kget (eqTm t) (yMap ts)=if ts.contains t then some (.int .i64 (((ts.idxOf t:Nat):Int)+1)) else none:=by
 unfold yMap
 rw [yGo_get]
 simp
theorem yMap_has (t:Tm)(ts:List Tm):(kget (eqTm t) (yMap ts)).isSome=ts.contains t:=by
 rw [yMap_get];cases ts.contains t <;> rfl
theorem yMap_none {t:Tm}{ts:List Tm}(h:ts.contains t=false):kget (eqTm t) (yMap ts)=none:=by rw [yMap_get,h];rfl
theorem yGo_snoc (t:Tm):∀(ts:List Tm) (i:Nat),yGo i (ts ++ [t])=yGo i ts ++ [(cTm t,.int .i64 ((i:Int)+ts.length+1))]
  | [],i=>by simp [yGo]
  | u::r,i=>by
    rw [List.cons_append,yGo,yGo,yGo_snoc t r (i+1)]
    simp only [List.cons_append,List.length_cons]
    rw [show ((i+1:Nat):Int)+(r.length:Int)+1=(i:Int)+((r.length+1:Nat):Int)+1 by omega]
theorem yMap_snoc (t:Tm)(ts:List Tm):yMap (ts ++ [t])=yMap ts ++ [(cTm t,.int .i64 ((ts.length:Int)+1))]:=by
 unfold yMap;rw [yGo_snoc];simp
/-- what the map holds at a term that is there -/
theorem look_y {t:Tm}{ts:List Tm}(h:ts.contains t=true):match kget (eqTm t) (yMap ts) with | some y=>y = .int .i64 (((ts.idxOf t:Nat):Int)+1) | none=>[AV.int .i64 0] = [.int .i64 (((ts.idxOf t:Nat):Int)+1)]:=by
 rw [yMap_get,if_pos h]
/-- at any -/
theorem look_y0 (t:Tm)(ts:List Tm):match kget (eqTm t) (yMap ts) with | some y=>y = .int .i64 (if ts.contains t then ((ts.idxOf t:Nat):Int)+1 else 0) | none=>[AV.int .i64 0] = [.int .i64 (if ts.contains t then ((ts.idxOf t:Nat):Int)+1 else 0)]:=by
 rw [yMap_get]
 cases ts.contains t <;> rfl
theorem contains_addTm (t:Tm)(l ts:List Tm):(addTm ts (t::l)).contains t=true:=by
 unfold addTm
 simp only
 split
 · assumption
 · simp
theorem addTm_new {t:Tm}{l ts:List Tm}(h:ts.contains t=false):addTm ts (t::l)=ts ++ [t]:=by unfold addTm;simp only;rw [h];rfl
theorem addTm_old {t:Tm}{l ts:List Tm}(h:ts.contains t=true):addTm ts (t::l)=ts:=by unfold addTm;simp only;rw [if_pos h]
theorem addTm_nil {ts:List Tm}:addTm ts []=ts:=rfl
theorem addTm_len (ts l:List Tm):(addTm ts l).length≤ts.length+1:=by
 cases l with
 | nil=>simp [addTm]
 | cons t r=>unfold addTm;simp only;split <;> simp
theorem addTm_mem {P:Tm→Prop}{ts l:List Tm}(h:∀t∈ts,P t)(hl:∀t∈l,P t):∀t∈addTm ts l,P t:=by
  cases l with
  | nil=>exact h
  | cons t r=>
    unfold addTm
    simp only
    split
    · exact h
    · intro u hu
      rcases List.mem_append.1 hu with hu | hu
      · exact h u hu
      · rw [List.mem_singleton.1 hu];exact hl t (List.mem_cons_self ..)
/-! ### the system in the heap -/
abbrev sysH (m yb:Nat)(v:Value)(c0 c1:AV)(ts:List Tm)(R:List HO):List HO:=.row v (ts.map cTm).length 143 3 :: .box yb 141 [c0,c1,.row v 3 (ts.map cTm),.val (.map (some m))] :: .kmap m (yMap ts)::R
theorem unk_old {m yb:Nat}{v:Value}{c0 c1:AV}{ts l:List Tm}{t:Tm}{R:List HO}(h:ts.contains t=true):sysH m yb v c0 c1 ts R=sysH m yb v c0 c1 (addTm ts (t::l)) R:=by rw [addTm_old h]
theorem unk_new {m yb:Nat}{v:Value}{c0 c1:AV}{ts l:List Tm}{t:Tm}{R:List HO}(h:ts.contains t=false) :
  (HO.row v (ts.map cTm ++ [cTm t]).length 143 3 :: .box yb 141 [c0,c1,.row v 3 (ts.map cTm ++ [cTm t]),.val (.map (some m))] :: .kmap m (yMap ts ++ [(cTm t,.int .i64 ((ts.length:Int)+1))])::R)=sysH m yb v c0 c1 (addTm ts (t::l)) R:=by
 rw [addTm_new h]
 simp only [sysH]
 rw [yMap_snoc,List.map_append];rfl
theorem num_old {t:Tm}{l ts:List Tm}:numTm (addTm ts (t::l)) (t::l)=(((addTm ts (t::l)).idxOf t:Nat):Int)+1:=rfl
/-! ### steps -/
section
variable {T:List Sc} {V:List Va}
theorem sys_skip {s:Sy}{c:Lit}(h:(!(numericS T V c).2)=true):sysStep T V s c=s:=by rw [sysStep,if_pos h]
theorem sys_step {s:Sy}{c:Lit}(h:(!(numericS T V c).2)=false):sysStep T V s c=⟨addTm (addTm s.ts (numericS T V c).1.plus) (numericS T V c).1.minus,
 s.bs++boundsS c (numTm (addTm s.ts (numericS T V c).1.plus) (numericS T V c).1.plus) (numTm (addTm (addTm s.ts (numericS T V c).1.plus) (numericS T V c).1.minus) (numericS T V c).1.minus) (numericS T V c).1.rest⟩:=by rw [sysStep,ifF h]
theorem sys_take {l:List Lit}{k:Nat}{c:Lit}(h:l[k]? = some c):sysGo T V (l.take (k+1))=sysStep T V (sysGo T V (l.take k)) c:=by
 unfold sysGo
 rw [take_get h,List.foldl_append];rfl
theorem bounds_len (c:Lit)(x z rest:Int):(boundsS c x z rest).length≤2:=by
 unfold boundsS
 repeat' split
 all_goals simp
/-- how large a system is, and that its terms are well-typed -/
structure syOK (T:List Sc) (V:List Va) (n:Nat) (s:Sy):Prop where
 len:s.ts.length≤2*n
 bnds:s.bs.length≤2*n
 terms:∀t∈s.ts,KOK T V (tmE t)
theorem sys_ok:∀{l:List Lit},LOK T V l→∀{n:Nat} {s:Sy},syOK T V n s→syOK T V (n+l.length) (l.foldl (sysStep T V) s)
  | [],_,n,s,hs=>hs
  | c::r,hl,n,s,hs=>by
    rw [List.foldl_cons,List.length_cons,show n+(r.length+1)=(n+1)+r.length by omega]
    refine sys_ok (fun x hx=>hl x (List.mem_cons_of_mem _ hx)) ?_
    cases h : !(numericS T V c).2 with
    | true=>rw [sys_skip h];exact ⟨by have:=hs.len;omega,by have:=hs.bnds;omega,hs.terms⟩
    | false=>
      rw [sys_step h]
      have hg:=numeric_ok (hl c (List.mem_cons_self ..)).1 (hl c (List.mem_cons_self ..)).2
      refine ⟨?_,?_,?_⟩
      · have h1:=addTm_len s.ts (numericS T V c).1.plus
        have h2:=addTm_len (addTm s.ts (numericS T V c).1.plus) (numericS T V c).1.minus
        have:=hs.len
        simp only;omega
      · simp only [List.length_append]
        have:=bounds_len c (numTm (addTm s.ts (numericS T V c).1.plus) (numericS T V c).1.plus) (numTm (addTm (addTm s.ts (numericS T V c).1.plus) (numericS T V c).1.minus) (numericS T V c).1.minus) (numericS T V c).1.rest
        have:=hs.bnds
        omega
      · exact addTm_mem (addTm_mem hs.terms hg.plus) hg.minus
theorem sysGo_ok {l:List Lit}(h:LOK T V l):syOK T V l.length (sysGo T V l):=by
 have:=sys_ok h (n:=0) (s:=⟨[],[]⟩) ⟨by simp,by simp,fun t ht=>by cases ht⟩
 rw [Nat.zero_add] at this
 exact this
theorem LOK_take {l:List Lit}(h:LOK T V l)(k:Nat):LOK T V (l.take k):=fun c hc=>h c (List.mem_of_mem_take hc)
theorem lim_snoc:∀(ts:List Tm) (i:Nat) (t:Tm),limGo T V i (ts ++ [t])=limGo T V i ts ++ [⟨(i:Int)+ts.length+1,0,(limitsS T V t).2⟩,⟨0,(i:Int)+ts.length+1,0-(limitsS T V t).1⟩]
  | [],i,t=>by simp [limGo]
  | u::r,i,t=>by
    rw [List.cons_append,limGo,limGo,lim_snoc r (i+1) t]
    simp only [List.cons_append,List.length_cons]
    rw [show ((i+1:Nat):Int)+(r.length:Int)+1=(i:Int)+((r.length+1:Nat):Int)+1 by omega]
theorem lim_take {ts:List Tm}{k:Nat}{t:Tm}(h:ts[k]? = some t):limGo T V 0 (ts.take (k+1))=limGo T V 0 (ts.take k) ++ [⟨(k:Int)+1,0,(limitsS T V t).2⟩,⟨0,(k:Int)+1,0-(limitsS T V t).1⟩]:=by
 have hl:=get_lt' h
 rw [take_get h,lim_snoc]
 simp [Nat.min_eq_left (Nat.le_of_lt hl)]
theorem lim_len:∀(ts:List Tm) (i:Nat),(limGo T V i ts).length=2*ts.length
 | [],i=>rfl
 | t::r,i=>by rw [limGo];simp only [List.length_cons,lim_len r (i+1)];omega
theorem limits_range (t:Tm) : -1099511627776≤(limitsS T V t).1∧(limitsS T V t).1≤1099511627776∧-1099511627776≤(limitsS T V t).2∧(limitsS T V t).2≤1099511627776:=by
 unfold limitsS
 repeat' split
 all_goals simp
/-- the system behind its pointer -/
def cSy (T:List Sc)(V:List Va)(l:List Lit):List AV:=[.int .i64 (zoneS T V l).n,.sl 3 ((zoneS T V l).bs.map cBd),.sl 3 ((sysGo T V l).ts.map cTm),.junk]
theorem ne_cons {α:Type}{l:List α}(h:(((l.length:Nat):Int)==0)=false):∃t r,l=t::r:=by
 cases l with
 | nil=>cases h
 | cons t r=>exact ⟨t,r,rfl⟩
theorem nil_of {α:Type}{l:List α}(h:(((l.length:Nat):Int)==0)=true):l = []:=by
 cases l with
 | nil=>rfl
 | cons t r=>simp at h;omega
theorem sc_two {a b:List AV}(h1:scalars a=true)(h2:scalars b=true):∀c∈[a,b],scalars c=true:=fun c hc=>by
 rcases List.mem_cons.1 hc with rfl | hc
 · exact h1
 · rw [List.mem_singleton.1 hc];exact h2
theorem bd_1 {c:Lit}{x z r:Int}(h:(c.cond.op==1&&c.neg)=true):boundsS c x z r = [⟨x,z,0-r⟩]:=by rw [boundsS,if_pos (by rw [h];rfl)]
theorem bd_2 {c:Lit}{x z r:Int}(h:(c.cond.op==8 && !c.neg)=true):boundsS c x z r = [⟨x,z,0-r⟩]:=by rw [boundsS,if_pos (by rw [h];simp)]
theorem bd_n {c:Lit}{x z r:Int}(h:(c.cond.op==1&&c.neg)=false)(h2:(c.cond.op==8 && !c.neg)=false):boundsS c x z r=if c.cond.op==1||c.cond.op==8 then [⟨z,x,r-1⟩] else if c.cond.op==7 && !c.neg then [⟨x,z,0-r-1⟩] else if c.cond.op==7 then [⟨z,x,r⟩] else [⟨x,z,0-r⟩,⟨z,x,r⟩]:=by
 rw [boundsS,ifF (by rw [h,h2];rfl)]
theorem bd_3 {c:Lit}{x z r:Int}(h:(c.cond.op==1&&c.neg)=false)(h2:(c.cond.op==8 && !c.neg)=false)(h3:(c.cond.op==1)=true):boundsS c x z r = [⟨z,x,r-1⟩]:=by rw [bd_n h h2,if_pos (by rw [h3];rfl)]
theorem bd_4 {c:Lit}{x z r:Int}(h:(c.cond.op==1&&c.neg)=false)(h2:(c.cond.op==8 && !c.neg)=false)(h3:(c.cond.op==8)=true):boundsS c x z r = [⟨z,x,r-1⟩]:=by rw [bd_n h h2,if_pos (by rw [h3];simp)]
theorem bd_5 {c:Lit}{x z r:Int}(h:(c.cond.op==1&&c.neg)=false)(h2:(c.cond.op==8 && !c.neg)=false)(h3:(c.cond.op==1)=false)(h4:(c.cond.op==8)=false)(h5:(c.cond.op==7 && !c.neg)=true):boundsS c x z r = [⟨x,z,0-r-1⟩]:=by rw [bd_n h h2,ifF (by rw [h3,h4];rfl),if_pos h5]
theorem bd_6 {c:Lit}{x z r:Int}(h:(c.cond.op==1&&c.neg)=false)(h2:(c.cond.op==8 && !c.neg)=false)(h3:(c.cond.op==1)=false)(h4:(c.cond.op==8)=false)(h5:(c.cond.op==7 && !c.neg)=false)(h6:(c.cond.op==7)=true):boundsS c x z r = [⟨z,x,r⟩]:=by rw [bd_n h h2,ifF (by rw [h3,h4];rfl),ifF h5,if_pos h6]
theorem bd_7 {c:Lit}{x z r:Int}(h:(c.cond.op==1&&c.neg)=false)(h2:(c.cond.op==8 && !c.neg)=false)(h3:(c.cond.op==1)=false)(h4:(c.cond.op==8)=false)(h5:(c.cond.op==7 && !c.neg)=false)(h6:(c.cond.op==7)=false):boundsS c x z r = [⟨x,z,0-r⟩,⟨z,x,r⟩]:=by rw [bd_n h h2,ifF (by rw [h3,h4];rfl),ifF h5,ifF h6]
theorem cSy_eq {l:List Lit}{s:Sy}{eZ eB:List (List AV)}(h:s=sysGo T V l)(hz:eZ=(limGo T V 0 s.ts).map cBd)(hb:eB=s.bs.map cBd):AV.ptr [.int .i64 ((s.ts.length:Int)+1),.sl 3 (eZ++eB),.sl 3 (s.ts.map cTm),.junk] = .ptr (cSy T V l):=by
 rw [hz,hb,←List.map_append,h];rfl
/-- one step of the loop -/
theorem sys_next {l:List Lit}{k:Nat}{c:Lit}{s:Sy}{bs:List Bd}(h:l[k]? = some c)(hs:s=sysGo T V (l.take k))(hn:(!(numericS T V c).2)=false)
  (hb:boundsS c (numTm (addTm s.ts (numericS T V c).1.plus) (numericS T V c).1.plus) (numTm (addTm (addTm s.ts (numericS T V c).1.plus) (numericS T V c).1.minus) (numericS T V c).1.minus) (numericS T V c).1.rest=bs) :
  (⟨addTm (addTm s.ts (numericS T V c).1.plus) (numericS T V c).1.minus,s.bs++bs⟩:Sy)=sysGo T V (l.take (k+1)):=by
 rw [sys_take h,←hs,sys_step hn,hb]
theorem sys_same {l:List Lit}{k:Nat}{c:Lit}{s:Sy}(h:l[k]? = some c)(hs:s=sysGo T V (l.take k))(hn:(!(numericS T V c).2)=true):s=sysGo T V (l.take (k+1)):=by
 rw [sys_take h,←hs,sys_skip hn]
theorem enc_snoc {s:List Bd}{e:List (List AV)}{b:Bd}(h:e=s.map cBd):e ++ [cBd b]=(s ++ [b]).map cBd:=by rw [h,List.map_append];rfl
theorem enc_snoc2 {s:List Bd}{e:List (List AV)}{b c:Bd}(h:e=s.map cBd):(e ++ [cBd b]) ++ [cBd c]=(s ++ [b,c]).map cBd:=by rw [h,List.map_append,List.append_assoc];rfl
theorem num_range {ts l:List Tm}{n:Nat}(h:ts.length≤n):0≤numTm ts l∧numTm ts l≤(n:Int)+1:=by
  unfold numTm
  cases l with
  | nil=>simp only;omega
  | cons t r=>
    simp only
    have:ts.idxOf t≤ts.length:=List.idxOf_le_length
    omega
theorem Zone_1 {l:List Lit}(h:(clauseE T V l != 0)=true):ZoneS T V l=⟨zn0,[],clauseE T V l⟩:=by rw [ZoneS,if_pos h]
theorem Zone_2 {l:List Lit}(h:(clauseE T V l != 0)=false)(h2:(!fitsS (zoneS T V l))=true):ZoneS T V l=⟨zn0,[],17⟩:=by rw [ZoneS,ifF h,if_pos h2]
theorem Zone_3 {l:List Lit}(h:(clauseE T V l != 0)=false)(h2:(!fitsS (zoneS T V l))=false):ZoneS T V l=⟨zoneS T V l,(sysGo T V l).ts.map tmE,0⟩:=by rw [ZoneS,ifF h,ifF h2]
end
end Go.Proofs.YtkddpedfbicbeaaGreatDoor
