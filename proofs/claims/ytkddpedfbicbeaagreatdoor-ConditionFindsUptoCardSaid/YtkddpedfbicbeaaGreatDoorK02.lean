/-
  Several texts in one: M, M2, M3, M4, M5. No condition.
-/
import Derived.Test.YtkddpedfbicbeaaGreatDoorAw
import Derived.IntWalk
set_option linter.unusedVariables false
set_option linter.unusedSimpArgs false
namespace Go.Proofs.YtkddpedfbicbeaaGreatDoor
open Go Go.Aw

theorem Cx:({ data:=#[] }:ByteArray).data.toList=([]:List UInt8):=rfl

structure Vl where
 kind:Int
 num:Int
 text:List UInt8
deriving DecidableEq

structure Ex where
 op:Int
 args:List Ex
 var:Int
 field:Int
 kind:Int
 val:Vl

structure Ev where
 source:Int
 seq:Int
 type:Int
 time:Int
 values:List Vl

structure Ac where
 kind:Int
 count:Int
 val:Vl

def v0:Vl:=⟨0,0,[]⟩
def Kl:Ev:=⟨0,0,0,0,[]⟩
def Wc:Ex:=⟨0,[],0,0,0,v0⟩
def ac0:Ac:=⟨0,0,v0⟩

/-- == on values, as the model counts it out -/
@[reducible] def eqV (v w : Vl) : Bool := v.kind == w.kind && (v.num == w.num && v.text == w.text)
@[reducible] def isV0 (v : Vl) : Bool := v.kind == 0 && (v.num == 0 && v.text == [])
theorem mT (v w:Vl):eqV v w=true↔v=w:=by
 cases v;cases w;simp [eqV]
theorem jQ (v:Vl):isV0 v=true↔v=v0:=by
 cases v;simp [isV0,v0]

def cV (v:Vl):List AV:=[.int .i64 v.kind,.int .i64 v.num,.str v.text]

mutual
def Fu:Ex→List AV
 | ⟨op,args,var,field,kind,val⟩=>[.int .i64 op,.sl 8 (fH args),.int .i64 var,.int .i64 field,.int .i64 kind,.int .i64 val.kind,.int .i64 val.num,.str val.text]
def fH:List Ex→List (List AV)
 | []=>[]
 | e::r=>Fu e::fH r
end

theorem aX:∀l:List Ex,fH l=l.map Fu
 | []=>by simp [fH]
 | e::r=>by simp [fH,aX r]

def cE (e:Ex):List AV:=[.int .i64 e.op,.sl 8 (e.args.map Fu),.int .i64 e.var,.int .i64 e.field,.int .i64 e.kind,.int .i64 e.val.kind,.int .i64 e.val.num,.str e.val.text]
def Ph (e:Ev):List AV:=[.int .i64 e.source,.int .i64 e.seq,.int .i64 e.type,.int .i64 e.time,.sl 3 (e.values.map cV)]
def Xz (a:Ac):List AV:=[.int .i64 a.kind,.int .i64 a.count,.int .i64 a.val.kind,.int .i64 a.val.num,.str a.val.text]
def rO (l:List Ev):List AV:=[.sl 5 (l.map Ph)]
def cEnv (l:List (List Ev)):List AV:=[.sl 1 (l.map rO)]

theorem Jg (e:Ex):Fu e=cE e:=by
 cases e
 simp [Fu,cE,aX]

theorem Ex.Aak {P:Ex→Prop}(h:∀e,(∀a∈e.args,P a)→P e):∀e,P e:=by
 intro e
 exact Ex.rec (motive_1:=P) (motive_2:=fun l=>∀a∈l,P a) (fun op args v f k val ih=>h _ ih) (by simp) (fun a l ha hl=>by simp only [List.mem_cons,forall_eq_or_imp];exact ⟨ha,hl⟩) e

theorem E9 {l:List Ex}{k:Nat}{a:Ex}(h:l[k]? = some a):(l.map Fu)[k]? = some (cE a):=by
 simp [h,Jg]
theorem Bh {α:Type}{f:α→List AV}{l:List α}{k:Nat}{a:α}(h:l[k]? = some a):(l.map f)[k]? = some (f a):=by simp [h]

theorem B2 {α:Type}{l:List α}{k:Nat}(h:decide ((k:Int)<(l.length:Int))=true):∃a,l[k]? = some a:=by
 have:k<l.length:=by simpa using h
 exact ⟨_,List.getElem?_eq_getElem this⟩
theorem A9 {α:Type}{l:List α}{k:Nat}{a:α}(h:l[k]? = some a):k<l.length:=(List.getElem?_eq_some_iff.1 h).1
theorem A8 {α:Type}{l:List α}{k:Nat}{a:α}(h:l[k]? = some a):l.drop k=a::l.drop (k+1):=by
 obtain ⟨h1,h2⟩:=List.getElem?_eq_some_iff.1 h
 rw [←h2];exact List.drop_eq_getElem_cons h1
theorem Cq {α:Type}{l:List α}{k:Nat}{a:α}(h:l[k]? = some a):l.take (k+1)=l.take k ++ [a]:=by
 rw [List.take_add_one,h];rfl
theorem C3 {α:Type}{l:List α}{k:Nat}(h:decide ((k:Int)<(l.length:Int))=false):l.take k=l:=by
 have:¬k<l.length:=by simpa using h
 exact List.take_of_length_le (by omega)
theorem Hz {α:Type}{l:List α}{v:Int}(h0:0≤v)(h:v<(l.length:Int)):∃a,l[v.toNat]? = some a:=⟨_,List.getElem?_eq_getElem (by omega)⟩
theorem Dh {α:Type}{l:List α}{k:Nat}(h:decide ((k:Int)<(l.length:Int))=false):l.drop k = []:=by
 have:¬k<l.length:=by simpa using h
 exact List.drop_eq_nil_of_le (by omega)

/-! ### Layer 1 -/

def D3 (b:Bool):Vl:=if b then ⟨1,1,[]⟩ else ⟨1,0,[]⟩

def D8 (v:Vl):Int:=
 if v.kind==0&&(decide (v.num < -1099511627776)||decide (1099511627776<v.num)) then 2
 else if v.kind==1&&v.num != 0&&v.num != 1 then 2
 else if decide (64<(v.text.length:Int)) then 13 else 0

def Ap (v:Vl):Int:=
 if v.kind==0||v.kind==1 then (if !(v.text == []) then 3 else D8 v)
 else if v.kind==2 then (if v.num != 0 then 3 else D8 v)
 else 1

/-- the same in the order of the reference -/
def Cn (v:Vl):Int:=
 if decide (v.kind<0)||decide (2<v.kind) then 1
 else if v.kind==2 then (if v.num != 0 then 3 else if decide (64<(v.text.length:Int)) then 13 else 0)
 else if !(v.text == []) then 3
 else if v.kind==1&&(decide (v.num<0)||decide (1<v.num))||decide (v.num < -1099511627776)||decide (1099511627776<v.num) then 2 else 0
theorem Iz (v:Vl):Cn v=Ap v:=by
 unfold Cn Ap D8
 obtain ⟨k,n,t⟩:=v
 by_cases ht:t = []
 ·
  subst ht
  simp only [Bool.or_eq_true,Bool.and_eq_true,decide_eq_true_eq,beq_iff_eq,bne_iff_ne,ne_eq,not_true,if_false,List.length_nil,BEq.rfl,Bool.not_true,Bool.false_eq_true,Bool.not_true,Bool.false_eq_true]
  repeat' split
  all_goals first | rfl | omega
 ·
  simp only [Bool.or_eq_true,Bool.and_eq_true,decide_eq_true_eq,beq_iff_eq,bne_iff_ne,ne_eq,ht,not_false_eq_true,if_true,Bool.not_eq_true',beq_eq_false_iff_ne]
  repeat' split
  all_goals first | rfl | omega

/-! ### Layer 7 -/

def Dp (k:Int):Bool:=decide (0≤k)&&decide (k≤5)
def Er (k:Int)(v:Vl):Bool:=v.kind==0||(k != 1&&k != 2&&k != 3)
def Ga (k:Int)(v:Vl):Bool:=v.kind==0||k==0||k==4||k==5

def I3 (k:Int)(a b:Vl):Vl:=
 if k==1 then ⟨0,IntKind.i64.wrap (a.num+b.num),[]⟩ else if k==2 then ⟨0,min a.num b.num,[]⟩ else if k==3 then ⟨0,max a.num b.num,[]⟩ else if k==4 then a else if k==5 then b else v0
def E3 (k:Int)(v:Vl):Vl:=if k==0 then v0 else v
def E5 (a b:Ac):Ac:=if a.count==0 then b else if b.count==0 then a else ⟨a.kind,IntKind.i64.wrap (a.count+b.count),I3 a.kind a.val b.val⟩

def Bo (a:Ac):Int:=
 if !Dp a.kind then 1
 else if decide (a.count<0)||decide (4096<a.count) then 2
 else if (if a.count==0||a.kind==0 then isV0 a.val
  else if a.kind==1 then a.val.kind==0&&a.val.text == []&&decide (0-a.count*1099511627776≤a.val.num)&&decide (a.val.num≤a.count*1099511627776)
  else Ap a.val==0&&Er a.kind a.val) then 0 else 3

def racheckS (a:Ac):Int:=
 if !Dp a.kind then 1
 else if decide (a.count<0)||decide (4096<a.count) then 2
 else if a.count==0||a.kind==0 then (if !isV0 a.val then 3 else 0)
 else if a.kind==1 then (if a.val.kind != 0 || !(a.val.text == [])||decide (a.val.num<0-a.count*1099511627776)||decide (a.count*1099511627776<a.val.num) then 3 else 0)
 else if Ap a.val != 0 || !Ga a.kind a.val then 3 else 0
theorem wJ (k:Int)(v:Vl)(h:Dp k=true):Ga k v=Er k v:=by
 simp only [Dp,Bool.and_eq_true,decide_eq_true_eq] at h
 unfold Ga Er
 rw [Bool.eq_iff_iff]
 simp
 omega
def Dl (k:Int)(v:Vl):Int:=if Ap v != 0 then Ap v else if !Er k v then 9 else 0

def Do (a:Ac)(o:Vl):Vl×Int:=
 if Bo a != 0 then (v0,Bo a)
 else if Dl a.kind o != 0 then (v0,Dl a.kind o)
 else if a.kind==0 then (⟨0,a.count,[]⟩,0)
 else if a.count==0&&a.kind != 1 then (o,0)
 else (a.val,0)

def Js (k:Int)(a:Ac)(v:Vl):Ac:=E5 a ⟨k,1,E3 k v⟩
def aD (k:Int)(l:List Vl):Ac:=l.foldl (Js k) ⟨k,0,v0⟩

/-- the first error of a list -/
def Aq {α:Type}(f:α→Int):List α→Int
 | []=>0
 | a::r=>if f a != 0 then f a else Aq f r

theorem iC (a c:Ac)(h:Dp a.kind=true)(h':Dp c.kind=true):Dp (E5 a c).kind=true:=by
 unfold E5;split
 · exact h'
 · split <;> exact h
theorem sQ (k:Int)(a:Ac)(v:Vl)(h:Dp a.kind=true)(hk:Dp k=true):Dp (Js k a v).kind=true:=iC _ _ h hk

def eD (k:Int)(l:List Vl)(o:Vl):Vl×Int:=
 if !Dp k then (v0,1)
 else if decide (4096<(l.length:Int)) then (v0,5)
 else if Aq (Dl k) l != 0 then (v0,Aq (Dl k) l)
 else Do (aD k l) o

/-! ### Layer 8: nodes -/

def Dn (op:Int):Bool×Bool:=if op=1∨op=4 then (true,true) else if op=2∨op=3 then (true,false) else (false,false)
def D4 (op:Int):Int:=if op<0∨12<op then 0 else if op<5 then 0 else if op=12 then 1 else 2
def Du (k:Int)(v:Vl):Bool:=v.kind==0||k==4||k==5

def Fl (e:Ex):Int:=
 if Ap e.val != 0 then Ap e.val
 else if e.op==4&&(!Du e.kind e.val||(e.kind==1 && !isV0 e.val)) then 9 else 0

def Bk (e:Ex):Int:=
 if !(Dn e.op).1&&e.var != 0||(!(Dn e.op).2&&e.field != 0)||(!(e.op==4)&&e.kind != 0)||(!(e.op==4||e.op==0) && !isV0 e.val) then 3 else 0

def Bw (e:Ex):Int:=
 if !decide (0≤e.op∧e.op≤12) then 1
 else if (e.args.length:Int) != D4 e.op then 15
 else if ((Dn e.op).1&&(decide (e.var<0)||decide (16≤e.var)))||((Dn e.op).2&&(decide (e.field<0)||decide (8≤e.field))) then 2
 else if e.op==4&&(decide (e.kind<1)||decide (5<e.kind)) then 1
 else if e.op==4||e.op==0 then (if Fl e != 0 then Fl e else Bk e)
 else Bk e

mutual
def Jj (f:Ex→Int):Ex→Int
 | ⟨op,args,var,field,kind,val⟩=>if f ⟨op,args,var,field,kind,val⟩ != 0 then f ⟨op,args,var,field,kind,val⟩ else X0 f args
def X0 (f:Ex→Int):List Ex→Int
 | []=>0
 | e::r=>if Jj f e != 0 then Jj f e else X0 f r
end
theorem Ta (f:Ex→Int):∀l,X0 f l=Aq (Jj f) l
 | []=>by simp [X0,Aq]
 | e::r=>by simp [X0,Aq,Ta f r]
theorem Uf (f:Ex→Int)(e:Ex):Jj f e=if f e != 0 then f e else Aq (Jj f) e.args:=by
 cases e;rw [Jj,Ta]
abbrev C1:Ex→Int:=Jj Bw
theorem K9 (e:Ex):C1 e=if Bw e != 0 then Bw e else Aq C1 e.args:=Uf Bw e

mutual
def Ar:Ex→Nat
 | ⟨_,args,_,_,_,_⟩=>1+Xk args
def Xk:List Ex→Nat
 | []=>0
 | e::r=>Ar e+Xk r
end
mutual
def Ez:Ex→Nat
 | ⟨_,args,_,_,_,_⟩=>Rv args+1
def Rv:List Ex→Nat
 | []=>0
 | e::r=>max (Ez e) (Rv r)
end
theorem Yi:∀l,Xk l=(l.map Ar).sum
 | []=>by simp [Xk]
 | e::r=>by simp [Xk,Yi r]
theorem D5 (e:Ex):Ar e=1+(e.args.map Ar).sum:=by cases e;rw [Ar,Yi]
theorem Sb:∀l,Rv l=(l.map Ez).foldr max 0
 | []=>by simp [Rv]
 | e::r=>by simp [Rv,Sb r]
theorem Tz (e:Ex):Ez e=(e.args.map Ez).foldr max 0+1:=by cases e;rw [Ez,Sb]

theorem mB {l:List Ex}{a:Ex}(f:Ex→Nat)(h:a∈l):f a≤(l.map f).sum:=by
  induction l with
  | nil=>cases h
  | cons x r ih=>
    simp only [List.map_cons,List.sum_cons]
    rcases List.mem_cons.1 h with rfl | h
    · omega
    · have:=ih h;omega
theorem Gv {e a:Ex}(h:a∈e.args):Ar a<Ar e:=by
 have:=mB Ar h;have:=D5 e;omega
theorem J9 (e:Ex):Ez e≤Ar e:=by
  refine Ex.Aak (P:=fun e=>Ez e≤Ar e) (fun e ih=>?_) e
  rw [Tz,D5]
  have:∀l:List Ex,(∀a∈l,Ez a≤Ar a)→(l.map Ez).foldr max 0≤(l.map Ar).sum:=by
    intro l
    induction l with
    | nil=>intro _;exact Nat.le_refl _
    | cons x r ihr=>
      intro h
      simp only [List.map_cons,List.foldr_cons,List.sum_cons]
      have h1:=h x (by simp)
      have h2:=ihr fun a ha=>h a (by simp [ha])
      omega
  have:=this e.args ih
  omega

mutual
def Ha (L:Nat):Ex→Nat
 | ⟨_,args,_,_,_,_⟩=>F4 L args 1
def F4 (L:Nat):List Ex→Nat→Nat
 | [],n=>n
 | e::r,n=>if n≤L then F4 L r (n+Ha L e) else n
end
theorem aN (L:Nat)(e:Ex):Ha L e=F4 L e.args 1:=by cases e;rw [Ha]
theorem W4 (L:Nat)(e:Ex):Ha L e=Ar e∨(L<Ha L e∧Ha L e≤Ar e):=by
  refine Ex.Aak (P:=fun e=>Ha L e=Ar e∨(L<Ha L e∧Ha L e≤Ar e)) (fun e ih=>?_) e
  rw [aN,D5]
  have:∀(l:List Ex) (n:Nat),(∀a∈l,Ha L a=Ar a∨(L<Ha L a∧Ha L a≤Ar a))→F4 L l n=n+(l.map Ar).sum∨(L<F4 L l n∧F4 L l n≤n+(l.map Ar).sum):=by
    intro l
    induction l with
    | nil=>intro n _;simp [F4]
    | cons x r ihr=>
      intro n h
      simp only [F4,List.map_cons,List.sum_cons]
      have h1:=h x (by simp)
      have h2:=ihr (n+Ha L x) fun a ha=>h a (by simp [ha])
      split
      · have hmono:n+Ha L x≤F4 L r (n+Ha L x):=by
          have:∀(l:List Ex) (m:Nat),m≤F4 L l m:=by
            intro l
            induction l with
            | nil=>intro m;simp [F4]
            | cons y s ihs => intro m; simp only [F4]; split
                              · exact Nat.le_trans (Nat.le_add_right _ _) (ihs _)
                              · exact Nat.le_refl _
          exact this r _
        omega
      · omega
  have:=this e.args 1 ih
  omega
theorem Ww (L:Nat)(e:Ex):L<Ha L e↔L<Ar e:=by
 rcases W4 L e with h | h
 · rw [h]
 · omega

def Bu (e:Ex):Int:=if decide (64<(Ar e:Int)) then 5 else if decide (12<(Ez e:Int)) then 12 else C1 e

def Mo (op k k0:Int):Bool:=if op==5||op==6||op==7||op==8 then k==0 else if op==10||op==11||op==12 then k==1 else if op==9 then k==k0 else true
def Di (op:Int)(kinds:List Int):Int:=Aq (fun k=>if Mo op k (kinds.headD 0) then 0 else 9) kinds
def Gn (op:Int):Int:=if op==5||op==6||op==7||op==8 then 0 else if op==10||op==11||op==12 then 1 else -1
theorem aA (op k k0:Int):((decide (0≤Gn op)&&k != Gn op)||(op==9&&k != k0)) = !Mo op k k0:=by
 unfold Gn Mo
 by_cases h1:(op==5||op==6||op==7||op==8)=true
 ·
  have h9:(op==9)=false:=by simp at h1 ⊢;omega
  rw [if_pos h1,if_pos h1,h9];simp [bne]
 ·
  rw [if_neg h1,if_neg h1]
  by_cases h2:(op==10||op==11||op==12)=true
  ·
   have h9:(op==9)=false:=by simp at h2 ⊢;omega
   rw [if_pos h2,if_pos h2,h9];simp [bne]
  ·
   rw [if_neg h2,if_neg h2]
   by_cases h9:(op==9)=true
   · rw [if_pos h9,h9];simp [bne]
   · rw [if_neg h9];simp at h9;simp [h9]

/-! ### Values of expressions -/

structure Evr where
 vars:List (List Ev)
 own:Int
 event:Ev

def OPS:List (Int×AV):=[(5,.fn (.func 119) [] [.ptr [.fn (.func 118) [] []]]),(6,.fn (.func 120) [] [.ptr [.fn (.func 118) [] []]]),(7,.fn (.func 121) [] []),(8,.fn (.func 122) [] []),(10,.fn (.func 123) [] []),(11,.fn (.func 124) [] []),(12,.fn (.func 125) [] [])]
def cX (x:Evr):List AV:=[.sl 1 (x.vars.map rO),.int .i64 x.own,.int .i64 x.event.source,.int .i64 x.event.seq,.int .i64 x.event.type,.int .i64 x.event.time,.sl 3 (x.event.values.map cV),.mapv OPS]
/-- No list of events is longer than data can be. -/
def Evr.ok (x:Evr):Prop:=∀l∈x.vars,l.length≤1048576

def Bt (vars:List (List Ev))(v:Int):List Ev:=if decide (v<0)||decide ((vars.length:Int)≤v) then [] else (vars[v.toNat]?).getD []

theorem bF {x:Evr}(h:x.ok)(v:Int):(Bt x.vars v).length≤1048576:=by
 unfold Bt
 split
 · simp
 ·
  cases hl:x.vars[v.toNat]? with
  | none=>simp
  | some l=>simpa using h l (List.mem_of_getElem? hl)

def Dq (e:Ev)(k:Int):Vl×Int:=if decide ((e.values.length:Int)≤k) then (v0,6) else ((e.values[k.toNat]?).getD v0,0)

def Pk (x:Evr)(e:Ex):Vl×Int:=
 let l:=Bt x.vars e.var
 if Aq (fun v=>(Dq v e.field).2) l != 0 then (v0,Aq (fun v=>(Dq v e.field).2) l) else eD e.kind (l.map fun v=>(Dq v e.field).1) e.val

def G4 (last:Ev)(e:Ex):Vl×Int:=
 if e.op==2 then (⟨0,last.time,[]⟩,0)
 else if (Dq last e.field).2==0 then (if Ap (Dq last e.field).1 != 0 then (v0,Ap (Dq last e.field).1) else ((Dq last e.field).1,0))
 else (v0,(Dq last e.field).2)

def Fb (x:Evr)(e:Ex):Vl×Int:=
 if e.op==0 then (e.val,0)
 else if e.op==3 then (⟨0,(Bt x.vars e.var).length,[]⟩,0)
 else if e.op==4 then Pk x e
 else if e.var != x.own then (if ((Bt x.vars e.var).length:Int)==0 then (v0,10) else G4 ((Bt x.vars e.var).getLast?.getD Kl) e)
 else G4 x.event e

def lastS (vars:List (List Ev))(v own:Int)(ev:Ev):Ev×Bool:=
 if v==own then (ev,true) else if ((Bt vars v).length:Int)==0 then (Kl,false) else ((Bt vars v).getLast?.getD Kl,true)
theorem uY {α:Type}{l:List α}(h:((l.length:Int)==0)=false):∃a,l[((l.length:Int)-1).toNat]? = some a∧l.getLast? = some a:=by
 have h0:l.length≠0:=by simpa using h
 have e:((l.length:Int)-1).toNat=l.length-1:=by omega
 rw [e,List.getLast?_eq_getElem?]
 exact ⟨_,List.getElem?_eq_getElem (by omega),List.getElem?_eq_getElem (by omega)⟩

def G0 (op:Int)(a b:Int):Vl:=
 if op==5 then ⟨0,IntKind.i64.wrap (a+b),[]⟩ else if op==6 then ⟨0,IntKind.i64.wrap (a-b),[]⟩
 else if op==7 then D3 (decide (a<b)) else if op==8 then D3 (decide (a≤b))
 else if op==10 then D3 (a==1&&b==1) else if op==11 then D3 (a==1||b==1) else D3 (a != 1)

def twoS (op:Int)(v w:Vl):Vl:=if op==9 then D3 (eqV v w) else G0 op v.num w.num

/-- what an operation gives for values -/
def Kv (op:Int)(l:List Vl):Vl×Int:=
 if Di op (l.map (·.kind)) != 0 then (v0,Di op (l.map (·.kind)))
 else if op==9 then (D3 (eqV (l.headD v0) ((l[1]?).getD v0)),0)
 else (G0 op (l.headD v0).num (l.getLastD v0).num,0)

mutual
def By (x:Evr):Ex→Vl×Int
  | ⟨op,args,var,field,kind,val⟩=>
    if args.isEmpty then Fb x ⟨op,args,var,field,kind,val⟩
    else if (Kw x args).2 != 0 then (v0,(Kw x args).2) else Kv op (Kw x args).1
def Kw (x:Evr):List Ex→List Vl×Int
 | []=>([],0)
 | e::r=>if (By x e).2 != 0 then ([],(By x e).2) else if (Kw x r).2 != 0 then ([],(Kw x r).2) else ((By x e).1::(Kw x r).1,0)
end

theorem T6 (x:Evr):∀l,(Kw x l).2=Aq (fun a=>(By x a).2) l
  | []=>by simp [Kw,Aq]
  | e::r=>by
    have:=T6 x r
    by_cases h:((By x e).2 != 0)=true
    · rw [Kw,Aq,if_pos h,if_pos h]
    · rw [Kw,Aq,if_neg h,if_neg h,←this]
      by_cases h2:((Kw x r).2 != 0)=true
      · rw [if_pos h2]
      · rw [if_neg h2]
        have h3:(Kw x r).2=0:=by simpa using h2
        exact h3.symm

theorem eY (x:Evr):∀l,Aq (fun a=>(By x a).2) l=0→(Kw x l).1=l.map fun a=>(By x a).1
  | [],_=>by simp [Kw]
  | e::r,h=>by
    simp only [Aq] at h
    by_cases h1:((By x e).2 != 0)=true
    · rw [if_pos h1] at h;simp [h] at h1
    · rw [if_neg h1] at h
      have h2:¬((Kw x r).2 != 0)=true:=by rw [T6,h];simp
      rw [Kw,if_neg h1,if_neg h2]
      simp [eY x r h]

theorem Kb (x:Evr)(e:Ex):By x e=if e.args.isEmpty then Fb x e else if Aq (fun a=>(By x a).2) e.args != 0 then (v0,Aq (fun a=>(By x a).2) e.args) else Kv e.op (e.args.map fun a=>(By x a).1):=by
 cases e with | mk op args var field kind val=>
 rw [By]
 simp only [T6]
 by_cases h:Aq (fun a=>(By x a).2) args=0
 · simp [h,eY x args h]
 · simp [h]

def Wz (x:Evr)(e:Ex):Vl×Int:=if Bu e != 0 then (v0,Bu e) else By x e
def Ko (x:Evr)(e:Ex):Bool:=(Wz x e).2==0&&eqV (Wz x e).1 (D3 true)


def Pp (k:Int)(v:Vl):Int:=if Ap v != 0 then Ap v else if !Ga k v then 9 else 0
theorem pT (k:Int)(v:Vl)(h:Dp k=true):Pp k v=Dl k v:=by
 unfold Pp Dl;rw [wJ k v h]

theorem Nb {a:Ac}(h:Bo a=0):Dp a.kind=true:=by
 unfold Bo at h
 cases hk:Dp a.kind with
 | true=>rfl
 | false=>simp [hk] at h

def rresultS (a:Ac)(o:Vl):Vl×Int:=
 if Bo a != 0 then (v0,Bo a)
 else if Pp a.kind o != 0 then (v0,Pp a.kind o)
 else if a.kind==0 then (⟨0,a.count,[]⟩,0)
 else if a.count==0&&a.kind != 1 then (o,0)
 else (a.val,0)
def addS (a:Ac)(v:Vl):Ac×Int:=
 if Bo a != 0 then (ac0,Bo a)
 else if Pp a.kind v != 0 then (ac0,Pp a.kind v)
 else if a.count==4096 then (ac0,5)
 else if a.kind==0 then (⟨a.kind,IntKind.i64.wrap (a.count+1),v0⟩,0)
 else if decide (0<a.count) then (⟨a.kind,IntKind.i64.wrap (a.count+1),I3 a.kind a.val v⟩,0)
 else (⟨a.kind,IntKind.i64.wrap (a.count+1),v⟩,0)

theorem F3 {v:Vl}(h:Ap v=0)(hk:v.kind=0):v.text = []∧-1099511627776≤v.num∧v.num≤1099511627776:=by
 unfold Ap D8 at h
 by_cases ht:v.text = []
 ·
  simp [hk,ht] at h
  exact ⟨ht,by omega⟩
 · simp [hk,ht] at h

theorem xO {a:Ac}(h:Bo a=0):0≤a.count∧a.count≤4096:=by
 have hk:=Nb h
 unfold Bo at h
 simp only [hk,Bool.not_true,Bool.false_eq_true,if_false] at h
 by_cases hc:(decide (a.count<0)||decide (4096<a.count))=true
 · rw [if_pos hc] at h;cases h
 · simp at hc;omega

theorem step_ok {k:Int}{a:Ac}{v:Vl}(h:Bo a=0)(hk:a.kind=k)(hv:Dl k v=0)(hc:a.count<4096) :
  Bo (Js k a v)=0∧(Js k a v).kind=k∧(Js k a v).count=a.count+1∧addS a v=(Js k a v,0):=by
 have hkn:=Nb h
 have hcc:=xO h
 have hw:IntKind.i64.wrap (a.count+1)=a.count+1:=IntWalk.i64_in _ (by omega)
 have hadd:addS a v=if a.kind==0 then (⟨a.kind,a.count+1,v0⟩,0) else if decide (0<a.count) then (⟨a.kind,a.count+1,I3 a.kind a.val v⟩,0) else (⟨a.kind,a.count+1,v⟩,0):=by
  unfold addS
  rw [hw,pT _ _ hkn,h,hk,hv]
  have:(a.count==4096)=false:=by simp;omega
  simp [this]
 have hvc:Ap v=0:=by
  unfold Dl at hv
  by_cases e:Ap v=0
  · exact e
  · simp [e] at hv
 have hvs:Er k v=true:=by
  unfold Dl at hv
  simp [hvc] at hv;exact hv
 rw [hadd]
 obtain ⟨ak,ac,av⟩:=a
 simp only at hk hkn hc hcc h hw ⊢
 subst hk
 have h2:=h
 unfold Bo at h2
 simp only [hkn,Bool.not_true,Bool.false_eq_true,if_false] at h2
 have hn1:(decide (ac<0)||decide (4096<ac))=false:=by simp;omega
 simp only [hn1,Bool.false_eq_true,if_false] at h2
 simp only [Dp,Bool.and_eq_true,decide_eq_true_eq] at hkn
 have hn2:(decide (ac+1<0)||decide (4096<ac+1))=false:=by simp;omega
 have hk01:ak=0∨ak=1∨ak=2∨ak=3∨ak=4∨ak=5:=by omega
 by_cases h0:ac=0
 ·
  subst h0
  have hvi:ak=1→v.kind=0:=by
   intro e;subst e;simpa [Er] using hvs
  rcases hk01 with rfl | rfl | rfl | rfl | rfl | rfl
  · refine ⟨by rfl,rfl,rfl,rfl⟩
  ·
   have hb:=F3 hvc (hvi rfl)
   refine ⟨?_,rfl,rfl,rfl⟩
   simp [Js,E5,E3,Bo,Dp,hvi rfl,hb.1,hb.2]
  all_goals
   refine ⟨?_,rfl,rfl,rfl⟩
   simp [Js,E5,E3,Bo,Dp,hvc,hvs]
 ·
  have hpos:0<ac:=by omega
  have e0:(ac==0)=false:=by simp [h0]
  have hst:Js ak ⟨ak,ac,av⟩ v=⟨ak,ac+1,I3 ak av (E3 ak v)⟩:=by
   simp [Js,E5,h0,hw]
  rw [hst]
  refine ⟨?_,rfl,rfl,?_⟩
  ·
   unfold Bo
   have hkk:Dp ak=true:=by simp [Dp];omega
   have e1:(ac+1==0)=false:=by simp;omega
   simp only [hkk,Bool.not_true,hn2,Bool.false_eq_true,if_false,e1,Bool.false_or]
   simp only [e0,Bool.false_or] at h2
   rcases hk01 with rfl | rfl | rfl | rfl | rfl | rfl
   · rfl
   ·
    have hvi:v.kind=0:=by simpa [Er] using hvs
    have hb:=F3 hvc hvi
    simp at h2
    have:IntKind.i64.wrap (av.num+v.num)=av.num+v.num:=IntWalk.i64_in _ (by omega)
    simp [I3,E3,this]
    omega
   ·
    have hvi:v.kind=0:=by simpa [Er] using hvs
    have hb:=F3 hvc hvi
    simp at h2
    have hai:av.kind=0:=by simpa [Er] using h2.2
    have hba:=F3 h2.1 hai
    have hm : -1099511627776≤min av.num v.num∧min av.num v.num≤1099511627776:=by omega
    simp [I3,E3,Ap,D8,Er]
    omega
   ·
    have hvi:v.kind=0:=by simpa [Er] using hvs
    have hb:=F3 hvc hvi
    simp at h2
    have hai:av.kind=0:=by simpa [Er] using h2.2
    have hba:=F3 h2.1 hai
    have hm : -1099511627776≤max av.num v.num∧max av.num v.num≤1099511627776:=by omega
    simp [I3,E3,Ap,D8,Er]
    omega
   · simpa [I3] using h2
   · simp [I3,E3,hvc,hvs]
  ·
   have hd:decide (0<ac)=true:=by simp [hpos]
   rcases hk01 with rfl | rfl | rfl | rfl | rfl | rfl <;> simp [hd,I3,E3]

theorem oD {k:Int}:∀(l:List Vl) (a:Ac),Bo a=0→a.kind=k→Aq (Dl k) l=0→a.count+l.length≤4096→Bo (l.foldl (Js k) a)=0
  | [],a,h,_,_,_=>h
  | v::r,a,h,hk,hf,hc=>by
    simp only [Aq] at hf
    simp only [List.length_cons,Int.natCast_add,Int.cast_ofNat_Int] at hc
    by_cases hv:Dl k v=0
    · rw [if_neg (by simp [hv])] at hf
      obtain ⟨h1,h2,h3,_⟩:=step_ok h hk hv (by omega)
      exact oD r _ h1 h2 hf (by rw [h3];omega)
    · rw [if_pos (by simp [hv])] at hf;exact absurd hf hv


theorem O6 {l:List Ex}{k:Nat}{a:Ex}(d:Nat)(h:l[k]? = some a):max d (((l.drop k).map Ez).foldr max 0)=max (max d (Ez a)) (((l.drop (k+1)).map Ez).foldr max 0):=by
 rw [A8 h];simp only [List.map_cons,List.foldr_cons];omega
theorem eI {l:List Ex}{k:Nat}{a:Ex}(n:Nat)(h:l[k]? = some a):n+((l.drop k).map Ar).sum=(n+Ar a)+((l.drop (k+1)).map Ar).sum:=by
 rw [A8 h];simp only [List.map_cons,List.sum_cons];omega

theorem vV (e:Ex):1≤Ar e:=by rw [D5];omega
theorem Np (e:Ex)(h:Ar e≤1048576):e.args.length≤1048576:=by
 rw [D5] at h
 have:∀l:List Ex,l.length≤(l.map Ar).sum:=by
  intro l
  induction l with
  | nil=>exact Nat.le_refl _
  | cons x r ih=>simp only [List.length_cons,List.map_cons,List.sum_cons];have:=vV x;omega
 have:=this e.args
 omega
theorem dJ {L n:Nat}(h:L<n):∀l:List Ex,F4 L l n=n
 | []=>rfl
 | _::_=>by rw [F4,if_neg (by omega)]

/-- What the reference says of a node. -/
def Cl (e:Ex):Int:=
 if decide ((if 0≤e.op∧e.op≤12 then D4 e.op else -1)<0) then 1
 else if (e.args.length:Int) != (if 0≤e.op∧e.op≤12 then D4 e.op else -1) then 15
 else if ((Dn e.op).1&&(decide (e.var<0)||decide (16≤e.var)))||((Dn e.op).2&&(decide (e.field<0)||decide (8≤e.field))) then 2
 else if e.op==4&&(decide (e.kind<1)||decide (5<e.kind)) then 1
 else if e.op==4||e.op==0 then (if Ap e.val != 0 then Ap e.val else if e.op==4&&(!Ga e.kind e.val||(e.kind==1 && !isV0 e.val)) then 9 else Bk e)
 else if e.op==4&&(!Ga e.kind e.val||(e.kind==1 && !isV0 e.val)) then 9
 else Bk e

theorem H5 (e:Ex):Cl e=Bw e:=by
  unfold Cl Bw
  by_cases h:0≤e.op∧e.op≤12
  · have ha : ¬ D4 e.op < 0 := by unfold D4; repeat' split
                                  all_goals omega
    simp only [h,and_self,if_true,decide_true,Bool.not_true,Bool.false_eq_true,if_false,ha,decide_false]
    split
    · rfl
    split
    · rfl
    by_cases h4:e.op=4
    · simp only [h4,BEq.rfl,Bool.true_and,Bool.true_or,if_true]
      by_cases hk:(decide (e.kind<1)||decide (5<e.kind))=true
      · rw [if_pos hk,if_pos hk]
      · rw [if_neg hk,if_neg hk]
        have hs:Ga e.kind e.val=Du e.kind e.val:=by
          simp at hk
          unfold Ga Du
          have:(e.kind==0)=false:=by simp;omega
          rw [this];simp
        unfold Fl
        rw [hs,h4]
        by_cases hv:Ap e.val=0
        · rw [hv]
          simp only [bne_self_eq_false,Bool.false_eq_true,if_false,BEq.rfl,Bool.true_and]
          by_cases hb:(!Du e.kind e.val||(e.kind==1 && !isV0 e.val))=true
          · rw [if_pos hb,if_pos hb];rfl
          · rw [if_neg hb,if_neg hb];rfl
        · simp [hv]
    · have h4':(e.op==4)=false:=by simp [h4]
      simp only [h4',Bool.false_and,Bool.false_eq_true,if_false,Bool.false_or]
      unfold Fl
      simp only [h4',Bool.false_and,Bool.false_eq_true,if_false]
      by_cases hv:Ap e.val=0
      · simp [hv]
      · simp [hv]
  · simp [h]


theorem G7 {α:Type}{f:α→Int}:∀{l:List α},Aq f l=0→∀a∈l,f a=0
  | [],_,_,h=>by cases h
  | x::r,h,a,ha=>by
    simp only [Aq] at h
    by_cases hx:f x=0
    · rw [if_neg (by simp [hx])] at h
      rcases List.mem_cons.1 ha with rfl | ha
      · exact hx
      · exact G7 h a ha
    · rw [if_pos (by simpa using hx)] at h;exact absurd h hx

theorem Bb {e:Ex}(h:C1 e=0):Bw e=0∧∀a∈e.args,C1 a=0:=by
 rw [K9] at h
 by_cases hx:Bw e=0
 ·
  rw [if_neg (by simp [hx])] at h
  exact ⟨hx,G7 h⟩
 · rw [if_pos (by simpa using hx)] at h;exact absurd h hx

theorem Hb {e:Ex}(h:Bw e=0):0≤e.op∧e.op≤12∧(e.args.length:Int)=D4 e.op:=by
 unfold Bw at h
 split at h
 · cases h
 split at h
 · cases h
 rename_i h1 h2
 simp at h1 h2
 exact ⟨h1.1,h1.2,h2⟩

theorem Jx {e:Ex}(h:Bw e=0):0≤e.field:=by
  have hf:Bk e=0→(Dn e.op).2=false→e.field=0:=by
    intro h1 h2
    unfold Bk at h1
    split at h1
    · cases h1
    · rename_i h3
      simp [h2] at h3
      exact h3.1.1.2
  unfold Bw at h
  split at h
  · cases h
  split at h
  · cases h
  split at h
  · cases h
  rename_i h1 h2 h3
  cases hu:(Dn e.op).2 with
  | true=>
    simp [hu] at h3
    omega
  | false=>
    have:Bk e=0:=by
      split at h
      · cases h
      split at h
      · split at h
        · rename_i h4
          exact absurd h (by simpa using h4)
        · exact h
      · exact h
    rw [hf this hu];exact Int.le_refl _

theorem sX {e:Ex}(h:Bw e=0)(hne:((e.args.length:Int)==0)=false):(e.args.length=1∧e.op=12)∨(e.args.length=2∧5≤e.op∧e.op≤11):=by
 obtain ⟨h1,h2,h3⟩:=Hb h
 have hne':e.args.length≠0:=by simpa using hne
 unfold D4 at h3
 split at h3
 · omega
 split at h3
 · omega
 split at h3
 · omega
 · omega


mutual
def rebS (f:Ex→Ex):Ex→Ex
 | ⟨op,args,var,field,kind,val⟩=>f ⟨op,rebL f args,var,field,kind,val⟩
def rebL (f:Ex→Ex):List Ex→List Ex
 | []=>[]
 | e::r=>rebS f e::rebL f r
end
/-- the node with its arguments rebuilt -/
def outS (f:Ex→Ex)(e:Ex):Ex:=⟨e.op,e.args.map (rebS f),e.var,e.field,e.kind,e.val⟩
def Ao (e:Ex):Ex:=e.args.headD Wc
def Bg (e:Ex):Ex:=(e.args[1]?).getD Wc
def Ol (v:Vl):Ex:=⟨0,[],0,0,0,v⟩
def isC (a:Ex)(b:Bool):Bool:=a.op==0&&eqV a.val (D3 b)

theorem get0 {e:Ex}(h:0<e.args.length):e.args[(0:Int).toNat]? = some (Ao e):=by
 unfold Ao
 cases e with | mk op args a b c d=>
 cases args with
 | nil=>simp at h
 | cons x r=>rfl
theorem get1 {e:Ex}(h:1<e.args.length):e.args[(1:Int).toNat]? = some (Bg e):=by
 unfold Bg
 have:e.args[1]? = some e.args[1]:=List.getElem?_eq_getElem h
 show e.args[1]? = _
 rw [this];rfl
theorem Fp {e:Ex}(h:0<e.args.length):(e.args.map Fu)[(0:Int).toNat]? = some (cE (Ao e)):=E9 (get0 h)
theorem Ie {e:Ex}(h:1<e.args.length):(e.args.map Fu)[(1:Int).toNat]? = some (cE (Bg e)):=E9 (get1 h)
theorem A4 {e:Ex}(h:0<e.args.length):Ao e∈e.args:=List.mem_of_getElem? (get0 h)
theorem Bi {e:Ex}(h:1<e.args.length):Bg e∈e.args:=List.mem_of_getElem? (get1 h)

theorem V7 {e:Ex}(h:Bw e=0)(ho:e.op=12):0<e.args.length:=by
 obtain ⟨_,_,h3⟩:=Hb h
 rw [ho] at h3
 have:D4 12=1:=by decide
 omega
def mU (x:Evr)(e:Ex):Vl×Bool:=
 if e.args.any (fun a=>a.op != 0) then (v0,false) else if (e.args.length:Int)==0 then (v0,false) else ((By x e).1,(By x e).2==0&&Ap (By x e).1==0)

/-- what replaces a node whose arguments are folded -/
def fnodeS (x:Evr)(e:Ex):Ex:=
 if (mU x e).2 then Ol (mU x e).1
 else if e.op==12&&(Ao e).op==12 then Ao (Ao e)
 else if e.op != 10&&e.op != 11 then e
 else if isC (Ao e) (e.op==10) then Bg e
 else if isC (Bg e) (e.op==10) then Ao e
 else if isC (Ao e) (!(e.op==10))||isC (Bg e) (!(e.op==10)) then Ol (D3 (!(e.op==10)))
 else e

/-- the evaluator of folding -/
def xz:Evr:=⟨[],-1,Kl⟩
theorem flag_ok (b:Bool):Ap (D3 b)=0:=by cases b <;> decide

def FoldS (e:Ex):Ex×Int:=if Bu e != 0 then (Wc,Bu e) else (rebS (fnodeS xz) e,0)

/-! ### Likeness -/
def Oe (a b:Ex):Bool:=a.op != b.op||a.var != b.var||a.field != b.field||a.kind != b.kind || !eqV a.val b.val||(a.args.length:Int) != (b.args.length:Int)

mutual
def Lw:Ex→Ex→Bool
 | ⟨op,args,var,field,kind,val⟩,b=>if Oe ⟨op,args,var,field,kind,val⟩ b then false else Sv args b.args
def Sv:List Ex→List Ex→Bool
 | [],_=>true
 | a::r,l=>if !Lw a (l.headD Wc) then false else Sv r l.tail
end
theorem Sw (a b:Ex):Lw a b=if Oe a b then false else Sv a.args b.args:=by cases a;rw [Lw]

theorem Tj (a b:Ex):Lw a b=true↔a=b:=by
  induction a using Ex.Aak generalizing b with
  | h a ih=>
    have hL:∀(l m:List Ex),(∀x∈l,∀y,Lw x y=true↔x=y)→l.length=m.length→(Sv l m=true↔l=m):=by
      intro l
      induction l with
      | nil=>intro m _ hl;cases m with | nil=>simp [Sv] | cons _ _=>simp at hl
      | cons x r ihl=>
        intro m hx hl
        cases m with
        | nil=>simp at hl
        | cons y s=>
          have h1:=hx x (by simp) y
          have h2:=ihl s (fun z hz=>hx z (by simp [hz])) (by simpa using hl)
          rw [List.cons.injEq]
          show (if (!Lw x y)=true then false else Sv r s)=true↔x=y∧r=s
          by_cases hs:Lw x y=true
          · rw [if_neg (by simp [hs]),h2];simp [h1.1 hs]
          · rw [if_pos (by simp [hs])]
            have:¬x=y:=fun e=>hs (h1.2 e)
            simp [this]
    rw [Sw]
    by_cases hh:Oe a b=true
    · rw [if_pos hh]
      constructor
      · intro h;cases h
      · intro e;subst e
        simp [Oe] at hh
    · rw [if_neg hh]
      have hh':=hh
      simp [Oe] at hh
      obtain ⟨⟨⟨⟨⟨h1,h2⟩,h3⟩,h4⟩,h5⟩,h6⟩:=hh
      rw [hL _ _ (fun x hx y=>ih x hx y) (by omega)]
      cases a with | mk _ _ _ _ _ av=>cases b with | mk _ _ _ _ _ bv=>
        cases av;cases bv
        simp_all
theorem jX (a:Ex):Lw a a=true:=(Tj a a).2 rfl

end Go.Proofs.YtkddpedfbicbeaaGreatDoor
