/-
  Several texts in one: M, M2, M3, M4, M5. No condition.
-/
import Derived.Test.YtjedflcpjlgokaaGreatDoorAw
import Derived.IntWalk
set_option linter.unusedVariables false
set_option linter.unusedSimpArgs false
namespace Go.Proofs.YtjedflcpjlgokaaGreatDoor
open Go Go.Aw

theorem C1:({ data:=#[] }:ByteArray).data.toList=([]:List UInt8):=rfl

structure Vl where
 kind:Int
 num:Int
 text:List UInt8
deriving DecidableEq

structure Ex where
 op:Int
 args:List Ex
 var:Int
 field:Int
 kind:Int
 val:Vl

structure Ev where
 source:Int
 seq:Int
 type:Int
 time:Int
 values:List Vl

structure Ac where
 kind:Int
 count:Int
 val:Vl

def v0:Vl:=⟨0,0,[]⟩
def L3:Ev:=⟨0,0,0,0,[]⟩
def kP:Ex:=⟨0,[],0,0,0,v0⟩
def ac0:Ac:=⟨0,0,v0⟩

@[reducible] def eqV (v w : Vl) : Bool := v.kind == w.kind && (v.num == w.num && v.text == w.text)
@[reducible] def isV0 (v : Vl) : Bool := v.kind == 0 && (v.num == 0 && v.text == [])
theorem zS (v w:Vl):eqV v w=true↔v=w:=by
 cases v;cases w;simp [eqV]
theorem gE (v:Vl):isV0 v=true↔v=v0:=by
 cases v;simp [isV0,v0]

def cV (v:Vl):List AV:=[.int .i64 v.kind,.int .i64 v.num,.str v.text]

mutual
def G8:Ex→List AV
 | ⟨op,args,var,field,kind,val⟩=>[.int .i64 op,.sl 8 (dV args),.int .i64 var,.int .i64 field,.int .i64 kind,.int .i64 val.kind,.int .i64 val.num,.str val.text]
def dV:List Ex→List (List AV)
 | []=>[]
 | e::r=>G8 e::dV r
end

theorem Zy:∀l:List Ex,dV l=l.map G8
 | []=>by simp [dV]
 | e::r=>by simp [dV,Zy r]

def cE (e:Ex):List AV:=[.int .i64 e.op,.sl 8 (e.args.map G8),.int .i64 e.var,.int .i64 e.field,.int .i64 e.kind,.int .i64 e.val.kind,.int .i64 e.val.num,.str e.val.text]
def Lo (e:Ev):List AV:=[.int .i64 e.source,.int .i64 e.seq,.int .i64 e.type,.int .i64 e.time,.sl 3 (e.values.map cV)]
def Vo (a:Ac):List AV:=[.int .i64 a.kind,.int .i64 a.count,.int .i64 a.val.kind,.int .i64 a.val.num,.str a.val.text]
def rF (l:List Ev):List AV:=[.sl 5 (l.map Lo)]
def cEnv (l:List (List Ev)):List AV:=[.sl 1 (l.map rF)]

theorem Lr (e:Ex):G8 e=cE e:=by
 cases e
 simp [G8,cE,Zy]

theorem Ex.Aav {P:Ex→Prop}(h:∀e,(∀a∈e.args,P a)→P e):∀e,P e:=by
 intro e
 exact Ex.rec (motive_1:=P) (motive_2:=fun l=>∀a∈l,P a) (fun op args v f k val ih=>h _ ih) (by simp) (fun a l ha hl=>by simp only [List.mem_cons,forall_eq_or_imp];exact ⟨ha,hl⟩) e

theorem Fo {l:List Ex}{k:Nat}{a:Ex}(h:l[k]? = some a):(l.map G8)[k]? = some (cE a):=by
 simp [h,Lr]
theorem Bi {α:Type}{f:α→List AV}{l:List α}{k:Nat}{a:α}(h:l[k]? = some a):(l.map f)[k]? = some (f a):=by simp [h]

theorem B5 {α:Type}{l:List α}{k:Nat}(h:decide ((k:Int)<(l.length:Int))=true):∃a,l[k]? = some a:=by
 have:k<l.length:=by simpa using h
 exact ⟨_,List.getElem?_eq_getElem this⟩
theorem A4 {α:Type}{l:List α}{k:Nat}{a:α}(h:l[k]? = some a):k<l.length:=(List.getElem?_eq_some_iff.1 h).1
theorem A8 {α:Type}{l:List α}{k:Nat}{a:α}(h:l[k]? = some a):l.drop k=a::l.drop (k+1):=by
 obtain ⟨h1,h2⟩:=List.getElem?_eq_some_iff.1 h
 rw [←h2];exact List.drop_eq_getElem_cons h1
theorem C4 {α:Type}{l:List α}{k:Nat}{a:α}(h:l[k]? = some a):l.take (k+1)=l.take k ++ [a]:=by
 rw [List.take_add_one,h];rfl
theorem Cu {α:Type}{l:List α}{k:Nat}(h:decide ((k:Int)<(l.length:Int))=false):l.take k=l:=by
 have:¬k<l.length:=by simpa using h
 exact List.take_of_length_le (by omega)
theorem Hi {α:Type}{l:List α}{v:Int}(h0:0≤v)(h:v<(l.length:Int)):∃a,l[v.toNat]? = some a:=⟨_,List.getElem?_eq_getElem (by omega)⟩
theorem Dc {α:Type}{l:List α}{k:Nat}(h:decide ((k:Int)<(l.length:Int))=false):l.drop k = []:=by
 have:¬k<l.length:=by simpa using h
 exact List.drop_eq_nil_of_le (by omega)


def Eh (b:Bool):Vl:=if b then ⟨1,1,[]⟩ else ⟨1,0,[]⟩

def Ef (v:Vl):Int:=
 if v.kind==0&&(decide (v.num < -1099511627776)||decide (1099511627776<v.num)) then 2
 else if v.kind==1&&v.num != 0&&v.num != 1 then 2
 else if decide (64<(v.text.length:Int)) then 13 else 0

def Aq (v:Vl):Int:=
 if v.kind==0||v.kind==1 then (if !(v.text == []) then 3 else Ef v)
 else if v.kind==2 then (if v.num != 0 then 3 else Ef v)
 else 1

def Cp (v:Vl):Int:=
 if decide (v.kind<0)||decide (2<v.kind) then 1
 else if v.kind==2 then (if v.num != 0 then 3 else if decide (64<(v.text.length:Int)) then 13 else 0)
 else if !(v.text == []) then 3
 else if v.kind==1&&(decide (v.num<0)||decide (1<v.num))||decide (v.num < -1099511627776)||decide (1099511627776<v.num) then 2 else 0
theorem Is (v:Vl):Cp v=Aq v:=by
 unfold Cp Aq Ef
 obtain ⟨k,n,t⟩:=v
 by_cases ht:t = []
 ·
  subst ht
  simp only [Bool.or_eq_true,Bool.and_eq_true,decide_eq_true_eq,beq_iff_eq,bne_iff_ne,ne_eq,not_true,if_false,List.length_nil,BEq.rfl,Bool.not_true,Bool.false_eq_true,Bool.not_true,Bool.false_eq_true]
  repeat' split
  all_goals first | rfl | omega
 ·
  simp only [Bool.or_eq_true,Bool.and_eq_true,decide_eq_true_eq,beq_iff_eq,bne_iff_ne,ne_eq,ht,not_false_eq_true,if_true,Bool.not_eq_true',beq_eq_false_iff_ne]
  repeat' split
  all_goals first | rfl | omega


def Dt (k:Int):Bool:=decide (0≤k)&&decide (k≤5)
def Em (k:Int)(v:Vl):Bool:=v.kind==0||(k != 1&&k != 2&&k != 3)
def Gf (k:Int)(v:Vl):Bool:=v.kind==0||k==0||k==4||k==5

def I0 (k:Int)(a b:Vl):Vl:=
 if k==1 then ⟨0,IntKind.i64.wrap (a.num+b.num),[]⟩ else if k==2 then ⟨0,min a.num b.num,[]⟩ else if k==3 then ⟨0,max a.num b.num,[]⟩ else if k==4 then a else if k==5 then b else v0
def Et (k:Int)(v:Vl):Vl:=if k==0 then v0 else v
def Eu (a b:Ac):Ac:=if a.count==0 then b else if b.count==0 then a else ⟨a.kind,IntKind.i64.wrap (a.count+b.count),I0 a.kind a.val b.val⟩

def Bt (a:Ac):Int:=
 if !Dt a.kind then 1
 else if decide (a.count<0)||decide (4096<a.count) then 2
 else if (if a.count==0||a.kind==0 then isV0 a.val
  else if a.kind==1 then a.val.kind==0&&a.val.text == []&&decide (0-a.count*1099511627776≤a.val.num)&&decide (a.val.num≤a.count*1099511627776)
  else Aq a.val==0&&Em a.kind a.val) then 0 else 3

def racheckS (a:Ac):Int:=
 if !Dt a.kind then 1
 else if decide (a.count<0)||decide (4096<a.count) then 2
 else if a.count==0||a.kind==0 then (if !isV0 a.val then 3 else 0)
 else if a.kind==1 then (if a.val.kind != 0 || !(a.val.text == [])||decide (a.val.num<0-a.count*1099511627776)||decide (a.count*1099511627776<a.val.num) then 3 else 0)
 else if Aq a.val != 0 || !Gf a.kind a.val then 3 else 0
theorem uZ (k:Int)(v:Vl)(h:Dt k=true):Gf k v=Em k v:=by
 simp only [Dt,Bool.and_eq_true,decide_eq_true_eq] at h
 unfold Gf Em
 rw [Bool.eq_iff_iff]
 simp
 omega
def Do (k:Int)(v:Vl):Int:=if Aq v != 0 then Aq v else if !Em k v then 9 else 0

def Dr (a:Ac)(o:Vl):Vl×Int:=
 if Bt a != 0 then (v0,Bt a)
 else if Do a.kind o != 0 then (v0,Do a.kind o)
 else if a.kind==0 then (⟨0,a.count,[]⟩,0)
 else if a.count==0&&a.kind != 1 then (o,0)
 else (a.val,0)

def Jo (k:Int)(a:Ac)(v:Vl):Ac:=Eu a ⟨k,1,Et k v⟩
def Yn (k:Int)(l:List Vl):Ac:=l.foldl (Jo k) ⟨k,0,v0⟩

def Ao {α:Type}(f:α→Int):List α→Int
 | []=>0
 | a::r=>if f a != 0 then f a else Ao f r

theorem dH (a c:Ac)(h:Dt a.kind=true)(h':Dt c.kind=true):Dt (Eu a c).kind=true:=by
 unfold Eu;split
 · exact h'
 · split <;> exact h
theorem qM (k:Int)(a:Ac)(v:Vl)(h:Dt a.kind=true)(hk:Dt k=true):Dt (Jo k a v).kind=true:=dH _ _ h hk

def cQ (k:Int)(l:List Vl)(o:Vl):Vl×Int:=
 if !Dt k then (v0,1)
 else if decide (4096<(l.length:Int)) then (v0,5)
 else if Ao (Do k) l != 0 then (v0,Ao (Do k) l)
 else Dr (Yn k l) o


def D2 (op:Int):Bool×Bool:=if op=1∨op=4 then (true,true) else if op=2∨op=3 then (true,false) else (false,false)
def D8 (op:Int):Int:=if op<0∨12<op then 0 else if op<5 then 0 else if op=12 then 1 else 2
def Dz (k:Int)(v:Vl):Bool:=v.kind==0||k==4||k==5

def Fb (e:Ex):Int:=
 if Aq e.val != 0 then Aq e.val
 else if e.op==4&&(!Dz e.kind e.val||(e.kind==1 && !isV0 e.val)) then 9 else 0

def Br (e:Ex):Int:=
 if !(D2 e.op).1&&e.var != 0||(!(D2 e.op).2&&e.field != 0)||(!(e.op==4)&&e.kind != 0)||(!(e.op==4||e.op==0) && !isV0 e.val) then 3 else 0

def B3 (e:Ex):Int:=
 if !decide (0≤e.op∧e.op≤12) then 1
 else if (e.args.length:Int) != D8 e.op then 15
 else if ((D2 e.op).1&&(decide (e.var<0)||decide (16≤e.var)))||((D2 e.op).2&&(decide (e.field<0)||decide (8≤e.field))) then 2
 else if e.op==4&&(decide (e.kind<1)||decide (5<e.kind)) then 1
 else if e.op==4||e.op==0 then (if Fb e != 0 then Fb e else Br e)
 else Br e

mutual
def I4 (f:Ex→Int):Ex→Int
 | ⟨op,args,var,field,kind,val⟩=>if f ⟨op,args,var,field,kind,val⟩ != 0 then f ⟨op,args,var,field,kind,val⟩ else Xa f args
def Xa (f:Ex→Int):List Ex→Int
 | []=>0
 | e::r=>if I4 f e != 0 then I4 f e else Xa f r
end
theorem R7 (f:Ex→Int):∀l,Xa f l=Ao (I4 f) l
 | []=>by simp [Xa,Ao]
 | e::r=>by simp [Xa,Ao,R7 f r]
theorem To (f:Ex→Int)(e:Ex):I4 f e=if f e != 0 then f e else Ao (I4 f) e.args:=by
 cases e;rw [I4,R7]
abbrev Ca:Ex→Int:=I4 B3
theorem Pv (e:Ex):Ca e=if B3 e != 0 then B3 e else Ao Ca e.args:=To B3 e

mutual
def Ar:Ex→Nat
 | ⟨_,args,_,_,_,_⟩=>1+Wo args
def Wo:List Ex→Nat
 | []=>0
 | e::r=>Ar e+Wo r
end
mutual
def Ct:Ex→Nat
 | ⟨_,args,_,_,_,_⟩=>Sg args+1
def Sg:List Ex→Nat
 | []=>0
 | e::r=>max (Ct e) (Sg r)
end
theorem V0:∀l,Wo l=(l.map Ar).sum
 | []=>by simp [Wo]
 | e::r=>by simp [Wo,V0 r]
theorem Dp (e:Ex):Ar e=1+(e.args.map Ar).sum:=by cases e;rw [Ar,V0]
theorem Sp:∀l,Sg l=(l.map Ct).foldr max 0
 | []=>by simp [Sg]
 | e::r=>by simp [Sg,Sp r]
theorem K5 (e:Ex):Ct e=(e.args.map Ct).foldr max 0+1:=by cases e;rw [Ct,Sp]

theorem jE {l:List Ex}{a:Ex}(f:Ex→Nat)(h:a∈l):f a≤(l.map f).sum:=by
  induction l with
  | nil=>cases h
  | cons x r ih=>
    simp only [List.map_cons,List.sum_cons]
    rcases List.mem_cons.1 h with rfl | h
    · omega
    · have:=ih h;omega
theorem Fe {e a:Ex}(h:a∈e.args):Ar a<Ar e:=by
 have:=jE Ar h;have:=Dp e;omega
theorem Jz (e:Ex):Ct e≤Ar e:=by
  refine Ex.Aav (P:=fun e=>Ct e≤Ar e) (fun e ih=>?_) e
  rw [K5,Dp]
  have:∀l:List Ex,(∀a∈l,Ct a≤Ar a)→(l.map Ct).foldr max 0≤(l.map Ar).sum:=by
    intro l
    induction l with
    | nil=>intro _;exact Nat.le_refl _
    | cons x r ihr=>
      intro h
      simp only [List.map_cons,List.foldr_cons,List.sum_cons]
      have h1:=h x (by simp)
      have h2:=ihr fun a ha=>h a (by simp [ha])
      omega
  have:=this e.args ih
  omega

mutual
def Gw (L:Nat):Ex→Nat
 | ⟨_,args,_,_,_,_⟩=>F5 L args 1
def F5 (L:Nat):List Ex→Nat→Nat
 | [],n=>n
 | e::r,n=>if n≤L then F5 L r (n+Gw L e) else n
end
theorem Zp (L:Nat)(e:Ex):Gw L e=F5 L e.args 1:=by cases e;rw [Gw]
theorem W0 (L:Nat)(e:Ex):Gw L e=Ar e∨(L<Gw L e∧Gw L e≤Ar e):=by
  refine Ex.Aav (P:=fun e=>Gw L e=Ar e∨(L<Gw L e∧Gw L e≤Ar e)) (fun e ih=>?_) e
  rw [Zp,Dp]
  have:∀(l:List Ex) (n:Nat),(∀a∈l,Gw L a=Ar a∨(L<Gw L a∧Gw L a≤Ar a))→F5 L l n=n+(l.map Ar).sum∨(L<F5 L l n∧F5 L l n≤n+(l.map Ar).sum):=by
    intro l
    induction l with
    | nil=>intro n _;simp [F5]
    | cons x r ihr=>
      intro n h
      simp only [F5,List.map_cons,List.sum_cons]
      have h1:=h x (by simp)
      have h2:=ihr (n+Gw L x) fun a ha=>h a (by simp [ha])
      split
      · have hmono:n+Gw L x≤F5 L r (n+Gw L x):=by
          have:∀(l:List Ex) (m:Nat),m≤F5 L l m:=by
            intro l
            induction l with
            | nil=>intro m;simp [F5]
            | cons y s ihs => intro m; simp only [F5]; split
                              · exact Nat.le_trans (Nat.le_add_right _ _) (ihs _)
                              · exact Nat.le_refl _
          exact this r _
        omega
      · omega
  have:=this e.args 1 ih
  omega
theorem Wi (L:Nat)(e:Ex):L<Gw L e↔L<Ar e:=by
 rcases W0 L e with h | h
 · rw [h]
 · omega

def B4 (e:Ex):Int:=if decide (64<(Ar e:Int)) then 5 else if decide (12<(Ct e:Int)) then 12 else Ca e

def Nu (op k k0:Int):Bool:=if op==5||op==6||op==7||op==8 then k==0 else if op==10||op==11||op==12 then k==1 else if op==9 then k==k0 else true
def D0 (op:Int)(kinds:List Int):Int:=Ao (fun k=>if Nu op k (kinds.headD 0) then 0 else 9) kinds
def Ge (op:Int):Int:=if op==5||op==6||op==7||op==8 then 0 else if op==10||op==11||op==12 then 1 else -1
theorem aF (op k k0:Int):((decide (0≤Ge op)&&k != Ge op)||(op==9&&k != k0)) = !Nu op k k0:=by
 unfold Ge Nu
 by_cases h1:(op==5||op==6||op==7||op==8)=true
 ·
  have h9:(op==9)=false:=by simp at h1 ⊢;omega
  rw [if_pos h1,if_pos h1,h9];simp [bne]
 ·
  rw [if_neg h1,if_neg h1]
  by_cases h2:(op==10||op==11||op==12)=true
  ·
   have h9:(op==9)=false:=by simp at h2 ⊢;omega
   rw [if_pos h2,if_pos h2,h9];simp [bne]
  ·
   rw [if_neg h2,if_neg h2]
   by_cases h9:(op==9)=true
   · rw [if_pos h9,h9];simp [bne]
   · rw [if_neg h9];simp at h9;simp [h9]


structure Evr where
 vars:List (List Ev)
 own:Int
 event:Ev

def OPS:List (Int×AV):=[(5,.fn (.func 108) [] [.ptr [.fn (.func 107) [] []]]),(6,.fn (.func 109) [] [.ptr [.fn (.func 107) [] []]]),(7,.fn (.func 110) [] []),(8,.fn (.func 111) [] []),(10,.fn (.func 112) [] []),(11,.fn (.func 113) [] []),(12,.fn (.func 114) [] [])]
def cX (x:Evr):List AV:=[.sl 1 (x.vars.map rF),.int .i64 x.own,.int .i64 x.event.source,.int .i64 x.event.seq,.int .i64 x.event.type,.int .i64 x.event.time,.sl 3 (x.event.values.map cV),.mapv OPS]
def Evr.ok (x:Evr):Prop:=∀l∈x.vars,l.length≤1048576

def Bx (vars:List (List Ev))(v:Int):List Ev:=if decide (v<0)||decide ((vars.length:Int)≤v) then [] else (vars[v.toNat]?).getD []

theorem Yc {x:Evr}(h:x.ok)(v:Int):(Bx x.vars v).length≤1048576:=by
 unfold Bx
 split
 · simp
 ·
  cases hl:x.vars[v.toNat]? with
  | none=>simp
  | some l=>simpa using h l (List.mem_of_getElem? hl)

def Dq (e:Ev)(k:Int):Vl×Int:=if decide ((e.values.length:Int)≤k) then (v0,6) else ((e.values[k.toNat]?).getD v0,0)

def Ot (x:Evr)(e:Ex):Vl×Int:=
 let l:=Bx x.vars e.var
 if Ao (fun v=>(Dq v e.field).2) l != 0 then (v0,Ao (fun v=>(Dq v e.field).2) l) else cQ e.kind (l.map fun v=>(Dq v e.field).1) e.val

def Gs (last:Ev)(e:Ex):Vl×Int:=
 if e.op==2 then (⟨0,last.time,[]⟩,0)
 else if (Dq last e.field).2==0 then (if Aq (Dq last e.field).1 != 0 then (v0,Aq (Dq last e.field).1) else ((Dq last e.field).1,0))
 else (v0,(Dq last e.field).2)

def E7 (x:Evr)(e:Ex):Vl×Int:=
 if e.op==0 then (e.val,0)
 else if e.op==3 then (⟨0,(Bx x.vars e.var).length,[]⟩,0)
 else if e.op==4 then Ot x e
 else if e.var != x.own then (if ((Bx x.vars e.var).length:Int)==0 then (v0,10) else Gs ((Bx x.vars e.var).getLast?.getD L3) e)
 else Gs x.event e

def lastS (vars:List (List Ev))(v own:Int)(ev:Ev):Ev×Bool:=
 if v==own then (ev,true) else if ((Bx vars v).length:Int)==0 then (L3,false) else ((Bx vars v).getLast?.getD L3,true)
theorem tY {α:Type}{l:List α}(h:((l.length:Int)==0)=false):∃a,l[((l.length:Int)-1).toNat]? = some a∧l.getLast? = some a:=by
 have h0:l.length≠0:=by simpa using h
 have e:((l.length:Int)-1).toNat=l.length-1:=by omega
 rw [e,List.getLast?_eq_getElem?]
 exact ⟨_,List.getElem?_eq_getElem (by omega),List.getElem?_eq_getElem (by omega)⟩

def G3 (op:Int)(a b:Int):Vl:=
 if op==5 then ⟨0,IntKind.i64.wrap (a+b),[]⟩ else if op==6 then ⟨0,IntKind.i64.wrap (a-b),[]⟩
 else if op==7 then Eh (decide (a<b)) else if op==8 then Eh (decide (a≤b))
 else if op==10 then Eh (a==1&&b==1) else if op==11 then Eh (a==1||b==1) else Eh (a != 1)

def twoS (op:Int)(v w:Vl):Vl:=if op==9 then Eh (eqV v w) else G3 op v.num w.num

def Ko (op:Int)(l:List Vl):Vl×Int:=
 if D0 op (l.map (·.kind)) != 0 then (v0,D0 op (l.map (·.kind)))
 else if op==9 then (Eh (eqV (l.headD v0) ((l[1]?).getD v0)),0)
 else (G3 op (l.headD v0).num (l.getLastD v0).num,0)

mutual
def B6 (x:Evr):Ex→Vl×Int
  | ⟨op,args,var,field,kind,val⟩=>
    if args.isEmpty then E7 x ⟨op,args,var,field,kind,val⟩
    else if (Kp x args).2 != 0 then (v0,(Kp x args).2) else Ko op (Kp x args).1
def Kp (x:Evr):List Ex→List Vl×Int
 | []=>([],0)
 | e::r=>if (B6 x e).2 != 0 then ([],(B6 x e).2) else if (Kp x r).2 != 0 then ([],(Kp x r).2) else ((B6 x e).1::(Kp x r).1,0)
end

theorem S2 (x:Evr):∀l,(Kp x l).2=Ao (fun a=>(B6 x a).2) l
  | []=>by simp [Kp,Ao]
  | e::r=>by
    have:=S2 x r
    by_cases h:((B6 x e).2 != 0)=true
    · rw [Kp,Ao,if_pos h,if_pos h]
    · rw [Kp,Ao,if_neg h,if_neg h,←this]
      by_cases h2:((Kp x r).2 != 0)=true
      · rw [if_pos h2]
      · rw [if_neg h2]
        have h3:(Kp x r).2=0:=by simpa using h2
        exact h3.symm

theorem dY (x:Evr):∀l,Ao (fun a=>(B6 x a).2) l=0→(Kp x l).1=l.map fun a=>(B6 x a).1
  | [],_=>by simp [Kp]
  | e::r,h=>by
    simp only [Ao] at h
    by_cases h1:((B6 x e).2 != 0)=true
    · rw [if_pos h1] at h;simp [h] at h1
    · rw [if_neg h1] at h
      have h2:¬((Kp x r).2 != 0)=true:=by rw [S2,h];simp
      rw [Kp,if_neg h1,if_neg h2]
      simp [dY x r h]

theorem Kd (x:Evr)(e:Ex):B6 x e=if e.args.isEmpty then E7 x e else if Ao (fun a=>(B6 x a).2) e.args != 0 then (v0,Ao (fun a=>(B6 x a).2) e.args) else Ko e.op (e.args.map fun a=>(B6 x a).1):=by
 cases e with | mk op args var field kind val=>
 rw [B6]
 simp only [S2]
 by_cases h:Ao (fun a=>(B6 x a).2) args=0
 · simp [h,dY x args h]
 · simp [h]

def Xi (x:Evr)(e:Ex):Vl×Int:=if B4 e != 0 then (v0,B4 e) else B6 x e
def Nh (x:Evr)(e:Ex):Bool:=(Xi x e).2==0&&eqV (Xi x e).1 (Eh true)


def Ph (k:Int)(v:Vl):Int:=if Aq v != 0 then Aq v else if !Gf k v then 9 else 0
theorem nW (k:Int)(v:Vl)(h:Dt k=true):Ph k v=Do k v:=by
 unfold Ph Do;rw [uZ k v h]

theorem Mv {a:Ac}(h:Bt a=0):Dt a.kind=true:=by
 unfold Bt at h
 cases hk:Dt a.kind with
 | true=>rfl
 | false=>simp [hk] at h

def rresultS (a:Ac)(o:Vl):Vl×Int:=
 if Bt a != 0 then (v0,Bt a)
 else if Ph a.kind o != 0 then (v0,Ph a.kind o)
 else if a.kind==0 then (⟨0,a.count,[]⟩,0)
 else if a.count==0&&a.kind != 1 then (o,0)
 else (a.val,0)
def addS (a:Ac)(v:Vl):Ac×Int:=
 if Bt a != 0 then (ac0,Bt a)
 else if Ph a.kind v != 0 then (ac0,Ph a.kind v)
 else if a.count==4096 then (ac0,5)
 else if a.kind==0 then (⟨a.kind,IntKind.i64.wrap (a.count+1),v0⟩,0)
 else if decide (0<a.count) then (⟨a.kind,IntKind.i64.wrap (a.count+1),I0 a.kind a.val v⟩,0)
 else (⟨a.kind,IntKind.i64.wrap (a.count+1),v⟩,0)

theorem F1 {v:Vl}(h:Aq v=0)(hk:v.kind=0):v.text = []∧-1099511627776≤v.num∧v.num≤1099511627776:=by
 unfold Aq Ef at h
 by_cases ht:v.text = []
 ·
  simp [hk,ht] at h
  exact ⟨ht,by omega⟩
 · simp [hk,ht] at h

theorem rB {a:Ac}(h:Bt a=0):0≤a.count∧a.count≤4096:=by
 have hk:=Mv h
 unfold Bt at h
 simp only [hk,Bool.not_true,Bool.false_eq_true,if_false] at h
 by_cases hc:(decide (a.count<0)||decide (4096<a.count))=true
 · rw [if_pos hc] at h;cases h
 · simp at hc;omega

theorem zM {k:Int}{a:Ac}{v:Vl}(h:Bt a=0)(hk:a.kind=k)(hv:Do k v=0)(hc:a.count<4096) :
  Bt (Jo k a v)=0∧(Jo k a v).kind=k∧(Jo k a v).count=a.count+1∧addS a v=(Jo k a v,0):=by
 have hkn:=Mv h
 have hcc:=rB h
 have hw:IntKind.i64.wrap (a.count+1)=a.count+1:=IntWalk.i64_in _ (by omega)
 have hadd:addS a v=if a.kind==0 then (⟨a.kind,a.count+1,v0⟩,0) else if decide (0<a.count) then (⟨a.kind,a.count+1,I0 a.kind a.val v⟩,0) else (⟨a.kind,a.count+1,v⟩,0):=by
  unfold addS
  rw [hw,nW _ _ hkn,h,hk,hv]
  have:(a.count==4096)=false:=by simp;omega
  simp [this]
 have hvc:Aq v=0:=by
  unfold Do at hv
  by_cases e:Aq v=0
  · exact e
  · simp [e] at hv
 have hvs:Em k v=true:=by
  unfold Do at hv
  simp [hvc] at hv;exact hv
 rw [hadd]
 obtain ⟨ak,ac,av⟩:=a
 simp only at hk hkn hc hcc h hw ⊢
 subst hk
 have h2:=h
 unfold Bt at h2
 simp only [hkn,Bool.not_true,Bool.false_eq_true,if_false] at h2
 have hn1:(decide (ac<0)||decide (4096<ac))=false:=by simp;omega
 simp only [hn1,Bool.false_eq_true,if_false] at h2
 simp only [Dt,Bool.and_eq_true,decide_eq_true_eq] at hkn
 have hn2:(decide (ac+1<0)||decide (4096<ac+1))=false:=by simp;omega
 have hk01:ak=0∨ak=1∨ak=2∨ak=3∨ak=4∨ak=5:=by omega
 by_cases h0:ac=0
 ·
  subst h0
  have hvi:ak=1→v.kind=0:=by
   intro e;subst e;simpa [Em] using hvs
  rcases hk01 with rfl | rfl | rfl | rfl | rfl | rfl
  · refine ⟨by rfl,rfl,rfl,rfl⟩
  ·
   have hb:=F1 hvc (hvi rfl)
   refine ⟨?_,rfl,rfl,rfl⟩
   simp [Jo,Eu,Et,Bt,Dt,hvi rfl,hb.1,hb.2]
  all_goals
   refine ⟨?_,rfl,rfl,rfl⟩
   simp [Jo,Eu,Et,Bt,Dt,hvc,hvs]
 ·
  have hpos:0<ac:=by omega
  have e0:(ac==0)=false:=by simp [h0]
  have hst:Jo ak ⟨ak,ac,av⟩ v=⟨ak,ac+1,I0 ak av (Et ak v)⟩:=by
   simp [Jo,Eu,h0,hw]
  rw [hst]
  refine ⟨?_,rfl,rfl,?_⟩
  ·
   unfold Bt
   have hkk:Dt ak=true:=by simp [Dt];omega
   have e1:(ac+1==0)=false:=by simp;omega
   simp only [hkk,Bool.not_true,hn2,Bool.false_eq_true,if_false,e1,Bool.false_or]
   simp only [e0,Bool.false_or] at h2
   rcases hk01 with rfl | rfl | rfl | rfl | rfl | rfl
   · rfl
   ·
    have hvi:v.kind=0:=by simpa [Em] using hvs
    have hb:=F1 hvc hvi
    simp at h2
    have:IntKind.i64.wrap (av.num+v.num)=av.num+v.num:=IntWalk.i64_in _ (by omega)
    simp [I0,Et,this]
    omega
   ·
    have hvi:v.kind=0:=by simpa [Em] using hvs
    have hb:=F1 hvc hvi
    simp at h2
    have hai:av.kind=0:=by simpa [Em] using h2.2
    have hba:=F1 h2.1 hai
    have hm : -1099511627776≤min av.num v.num∧min av.num v.num≤1099511627776:=by omega
    simp [I0,Et,Aq,Ef,Em]
    omega
   ·
    have hvi:v.kind=0:=by simpa [Em] using hvs
    have hb:=F1 hvc hvi
    simp at h2
    have hai:av.kind=0:=by simpa [Em] using h2.2
    have hba:=F1 h2.1 hai
    have hm : -1099511627776≤max av.num v.num∧max av.num v.num≤1099511627776:=by omega
    simp [I0,Et,Aq,Ef,Em]
    omega
   · simpa [I0] using h2
   · simp [I0,Et,hvc,hvs]
  ·
   have hd:decide (0<ac)=true:=by simp [hpos]
   rcases hk01 with rfl | rfl | rfl | rfl | rfl | rfl <;> simp [hd,I0,Et]

theorem kQ {k:Int}:∀(l:List Vl) (a:Ac),Bt a=0→a.kind=k→Ao (Do k) l=0→a.count+l.length≤4096→Bt (l.foldl (Jo k) a)=0
  | [],a,h,_,_,_=>h
  | v::r,a,h,hk,hf,hc=>by
    simp only [Ao] at hf
    simp only [List.length_cons,Int.natCast_add,Int.cast_ofNat_Int] at hc
    by_cases hv:Do k v=0
    · rw [if_neg (by simp [hv])] at hf
      obtain ⟨h1,h2,h3,_⟩:=zM h hk hv (by omega)
      exact kQ r _ h1 h2 hf (by rw [h3];omega)
    · rw [if_pos (by simp [hv])] at hf;exact absurd hf hv


theorem Og {l:List Ex}{k:Nat}{a:Ex}(d:Nat)(h:l[k]? = some a):max d (((l.drop k).map Ct).foldr max 0)=max (max d (Ct a)) (((l.drop (k+1)).map Ct).foldr max 0):=by
 rw [A8 h];simp only [List.map_cons,List.foldr_cons];omega
theorem gI {l:List Ex}{k:Nat}{a:Ex}(n:Nat)(h:l[k]? = some a):n+((l.drop k).map Ar).sum=(n+Ar a)+((l.drop (k+1)).map Ar).sum:=by
 rw [A8 h];simp only [List.map_cons,List.sum_cons];omega

theorem uV (e:Ex):1≤Ar e:=by rw [Dp];omega
theorem Ng (e:Ex)(h:Ar e≤1048576):e.args.length≤1048576:=by
 rw [Dp] at h
 have:∀l:List Ex,l.length≤(l.map Ar).sum:=by
  intro l
  induction l with
  | nil=>exact Nat.le_refl _
  | cons x r ih=>simp only [List.length_cons,List.map_cons,List.sum_cons];have:=uV x;omega
 have:=this e.args
 omega
theorem bE {L n:Nat}(h:L<n):∀l:List Ex,F5 L l n=n
 | []=>rfl
 | _::_=>by rw [F5,if_neg (by omega)]

def Cm (e:Ex):Int:=
 if decide ((if 0≤e.op∧e.op≤12 then D8 e.op else -1)<0) then 1
 else if (e.args.length:Int) != (if 0≤e.op∧e.op≤12 then D8 e.op else -1) then 15
 else if ((D2 e.op).1&&(decide (e.var<0)||decide (16≤e.var)))||((D2 e.op).2&&(decide (e.field<0)||decide (8≤e.field))) then 2
 else if e.op==4&&(decide (e.kind<1)||decide (5<e.kind)) then 1
 else if e.op==4||e.op==0 then (if Aq e.val != 0 then Aq e.val else if e.op==4&&(!Gf e.kind e.val||(e.kind==1 && !isV0 e.val)) then 9 else Br e)
 else if e.op==4&&(!Gf e.kind e.val||(e.kind==1 && !isV0 e.val)) then 9
 else Br e

theorem Hr (e:Ex):Cm e=B3 e:=by
  unfold Cm B3
  by_cases h:0≤e.op∧e.op≤12
  · have ha : ¬ D8 e.op < 0 := by unfold D8; repeat' split
                                  all_goals omega
    simp only [h,and_self,if_true,decide_true,Bool.not_true,Bool.false_eq_true,if_false,ha,decide_false]
    split
    · rfl
    split
    · rfl
    by_cases h4:e.op=4
    · simp only [h4,BEq.rfl,Bool.true_and,Bool.true_or,if_true]
      by_cases hk:(decide (e.kind<1)||decide (5<e.kind))=true
      · rw [if_pos hk,if_pos hk]
      · rw [if_neg hk,if_neg hk]
        have hs:Gf e.kind e.val=Dz e.kind e.val:=by
          simp at hk
          unfold Gf Dz
          have:(e.kind==0)=false:=by simp;omega
          rw [this];simp
        unfold Fb
        rw [hs,h4]
        by_cases hv:Aq e.val=0
        · rw [hv]
          simp only [bne_self_eq_false,Bool.false_eq_true,if_false,BEq.rfl,Bool.true_and]
          by_cases hb:(!Dz e.kind e.val||(e.kind==1 && !isV0 e.val))=true
          · rw [if_pos hb,if_pos hb];rfl
          · rw [if_neg hb,if_neg hb];rfl
        · simp [hv]
    · have h4':(e.op==4)=false:=by simp [h4]
      simp only [h4',Bool.false_and,Bool.false_eq_true,if_false,Bool.false_or]
      unfold Fb
      simp only [h4',Bool.false_and,Bool.false_eq_true,if_false]
      by_cases hv:Aq e.val=0
      · simp [hv]
      · simp [hv]
  · simp [h]


theorem Gy {α:Type}{f:α→Int}:∀{l:List α},Ao f l=0→∀a∈l,f a=0
  | [],_,_,h=>by cases h
  | x::r,h,a,ha=>by
    simp only [Ao] at h
    by_cases hx:f x=0
    · rw [if_neg (by simp [hx])] at h
      rcases List.mem_cons.1 ha with rfl | ha
      · exact hx
      · exact Gy h a ha
    · rw [if_pos (by simpa using hx)] at h;exact absurd h hx

theorem Bc {e:Ex}(h:Ca e=0):B3 e=0∧∀a∈e.args,Ca a=0:=by
 rw [Pv] at h
 by_cases hx:B3 e=0
 ·
  rw [if_neg (by simp [hx])] at h
  exact ⟨hx,Gy h⟩
 · rw [if_pos (by simpa using hx)] at h;exact absurd h hx

theorem F6 {e:Ex}(h:B3 e=0):0≤e.op∧e.op≤12∧(e.args.length:Int)=D8 e.op:=by
 unfold B3 at h
 split at h
 · cases h
 split at h
 · cases h
 rename_i h1 h2
 simp at h1 h2
 exact ⟨h1.1,h1.2,h2⟩

theorem Jr {e:Ex}(h:B3 e=0):0≤e.field:=by
  have hf:Br e=0→(D2 e.op).2=false→e.field=0:=by
    intro h1 h2
    unfold Br at h1
    split at h1
    · cases h1
    · rename_i h3
      simp [h2] at h3
      exact h3.1.1.2
  unfold B3 at h
  split at h
  · cases h
  split at h
  · cases h
  split at h
  · cases h
  rename_i h1 h2 h3
  cases hu:(D2 e.op).2 with
  | true=>
    simp [hu] at h3
    omega
  | false=>
    have:Br e=0:=by
      split at h
      · cases h
      split at h
      · split at h
        · rename_i h4
          exact absurd h (by simpa using h4)
        · exact h
      · exact h
    rw [hf this hu];exact Int.le_refl _

theorem pI {e:Ex}(h:B3 e=0)(hne:((e.args.length:Int)==0)=false):(e.args.length=1∧e.op=12)∨(e.args.length=2∧5≤e.op∧e.op≤11):=by
 obtain ⟨h1,h2,h3⟩:=F6 h
 have hne':e.args.length≠0:=by simpa using hne
 unfold D8 at h3
 split at h3
 · omega
 split at h3
 · omega
 split at h3
 · omega
 · omega


mutual
def zA (f:Ex→Ex):Ex→Ex
 | ⟨op,args,var,field,kind,val⟩=>f ⟨op,rebL f args,var,field,kind,val⟩
def rebL (f:Ex→Ex):List Ex→List Ex
 | []=>[]
 | e::r=>zA f e::rebL f r
end
def outS (f:Ex→Ex)(e:Ex):Ex:=⟨e.op,e.args.map (zA f),e.var,e.field,e.kind,e.val⟩
def Av (e:Ex):Ex:=e.args.headD kP
def Cc (e:Ex):Ex:=(e.args[1]?).getD kP
def Ny (v:Vl):Ex:=⟨0,[],0,0,0,v⟩
def isC (a:Ex)(b:Bool):Bool:=a.op==0&&eqV a.val (Eh b)

theorem get0 {e:Ex}(h:0<e.args.length):e.args[(0:Int).toNat]? = some (Av e):=by
 unfold Av
 cases e with | mk op args a b c d=>
 cases args with
 | nil=>simp at h
 | cons x r=>rfl
theorem get1 {e:Ex}(h:1<e.args.length):e.args[(1:Int).toNat]? = some (Cc e):=by
 unfold Cc
 have:e.args[1]? = some e.args[1]:=List.getElem?_eq_getElem h
 show e.args[1]? = _
 rw [this];rfl
theorem E4 {e:Ex}(h:0<e.args.length):(e.args.map G8)[(0:Int).toNat]? = some (cE (Av e)):=Fo (get0 h)
theorem H7 {e:Ex}(h:1<e.args.length):(e.args.map G8)[(1:Int).toNat]? = some (cE (Cc e)):=Fo (get1 h)
theorem A0 {e:Ex}(h:0<e.args.length):Av e∈e.args:=List.mem_of_getElem? (get0 h)
theorem Bk {e:Ex}(h:1<e.args.length):Cc e∈e.args:=List.mem_of_getElem? (get1 h)

theorem lL {e:Ex}(h:B3 e=0)(ho:e.op=12):0<e.args.length:=by
 obtain ⟨_,_,h3⟩:=F6 h
 rw [ho] at h3
 have:D8 12=1:=by decide
 omega
def lY (x:Evr)(e:Ex):Vl×Bool:=
 if e.args.any (fun a=>a.op != 0) then (v0,false) else if (e.args.length:Int)==0 then (v0,false) else ((B6 x e).1,(B6 x e).2==0&&Aq (B6 x e).1==0)

def fnodeS (x:Evr)(e:Ex):Ex:=
 if (lY x e).2 then Ny (lY x e).1
 else if e.op==12&&(Av e).op==12 then Av (Av e)
 else if e.op != 10&&e.op != 11 then e
 else if isC (Av e) (e.op==10) then Cc e
 else if isC (Cc e) (e.op==10) then Av e
 else if isC (Av e) (!(e.op==10))||isC (Cc e) (!(e.op==10)) then Ny (Eh (!(e.op==10)))
 else e

def xz:Evr:=⟨[],-1,L3⟩
theorem yJ (b:Bool):Aq (Eh b)=0:=by cases b <;> decide

def FoldS (e:Ex):Ex×Int:=if B4 e != 0 then (kP,B4 e) else (zA (fnodeS xz) e,0)

def Ox (a b:Ex):Bool:=a.op != b.op||a.var != b.var||a.field != b.field||a.kind != b.kind || !eqV a.val b.val||(a.args.length:Int) != (b.args.length:Int)

mutual
def Lx:Ex→Ex→Bool
 | ⟨op,args,var,field,kind,val⟩,b=>if Ox ⟨op,args,var,field,kind,val⟩ b then false else Re args b.args
def Re:List Ex→List Ex→Bool
 | [],_=>true
 | a::r,l=>if !Lx a (l.headD kP) then false else Re r l.tail
end
theorem Sk (a b:Ex):Lx a b=if Ox a b then false else Re a.args b.args:=by cases a;rw [Lx]

theorem pX (a b:Ex):Lx a b=true↔a=b:=by
  induction a using Ex.Aav generalizing b with
  | h a ih=>
    have hL:∀(l m:List Ex),(∀x∈l,∀y,Lx x y=true↔x=y)→l.length=m.length→(Re l m=true↔l=m):=by
      intro l
      induction l with
      | nil=>intro m _ hl;cases m with | nil=>simp [Re] | cons _ _=>simp at hl
      | cons x r ihl=>
        intro m hx hl
        cases m with
        | nil=>simp at hl
        | cons y s=>
          have h1:=hx x (by simp) y
          have h2:=ihl s (fun z hz=>hx z (by simp [hz])) (by simpa using hl)
          rw [List.cons.injEq]
          show (if (!Lx x y)=true then false else Re r s)=true↔x=y∧r=s
          by_cases hs:Lx x y=true
          · rw [if_neg (by simp [hs]),h2];simp [h1.1 hs]
          · rw [if_pos (by simp [hs])]
            have:¬x=y:=fun e=>hs (h1.2 e)
            simp [this]
    rw [Sk]
    by_cases hh:Ox a b=true
    · rw [if_pos hh]
      constructor
      · intro h;cases h
      · intro e;subst e
        simp [Ox] at hh
    · rw [if_neg hh]
      have hh':=hh
      simp [Ox] at hh
      obtain ⟨⟨⟨⟨⟨h1,h2⟩,h3⟩,h4⟩,h5⟩,h6⟩:=hh
      rw [hL _ _ (fun x hx y=>ih x hx y) (by omega)]
      cases a with | mk _ _ _ _ _ av=>cases b with | mk _ _ _ _ _ bv=>
        cases av;cases bv
        simp_all
end Go.Proofs.YtjedflcpjlgokaaGreatDoor
