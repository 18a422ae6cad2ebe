/-
  Several texts in one: M, M2, M3, M4, M5. No condition.
-/
import Derived.Test.YtkddpedfbicbeaaGreatDoorAw
import Derived.IntWalk
set_option linter.unusedVariables false
set_option linter.unusedSimpArgs false
namespace Go.Proofs.YtkddpedfbicbeaaGreatDoor
open Go Go.Aw

theorem Cx:({ data:=#[] }:ByteArray).data.toList=([]:List UInt8):=rfl

structure Vl where
 kind:Int
 num:Int
 text:List UInt8
deriving DecidableEq

structure Ex where
 op:Int
 args:List Ex
 var:Int
 field:Int
 kind:Int
 val:Vl

structure Ev where
 source:Int
 seq:Int
 type:Int
 time:Int
 values:List Vl

structure Ac where
 kind:Int
 count:Int
 val:Vl

def v0:Vl:=⟨0,0,[]⟩
def Kn:Ev:=⟨0,0,0,0,[]⟩
def nU:Ex:=⟨0,[],0,0,0,v0⟩
def ac0:Ac:=⟨0,0,v0⟩

@[reducible] def eqV (v w : Vl) : Bool := v.kind == w.kind && (v.num == w.num && v.text == w.text)
@[reducible] def isV0 (v : Vl) : Bool := v.kind == 0 && (v.num == 0 && v.text == [])
theorem pC (v w:Vl):eqV v w=true↔v=w:=by
 cases v;cases w;simp [eqV]
theorem fE (v:Vl):isV0 v=true↔v=v0:=by
 cases v;simp [isV0,v0]

def cV (v:Vl):List AV:=[.int .i64 v.kind,.int .i64 v.num,.str v.text]

mutual
def Gs:Ex→List AV
 | ⟨op,args,var,field,kind,val⟩=>[.int .i64 op,.sl 8 (gM args),.int .i64 var,.int .i64 field,.int .i64 kind,.int .i64 val.kind,.int .i64 val.num,.str val.text]
def gM:List Ex→List (List AV)
 | []=>[]
 | e::r=>Gs e::gM r
end

theorem aZ:∀l:List Ex,gM l=l.map Gs
 | []=>by simp [gM]
 | e::r=>by simp [gM,aZ r]

def cE (e:Ex):List AV:=[.int .i64 e.op,.sl 8 (e.args.map Gs),.int .i64 e.var,.int .i64 e.field,.int .i64 e.kind,.int .i64 e.val.kind,.int .i64 e.val.num,.str e.val.text]
def Pm (e:Ev):List AV:=[.int .i64 e.source,.int .i64 e.seq,.int .i64 e.type,.int .i64 e.time,.sl 3 (e.values.map cV)]
def Wp (a:Ac):List AV:=[.int .i64 a.kind,.int .i64 a.count,.int .i64 a.val.kind,.int .i64 a.val.num,.str a.val.text]
def qQ (l:List Ev):List AV:=[.sl 5 (l.map Pm)]
def cEnv (l:List (List Ev)):List AV:=[.sl 1 (l.map qQ)]

theorem K5 (e:Ex):Gs e=cE e:=by
 cases e
 simp [Gs,cE,aZ]

theorem Ex.Aa0 {P:Ex→Prop}(h:∀e,(∀a∈e.args,P a)→P e):∀e,P e:=by
 intro e
 exact Ex.rec (motive_1:=P) (motive_2:=fun l=>∀a∈l,P a) (fun op args v f k val ih=>h _ ih) (by simp) (fun a l ha hl=>by simp only [List.mem_cons,forall_eq_or_imp];exact ⟨ha,hl⟩) e

theorem E0 {l:List Ex}{k:Nat}{a:Ex}(h:l[k]? = some a):(l.map Gs)[k]? = some (cE a):=by
 simp [h,K5]
theorem Bg {α:Type}{f:α→List AV}{l:List α}{k:Nat}{a:α}(h:l[k]? = some a):(l.map f)[k]? = some (f a):=by simp [h]

theorem B1 {α:Type}{l:List α}{k:Nat}(h:decide ((k:Int)<(l.length:Int))=true):∃a,l[k]? = some a:=by
 have:k<l.length:=by simpa using h
 exact ⟨_,List.getElem?_eq_getElem this⟩
theorem A8 {α:Type}{l:List α}{k:Nat}{a:α}(h:l[k]? = some a):k<l.length:=(List.getElem?_eq_some_iff.1 h).1
theorem A5 {α:Type}{l:List α}{k:Nat}{a:α}(h:l[k]? = some a):l.drop k=a::l.drop (k+1):=by
 obtain ⟨h1,h2⟩:=List.getElem?_eq_some_iff.1 h
 rw [←h2];exact List.drop_eq_getElem_cons h1
theorem Cm {α:Type}{l:List α}{k:Nat}{a:α}(h:l[k]? = some a):l.take (k+1)=l.take k ++ [a]:=by
 rw [List.take_add_one,h];rfl
theorem Cv {α:Type}{l:List α}{k:Nat}(h:decide ((k:Int)<(l.length:Int))=false):l.take k=l:=by
 have:¬k<l.length:=by simpa using h
 exact List.take_of_length_le (by omega)
theorem Hq {α:Type}{l:List α}{v:Int}(h0:0≤v)(h:v<(l.length:Int)):∃a,l[v.toNat]? = some a:=⟨_,List.getElem?_eq_getElem (by omega)⟩
theorem Df {α:Type}{l:List α}{k:Nat}(h:decide ((k:Int)<(l.length:Int))=false):l.drop k = []:=by
 have:¬k<l.length:=by simpa using h
 exact List.drop_eq_nil_of_le (by omega)


def D0 (b:Bool):Vl:=if b then ⟨1,1,[]⟩ else ⟨1,0,[]⟩

def D5 (v:Vl):Int:=
 if v.kind==0&&(decide (v.num < -1099511627776)||decide (1099511627776<v.num)) then 2
 else if v.kind==1&&v.num != 0&&v.num != 1 then 2
 else if decide (64<(v.text.length:Int)) then 13 else 0

def An (v:Vl):Int:=
 if v.kind==0||v.kind==1 then (if !(v.text == []) then 3 else D5 v)
 else if v.kind==2 then (if v.num != 0 then 3 else D5 v)
 else 1

def Co (v:Vl):Int:=
 if decide (v.kind<0)||decide (2<v.kind) then 1
 else if v.kind==2 then (if v.num != 0 then 3 else if decide (64<(v.text.length:Int)) then 13 else 0)
 else if !(v.text == []) then 3
 else if v.kind==1&&(decide (v.num<0)||decide (1<v.num))||decide (v.num < -1099511627776)||decide (1099511627776<v.num) then 2 else 0
theorem Iv (v:Vl):Co v=An v:=by
 unfold Co An D5
 obtain ⟨k,n,t⟩:=v
 by_cases ht:t = []
 ·
  subst ht
  simp only [Bool.or_eq_true,Bool.and_eq_true,decide_eq_true_eq,beq_iff_eq,bne_iff_ne,ne_eq,not_true,if_false,List.length_nil,BEq.rfl,Bool.not_true,Bool.false_eq_true,Bool.not_true,Bool.false_eq_true]
  repeat' split
  all_goals first | rfl | omega
 ·
  simp only [Bool.or_eq_true,Bool.and_eq_true,decide_eq_true_eq,beq_iff_eq,bne_iff_ne,ne_eq,ht,not_false_eq_true,if_true,Bool.not_eq_true',beq_eq_false_iff_ne]
  repeat' split
  all_goals first | rfl | omega


def Dn (k:Int):Bool:=decide (0≤k)&&decide (k≤5)
def Ej (k:Int)(v:Vl):Bool:=v.kind==0||(k != 1&&k != 2&&k != 3)
def Gc (k:Int)(v:Vl):Bool:=v.kind==0||k==0||k==4||k==5

def I0 (k:Int)(a b:Vl):Vl:=
 if k==1 then ⟨0,IntKind.i64.wrap (a.num+b.num),[]⟩ else if k==2 then ⟨0,min a.num b.num,[]⟩ else if k==3 then ⟨0,max a.num b.num,[]⟩ else if k==4 then a else if k==5 then b else v0
def Ez (k:Int)(v:Vl):Vl:=if k==0 then v0 else v
def Ey (a b:Ac):Ac:=if a.count==0 then b else if b.count==0 then a else ⟨a.kind,IntKind.i64.wrap (a.count+b.count),I0 a.kind a.val b.val⟩

def Bo (a:Ac):Int:=
 if !Dn a.kind then 1
 else if decide (a.count<0)||decide (4096<a.count) then 2
 else if (if a.count==0||a.kind==0 then isV0 a.val
  else if a.kind==1 then a.val.kind==0&&a.val.text == []&&decide (0-a.count*1099511627776≤a.val.num)&&decide (a.val.num≤a.count*1099511627776)
  else An a.val==0&&Ej a.kind a.val) then 0 else 3

def racheckS (a:Ac):Int:=
 if !Dn a.kind then 1
 else if decide (a.count<0)||decide (4096<a.count) then 2
 else if a.count==0||a.kind==0 then (if !isV0 a.val then 3 else 0)
 else if a.kind==1 then (if a.val.kind != 0 || !(a.val.text == [])||decide (a.val.num<0-a.count*1099511627776)||decide (a.count*1099511627776<a.val.num) then 3 else 0)
 else if An a.val != 0 || !Gc a.kind a.val then 3 else 0
theorem vV (k:Int)(v:Vl)(h:Dn k=true):Gc k v=Ej k v:=by
 simp only [Dn,Bool.and_eq_true,decide_eq_true_eq] at h
 unfold Gc Ej
 rw [Bool.eq_iff_iff]
 simp
 omega
def Dk (k:Int)(v:Vl):Int:=if An v != 0 then An v else if !Ej k v then 9 else 0

def Dm (a:Ac)(o:Vl):Vl×Int:=
 if Bo a != 0 then (v0,Bo a)
 else if Dk a.kind o != 0 then (v0,Dk a.kind o)
 else if a.kind==0 then (⟨0,a.count,[]⟩,0)
 else if a.count==0&&a.kind != 1 then (o,0)
 else (a.val,0)

def Jp (k:Int)(a:Ac)(v:Vl):Ac:=Ey a ⟨k,1,Ez k v⟩
def Z8 (k:Int)(l:List Vl):Ac:=l.foldl (Jp k) ⟨k,0,v0⟩

def Aq {α:Type}(f:α→Int):List α→Int
 | []=>0
 | a::r=>if f a != 0 then f a else Aq f r

theorem iK (a c:Ac)(h:Dn a.kind=true)(h':Dn c.kind=true):Dn (Ey a c).kind=true:=by
 unfold Ey;split
 · exact h'
 · split <;> exact h
theorem qT (k:Int)(a:Ac)(v:Vl)(h:Dn a.kind=true)(hk:Dn k=true):Dn (Jp k a v).kind=true:=iK _ _ h hk

def eC (k:Int)(l:List Vl)(o:Vl):Vl×Int:=
 if !Dn k then (v0,1)
 else if decide (4096<(l.length:Int)) then (v0,5)
 else if Aq (Dk k) l != 0 then (v0,Aq (Dk k) l)
 else Dm (Z8 k l) o


def Dt (op:Int):Bool×Bool:=if op=1∨op=4 then (true,true) else if op=2∨op=3 then (true,false) else (false,false)
def D6 (op:Int):Int:=if op<0∨12<op then 0 else if op<5 then 0 else if op=12 then 1 else 2
def Du (k:Int)(v:Vl):Bool:=v.kind==0||k==4||k==5

def Fb (e:Ex):Int:=
 if An e.val != 0 then An e.val
 else if e.op==4&&(!Du e.kind e.val||(e.kind==1 && !isV0 e.val)) then 9 else 0

def Bl (e:Ex):Int:=
 if !(Dt e.op).1&&e.var != 0||(!(Dt e.op).2&&e.field != 0)||(!(e.op==4)&&e.kind != 0)||(!(e.op==4||e.op==0) && !isV0 e.val) then 3 else 0

def Bx (e:Ex):Int:=
 if !decide (0≤e.op∧e.op≤12) then 1
 else if (e.args.length:Int) != D6 e.op then 15
 else if ((Dt e.op).1&&(decide (e.var<0)||decide (16≤e.var)))||((Dt e.op).2&&(decide (e.field<0)||decide (8≤e.field))) then 2
 else if e.op==4&&(decide (e.kind<1)||decide (5<e.kind)) then 1
 else if e.op==4||e.op==0 then (if Fb e != 0 then Fb e else Bl e)
 else Bl e

mutual
def Jd (f:Ex→Int):Ex→Int
 | ⟨op,args,var,field,kind,val⟩=>if f ⟨op,args,var,field,kind,val⟩ != 0 then f ⟨op,args,var,field,kind,val⟩ else Ye f args
def Ye (f:Ex→Int):List Ex→Int
 | []=>0
 | e::r=>if Jd f e != 0 then Jd f e else Ye f r
end
theorem Sx (f:Ex→Int):∀l,Ye f l=Aq (Jd f) l
 | []=>by simp [Ye,Aq]
 | e::r=>by simp [Ye,Aq,Sx f r]
theorem T7 (f:Ex→Int)(e:Ex):Jd f e=if f e != 0 then f e else Aq (Jd f) e.args:=by
 cases e;rw [Jd,Sx]
abbrev C0:Ex→Int:=Jd Bx
theorem Mz (e:Ex):C0 e=if Bx e != 0 then Bx e else Aq C0 e.args:=T7 Bx e

mutual
def Av:Ex→Nat
 | ⟨_,args,_,_,_,_⟩=>1+Xm args
def Xm:List Ex→Nat
 | []=>0
 | e::r=>Av e+Xm r
end
mutual
def Et:Ex→Nat
 | ⟨_,args,_,_,_,_⟩=>Sp args+1
def Sp:List Ex→Nat
 | []=>0
 | e::r=>max (Et e) (Sp r)
end
theorem X9:∀l,Xm l=(l.map Av).sum
 | []=>by simp [Xm]
 | e::r=>by simp [Xm,X9 r]
theorem Ef (e:Ex):Av e=1+(e.args.map Av).sum:=by cases e;rw [Av,X9]
theorem R3:∀l,Sp l=(l.map Et).foldr max 0
 | []=>by simp [Sp]
 | e::r=>by simp [Sp,R3 r]
theorem Tu (e:Ex):Et e=(e.args.map Et).foldr max 0+1:=by cases e;rw [Et,R3]

theorem lO {l:List Ex}{a:Ex}(f:Ex→Nat)(h:a∈l):f a≤(l.map f).sum:=by
  induction l with
  | nil=>cases h
  | cons x r ih=>
    simp only [List.map_cons,List.sum_cons]
    rcases List.mem_cons.1 h with rfl | h
    · omega
    · have:=ih h;omega
theorem F0 {e a:Ex}(h:a∈e.args):Av a<Av e:=by
 have:=lO Av h;have:=Ef e;omega
theorem J9 (e:Ex):Et e≤Av e:=by
  refine Ex.Aa0 (P:=fun e=>Et e≤Av e) (fun e ih=>?_) e
  rw [Tu,Ef]
  have:∀l:List Ex,(∀a∈l,Et a≤Av a)→(l.map Et).foldr max 0≤(l.map Av).sum:=by
    intro l
    induction l with
    | nil=>intro _;exact Nat.le_refl _
    | cons x r ihr=>
      intro h
      simp only [List.map_cons,List.foldr_cons,List.sum_cons]
      have h1:=h x (by simp)
      have h2:=ihr fun a ha=>h a (by simp [ha])
      omega
  have:=this e.args ih
  omega

mutual
def Fc (L:Nat):Ex→Nat
 | ⟨_,args,_,_,_,_⟩=>F6 L args 1
def F6 (L:Nat):List Ex→Nat→Nat
 | [],n=>n
 | e::r,n=>if n≤L then F6 L r (n+Fc L e) else n
end
theorem aN (L:Nat)(e:Ex):Fc L e=F6 L e.args 1:=by cases e;rw [Fc]
theorem Rc (L:Nat)(e:Ex):Fc L e=Av e∨(L<Fc L e∧Fc L e≤Av e):=by
  refine Ex.Aa0 (P:=fun e=>Fc L e=Av e∨(L<Fc L e∧Fc L e≤Av e)) (fun e ih=>?_) e
  rw [aN,Ef]
  have:∀(l:List Ex) (n:Nat),(∀a∈l,Fc L a=Av a∨(L<Fc L a∧Fc L a≤Av a))→F6 L l n=n+(l.map Av).sum∨(L<F6 L l n∧F6 L l n≤n+(l.map Av).sum):=by
    intro l
    induction l with
    | nil=>intro n _;simp [F6]
    | cons x r ihr=>
      intro n h
      simp only [F6,List.map_cons,List.sum_cons]
      have h1:=h x (by simp)
      have h2:=ihr (n+Fc L x) fun a ha=>h a (by simp [ha])
      split
      · have hmono:n+Fc L x≤F6 L r (n+Fc L x):=by
          have:∀(l:List Ex) (m:Nat),m≤F6 L l m:=by
            intro l
            induction l with
            | nil=>intro m;simp [F6]
            | cons y s ihs => intro m; simp only [F6]; split
                              · exact Nat.le_trans (Nat.le_add_right _ _) (ihs _)
                              · exact Nat.le_refl _
          exact this r _
        omega
      · omega
  have:=this e.args 1 ih
  omega
theorem W7 (L:Nat)(e:Ex):L<Fc L e↔L<Av e:=by
 rcases Rc L e with h | h
 · rw [h]
 · omega

def B5 (e:Ex):Int:=if decide (64<(Av e:Int)) then 5 else if decide (12<(Et e:Int)) then 12 else C0 e

def N6 (op k k0:Int):Bool:=if op==5||op==6||op==7||op==8 then k==0 else if op==10||op==11||op==12 then k==1 else if op==9 then k==k0 else true
def Dp (op:Int)(kinds:List Int):Int:=Aq (fun k=>if N6 op k (kinds.headD 0) then 0 else 9) kinds
def Gb (op:Int):Int:=if op==5||op==6||op==7||op==8 then 0 else if op==10||op==11||op==12 then 1 else -1
theorem aW (op k k0:Int):((decide (0≤Gb op)&&k != Gb op)||(op==9&&k != k0)) = !N6 op k k0:=by
 unfold Gb N6
 by_cases h1:(op==5||op==6||op==7||op==8)=true
 ·
  have h9:(op==9)=false:=by simp at h1 ⊢;omega
  rw [if_pos h1,if_pos h1,h9];simp [bne]
 ·
  rw [if_neg h1,if_neg h1]
  by_cases h2:(op==10||op==11||op==12)=true
  ·
   have h9:(op==9)=false:=by simp at h2 ⊢;omega
   rw [if_pos h2,if_pos h2,h9];simp [bne]
  ·
   rw [if_neg h2,if_neg h2]
   by_cases h9:(op==9)=true
   · rw [if_pos h9,h9];simp [bne]
   · rw [if_neg h9];simp at h9;simp [h9]


structure Evr where
 vars:List (List Ev)
 own:Int
 event:Ev

def OPS:List (Int×AV):=[(5,.fn (.func 119) [] [.ptr [.fn (.func 118) [] []]]),(6,.fn (.func 120) [] [.ptr [.fn (.func 118) [] []]]),(7,.fn (.func 121) [] []),(8,.fn (.func 122) [] []),(10,.fn (.func 123) [] []),(11,.fn (.func 124) [] []),(12,.fn (.func 125) [] [])]
def cX (x:Evr):List AV:=[.sl 1 (x.vars.map qQ),.int .i64 x.own,.int .i64 x.event.source,.int .i64 x.event.seq,.int .i64 x.event.type,.int .i64 x.event.time,.sl 3 (x.event.values.map cV),.mapv OPS]
def Evr.ok (x:Evr):Prop:=∀l∈x.vars,l.length≤1048576

def Bu (vars:List (List Ev))(v:Int):List Ev:=if decide (v<0)||decide ((vars.length:Int)≤v) then [] else (vars[v.toNat]?).getD []

theorem Zx {x:Evr}(h:x.ok)(v:Int):(Bu x.vars v).length≤1048576:=by
 unfold Bu
 split
 · simp
 ·
  cases hl:x.vars[v.toNat]? with
  | none=>simp
  | some l=>simpa using h l (List.mem_of_getElem? hl)

def Do (e:Ev)(k:Int):Vl×Int:=if decide ((e.values.length:Int)≤k) then (v0,6) else ((e.values[k.toNat]?).getD v0,0)

def O8 (x:Evr)(e:Ex):Vl×Int:=
 let l:=Bu x.vars e.var
 if Aq (fun v=>(Do v e.field).2) l != 0 then (v0,Aq (fun v=>(Do v e.field).2) l) else eC e.kind (l.map fun v=>(Do v e.field).1) e.val

def Gy (last:Ev)(e:Ex):Vl×Int:=
 if e.op==2 then (⟨0,last.time,[]⟩,0)
 else if (Do last e.field).2==0 then (if An (Do last e.field).1 != 0 then (v0,An (Do last e.field).1) else ((Do last e.field).1,0))
 else (v0,(Do last e.field).2)

def E6 (x:Evr)(e:Ex):Vl×Int:=
 if e.op==0 then (e.val,0)
 else if e.op==3 then (⟨0,(Bu x.vars e.var).length,[]⟩,0)
 else if e.op==4 then O8 x e
 else if e.var != x.own then (if ((Bu x.vars e.var).length:Int)==0 then (v0,10) else Gy ((Bu x.vars e.var).getLast?.getD Kn) e)
 else Gy x.event e

def lastS (vars:List (List Ev))(v own:Int)(ev:Ev):Ev×Bool:=
 if v==own then (ev,true) else if ((Bu vars v).length:Int)==0 then (Kn,false) else ((Bu vars v).getLast?.getD Kn,true)
theorem zC {α:Type}{l:List α}(h:((l.length:Int)==0)=false):∃a,l[((l.length:Int)-1).toNat]? = some a∧l.getLast? = some a:=by
 have h0:l.length≠0:=by simpa using h
 have e:((l.length:Int)-1).toNat=l.length-1:=by omega
 rw [e,List.getLast?_eq_getElem?]
 exact ⟨_,List.getElem?_eq_getElem (by omega),List.getElem?_eq_getElem (by omega)⟩

def Gv (op:Int)(a b:Int):Vl:=
 if op==5 then ⟨0,IntKind.i64.wrap (a+b),[]⟩ else if op==6 then ⟨0,IntKind.i64.wrap (a-b),[]⟩
 else if op==7 then D0 (decide (a<b)) else if op==8 then D0 (decide (a≤b))
 else if op==10 then D0 (a==1&&b==1) else if op==11 then D0 (a==1||b==1) else D0 (a != 1)

def twoS (op:Int)(v w:Vl):Vl:=if op==9 then D0 (eqV v w) else Gv op v.num w.num

def Ku (op:Int)(l:List Vl):Vl×Int:=
 if Dp op (l.map (·.kind)) != 0 then (v0,Dp op (l.map (·.kind)))
 else if op==9 then (D0 (eqV (l.headD v0) ((l[1]?).getD v0)),0)
 else (Gv op (l.headD v0).num (l.getLastD v0).num,0)

mutual
def Bw (x:Evr):Ex→Vl×Int
  | ⟨op,args,var,field,kind,val⟩=>
    if args.isEmpty then E6 x ⟨op,args,var,field,kind,val⟩
    else if (Kt x args).2 != 0 then (v0,(Kt x args).2) else Ku op (Kt x args).1
def Kt (x:Evr):List Ex→List Vl×Int
 | []=>([],0)
 | e::r=>if (Bw x e).2 != 0 then ([],(Bw x e).2) else if (Kt x r).2 != 0 then ([],(Kt x r).2) else ((Bw x e).1::(Kt x r).1,0)
end

theorem T3 (x:Evr):∀l,(Kt x l).2=Aq (fun a=>(Bw x a).2) l
  | []=>by simp [Kt,Aq]
  | e::r=>by
    have:=T3 x r
    by_cases h:((Bw x e).2 != 0)=true
    · rw [Kt,Aq,if_pos h,if_pos h]
    · rw [Kt,Aq,if_neg h,if_neg h,←this]
      by_cases h2:((Kt x r).2 != 0)=true
      · rw [if_pos h2]
      · rw [if_neg h2]
        have h3:(Kt x r).2=0:=by simpa using h2
        exact h3.symm

theorem jG (x:Evr):∀l,Aq (fun a=>(Bw x a).2) l=0→(Kt x l).1=l.map fun a=>(Bw x a).1
  | [],_=>by simp [Kt]
  | e::r,h=>by
    simp only [Aq] at h
    by_cases h1:((Bw x e).2 != 0)=true
    · rw [if_pos h1] at h;simp [h] at h1
    · rw [if_neg h1] at h
      have h2:¬((Kt x r).2 != 0)=true:=by rw [T3,h];simp
      rw [Kt,if_neg h1,if_neg h2]
      simp [jG x r h]

theorem Ki (x:Evr)(e:Ex):Bw x e=if e.args.isEmpty then E6 x e else if Aq (fun a=>(Bw x a).2) e.args != 0 then (v0,Aq (fun a=>(Bw x a).2) e.args) else Ku e.op (e.args.map fun a=>(Bw x a).1):=by
 cases e with | mk op args var field kind val=>
 rw [Bw]
 simp only [T3]
 by_cases h:Aq (fun a=>(Bw x a).2) args=0
 · simp [h,jG x args h]
 · simp [h]

def Yc (x:Evr)(e:Ex):Vl×Int:=if B5 e != 0 then (v0,B5 e) else Bw x e
def L8 (x:Evr)(e:Ex):Bool:=(Yc x e).2==0&&eqV (Yc x e).1 (D0 true)


def Px (k:Int)(v:Vl):Int:=if An v != 0 then An v else if !Gc k v then 9 else 0
theorem pZ (k:Int)(v:Vl)(h:Dn k=true):Px k v=Dk k v:=by
 unfold Px Dk;rw [vV k v h]

theorem Nn {a:Ac}(h:Bo a=0):Dn a.kind=true:=by
 unfold Bo at h
 cases hk:Dn a.kind with
 | true=>rfl
 | false=>simp [hk] at h

def rresultS (a:Ac)(o:Vl):Vl×Int:=
 if Bo a != 0 then (v0,Bo a)
 else if Px a.kind o != 0 then (v0,Px a.kind o)
 else if a.kind==0 then (⟨0,a.count,[]⟩,0)
 else if a.count==0&&a.kind != 1 then (o,0)
 else (a.val,0)
def addS (a:Ac)(v:Vl):Ac×Int:=
 if Bo a != 0 then (ac0,Bo a)
 else if Px a.kind v != 0 then (ac0,Px a.kind v)
 else if a.count==4096 then (ac0,5)
 else if a.kind==0 then (⟨a.kind,IntKind.i64.wrap (a.count+1),v0⟩,0)
 else if decide (0<a.count) then (⟨a.kind,IntKind.i64.wrap (a.count+1),I0 a.kind a.val v⟩,0)
 else (⟨a.kind,IntKind.i64.wrap (a.count+1),v⟩,0)

theorem F4 {v:Vl}(h:An v=0)(hk:v.kind=0):v.text = []∧-1099511627776≤v.num∧v.num≤1099511627776:=by
 unfold An D5 at h
 by_cases ht:v.text = []
 ·
  simp [hk,ht] at h
  exact ⟨ht,by omega⟩
 · simp [hk,ht] at h

theorem vK {a:Ac}(h:Bo a=0):0≤a.count∧a.count≤4096:=by
 have hk:=Nn h
 unfold Bo at h
 simp only [hk,Bool.not_true,Bool.false_eq_true,if_false] at h
 by_cases hc:(decide (a.count<0)||decide (4096<a.count))=true
 · rw [if_pos hc] at h;cases h
 · simp at hc;omega

theorem zW {k:Int}{a:Ac}{v:Vl}(h:Bo a=0)(hk:a.kind=k)(hv:Dk k v=0)(hc:a.count<4096) :
  Bo (Jp k a v)=0∧(Jp k a v).kind=k∧(Jp k a v).count=a.count+1∧addS a v=(Jp k a v,0):=by
 have hkn:=Nn h
 have hcc:=vK h
 have hw:IntKind.i64.wrap (a.count+1)=a.count+1:=IntWalk.i64_in _ (by omega)
 have hadd:addS a v=if a.kind==0 then (⟨a.kind,a.count+1,v0⟩,0) else if decide (0<a.count) then (⟨a.kind,a.count+1,I0 a.kind a.val v⟩,0) else (⟨a.kind,a.count+1,v⟩,0):=by
  unfold addS
  rw [hw,pZ _ _ hkn,h,hk,hv]
  have:(a.count==4096)=false:=by simp;omega
  simp [this]
 have hvc:An v=0:=by
  unfold Dk at hv
  by_cases e:An v=0
  · exact e
  · simp [e] at hv
 have hvs:Ej k v=true:=by
  unfold Dk at hv
  simp [hvc] at hv;exact hv
 rw [hadd]
 obtain ⟨ak,ac,av⟩:=a
 simp only at hk hkn hc hcc h hw ⊢
 subst hk
 have h2:=h
 unfold Bo at h2
 simp only [hkn,Bool.not_true,Bool.false_eq_true,if_false] at h2
 have hn1:(decide (ac<0)||decide (4096<ac))=false:=by simp;omega
 simp only [hn1,Bool.false_eq_true,if_false] at h2
 simp only [Dn,Bool.and_eq_true,decide_eq_true_eq] at hkn
 have hn2:(decide (ac+1<0)||decide (4096<ac+1))=false:=by simp;omega
 have hk01:ak=0∨ak=1∨ak=2∨ak=3∨ak=4∨ak=5:=by omega
 by_cases h0:ac=0
 ·
  subst h0
  have hvi:ak=1→v.kind=0:=by
   intro e;subst e;simpa [Ej] using hvs
  rcases hk01 with rfl | rfl | rfl | rfl | rfl | rfl
  · refine ⟨by rfl,rfl,rfl,rfl⟩
  ·
   have hb:=F4 hvc (hvi rfl)
   refine ⟨?_,rfl,rfl,rfl⟩
   simp [Jp,Ey,Ez,Bo,Dn,hvi rfl,hb.1,hb.2]
  all_goals
   refine ⟨?_,rfl,rfl,rfl⟩
   simp [Jp,Ey,Ez,Bo,Dn,hvc,hvs]
 ·
  have hpos:0<ac:=by omega
  have e0:(ac==0)=false:=by simp [h0]
  have hst:Jp ak ⟨ak,ac,av⟩ v=⟨ak,ac+1,I0 ak av (Ez ak v)⟩:=by
   simp [Jp,Ey,h0,hw]
  rw [hst]
  refine ⟨?_,rfl,rfl,?_⟩
  ·
   unfold Bo
   have hkk:Dn ak=true:=by simp [Dn];omega
   have e1:(ac+1==0)=false:=by simp;omega
   simp only [hkk,Bool.not_true,hn2,Bool.false_eq_true,if_false,e1,Bool.false_or]
   simp only [e0,Bool.false_or] at h2
   rcases hk01 with rfl | rfl | rfl | rfl | rfl | rfl
   · rfl
   ·
    have hvi:v.kind=0:=by simpa [Ej] using hvs
    have hb:=F4 hvc hvi
    simp at h2
    have:IntKind.i64.wrap (av.num+v.num)=av.num+v.num:=IntWalk.i64_in _ (by omega)
    simp [I0,Ez,this]
    omega
   ·
    have hvi:v.kind=0:=by simpa [Ej] using hvs
    have hb:=F4 hvc hvi
    simp at h2
    have hai:av.kind=0:=by simpa [Ej] using h2.2
    have hba:=F4 h2.1 hai
    have hm : -1099511627776≤min av.num v.num∧min av.num v.num≤1099511627776:=by omega
    simp [I0,Ez,An,D5,Ej]
    omega
   ·
    have hvi:v.kind=0:=by simpa [Ej] using hvs
    have hb:=F4 hvc hvi
    simp at h2
    have hai:av.kind=0:=by simpa [Ej] using h2.2
    have hba:=F4 h2.1 hai
    have hm : -1099511627776≤max av.num v.num∧max av.num v.num≤1099511627776:=by omega
    simp [I0,Ez,An,D5,Ej]
    omega
   · simpa [I0] using h2
   · simp [I0,Ez,hvc,hvs]
  ·
   have hd:decide (0<ac)=true:=by simp [hpos]
   rcases hk01 with rfl | rfl | rfl | rfl | rfl | rfl <;> simp [hd,I0,Ez]

theorem nP {k:Int}:∀(l:List Vl) (a:Ac),Bo a=0→a.kind=k→Aq (Dk k) l=0→a.count+l.length≤4096→Bo (l.foldl (Jp k) a)=0
  | [],a,h,_,_,_=>h
  | v::r,a,h,hk,hf,hc=>by
    simp only [Aq] at hf
    simp only [List.length_cons,Int.natCast_add,Int.cast_ofNat_Int] at hc
    by_cases hv:Dk k v=0
    · rw [if_neg (by simp [hv])] at hf
      obtain ⟨h1,h2,h3,_⟩:=zW h hk hv (by omega)
      exact nP r _ h1 h2 hf (by rw [h3];omega)
    · rw [if_pos (by simp [hv])] at hf;exact absurd hf hv


theorem O6 {l:List Ex}{k:Nat}{a:Ex}(d:Nat)(h:l[k]? = some a):max d (((l.drop k).map Et).foldr max 0)=max (max d (Et a)) (((l.drop (k+1)).map Et).foldr max 0):=by
 rw [A5 h];simp only [List.map_cons,List.foldr_cons];omega
theorem iM {l:List Ex}{k:Nat}{a:Ex}(n:Nat)(h:l[k]? = some a):n+((l.drop k).map Av).sum=(n+Av a)+((l.drop (k+1)).map Av).sum:=by
 rw [A5 h];simp only [List.map_cons,List.sum_cons];omega

theorem yK (e:Ex):1≤Av e:=by rw [Ef];omega
theorem L5 (e:Ex)(h:Av e≤1048576):e.args.length≤1048576:=by
 rw [Ef] at h
 have:∀l:List Ex,l.length≤(l.map Av).sum:=by
  intro l
  induction l with
  | nil=>exact Nat.le_refl _
  | cons x r ih=>simp only [List.length_cons,List.map_cons,List.sum_cons];have:=yK x;omega
 have:=this e.args
 omega
theorem dU {L n:Nat}(h:L<n):∀l:List Ex,F6 L l n=n
 | []=>rfl
 | _::_=>by rw [F6,if_neg (by omega)]

def Ck (e:Ex):Int:=
 if decide ((if 0≤e.op∧e.op≤12 then D6 e.op else -1)<0) then 1
 else if (e.args.length:Int) != (if 0≤e.op∧e.op≤12 then D6 e.op else -1) then 15
 else if ((Dt e.op).1&&(decide (e.var<0)||decide (16≤e.var)))||((Dt e.op).2&&(decide (e.field<0)||decide (8≤e.field))) then 2
 else if e.op==4&&(decide (e.kind<1)||decide (5<e.kind)) then 1
 else if e.op==4||e.op==0 then (if An e.val != 0 then An e.val else if e.op==4&&(!Gc e.kind e.val||(e.kind==1 && !isV0 e.val)) then 9 else Bl e)
 else if e.op==4&&(!Gc e.kind e.val||(e.kind==1 && !isV0 e.val)) then 9
 else Bl e

theorem Hx (e:Ex):Ck e=Bx e:=by
  unfold Ck Bx
  by_cases h:0≤e.op∧e.op≤12
  · have ha : ¬ D6 e.op < 0 := by unfold D6; repeat' split
                                  all_goals omega
    simp only [h,and_self,if_true,decide_true,Bool.not_true,Bool.false_eq_true,if_false,ha,decide_false]
    split
    · rfl
    split
    · rfl
    by_cases h4:e.op=4
    · simp only [h4,BEq.rfl,Bool.true_and,Bool.true_or,if_true]
      by_cases hk:(decide (e.kind<1)||decide (5<e.kind))=true
      · rw [if_pos hk,if_pos hk]
      · rw [if_neg hk,if_neg hk]
        have hs:Gc e.kind e.val=Du e.kind e.val:=by
          simp at hk
          unfold Gc Du
          have:(e.kind==0)=false:=by simp;omega
          rw [this];simp
        unfold Fb
        rw [hs,h4]
        by_cases hv:An e.val=0
        · rw [hv]
          simp only [bne_self_eq_false,Bool.false_eq_true,if_false,BEq.rfl,Bool.true_and]
          by_cases hb:(!Du e.kind e.val||(e.kind==1 && !isV0 e.val))=true
          · rw [if_pos hb,if_pos hb];rfl
          · rw [if_neg hb,if_neg hb];rfl
        · simp [hv]
    · have h4':(e.op==4)=false:=by simp [h4]
      simp only [h4',Bool.false_and,Bool.false_eq_true,if_false,Bool.false_or]
      unfold Fb
      simp only [h4',Bool.false_and,Bool.false_eq_true,if_false]
      by_cases hv:An e.val=0
      · simp [hv]
      · simp [hv]
  · simp [h]


theorem G3 {α:Type}{f:α→Int}:∀{l:List α},Aq f l=0→∀a∈l,f a=0
  | [],_,_,h=>by cases h
  | x::r,h,a,ha=>by
    simp only [Aq] at h
    by_cases hx:f x=0
    · rw [if_neg (by simp [hx])] at h
      rcases List.mem_cons.1 ha with rfl | ha
      · exact hx
      · exact G3 h a ha
    · rw [if_pos (by simpa using hx)] at h;exact absurd h hx

theorem Ba {e:Ex}(h:C0 e=0):Bx e=0∧∀a∈e.args,C0 a=0:=by
 rw [Mz] at h
 by_cases hx:Bx e=0
 ·
  rw [if_neg (by simp [hx])] at h
  exact ⟨hx,G3 h⟩
 · rw [if_pos (by simpa using hx)] at h;exact absurd h hx

theorem G5 {e:Ex}(h:Bx e=0):0≤e.op∧e.op≤12∧(e.args.length:Int)=D6 e.op:=by
 unfold Bx at h
 split at h
 · cases h
 split at h
 · cases h
 rename_i h1 h2
 simp at h1 h2
 exact ⟨h1.1,h1.2,h2⟩

theorem Jx {e:Ex}(h:Bx e=0):0≤e.field:=by
  have hf:Bl e=0→(Dt e.op).2=false→e.field=0:=by
    intro h1 h2
    unfold Bl at h1
    split at h1
    · cases h1
    · rename_i h3
      simp [h2] at h3
      exact h3.1.1.2
  unfold Bx at h
  split at h
  · cases h
  split at h
  · cases h
  split at h
  · cases h
  rename_i h1 h2 h3
  cases hu:(Dt e.op).2 with
  | true=>
    simp [hu] at h3
    omega
  | false=>
    have:Bl e=0:=by
      split at h
      · cases h
      split at h
      · split at h
        · rename_i h4
          exact absurd h (by simpa using h4)
        · exact h
      · exact h
    rw [hf this hu];exact Int.le_refl _

theorem qX {e:Ex}(h:Bx e=0)(hne:((e.args.length:Int)==0)=false):(e.args.length=1∧e.op=12)∨(e.args.length=2∧5≤e.op∧e.op≤11):=by
 obtain ⟨h1,h2,h3⟩:=G5 h
 have hne':e.args.length≠0:=by simpa using hne
 unfold D6 at h3
 split at h3
 · omega
 split at h3
 · omega
 split at h3
 · omega
 · omega


mutual
def rebS (f:Ex→Ex):Ex→Ex
 | ⟨op,args,var,field,kind,val⟩=>f ⟨op,rebL f args,var,field,kind,val⟩
def rebL (f:Ex→Ex):List Ex→List Ex
 | []=>[]
 | e::r=>rebS f e::rebL f r
end
def outS (f:Ex→Ex)(e:Ex):Ex:=⟨e.op,e.args.map (rebS f),e.var,e.field,e.kind,e.val⟩
def Ao (e:Ex):Ex:=e.args.headD nU
def Bj (e:Ex):Ex:=(e.args[1]?).getD nU
def Ou (v:Vl):Ex:=⟨0,[],0,0,0,v⟩
def isC (a:Ex)(b:Bool):Bool:=a.op==0&&eqV a.val (D0 b)

theorem get0 {e:Ex}(h:0<e.args.length):e.args[(0:Int).toNat]? = some (Ao e):=by
 unfold Ao
 cases e with | mk op args a b c d=>
 cases args with
 | nil=>simp at h
 | cons x r=>rfl
theorem get1 {e:Ex}(h:1<e.args.length):e.args[(1:Int).toNat]? = some (Bj e):=by
 unfold Bj
 have:e.args[1]? = some e.args[1]:=List.getElem?_eq_getElem h
 show e.args[1]? = _
 rw [this];rfl
theorem Id {e:Ex}(h:0<e.args.length):(e.args.map Gs)[(0:Int).toNat]? = some (cE (Ao e)):=E0 (get0 h)
theorem Ky {e:Ex}(h:1<e.args.length):(e.args.map Gs)[(1:Int).toNat]? = some (cE (Bj e)):=E0 (get1 h)
theorem A4 {e:Ex}(h:0<e.args.length):Ao e∈e.args:=List.mem_of_getElem? (get0 h)
theorem Bn {e:Ex}(h:1<e.args.length):Bj e∈e.args:=List.mem_of_getElem? (get1 h)

theorem mP {e:Ex}(h:Bx e=0)(ho:e.op=12):0<e.args.length:=by
 obtain ⟨_,_,h3⟩:=G5 h
 rw [ho] at h3
 have:D6 12=1:=by decide
 omega
def nB (x:Evr)(e:Ex):Vl×Bool:=
 if e.args.any (fun a=>a.op != 0) then (v0,false) else if (e.args.length:Int)==0 then (v0,false) else ((Bw x e).1,(Bw x e).2==0&&An (Bw x e).1==0)

def fnodeS (x:Evr)(e:Ex):Ex:=
 if (nB x e).2 then Ou (nB x e).1
 else if e.op==12&&(Ao e).op==12 then Ao (Ao e)
 else if e.op != 10&&e.op != 11 then e
 else if isC (Ao e) (e.op==10) then Bj e
 else if isC (Bj e) (e.op==10) then Ao e
 else if isC (Ao e) (!(e.op==10))||isC (Bj e) (!(e.op==10)) then Ou (D0 (!(e.op==10)))
 else e

def xz:Evr:=⟨[],-1,Kn⟩
theorem Aac (b:Bool):An (D0 b)=0:=by cases b <;> decide

def FoldS (e:Ex):Ex×Int:=if B5 e != 0 then (nU,B5 e) else (rebS (fnodeS xz) e,0)

def Pf (a b:Ex):Bool:=a.op != b.op||a.var != b.var||a.field != b.field||a.kind != b.kind || !eqV a.val b.val||(a.args.length:Int) != (b.args.length:Int)

mutual
def Li:Ex→Ex→Bool
 | ⟨op,args,var,field,kind,val⟩,b=>if Pf ⟨op,args,var,field,kind,val⟩ b then false else R9 args b.args
def R9:List Ex→List Ex→Bool
 | [],_=>true
 | a::r,l=>if !Li a (l.headD nU) then false else R9 r l.tail
end
theorem Tb (a b:Ex):Li a b=if Pf a b then false else R9 a.args b.args:=by cases a;rw [Li]

theorem Tj (a b:Ex):Li a b=true↔a=b:=by
  induction a using Ex.Aa0 generalizing b with
  | h a ih=>
    have hL:∀(l m:List Ex),(∀x∈l,∀y,Li x y=true↔x=y)→l.length=m.length→(R9 l m=true↔l=m):=by
      intro l
      induction l with
      | nil=>intro m _ hl;cases m with | nil=>simp [R9] | cons _ _=>simp at hl
      | cons x r ihl=>
        intro m hx hl
        cases m with
        | nil=>simp at hl
        | cons y s=>
          have h1:=hx x (by simp) y
          have h2:=ihl s (fun z hz=>hx z (by simp [hz])) (by simpa using hl)
          rw [List.cons.injEq]
          show (if (!Li x y)=true then false else R9 r s)=true↔x=y∧r=s
          by_cases hs:Li x y=true
          · rw [if_neg (by simp [hs]),h2];simp [h1.1 hs]
          · rw [if_pos (by simp [hs])]
            have:¬x=y:=fun e=>hs (h1.2 e)
            simp [this]
    rw [Tb]
    by_cases hh:Pf a b=true
    · rw [if_pos hh]
      constructor
      · intro h;cases h
      · intro e;subst e
        simp [Pf] at hh
    · rw [if_neg hh]
      have hh':=hh
      simp [Pf] at hh
      obtain ⟨⟨⟨⟨⟨h1,h2⟩,h3⟩,h4⟩,h5⟩,h6⟩:=hh
      rw [hL _ _ (fun x hx y=>ih x hx y) (by omega)]
      cases a with | mk _ _ _ _ _ av=>cases b with | mk _ _ _ _ _ bv=>
        cases av;cases bv
        simp_all
theorem lQ (a:Ex):Li a a=true:=(Tj a a).2 rfl

end Go.Proofs.YtkddpedfbicbeaaGreatDoor
