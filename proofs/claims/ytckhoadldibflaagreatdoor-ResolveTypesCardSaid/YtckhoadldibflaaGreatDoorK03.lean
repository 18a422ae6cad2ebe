/-
  Several texts in one: EM, EM2, EM3, EM4, EM5, EM6, EM10, R1. No condition.
-/
import Derived.Test.YtckhoadldibflaaGreatDoorAw
import Derived.IntWalk
import Derived.Test.YtckhoadldibflaaGreatDoorK02
set_option linter.unusedVariables false
set_option linter.unusedSimpArgs false
namespace Go.Proofs.YtckhoadldibflaaGreatDoor
open Go Go.Aw

theorem G6:({ data:=#[] }:ByteArray).data.toList=([]:List UInt8):=rfl

structure Vl where
 kind:Int
 num:Int
 text:List UInt8
deriving DecidableEq

structure Ex where
 op:Int
 args:List Ex
 var:Int
 field:Int
 kind:Int
 val:Vl

structure Ev where
 source:Int
 seq:Int
 type:Int
 time:Int
 values:List Vl

structure Ac where
 kind:Int
 count:Int
 val:Vl

def v0:Vl:=⟨0,0,[]⟩
def eP:Ev:=⟨0,0,0,0,[]⟩
def Sk:Ex:=⟨0,[],0,0,0,v0⟩
def ac0:Ac:=⟨0,0,v0⟩

@[reducible] def eqV (v w : Vl) : Bool := v.kind == w.kind && (v.num == w.num && v.text == w.text)
@[reducible] def isV0 (v : Vl) : Bool := v.kind == 0 && (v.num == 0 && v.text == [])
def cV (v:Vl):List AV:=[.int .i64 v.kind,.int .i64 v.num,.str v.text]

mutual
def L2:Ex→List AV
 | ⟨op,args,var,field,kind,val⟩=>[.int .i64 op,.sl 8 (Zr args),.int .i64 var,.int .i64 field,.int .i64 kind,.int .i64 val.kind,.int .i64 val.num,.str val.text]
def Zr:List Ex→List (List AV)
 | []=>[]
 | e::r=>L2 e::Zr r
end

theorem Wi:∀l:List Ex,Zr l=l.map L2
 | []=>by simp [Zr]
 | e::r=>by simp [Zr,Wi r]

def cE (e:Ex):List AV:=[.int .i64 e.op,.sl 8 (e.args.map L2),.int .i64 e.var,.int .i64 e.field,.int .i64 e.kind,.int .i64 e.val.kind,.int .i64 e.val.num,.str e.val.text]
def cEv (e:Ev):List AV:=[.int .i64 e.source,.int .i64 e.seq,.int .i64 e.type,.int .i64 e.time,.sl 3 (e.values.map cV)]
def cAc (a:Ac):List AV:=[.int .i64 a.kind,.int .i64 a.count,.int .i64 a.val.kind,.int .i64 a.val.num,.str a.val.text]
def cEvs (l:List Ev):List AV:=[.sl 5 (l.map cEv)]
def cEnv (l:List (List Ev)):List AV:=[.sl 1 (l.map cEvs)]

theorem Sz (e:Ex):L2 e=cE e:=by
 cases e
 simp [L2,cE,Wi]

theorem Ex.ind {P:Ex→Prop}(h:∀e,(∀a∈e.args,P a)→P e):∀e,P e:=by
 intro e
 exact Ex.rec (motive_1:=P) (motive_2:=fun l=>∀a∈l,P a) (fun op args v f k val ih=>h _ ih) (by simp) (fun a l ha hl=>by simp only [List.mem_cons,forall_eq_or_imp];exact ⟨ha,hl⟩) e

theorem Nh {l:List Ex}{k:Nat}{a:Ex}(h:l[k]? = some a):(l.map L2)[k]? = some (cE a):=by
 simp [h,Sz]
theorem Ff {α:Type}{f:α→List AV}{l:List α}{k:Nat}{a:α}(h:l[k]? = some a):(l.map f)[k]? = some (f a):=by simp [h]

theorem Dl {α:Type}{l:List α}{k:Nat}(h:decide ((k:Int)<(l.length:Int))=true):∃a,l[k]? = some a:=by
 have:k<l.length:=by simpa using h
 exact ⟨_,List.getElem?_eq_getElem this⟩
theorem Cm {α:Type}{l:List α}{k:Nat}{a:α}(h:l[k]? = some a):k<l.length:=(List.getElem?_eq_some_iff.1 h).1
theorem Bj {α:Type}{l:List α}{k:Nat}{a:α}(h:l[k]? = some a):l.drop k=a::l.drop (k+1):=by
 obtain ⟨h1,h2⟩:=List.getElem?_eq_some_iff.1 h
 rw [←h2];exact List.drop_eq_getElem_cons h1
theorem Fs {α:Type}{l:List α}{k:Nat}{a:α}(h:l[k]? = some a):l.take (k+1)=l.take k ++ [a]:=by
 rw [List.take_add_one,h];rfl
theorem E8 {α:Type}{l:List α}{k:Nat}(h:decide ((k:Int)<(l.length:Int))=false):l.take k=l:=by
 have:¬k<l.length:=by simpa using h
 exact List.take_of_length_le (by omega)
theorem Hd {α:Type}{l:List α}{k:Nat}(h:decide ((k:Int)<(l.length:Int))=false):l.drop k = []:=by
 have:¬k<l.length:=by simpa using h
 exact List.drop_eq_nil_of_le (by omega)


def My (b:Bool):Vl:=if b then ⟨1,1,[]⟩ else ⟨1,0,[]⟩

def E0 (v:Vl):Int:=
 if v.kind==0&&(decide (v.num < -1099511627776)||decide (1099511627776<v.num)) then 2
 else if v.kind==1&&v.num != 0&&v.num != 1 then 2
 else if decide (64<(v.text.length:Int)) then 13 else 0

def Bh (v:Vl):Int:=
 if v.kind==0||v.kind==1 then (if !(v.text == []) then 3 else E0 v)
 else if v.kind==2 then (if v.num != 0 then 3 else E0 v)
 else 1

def rvcheckS (v:Vl):Int:=
 if decide (v.kind<0)||decide (2<v.kind) then 1
 else if v.kind==2 then (if v.num != 0 then 3 else if decide (64<(v.text.length:Int)) then 13 else 0)
 else if !(v.text == []) then 3
 else if v.kind==1&&(decide (v.num<0)||decide (1<v.num))||decide (v.num < -1099511627776)||decide (1099511627776<v.num) then 2 else 0

def bS (k:Int):Bool:=decide (0≤k)&&decide (k≤5)
def eL (k:Int)(v:Vl):Bool:=v.kind==0||(k != 1&&k != 2&&k != 3)
def Sr (k:Int)(v:Vl):Bool:=v.kind==0||k==0||k==4||k==5

def wK (k:Int)(a b:Vl):Vl:=
 if k==1 then ⟨0,IntKind.i64.wrap (a.num+b.num),[]⟩ else if k==2 then ⟨0,min a.num b.num,[]⟩ else if k==3 then ⟨0,max a.num b.num,[]⟩ else if k==4 then a else if k==5 then b else v0
def sR (k:Int)(v:Vl):Vl:=if k==0 then v0 else v
def sC (a b:Ac):Ac:=if a.count==0 then b else if b.count==0 then a else ⟨a.kind,IntKind.i64.wrap (a.count+b.count),wK a.kind a.val b.val⟩

def M2 (a:Ac):Int:=
 if !bS a.kind then 1
 else if decide (a.count<0)||decide (4096<a.count) then 2
 else if (if a.count==0||a.kind==0 then isV0 a.val
  else if a.kind==1 then a.val.kind==0&&a.val.text == []&&decide (0-a.count*1099511627776≤a.val.num)&&decide (a.val.num≤a.count*1099511627776)
  else Bh a.val==0&&eL a.kind a.val) then 0 else 3

def racheckS (a:Ac):Int:=
 if !bS a.kind then 1
 else if decide (a.count<0)||decide (4096<a.count) then 2
 else if a.count==0||a.kind==0 then (if !isV0 a.val then 3 else 0)
 else if a.kind==1 then (if a.val.kind != 0 || !(a.val.text == [])||decide (a.val.num<0-a.count*1099511627776)||decide (a.count*1099511627776<a.val.num) then 3 else 0)
 else if Bh a.val != 0 || !Sr a.kind a.val then 3 else 0
def Ya (k:Int)(v:Vl):Int:=if Bh v != 0 then Bh v else if !eL k v then 9 else 0

def qN (a:Ac)(o:Vl):Vl×Int:=
 if M2 a != 0 then (v0,M2 a)
 else if Ya a.kind o != 0 then (v0,Ya a.kind o)
 else if a.kind==0 then (⟨0,a.count,[]⟩,0)
 else if a.count==0&&a.kind != 1 then (o,0)
 else (a.val,0)

def stepS (k:Int)(a:Ac)(v:Vl):Ac:=sC a ⟨k,1,sR k v⟩
def foldS (k:Int)(l:List Vl):Ac:=l.foldl (stepS k) ⟨k,0,v0⟩

def Ca {α:Type}(f:α→Int):List α→Int
 | []=>0
 | a::r=>if f a != 0 then f a else Ca f r

def ofS (k:Int)(l:List Vl)(o:Vl):Vl×Int:=
 if !bS k then (v0,1)
 else if decide (4096<(l.length:Int)) then (v0,5)
 else if Ca (Ya k) l != 0 then (v0,Ca (Ya k) l)
 else qN (foldS k l) o


def Gi (op:Int):Bool×Bool:=if op=1∨op=4 then (true,true) else if op=2∨op=3 then (true,false) else (false,false)
def Mz (op:Int):Int:=if op<0∨12<op then 0 else if op<5 then 0 else if op=12 then 1 else 2
def Ll (k:Int)(v:Vl):Bool:=v.kind==0||k==4||k==5

def Gq (e:Ex):Int:=
 if Bh e.val != 0 then Bh e.val
 else if e.op==4&&(!Ll e.kind e.val||(e.kind==1 && !isV0 e.val)) then 9 else 0

def C2 (e:Ex):Int:=
 if !(Gi e.op).1&&e.var != 0||(!(Gi e.op).2&&e.field != 0)||(!(e.op==4)&&e.kind != 0)||(!(e.op==4||e.op==0) && !isV0 e.val) then 3 else 0

def C7 (e:Ex):Int:=
 if !decide (0≤e.op∧e.op≤12) then 1
 else if (e.args.length:Int) != Mz e.op then 15
 else if ((Gi e.op).1&&(decide (e.var<0)||decide (16≤e.var)))||((Gi e.op).2&&(decide (e.field<0)||decide (8≤e.field))) then 2
 else if e.op==4&&(decide (e.kind<1)||decide (5<e.kind)) then 1
 else if e.op==4||e.op==0 then (if Gq e != 0 then Gq e else C2 e)
 else C2 e

mutual
def Gp (f:Ex→Int):Ex→Int
 | ⟨op,args,var,field,kind,val⟩=>if f ⟨op,args,var,field,kind,val⟩ != 0 then f ⟨op,args,var,field,kind,val⟩ else Ur f args
def Ur (f:Ex→Int):List Ex→Int
 | []=>0
 | e::r=>if Gp f e != 0 then Gp f e else Ur f r
end
theorem Ox (f:Ex→Int):∀l,Ur f l=Ca (Gp f) l
 | []=>by simp [Ur,Ca]
 | e::r=>by simp [Ur,Ca,Ox f r]
theorem Ws (f:Ex→Int)(e:Ex):Gp f e=if f e != 0 then f e else Ca (Gp f) e.args:=by
 cases e;rw [Gp,Ox]
abbrev lI:Ex→Int:=Gp C7
mutual
def Cq:Ex→Nat
 | ⟨_,args,_,_,_,_⟩=>1+T1 args
def T1:List Ex→Nat
 | []=>0
 | e::r=>Cq e+T1 r
end
mutual
def E1:Ex→Nat
 | ⟨_,args,_,_,_,_⟩=>O9 args+1
def O9:List Ex→Nat
 | []=>0
 | e::r=>max (E1 e) (O9 r)
end
theorem Uz:∀l,T1 l=(l.map Cq).sum
 | []=>by simp [T1]
 | e::r=>by simp [T1,Uz r]
theorem Gc (e:Ex):Cq e=1+(e.args.map Cq).sum:=by cases e;rw [Cq,Uz]
theorem Pm:∀l,O9 l=(l.map E1).foldr max 0
 | []=>by simp [O9]
 | e::r=>by simp [O9,Pm r]
theorem Vt (e:Ex):E1 e=(e.args.map E1).foldr max 0+1:=by cases e;rw [E1,Pm]

theorem bP {l:List Ex}{a:Ex}(f:Ex→Nat)(h:a∈l):f a≤(l.map f).sum:=by
  induction l with
  | nil=>cases h
  | cons x r ih=>
    simp only [List.map_cons,List.sum_cons]
    rcases List.mem_cons.1 h with rfl | h
    · omega
    · have:=ih h;omega
theorem Oy {e a:Ex}(h:a∈e.args):Cq a<Cq e:=by
 have:=bP Cq h;have:=Gc e;omega
theorem Nl (e:Ex):E1 e≤Cq e:=by
  refine Ex.ind (P:=fun e=>E1 e≤Cq e) (fun e ih=>?_) e
  rw [Vt,Gc]
  have:∀l:List Ex,(∀a∈l,E1 a≤Cq a)→(l.map E1).foldr max 0≤(l.map Cq).sum:=by
    intro l
    induction l with
    | nil=>intro _;exact Nat.le_refl _
    | cons x r ihr=>
      intro h
      simp only [List.map_cons,List.foldr_cons,List.sum_cons]
      have h1:=h x (by simp)
      have h2:=ihr fun a ha=>h a (by simp [ha])
      omega
  have:=this e.args ih
  omega

mutual
def xD (L:Nat):Ex→Nat
 | ⟨_,args,_,_,_,_⟩=>eT L args 1
def eT (L:Nat):List Ex→Nat→Nat
 | [],n=>n
 | e::r,n=>if n≤L then eT L r (n+xD L e) else n
end
def Cj (e:Ex):Int:=if decide (64<(Cq e:Int)) then 5 else if decide (12<(E1 e:Int)) then 12 else lI e

def e8okS (op k k0:Int):Bool:=if op==5||op==6||op==7||op==8 then k==0 else if op==10||op==11||op==12 then k==1 else if op==9 then k==k0 else true
def Ng (op:Int)(kinds:List Int):Int:=Ca (fun k=>if e8okS op k (kinds.headD 0) then 0 else 9) kinds
def demandS (op:Int):Int:=if op==5||op==6||op==7||op==8 then 0 else if op==10||op==11||op==12 then 1 else -1

structure Evr where
 vars:List (List Ev)
 own:Int
 event:Ev

def OPS:List (Int×AV):=[(5,.fn (.func 0) [] [.ptr [.fn (.func 0) [] []]]),(6,.fn (.func 0) [] [.ptr [.fn (.func 0) [] []]]),(7,.fn (.func 0) [] []),(8,.fn (.func 0) [] []),(10,.fn (.func 0) [] []),(11,.fn (.func 0) [] []),(12,.fn (.func 0) [] [])]
def cX (x:Evr):List AV:=[.sl 1 (x.vars.map cEvs),.int .i64 x.own,.int .i64 x.event.source,.int .i64 x.event.seq,.int .i64 x.event.type,.int .i64 x.event.time,.sl 3 (x.event.values.map cV),.mapv OPS]
def Evr.ok (x:Evr):Prop:=∀l∈x.vars,l.length≤1048576

def M8 (vars:List (List Ev))(v:Int):List Ev:=if decide (v<0)||decide ((vars.length:Int)≤v) then [] else (vars[v.toNat]?).getD []

def Mm (e:Ev)(k:Int):Vl×Int:=if decide ((e.values.length:Int)≤k) then (v0,6) else ((e.values[k.toNat]?).getD v0,0)

def zW (x:Evr)(e:Ex):Vl×Int:=
 let l:=M8 x.vars e.var
 if Ca (fun v=>(Mm v e.field).2) l != 0 then (v0,Ca (fun v=>(Mm v e.field).2) l) else ofS e.kind (l.map fun v=>(Mm v e.field).1) e.val

def wO (last:Ev)(e:Ex):Vl×Int:=
 if e.op==2 then (⟨0,last.time,[]⟩,0)
 else if (Mm last e.field).2==0 then (if Bh (Mm last e.field).1 != 0 then (v0,Bh (Mm last e.field).1) else ((Mm last e.field).1,0))
 else (v0,(Mm last e.field).2)

def leafS (x:Evr)(e:Ex):Vl×Int:=
 if e.op==0 then (e.val,0)
 else if e.op==3 then (⟨0,(M8 x.vars e.var).length,[]⟩,0)
 else if e.op==4 then zW x e
 else if e.var != x.own then (if ((M8 x.vars e.var).length:Int)==0 then (v0,10) else wO ((M8 x.vars e.var).getLast?.getD eP) e)
 else wO x.event e

def lastS (vars:List (List Ev))(v own:Int)(ev:Ev):Ev×Bool:=
 if v==own then (ev,true) else if ((M8 vars v).length:Int)==0 then (eP,false) else ((M8 vars v).getLast?.getD eP,true)
def oA (op:Int)(a b:Int):Vl:=
 if op==5 then ⟨0,IntKind.i64.wrap (a+b),[]⟩ else if op==6 then ⟨0,IntKind.i64.wrap (a-b),[]⟩
 else if op==7 then My (decide (a<b)) else if op==8 then My (decide (a≤b))
 else if op==10 then My (a==1&&b==1) else if op==11 then My (a==1||b==1) else My (a != 1)

def twoS (op:Int)(v w:Vl):Vl:=if op==9 then My (eqV v w) else oA op v.num w.num

def nodeV (op:Int)(l:List Vl):Vl×Int:=
 if Ng op (l.map (·.kind)) != 0 then (v0,Ng op (l.map (·.kind)))
 else if op==9 then (My (eqV (l.headD v0) ((l[1]?).getD v0)),0)
 else (oA op (l.headD v0).num (l.getLastD v0).num,0)

mutual
def Tq (x:Evr):Ex→Vl×Int
  | ⟨op,args,var,field,kind,val⟩=>
    if args.isEmpty then leafS x ⟨op,args,var,field,kind,val⟩
    else if (W0 x args).2 != 0 then (v0,(W0 x args).2) else nodeV op (W0 x args).1
def W0 (x:Evr):List Ex→List Vl×Int
 | []=>([],0)
 | e::r=>if (Tq x e).2 != 0 then ([],(Tq x e).2) else if (W0 x r).2 != 0 then ([],(W0 x r).2) else ((Tq x e).1::(W0 x r).1,0)
end

def vC (x:Evr)(e:Ex):Vl×Int:=if Cj e != 0 then (v0,Cj e) else Tq x e
def TruthS (x:Evr)(e:Ex):Bool:=(vC x e).2==0&&eqV (vC x e).1 (My true)


def Sv (k:Int)(v:Vl):Int:=if Bh v != 0 then Bh v else if !Sr k v then 9 else 0
def rresultS (a:Ac)(o:Vl):Vl×Int:=
 if M2 a != 0 then (v0,M2 a)
 else if Sv a.kind o != 0 then (v0,Sv a.kind o)
 else if a.kind==0 then (⟨0,a.count,[]⟩,0)
 else if a.count==0&&a.kind != 1 then (o,0)
 else (a.val,0)
def addS (a:Ac)(v:Vl):Ac×Int:=
 if M2 a != 0 then (ac0,M2 a)
 else if Sv a.kind v != 0 then (ac0,Sv a.kind v)
 else if a.count==4096 then (ac0,5)
 else if a.kind==0 then (⟨a.kind,IntKind.i64.wrap (a.count+1),v0⟩,0)
 else if decide (0<a.count) then (⟨a.kind,IntKind.i64.wrap (a.count+1),wK a.kind a.val v⟩,0)
 else (⟨a.kind,IntKind.i64.wrap (a.count+1),v⟩,0)


theorem Tj {l:List Ex}{k:Nat}{a:Ex}(d:Nat)(h:l[k]? = some a):max d (((l.drop k).map E1).foldr max 0)=max (max d (E1 a)) (((l.drop (k+1)).map E1).foldr max 0):=by
 rw [Bj h];simp only [List.map_cons,List.foldr_cons];omega
theorem pD {l:List Ex}{k:Nat}{a:Ex}(n:Nat)(h:l[k]? = some a):n+((l.drop k).map Cq).sum=(n+Cq a)+((l.drop (k+1)).map Cq).sum:=by
 rw [Bj h];simp only [List.map_cons,List.sum_cons];omega

theorem lG (e:Ex):1≤Cq e:=by rw [Gc];omega
theorem fO (e:Ex)(h:Cq e≤1048576):e.args.length≤1048576:=by
 rw [Gc] at h
 have:∀l:List Ex,l.length≤(l.map Cq).sum:=by
  intro l
  induction l with
  | nil=>exact Nat.le_refl _
  | cons x r ih=>simp only [List.length_cons,List.map_cons,List.sum_cons];have:=lG x;omega
 have:=this e.args
 omega
def rnodeS (e:Ex):Int:=
 if decide ((if 0≤e.op∧e.op≤12 then Mz e.op else -1)<0) then 1
 else if (e.args.length:Int) != (if 0≤e.op∧e.op≤12 then Mz e.op else -1) then 15
 else if ((Gi e.op).1&&(decide (e.var<0)||decide (16≤e.var)))||((Gi e.op).2&&(decide (e.field<0)||decide (8≤e.field))) then 2
 else if e.op==4&&(decide (e.kind<1)||decide (5<e.kind)) then 1
 else if e.op==4||e.op==0 then (if Bh e.val != 0 then Bh e.val else if e.op==4&&(!Sr e.kind e.val||(e.kind==1 && !isV0 e.val)) then 9 else C2 e)
 else if e.op==4&&(!Sr e.kind e.val||(e.kind==1 && !isV0 e.val)) then 9
 else C2 e



mutual
def uD (f:Ex→Ex):Ex→Ex
 | ⟨op,args,var,field,kind,val⟩=>f ⟨op,rebL f args,var,field,kind,val⟩
def rebL (f:Ex→Ex):List Ex→List Ex
 | []=>[]
 | e::r=>uD f e::rebL f r
end
def outS (f:Ex→Ex)(e:Ex):Ex:=⟨e.op,e.args.map (uD f),e.var,e.field,e.kind,e.val⟩
def gT (e:Ex):Ex:=e.args.headD Sk
def xQ (e:Ex):Ex:=(e.args[1]?).getD Sk
def oJ (v:Vl):Ex:=⟨0,[],0,0,0,v⟩
def isC (a:Ex)(b:Bool):Bool:=a.op==0&&eqV a.val (My b)

def eX (x:Evr)(e:Ex):Vl×Bool:=
 if e.args.any (fun a=>a.op != 0) then (v0,false) else if (e.args.length:Int)==0 then (v0,false) else ((Tq x e).1,(Tq x e).2==0&&Bh (Tq x e).1==0)

def Aal (x:Evr)(e:Ex):Ex:=
 if (eX x e).2 then oJ (eX x e).1
 else if e.op==12&&(gT e).op==12 then gT (gT e)
 else if e.op != 10&&e.op != 11 then e
 else if isC (gT e) (e.op==10) then xQ e
 else if isC (xQ e) (e.op==10) then gT e
 else if isC (gT e) (!(e.op==10))||isC (xQ e) (!(e.op==10)) then oJ (My (!(e.op==10)))
 else e

def xz:Evr:=⟨[],-1,eP⟩
def FoldS (e:Ex):Ex×Int:=if Cj e != 0 then (Sk,Cj e) else (uD (Aal xz) e,0)

def Jf (a b:Ex):Bool:=a.op != b.op||a.var != b.var||a.field != b.field||a.kind != b.kind || !eqV a.val b.val||(a.args.length:Int) != (b.args.length:Int)

mutual
def E2:Ex→Ex→Bool
 | ⟨op,args,var,field,kind,val⟩,b=>if Jf ⟨op,args,var,field,kind,val⟩ b then false else Lq args b.args
def Lq:List Ex→List Ex→Bool
 | [],_=>true
 | a::r,l=>if !E2 a (l.headD Sk) then false else Lq r l.tail
end
theorem Jn (a b:Ex):E2 a b=if Jf a b then false else Lq a.args b.args:=by cases a;rw [E2]

theorem gX (a b:Ex):E2 a b=true↔a=b:=by
  induction a using Ex.ind generalizing b with
  | h a ih=>
    have hL:∀(l m:List Ex),(∀x∈l,∀y,E2 x y=true↔x=y)→l.length=m.length→(Lq l m=true↔l=m):=by
      intro l
      induction l with
      | nil=>intro m _ hl;cases m with | nil=>simp [Lq] | cons _ _=>simp at hl
      | cons x r ihl=>
        intro m hx hl
        cases m with
        | nil=>simp at hl
        | cons y s=>
          have h1:=hx x (by simp) y
          have h2:=ihl s (fun z hz=>hx z (by simp [hz])) (by simpa using hl)
          rw [List.cons.injEq]
          show (if (!E2 x y)=true then false else Lq r s)=true↔x=y∧r=s
          by_cases hs:E2 x y=true
          · rw [if_neg (by simp [hs]),h2];simp [h1.1 hs]
          · rw [if_pos (by simp [hs])]
            have:¬x=y:=fun e=>hs (h1.2 e)
            simp [this]
    rw [Jn]
    by_cases hh:Jf a b=true
    · rw [if_pos hh]
      constructor
      · intro h;cases h
      · intro e;subst e
        simp [Jf] at hh
    · rw [if_neg hh]
      have hh':=hh
      simp [Jf] at hh
      obtain ⟨⟨⟨⟨⟨h1,h2⟩,h3⟩,h4⟩,h5⟩,h6⟩:=hh
      rw [hL _ _ (fun x hx y=>ih x hx y) (by omega)]
      cases a with | mk _ _ _ _ _ av=>cases b with | mk _ _ _ _ _ bv=>
        cases av;cases bv
        simp_all
theorem T3 (a:Ex):E2 a a=true:=(gX a a).2 rfl


def atS (to:List Int)(v:Int):Int:=(to[v.toNat]?).getD 0
def Xi (to:List Int)(e:Ex):Int:=
 if !(Gi e.op).1 then 0 else if decide ((to.length:Int)≤e.var) then 6 else if decide (atS to e.var<0)||decide (16≤atS to e.var) then 2 else 0
def mB (to:List Int)(e:Ex):Ex:=if (Gi e.op).1 then ⟨e.op,e.args,atS to e.var,e.field,e.kind,e.val⟩ else e
def renS (to:List Int)(e:Ex):Ex×Int:=if Gp (Xi to) e != 0 then (Sk,Gp (Xi to) e) else (uD (mB to) e,0)
def RenameS (e:Ex)(to:List Int):Ex×Int:=if Cj e != 0 then (Sk,Cj e) else renS to e


structure Fi where
 name:List UInt8
 kind:Int
structure e8Sc where
 name:List UInt8
 fields:List Fi
structure Va where
 name:List UInt8
 type:Int
def cT (f:Fi):List AV:=[.str f.name,.int .i64 f.kind]
def G7 (s:e8Sc):List AV:=[.str s.name,.sl 2 (s.fields.map cT)]
def O1 (v:Va):List AV:=[.str v.name,.int .i64 v.type]
def sc0:e8Sc:=⟨[],[]⟩
def fi0:Fi:=⟨[],0⟩
def va0:Va:=⟨[],0⟩

def uS (n:Int):Bool:=n==95||(decide (97≤n)&&decide (n≤122))||(decide (65≤n)&&decide (n≤90))
def aQ (n:Int):Bool:=decide (48≤n)&&decide (n≤57)
def jC (b:UInt8):Bool:=uS b.toNat||aQ b.toNat
def J3 (s:List UInt8):Bool:=!(s.length==0)&&decide (s.length≤24) && !aQ ((s.headD 0).toNat)&&s.all jC
def timeB:List UInt8:=[116,105,109,101]
def Yf (s:List UInt8):Bool:=J3 s && !(s==timeB)

def F5 (seen:List (List UInt8))(f:Fi):Int:=
 if !Yf f.name then 8 else if seen.contains f.name then 7 else if decide (f.kind<0)||decide (3≤f.kind) then 1 else 0
def I0:List (List UInt8)→List Fi→Int
 | _,[]=>0
 | seen,f::r=>if F5 seen f != 0 then F5 seen f else I0 (seen ++ [f.name]) r
def Kc (s:e8Sc):Int:=if !J3 s.name then 8 else if decide (8<(s.fields.length:Int)) then 5 else I0 [] s.fields
def Iu (seen:List (List UInt8))(s:e8Sc):Int:=if Kc s != 0 then Kc s else if seen.contains s.name then 7 else 0
def Jq:List (List UInt8)→List e8Sc→Int
 | _,[]=>0
 | seen,s::r=>if Iu seen s != 0 then Iu seen s else Jq (seen ++ [s.name]) r
def F2 (l:List e8Sc):Int:=if decide (16<(l.length:Int)) then 5 else Jq [] l

def E6 (ns:List (List UInt8))(n:List UInt8):Int:=if ns.contains n then ((ns.idxOf n:Nat):Int) else -1
theorem jT {ns:List (List UInt8)}{k:Nat}{n:List UInt8}(h:ns[k]? = some n):decide (E6 ns n<(k:Int))=(ns.take k).contains n:=by
 have hm:n∈ns:=List.mem_of_getElem? h
 have hc:ns.contains n=true:=by simpa using hm
 unfold E6
 rw [if_pos hc]
 have key:ns.idxOf n<k↔n∈ns.take k:=by
  constructor
  ·
   intro hlt
   have h1:ns.idxOf n<ns.length:=List.idxOf_lt_length_of_mem hm
   have h2:ns[ns.idxOf n]=n:=List.getElem_idxOf h1
   rw [List.mem_take_iff_getElem]
   exact ⟨ns.idxOf n,by omega,h2⟩
  ·
   intro hmem
   obtain ⟨i,hi,he⟩:=List.mem_take_iff_getElem.1 hmem
   have:ns.idxOf n≤i:=by
    refine Nat.le_of_not_lt fun hlt=>?_
    have h4:=List.not_of_lt_findIdx (p:=fun x=>x==n) (xs:=ns) (i:=i) hlt
    simp only [he] at h4
    simp at h4
   omega
 by_cases hk:ns.idxOf n<k
 ·
  have h2:=key.1 hk
  have e1:decide (((ns.idxOf n:Nat):Int)<(k:Int))=true:=by simp;omega
  rw [e1];symm;simpa using h2
 ·
  have h2:¬n∈ns.take k:=fun h=>hk (key.2 h)
  have e1:decide (((ns.idxOf n:Nat):Int)<(k:Int))=false:=by simp;omega
  rw [e1];symm;simpa using h2
def varE (n:Int)(v:Va):Int:=if decide (v.type<0)||decide (n≤v.type) then 6 else 0
def wY (types:List e8Sc)(vars:List Va):Int:=if decide (16<(vars.length:Int)) then 5 else Ca (varE types.length) vars

def eH (types:List e8Sc)(vars:List Va)(v:Int):List Fi:=((types[((vars[v.toNat]?).getD va0).type.toNat]?).getD sc0).fields
def dC (l:List Fi)(k:Int):Int:=((l[k.toNat]?).getD fi0).kind
def leafK (types:List e8Sc)(vars:List Va)(e:Ex):Int×Int:=
 if e.op==0 then (e.val.kind,0)
 else if decide ((vars.length:Int)≤e.var) then (0,6)
 else if e.op==2||e.op==3 then (0,0)
 else if decide (((eH types vars e.var).length:Int)≤e.field) then (0,6)
 else if e.op==4&&(dC (eH types vars e.var) e.field != e.val.kind || !Ll e.kind ⟨dC (eH types vars e.var) e.field,0,[]⟩) then (0,9)
 else (dC (eH types vars e.var) e.field,0)
def resK (op:Int):Int:=if op==5||op==6 then 0 else 1

mutual
def dM (types:List e8Sc)(vars:List Va):Ex→Int×Int
  | ⟨op,args,var,field,kind,val⟩=>
    if args.isEmpty then leafK types vars ⟨op,args,var,field,kind,val⟩
    else if (Uc types vars args).2 != 0 then (0,(Uc types vars args).2)
    else if Ng op (Uc types vars args).1 != 0 then (0,Ng op (Uc types vars args).1) else (resK op,0)
def Uc (types:List e8Sc)(vars:List Va):List Ex→List Int×Int
 | []=>([],0)
 | e::r=>if (dM types vars e).2 != 0 then ([],(dM types vars e).2) else if (Uc types vars r).2 != 0 then ([],(Uc types vars r).2) else ((dM types vars e).1::(Uc types vars r).1,0)
end
def KindS (types:List e8Sc)(vars:List Va)(e:Ex):Int×Int:=
 if F2 types != 0 then (0,F2 types) else if wY types vars != 0 then (0,wY types vars) else if Cj e != 0 then (0,Cj e) else dM types vars e

def shortS (types:List e8Sc)(vars:List Va):Bool:=!((types.take 30).any fun s=>decide (12<(s.fields.length:Int)))&&(decide ((types.length:Int)≤20)&&decide ((vars.length:Int)≤20))


structure Pt where
 op:Int
 args:List Pt
 type:Int
 var:Int
 scope:Int
 span:Int
 cond:Ex
def pt0:Pt:=⟨0,[],0,0,0,0,Sk⟩
mutual
def Si:Pt→List AV
 | ⟨o,asx,t,v,s,n,c⟩=>[.int .i64 o,.sl 14 (Zz asx),.int .i64 t,.int .i64 v,.int .i64 s,.int .i64 n,.int .i64 c.op,.sl 8 (c.args.map L2),.int .i64 c.var,.int .i64 c.field,.int .i64 c.kind,.int .i64 c.val.kind,.int .i64 c.val.num,.str c.val.text]
def Zz:List Pt→List (List AV)
 | []=>[]
 | a::r=>Si a::Zz r
end
@[reducible] def cPt (p : Pt) : List AV := [.int .i64 p.op, .sl 14 (p.args.map Si), .int .i64 p.type, .int .i64 p.var, .int .i64 p.scope, .int .i64 p.span, .int .i64 p.cond.op, .sl 8 (p.cond.args.map L2), .int .i64 p.cond.var, .int .i64 p.cond.field, .int .i64 p.cond.kind, .int .i64 p.cond.val.kind, .int .i64 p.cond.val.num, .str p.cond.val.text]
theorem Wb:∀l:List Pt,Zz l=l.map Si
 | []=>by rw [Zz,List.map_nil]
 | a::r=>by rw [Zz,Wb r,List.map_cons]
theorem Xc (p:Pt):Si p=cPt p:=by
 cases p;rw [Si,Wb]
mutual
def Hq:Pt→Nat
 | ⟨_,asx,_,_,_,_,_⟩=>mH asx+1
def mH:List Pt→Nat
 | []=>0
 | a::r=>Hq a+mH r
end
theorem Z8:∀l:List Pt,mH l=(l.map Hq).sum
 | []=>by rw [mH];rfl
 | a::r=>by rw [mH,Z8 r,List.map_cons,List.sum_cons]
theorem Jc (p:Pt):Hq p=(p.args.map Hq).sum+1:=by cases p;rw [Hq,Z8]
theorem Pt.ind {Q:Pt→Prop}(h:∀e,(∀a∈e.args,Q a)→Q e):∀e,Q e:=by
  have key:∀n e,Hq e≤n→Q e:=by
    intro n
    induction n with
    | zero=>intro e he;rw [Jc] at he;omega
    | succ n ih=>
      intro e he
      refine h e fun a ha=>ih a ?_
      rw [Jc] at he
      have:∀l:List Pt,a∈l→Hq a≤(l.map Hq).sum:=by
        intro l
        induction l with
        | nil=>intro h;cases h
        | cons x r ih2=>
          intro h
          rw [List.map_cons,List.sum_cons]
          rcases List.mem_cons.1 h with rfl | h
          · omega
          · have:=ih2 h;omega
      have:=this _ ha
      omega
  exact fun e=>key _ e (Nat.le_refl _)

structure Fa where
 pos:Int
 err:Int
def Mq:Fa:=⟨0,0⟩
def M1 (f:Fa):List AV:=[.int .i64 f.pos,.int .i64 f.err]
def Ir (f:Syn→Fa):List Syn→Fa
 | []=>Mq
 | x::r=>if ((f x).err != 0) then f x else Ir f r

mutual
def Pb:Syn→List Syn
 | ⟨k,x,n,m,kids,p⟩=>if (k==5) then [⟨k,x,n,m,kids,p⟩] else if (k==10) then kids.getD 1 Lc::rC kids else if (k==12) then rC kids else evL kids
def rC:List Syn→List Syn
 | []=>[]
 | x::_=>Pb x
def evL:List Syn→List Syn
 | []=>[]
 | x::r=>Pb x++evL r
end
theorem eK:∀l:List Syn,evL l=l.flatMap Pb
 | []=>by rw [evL];rfl
 | x::r=>by rw [evL,eK r,List.flatMap_cons]
theorem Xs {l:List Syn}(h:0<l.length):rC l=Pb (l.getD 0 Lc):=by
 cases l with
 | nil=>simp at h
 | cons x r=>rw [rC];rfl
theorem Q1 (t:Syn):Pb t=if (t.kind==5) then [t] else if (t.kind==10) then Bn t 1::rC t.kids else if (t.kind==12) then rC t.kids else t.kids.flatMap Pb:=by
 cases t;rw [Pb,eK];rfl

abbrev Gb (T:List e8Sc):List Aq:=T.map (·.name)
abbrev Ic (V:List Va):List Aq:=V.map (·.name)
def Mi (l:List Aq)(n:Aq):Int:=if l.contains n then ((l.idxOf n:Nat):Int) else 0
def In (T:List e8Sc)(V:List Va)(t:Syn):Int:=
 if ((V.length:Int)==16) then 5 else if !((Gb T).contains t.text) then 8 else if (Ic V).contains t.name then 7 else 0
def P7 (T:List e8Sc)(t:Syn):Va:=⟨t.name,Mi (Gb T) t.text⟩
def Km (T:List e8Sc):List Va→List Syn→List Va×Fa
 | V,[]=>(V,Mq)
 | V,t::r=>if (In T V t != 0) then (V,⟨t.pos,In T V t⟩) else Km T (V ++ [P7 T t]) r
def Ho (s:e8Sc)(n:Aq):Int:=E6 (s.fields.map (·.name)) n
def mS (T:List e8Sc)(V:List Va)(v:Int):e8Sc:=(T[((V[v.toNat]?).getD va0).type.toNat]?).getD sc0

def Xn (T:List e8Sc)(n:Aq):List Va→List Int→List Int×Bool
 | [],out=>(out,true)
 | v::r,out=>if decide (Ho ((T[v.type.toNat]?).getD sc0) n<0) then ([],false) else Xn T n r (out.set v.type.toNat (Ho ((T[v.type.toNat]?).getD sc0) n))
def bB (T:List e8Sc)(V:List Va)(n:Aq):List Int×Bool:=Xn T n V (List.replicate T.length (-1))

section
variable (T:List e8Sc) (V:List Va)
def Ij (t:Syn):Fa:=
 if ((t.kind != 14)&&(t.kind != 15))&&(t.kind != 16) then Mq
 else if !((Ic V).contains t.text) then ⟨t.pos,8⟩
 else if (t.kind==15)||((t.kind==14)&&(t.name==E5)) then Mq
 else if decide (Ho (mS T V (Mi (Ic V) t.text)) t.name<0) then ⟨t.pos,6⟩
 else Mq
mutual
def Fj:Syn→Fa
 | ⟨k,x,n,m,kids,p⟩=>if ((Ij T V ⟨k,x,n,m,kids,p⟩).err != 0) then Ij T V ⟨k,x,n,m,kids,p⟩ else Zx kids
def Zx:List Syn→Fa
 | []=>Mq
 | x::r=>if ((Fj x).err != 0) then Fj x else Zx r
end
theorem Ud:∀l:List Syn,Zx T V l=Ir (Fj T V) l
 | []=>by rw [Zx,Ir]
 | x::r=>by rw [Zx,Ir,Ud r]
theorem Th (t:Syn):Fj T V t=if ((Ij T V t).err != 0) then Ij T V t else Ir (Fj T V) t.kids:=by
 cases t;rw [Fj,Ud]

def aA (t:Syn):Vl:=if (t.name==D3) then ⟨1,t.num,[]⟩ else if (t.name==Da) then ⟨2,0,t.text⟩ else ⟨0,t.num,[]⟩
def Ls (t:Syn)(asx:List Ex):Ex:=
 if (t.kind==13) then ⟨0,[],0,0,0,aA t⟩
 else if (t.kind==14) then if (t.name==E5) then ⟨2,[],Mi (Ic V) t.text,0,0,v0⟩ else ⟨1,[],Mi (Ic V) t.text,Ho (mS T V (Mi (Ic V) t.text)) t.name,0,v0⟩
 else if (t.kind==15) then ⟨3,[],Mi (Ic V) t.text,0,0,v0⟩
 else if (t.kind==16) then ⟨4,[],Mi (Ic V) t.text,Ho (mS T V (Mi (Ic V) t.text)) t.name,t.num,if decide ((0:Int)<(t.kids.length:Int)) then aA (Bn t 0) else v0⟩
 else if (t.kind==18) then ⟨12,asx,0,0,0,v0⟩
 else ⟨t.num,asx,0,0,0,v0⟩
mutual
def Eb:Syn→Ex
 | ⟨k,x,n,m,kids,p⟩=>Ls T V ⟨k,x,n,m,kids,p⟩ (Z4 kids)
def Z4:List Syn→List Ex
 | []=>[]
 | x::r=>Eb x::Z4 r
end
theorem Vp:∀l:List Syn,Z4 T V l=l.map (Eb T V)
 | []=>by rw [Z4,List.map_nil]
 | x::r=>by rw [Z4,Vp r,List.map_cons]
theorem Hn (t:Syn):Eb T V t=Ls T V t (t.kids.map (Eb T V)):=by cases t;rw [Eb,Vp]

def N7:Ex:=⟨0,[],0,0,0,⟨1,1,[]⟩⟩
def Ju (t:Syn):Ex:=if decide ((0:Int)<(t.kids.length:Int)) then Eb T V (Bn t 0) else N7
structure Nx where
 next:Int
 scopes:Int
def Ki (t:Syn)(s:Nx)(asx:List Pt):Pt:=
 if (t.kind==5) then ⟨0,asx,Mi (Gb T) t.text,s.next,0,0,Ju T V t⟩
 else if (t.kind==10) then ⟨5,asx,Mi (Gb T) (Bn t 1).text,s.next,s.scopes,0,Ju T V (Bn t 1)⟩
 else if (t.kind==11) then ⟨6,asx,0,0,s.scopes,t.num,Sk⟩
 else if (t.kind==12) then ⟨7,asx,0,0,0,0,Eb T V (Bn t 1)⟩
 else ⟨t.kind-5,asx,0,0,0,0,Sk⟩
def Q9 (t:Syn)(s:Nx):Nx:=⟨if (t.kind==5)||(t.kind==10) then s.next+1 else s.next,if (t.kind==10)||(t.kind==11) then s.scopes+1 else s.scopes⟩
mutual
def Gl:Syn→Nx→Pt×Nx
  | ⟨k,x,n,m,kids,p⟩,s=>
    if (k==5) then (Ki T V ⟨k,x,n,m,kids,p⟩ s [],Q9 ⟨k,x,n,m,kids,p⟩ s)
    else if (k==10)||(k==12) then (Ki T V ⟨k,x,n,m,kids,p⟩ s (jR kids (Q9 ⟨k,x,n,m,kids,p⟩ s)).1,(jR kids (Q9 ⟨k,x,n,m,kids,p⟩ s)).2)
    else (Ki T V ⟨k,x,n,m,kids,p⟩ s (Ek kids (Q9 ⟨k,x,n,m,kids,p⟩ s)).1,(Ek kids (Q9 ⟨k,x,n,m,kids,p⟩ s)).2)
def jR:List Syn→Nx→List Pt×Nx
 | [],s=>([],s)
 | x::_,s=>([(Gl x s).1],(Gl x s).2)
def Ek:List Syn→Nx→List Pt×Nx
 | [],s=>([],s)
 | x::r,s=>((Gl x s).1::(Ek r (Gl x s).2).1,(Ek r (Gl x s).2).2)
end
def Ew (t:Syn):List Syn:=if (t.kind==5) then [] else if (t.kind==10)||(t.kind==12) then t.kids.take 1 else t.kids
theorem iV:∀(l:List Syn) (s:Nx),jR T V l s=Ek T V (l.take 1) s
 | [],s=>by rw [jR,List.take_nil,Ek]
 | x::r,s=>by rw [jR,List.take_succ_cons,List.take_zero,Ek,Ek]
theorem eC (t:Syn)(s:Nx):Gl T V t s=(Ki T V t s (Ek T V (Ew t) (Q9 t s)).1,(Ek T V (Ew t) (Q9 t s)).2):=by
  cases t with | mk k x n m kids p=>
  rw [Gl]
  unfold Ew
  cases h1:(k==5) with
  | true=>simp only [h1,if_true];rw [Ek]
  | false=>
    simp only [h1,Bool.false_eq_true,if_false]
    cases h2:(k==10)||(k==12) with
    | true=>simp only [h2,if_true];rw [iV]
    | false=>simp only [h2,Bool.false_eq_true,if_false]
theorem Y9:∀(l r:List Syn) (s:Nx),Ek T V (l++r) s=((Ek T V l s).1++(Ek T V r (Ek T V l s).2).1,(Ek T V r (Ek T V l s).2).2)
 | [],r,s=>by rw [List.nil_append,Ek];rfl
 | x::l,r,s=>by rw [List.cons_append,Ek,Y9 l r,Ek];rfl
end
end Go.Proofs.YtckhoadldibflaaGreatDoor
