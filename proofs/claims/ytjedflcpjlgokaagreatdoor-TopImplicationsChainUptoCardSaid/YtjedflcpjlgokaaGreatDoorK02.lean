/-
  Several texts in one: M, M2, M3, M4, M5. No condition.
-/
import Derived.Test.YtjedflcpjlgokaaGreatDoorAw
import Derived.IntWalk
set_option linter.unusedVariables false
set_option linter.unusedSimpArgs false
namespace Go.Proofs.YtjedflcpjlgokaaGreatDoor
open Go Go.Aw

theorem Co:({ data:=#[] }:ByteArray).data.toList=([]:List UInt8):=rfl

structure Vl where
 kind:Int
 num:Int
 text:List UInt8
deriving DecidableEq

structure Ex where
 op:Int
 args:List Ex
 var:Int
 field:Int
 kind:Int
 val:Vl

structure Ev where
 source:Int
 seq:Int
 type:Int
 time:Int
 values:List Vl

structure Ac where
 kind:Int
 count:Int
 val:Vl

def v0:Vl:=⟨0,0,[]⟩
def Ke:Ev:=⟨0,0,0,0,[]⟩
def kH:Ex:=⟨0,[],0,0,0,v0⟩
def ac0:Ac:=⟨0,0,v0⟩

@[reducible] def eqV (v w : Vl) : Bool := v.kind == w.kind && (v.num == w.num && v.text == w.text)
@[reducible] def isV0 (v : Vl) : Bool := v.kind == 0 && (v.num == 0 && v.text == [])
theorem mW (v w:Vl):eqV v w=true↔v=w:=by
 cases v;cases w;simp [eqV]
theorem fA (v:Vl):isV0 v=true↔v=v0:=by
 cases v;simp [isV0,v0]

def cV (v:Vl):List AV:=[.int .i64 v.kind,.int .i64 v.num,.str v.text]

mutual
def G7:Ex→List AV
 | ⟨op,args,var,field,kind,val⟩=>[.int .i64 op,.sl 8 (gH args),.int .i64 var,.int .i64 field,.int .i64 kind,.int .i64 val.kind,.int .i64 val.num,.str val.text]
def gH:List Ex→List (List AV)
 | []=>[]
 | e::r=>G7 e::gH r
end

theorem Yj:∀l:List Ex,gH l=l.map G7
 | []=>by simp [gH]
 | e::r=>by simp [gH,Yj r]

def cE (e:Ex):List AV:=[.int .i64 e.op,.sl 8 (e.args.map G7),.int .i64 e.var,.int .i64 e.field,.int .i64 e.kind,.int .i64 e.val.kind,.int .i64 e.val.num,.str e.val.text]
def Rz (e:Ev):List AV:=[.int .i64 e.source,.int .i64 e.seq,.int .i64 e.type,.int .i64 e.time,.sl 3 (e.values.map cV)]
def Vi (a:Ac):List AV:=[.int .i64 a.kind,.int .i64 a.count,.int .i64 a.val.kind,.int .i64 a.val.num,.str a.val.text]
def qU (l:List Ev):List AV:=[.sl 5 (l.map Rz)]
def cEnv (l:List (List Ev)):List AV:=[.sl 1 (l.map qU)]

theorem Lh (e:Ex):G7 e=cE e:=by
 cases e
 simp [G7,cE,Yj]

theorem Ex.Aaj {P:Ex→Prop}(h:∀e,(∀a∈e.args,P a)→P e):∀e,P e:=by
 intro e
 exact Ex.rec (motive_1:=P) (motive_2:=fun l=>∀a∈l,P a) (fun op args v f k val ih=>h _ ih) (by simp) (fun a l ha hl=>by simp only [List.mem_cons,forall_eq_or_imp];exact ⟨ha,hl⟩) e

theorem F2 {l:List Ex}{k:Nat}{a:Ex}(h:l[k]? = some a):(l.map G7)[k]? = some (cE a):=by
 simp [h,Lh]
theorem Bo {α:Type}{f:α→List AV}{l:List α}{k:Nat}{a:α}(h:l[k]? = some a):(l.map f)[k]? = some (f a):=by simp [h]

theorem B7 {α:Type}{l:List α}{k:Nat}(h:decide ((k:Int)<(l.length:Int))=true):∃a,l[k]? = some a:=by
 have:k<l.length:=by simpa using h
 exact ⟨_,List.getElem?_eq_getElem this⟩
theorem Bb {α:Type}{l:List α}{k:Nat}{a:α}(h:l[k]? = some a):k<l.length:=(List.getElem?_eq_some_iff.1 h).1
theorem A4 {α:Type}{l:List α}{k:Nat}{a:α}(h:l[k]? = some a):l.drop k=a::l.drop (k+1):=by
 obtain ⟨h1,h2⟩:=List.getElem?_eq_some_iff.1 h
 rw [←h2];exact List.drop_eq_getElem_cons h1
theorem C9 {α:Type}{l:List α}{k:Nat}{a:α}(h:l[k]? = some a):l.take (k+1)=l.take k ++ [a]:=by
 rw [List.take_add_one,h];rfl
theorem C5 {α:Type}{l:List α}{k:Nat}(h:decide ((k:Int)<(l.length:Int))=false):l.take k=l:=by
 have:¬k<l.length:=by simpa using h
 exact List.take_of_length_le (by omega)
theorem Hc {α:Type}{l:List α}{v:Int}(h0:0≤v)(h:v<(l.length:Int)):∃a,l[v.toNat]? = some a:=⟨_,List.getElem?_eq_getElem (by omega)⟩
theorem C8 {α:Type}{l:List α}{k:Nat}(h:decide ((k:Int)<(l.length:Int))=false):l.drop k = []:=by
 have:¬k<l.length:=by simpa using h
 exact List.drop_eq_nil_of_le (by omega)


def Dv (b:Bool):Vl:=if b then ⟨1,1,[]⟩ else ⟨1,0,[]⟩

def Dy (v:Vl):Int:=
 if v.kind==0&&(decide (v.num < -1099511627776)||decide (1099511627776<v.num)) then 2
 else if v.kind==1&&v.num != 0&&v.num != 1 then 2
 else if decide (64<(v.text.length:Int)) then 13 else 0

def An (v:Vl):Int:=
 if v.kind==0||v.kind==1 then (if !(v.text == []) then 3 else Dy v)
 else if v.kind==2 then (if v.num != 0 then 3 else Dy v)
 else 1

def Cg (v:Vl):Int:=
 if decide (v.kind<0)||decide (2<v.kind) then 1
 else if v.kind==2 then (if v.num != 0 then 3 else if decide (64<(v.text.length:Int)) then 13 else 0)
 else if !(v.text == []) then 3
 else if v.kind==1&&(decide (v.num<0)||decide (1<v.num))||decide (v.num < -1099511627776)||decide (1099511627776<v.num) then 2 else 0
theorem If (v:Vl):Cg v=An v:=by
 unfold Cg An Dy
 obtain ⟨k,n,t⟩:=v
 by_cases ht:t = []
 ·
  subst ht
  simp only [Bool.or_eq_true,Bool.and_eq_true,decide_eq_true_eq,beq_iff_eq,bne_iff_ne,ne_eq,not_true,if_false,List.length_nil,BEq.rfl,Bool.not_true,Bool.false_eq_true,Bool.not_true,Bool.false_eq_true]
  repeat' split
  all_goals first | rfl | omega
 ·
  simp only [Bool.or_eq_true,Bool.and_eq_true,decide_eq_true_eq,beq_iff_eq,bne_iff_ne,ne_eq,ht,not_false_eq_true,if_true,Bool.not_eq_true',beq_eq_false_iff_ne]
  repeat' split
  all_goals first | rfl | omega


def Dd (k:Int):Bool:=decide (0≤k)&&decide (k≤5)
def Eh (k:Int)(v:Vl):Bool:=v.kind==0||(k != 1&&k != 2&&k != 3)
def F3 (k:Int)(v:Vl):Bool:=v.kind==0||k==0||k==4||k==5

def Il (k:Int)(a b:Vl):Vl:=
 if k==1 then ⟨0,IntKind.i64.wrap (a.num+b.num),[]⟩ else if k==2 then ⟨0,min a.num b.num,[]⟩ else if k==3 then ⟨0,max a.num b.num,[]⟩ else if k==4 then a else if k==5 then b else v0
def En (k:Int)(v:Vl):Vl:=if k==0 then v0 else v
def Em (a b:Ac):Ac:=if a.count==0 then b else if b.count==0 then a else ⟨a.kind,IntKind.i64.wrap (a.count+b.count),Il a.kind a.val b.val⟩

def Bi (a:Ac):Int:=
 if !Dd a.kind then 1
 else if decide (a.count<0)||decide (4096<a.count) then 2
 else if (if a.count==0||a.kind==0 then isV0 a.val
  else if a.kind==1 then a.val.kind==0&&a.val.text == []&&decide (0-a.count*1099511627776≤a.val.num)&&decide (a.val.num≤a.count*1099511627776)
  else An a.val==0&&Eh a.kind a.val) then 0 else 3

def racheckS (a:Ac):Int:=
 if !Dd a.kind then 1
 else if decide (a.count<0)||decide (4096<a.count) then 2
 else if a.count==0||a.kind==0 then (if !isV0 a.val then 3 else 0)
 else if a.kind==1 then (if a.val.kind != 0 || !(a.val.text == [])||decide (a.val.num<0-a.count*1099511627776)||decide (a.count*1099511627776<a.val.num) then 3 else 0)
 else if An a.val != 0 || !F3 a.kind a.val then 3 else 0
theorem qZ (k:Int)(v:Vl)(h:Dd k=true):F3 k v=Eh k v:=by
 simp only [Dd,Bool.and_eq_true,decide_eq_true_eq] at h
 unfold F3 Eh
 rw [Bool.eq_iff_iff]
 simp
 omega
def Db (k:Int)(v:Vl):Int:=if An v != 0 then An v else if !Eh k v then 9 else 0

def De (a:Ac)(o:Vl):Vl×Int:=
 if Bi a != 0 then (v0,Bi a)
 else if Db a.kind o != 0 then (v0,Db a.kind o)
 else if a.kind==0 then (⟨0,a.count,[]⟩,0)
 else if a.count==0&&a.kind != 1 then (o,0)
 else (a.val,0)

def I8 (k:Int)(a:Ac)(v:Vl):Ac:=Em a ⟨k,1,En k v⟩
def Zp (k:Int)(l:List Vl):Ac:=l.foldl (I8 k) ⟨k,0,v0⟩

def Aq {α:Type}(f:α→Int):List α→Int
 | []=>0
 | a::r=>if f a != 0 then f a else Aq f r

theorem gE (a c:Ac)(h:Dd a.kind=true)(h':Dd c.kind=true):Dd (Em a c).kind=true:=by
 unfold Em;split
 · exact h'
 · split <;> exact h
theorem pW (k:Int)(a:Ac)(v:Vl)(h:Dd a.kind=true)(hk:Dd k=true):Dd (I8 k a v).kind=true:=gE _ _ h hk

def cK (k:Int)(l:List Vl)(o:Vl):Vl×Int:=
 if !Dd k then (v0,1)
 else if decide (4096<(l.length:Int)) then (v0,5)
 else if Aq (Db k) l != 0 then (v0,Aq (Db k) l)
 else De (Zp k l) o


def Dq (op:Int):Bool×Bool:=if op=1∨op=4 then (true,true) else if op=2∨op=3 then (true,false) else (false,false)
def D6 (op:Int):Int:=if op<0∨12<op then 0 else if op<5 then 0 else if op=12 then 1 else 2
def Dk (k:Int)(v:Vl):Bool:=v.kind==0||k==4||k==5

def E3 (e:Ex):Int:=
 if An e.val != 0 then An e.val
 else if e.op==4&&(!Dk e.kind e.val||(e.kind==1 && !isV0 e.val)) then 9 else 0

def Bg (e:Ex):Int:=
 if !(Dq e.op).1&&e.var != 0||(!(Dq e.op).2&&e.field != 0)||(!(e.op==4)&&e.kind != 0)||(!(e.op==4||e.op==0) && !isV0 e.val) then 3 else 0

def Bt (e:Ex):Int:=
 if !decide (0≤e.op∧e.op≤12) then 1
 else if (e.args.length:Int) != D6 e.op then 15
 else if ((Dq e.op).1&&(decide (e.var<0)||decide (16≤e.var)))||((Dq e.op).2&&(decide (e.field<0)||decide (8≤e.field))) then 2
 else if e.op==4&&(decide (e.kind<1)||decide (5<e.kind)) then 1
 else if e.op==4||e.op==0 then (if E3 e != 0 then E3 e else Bg e)
 else Bg e

mutual
def Iy (f:Ex→Int):Ex→Int
 | ⟨op,args,var,field,kind,val⟩=>if f ⟨op,args,var,field,kind,val⟩ != 0 then f ⟨op,args,var,field,kind,val⟩ else Vt f args
def Vt (f:Ex→Int):List Ex→Int
 | []=>0
 | e::r=>if Iy f e != 0 then Iy f e else Vt f r
end
theorem Rq (f:Ex→Int):∀l,Vt f l=Aq (Iy f) l
 | []=>by simp [Vt,Aq]
 | e::r=>by simp [Vt,Aq,Rq f r]
theorem Ss (f:Ex→Int)(e:Ex):Iy f e=if f e != 0 then f e else Aq (Iy f) e.args:=by
 cases e;rw [Iy,Rq]
abbrev Dc:Ex→Int:=Iy Bt
theorem Or (e:Ex):Dc e=if Bt e != 0 then Bt e else Aq Dc e.args:=Ss Bt e

mutual
def At:Ex→Nat
 | ⟨_,args,_,_,_,_⟩=>1+V4 args
def V4:List Ex→Nat
 | []=>0
 | e::r=>At e+V4 r
end
mutual
def El:Ex→Nat
 | ⟨_,args,_,_,_,_⟩=>Ry args+1
def Ry:List Ex→Nat
 | []=>0
 | e::r=>max (El e) (Ry r)
end
theorem Ws:∀l,V4 l=(l.map At).sum
 | []=>by simp [V4]
 | e::r=>by simp [V4,Ws r]
theorem Ek (e:Ex):At e=1+(e.args.map At).sum:=by cases e;rw [At,Ws]
theorem R7:∀l,Ry l=(l.map El).foldr max 0
 | []=>by simp [Ry]
 | e::r=>by simp [Ry,R7 r]
theorem S6 (e:Ex):El e=(e.args.map El).foldr max 0+1:=by cases e;rw [El,R7]

theorem jI {l:List Ex}{a:Ex}(f:Ex→Nat)(h:a∈l):f a≤(l.map f).sum:=by
  induction l with
  | nil=>cases h
  | cons x r ih=>
    simp only [List.map_cons,List.sum_cons]
    rcases List.mem_cons.1 h with rfl | h
    · omega
    · have:=ih h;omega
theorem G0 {e a:Ex}(h:a∈e.args):At a<At e:=by
 have:=jI At h;have:=Ek e;omega
theorem Jr (e:Ex):El e≤At e:=by
  refine Ex.Aaj (P:=fun e=>El e≤At e) (fun e ih=>?_) e
  rw [S6,Ek]
  have:∀l:List Ex,(∀a∈l,El a≤At a)→(l.map El).foldr max 0≤(l.map At).sum:=by
    intro l
    induction l with
    | nil=>intro _;exact Nat.le_refl _
    | cons x r ihr=>
      intro h
      simp only [List.map_cons,List.foldr_cons,List.sum_cons]
      have h1:=h x (by simp)
      have h2:=ihr fun a ha=>h a (by simp [ha])
      omega
  have:=this e.args ih
  omega

mutual
def Gr (L:Nat):Ex→Nat
 | ⟨_,args,_,_,_,_⟩=>Fl L args 1
def Fl (L:Nat):List Ex→Nat→Nat
 | [],n=>n
 | e::r,n=>if n≤L then Fl L r (n+Gr L e) else n
end
theorem X9 (L:Nat)(e:Ex):Gr L e=Fl L e.args 1:=by cases e;rw [Gr]
theorem V0 (L:Nat)(e:Ex):Gr L e=At e∨(L<Gr L e∧Gr L e≤At e):=by
  refine Ex.Aaj (P:=fun e=>Gr L e=At e∨(L<Gr L e∧Gr L e≤At e)) (fun e ih=>?_) e
  rw [X9,Ek]
  have:∀(l:List Ex) (n:Nat),(∀a∈l,Gr L a=At a∨(L<Gr L a∧Gr L a≤At a))→Fl L l n=n+(l.map At).sum∨(L<Fl L l n∧Fl L l n≤n+(l.map At).sum):=by
    intro l
    induction l with
    | nil=>intro n _;simp [Fl]
    | cons x r ihr=>
      intro n h
      simp only [Fl,List.map_cons,List.sum_cons]
      have h1:=h x (by simp)
      have h2:=ihr (n+Gr L x) fun a ha=>h a (by simp [ha])
      split
      · have hmono:n+Gr L x≤Fl L r (n+Gr L x):=by
          have:∀(l:List Ex) (m:Nat),m≤Fl L l m:=by
            intro l
            induction l with
            | nil=>intro m;simp [Fl]
            | cons y s ihs => intro m; simp only [Fl]; split
                              · exact Nat.le_trans (Nat.le_add_right _ _) (ihs _)
                              · exact Nat.le_refl _
          exact this r _
        omega
      · omega
  have:=this e.args 1 ih
  omega
theorem Vm (L:Nat)(e:Ex):L<Gr L e↔L<At e:=by
 rcases V0 L e with h | h
 · rw [h]
 · omega

def B4 (e:Ex):Int:=if decide (64<(At e:Int)) then 5 else if decide (12<(El e:Int)) then 12 else Dc e

def Na (op k k0:Int):Bool:=if op==5||op==6||op==7||op==8 then k==0 else if op==10||op==11||op==12 then k==1 else if op==9 then k==k0 else true
def Dm (op:Int)(kinds:List Int):Int:=Aq (fun k=>if Na op k (kinds.headD 0) then 0 else 9) kinds
def Fu (op:Int):Int:=if op==5||op==6||op==7||op==8 then 0 else if op==10||op==11||op==12 then 1 else -1
theorem Yc (op k k0:Int):((decide (0≤Fu op)&&k != Fu op)||(op==9&&k != k0)) = !Na op k k0:=by
 unfold Fu Na
 by_cases h1:(op==5||op==6||op==7||op==8)=true
 ·
  have h9:(op==9)=false:=by simp at h1 ⊢;omega
  rw [if_pos h1,if_pos h1,h9];simp [bne]
 ·
  rw [if_neg h1,if_neg h1]
  by_cases h2:(op==10||op==11||op==12)=true
  ·
   have h9:(op==9)=false:=by simp at h2 ⊢;omega
   rw [if_pos h2,if_pos h2,h9];simp [bne]
  ·
   rw [if_neg h2,if_neg h2]
   by_cases h9:(op==9)=true
   · rw [if_pos h9,h9];simp [bne]
   · rw [if_neg h9];simp at h9;simp [h9]


structure Evr where
 vars:List (List Ev)
 own:Int
 event:Ev

def OPS:List (Int×AV):=[(5,.fn (.func 108) [] [.ptr [.fn (.func 107) [] []]]),(6,.fn (.func 109) [] [.ptr [.fn (.func 107) [] []]]),(7,.fn (.func 110) [] []),(8,.fn (.func 111) [] []),(10,.fn (.func 112) [] []),(11,.fn (.func 113) [] []),(12,.fn (.func 114) [] [])]
def cX (x:Evr):List AV:=[.sl 1 (x.vars.map qU),.int .i64 x.own,.int .i64 x.event.source,.int .i64 x.event.seq,.int .i64 x.event.type,.int .i64 x.event.time,.sl 3 (x.event.values.map cV),.mapv OPS]
def Evr.ok (x:Evr):Prop:=∀l∈x.vars,l.length≤1048576

def Bn (vars:List (List Ev))(v:Int):List Ev:=if decide (v<0)||decide ((vars.length:Int)≤v) then [] else (vars[v.toNat]?).getD []

theorem Ze {x:Evr}(h:x.ok)(v:Int):(Bn x.vars v).length≤1048576:=by
 unfold Bn
 split
 · simp
 ·
  cases hl:x.vars[v.toNat]? with
  | none=>simp
  | some l=>simpa using h l (List.mem_of_getElem? hl)

def Dg (e:Ev)(k:Int):Vl×Int:=if decide ((e.values.length:Int)≤k) then (v0,6) else ((e.values[k.toNat]?).getD v0,0)

def Nx (x:Evr)(e:Ex):Vl×Int:=
 let l:=Bn x.vars e.var
 if Aq (fun v=>(Dg v e.field).2) l != 0 then (v0,Aq (fun v=>(Dg v e.field).2) l) else cK e.kind (l.map fun v=>(Dg v e.field).1) e.val

def Gk (last:Ev)(e:Ex):Vl×Int:=
 if e.op==2 then (⟨0,last.time,[]⟩,0)
 else if (Dg last e.field).2==0 then (if An (Dg last e.field).1 != 0 then (v0,An (Dg last e.field).1) else ((Dg last e.field).1,0))
 else (v0,(Dg last e.field).2)

def Ey (x:Evr)(e:Ex):Vl×Int:=
 if e.op==0 then (e.val,0)
 else if e.op==3 then (⟨0,(Bn x.vars e.var).length,[]⟩,0)
 else if e.op==4 then Nx x e
 else if e.var != x.own then (if ((Bn x.vars e.var).length:Int)==0 then (v0,10) else Gk ((Bn x.vars e.var).getLast?.getD Ke) e)
 else Gk x.event e

def lastS (vars:List (List Ev))(v own:Int)(ev:Ev):Ev×Bool:=
 if v==own then (ev,true) else if ((Bn vars v).length:Int)==0 then (Ke,false) else ((Bn vars v).getLast?.getD Ke,true)
theorem sH {α:Type}{l:List α}(h:((l.length:Int)==0)=false):∃a,l[((l.length:Int)-1).toNat]? = some a∧l.getLast? = some a:=by
 have h0:l.length≠0:=by simpa using h
 have e:((l.length:Int)-1).toNat=l.length-1:=by omega
 rw [e,List.getLast?_eq_getElem?]
 exact ⟨_,List.getElem?_eq_getElem (by omega),List.getElem?_eq_getElem (by omega)⟩

def Gb (op:Int)(a b:Int):Vl:=
 if op==5 then ⟨0,IntKind.i64.wrap (a+b),[]⟩ else if op==6 then ⟨0,IntKind.i64.wrap (a-b),[]⟩
 else if op==7 then Dv (decide (a<b)) else if op==8 then Dv (decide (a≤b))
 else if op==10 then Dv (a==1&&b==1) else if op==11 then Dv (a==1||b==1) else Dv (a != 1)

def twoS (op:Int)(v w:Vl):Vl:=if op==9 then Dv (eqV v w) else Gb op v.num w.num

def J7 (op:Int)(l:List Vl):Vl×Int:=
 if Dm op (l.map (·.kind)) != 0 then (v0,Dm op (l.map (·.kind)))
 else if op==9 then (Dv (eqV (l.headD v0) ((l[1]?).getD v0)),0)
 else (Gb op (l.headD v0).num (l.getLastD v0).num,0)

mutual
def Bq (x:Evr):Ex→Vl×Int
  | ⟨op,args,var,field,kind,val⟩=>
    if args.isEmpty then Ey x ⟨op,args,var,field,kind,val⟩
    else if (Kc x args).2 != 0 then (v0,(Kc x args).2) else J7 op (Kc x args).1
def Kc (x:Evr):List Ex→List Vl×Int
 | []=>([],0)
 | e::r=>if (Bq x e).2 != 0 then ([],(Bq x e).2) else if (Kc x r).2 != 0 then ([],(Kc x r).2) else ((Bq x e).1::(Kc x r).1,0)
end

theorem S3 (x:Evr):∀l,(Kc x l).2=Aq (fun a=>(Bq x a).2) l
  | []=>by simp [Kc,Aq]
  | e::r=>by
    have:=S3 x r
    by_cases h:((Bq x e).2 != 0)=true
    · rw [Kc,Aq,if_pos h,if_pos h]
    · rw [Kc,Aq,if_neg h,if_neg h,←this]
      by_cases h2:((Kc x r).2 != 0)=true
      · rw [if_pos h2]
      · rw [if_neg h2]
        have h3:(Kc x r).2=0:=by simpa using h2
        exact h3.symm

theorem fB (x:Evr):∀l,Aq (fun a=>(Bq x a).2) l=0→(Kc x l).1=l.map fun a=>(Bq x a).1
  | [],_=>by simp [Kc]
  | e::r,h=>by
    simp only [Aq] at h
    by_cases h1:((Bq x e).2 != 0)=true
    · rw [if_pos h1] at h;simp [h] at h1
    · rw [if_neg h1] at h
      have h2:¬((Kc x r).2 != 0)=true:=by rw [S3,h];simp
      rw [Kc,if_neg h1,if_neg h2]
      simp [fB x r h]

theorem Jx (x:Evr)(e:Ex):Bq x e=if e.args.isEmpty then Ey x e else if Aq (fun a=>(Bq x a).2) e.args != 0 then (v0,Aq (fun a=>(Bq x a).2) e.args) else J7 e.op (e.args.map fun a=>(Bq x a).1):=by
 cases e with | mk op args var field kind val=>
 rw [Bq]
 simp only [S3]
 by_cases h:Aq (fun a=>(Bq x a).2) args=0
 · simp [h,fB x args h]
 · simp [h]

def V6 (x:Evr)(e:Ex):Vl×Int:=if B4 e != 0 then (v0,B4 e) else Bq x e
def Li (x:Evr)(e:Ex):Bool:=(V6 x e).2==0&&eqV (V6 x e).1 (Dv true)


def On (k:Int)(v:Vl):Int:=if An v != 0 then An v else if !F3 k v then 9 else 0
theorem pE (k:Int)(v:Vl)(h:Dd k=true):On k v=Db k v:=by
 unfold On Db;rw [qZ k v h]

theorem Mw {a:Ac}(h:Bi a=0):Dd a.kind=true:=by
 unfold Bi at h
 cases hk:Dd a.kind with
 | true=>rfl
 | false=>simp [hk] at h

def rresultS (a:Ac)(o:Vl):Vl×Int:=
 if Bi a != 0 then (v0,Bi a)
 else if On a.kind o != 0 then (v0,On a.kind o)
 else if a.kind==0 then (⟨0,a.count,[]⟩,0)
 else if a.count==0&&a.kind != 1 then (o,0)
 else (a.val,0)
def addS (a:Ac)(v:Vl):Ac×Int:=
 if Bi a != 0 then (ac0,Bi a)
 else if On a.kind v != 0 then (ac0,On a.kind v)
 else if a.count==4096 then (ac0,5)
 else if a.kind==0 then (⟨a.kind,IntKind.i64.wrap (a.count+1),v0⟩,0)
 else if decide (0<a.count) then (⟨a.kind,IntKind.i64.wrap (a.count+1),Il a.kind a.val v⟩,0)
 else (⟨a.kind,IntKind.i64.wrap (a.count+1),v⟩,0)

theorem Fj {v:Vl}(h:An v=0)(hk:v.kind=0):v.text = []∧-1099511627776≤v.num∧v.num≤1099511627776:=by
 unfold An Dy at h
 by_cases ht:v.text = []
 ·
  simp [hk,ht] at h
  exact ⟨ht,by omega⟩
 · simp [hk,ht] at h

theorem uR {a:Ac}(h:Bi a=0):0≤a.count∧a.count≤4096:=by
 have hk:=Mw h
 unfold Bi at h
 simp only [hk,Bool.not_true,Bool.false_eq_true,if_false] at h
 by_cases hc:(decide (a.count<0)||decide (4096<a.count))=true
 · rw [if_pos hc] at h;cases h
 · simp at hc;omega

theorem yC {k:Int}{a:Ac}{v:Vl}(h:Bi a=0)(hk:a.kind=k)(hv:Db k v=0)(hc:a.count<4096) :
  Bi (I8 k a v)=0∧(I8 k a v).kind=k∧(I8 k a v).count=a.count+1∧addS a v=(I8 k a v,0):=by
 have hkn:=Mw h
 have hcc:=uR h
 have hw:IntKind.i64.wrap (a.count+1)=a.count+1:=IntWalk.i64_in _ (by omega)
 have hadd:addS a v=if a.kind==0 then (⟨a.kind,a.count+1,v0⟩,0) else if decide (0<a.count) then (⟨a.kind,a.count+1,Il a.kind a.val v⟩,0) else (⟨a.kind,a.count+1,v⟩,0):=by
  unfold addS
  rw [hw,pE _ _ hkn,h,hk,hv]
  have:(a.count==4096)=false:=by simp;omega
  simp [this]
 have hvc:An v=0:=by
  unfold Db at hv
  by_cases e:An v=0
  · exact e
  · simp [e] at hv
 have hvs:Eh k v=true:=by
  unfold Db at hv
  simp [hvc] at hv;exact hv
 rw [hadd]
 obtain ⟨ak,ac,av⟩:=a
 simp only at hk hkn hc hcc h hw ⊢
 subst hk
 have h2:=h
 unfold Bi at h2
 simp only [hkn,Bool.not_true,Bool.false_eq_true,if_false] at h2
 have hn1:(decide (ac<0)||decide (4096<ac))=false:=by simp;omega
 simp only [hn1,Bool.false_eq_true,if_false] at h2
 simp only [Dd,Bool.and_eq_true,decide_eq_true_eq] at hkn
 have hn2:(decide (ac+1<0)||decide (4096<ac+1))=false:=by simp;omega
 have hk01:ak=0∨ak=1∨ak=2∨ak=3∨ak=4∨ak=5:=by omega
 by_cases h0:ac=0
 ·
  subst h0
  have hvi:ak=1→v.kind=0:=by
   intro e;subst e;simpa [Eh] using hvs
  rcases hk01 with rfl | rfl | rfl | rfl | rfl | rfl
  · refine ⟨by rfl,rfl,rfl,rfl⟩
  ·
   have hb:=Fj hvc (hvi rfl)
   refine ⟨?_,rfl,rfl,rfl⟩
   simp [I8,Em,En,Bi,Dd,hvi rfl,hb.1,hb.2]
  all_goals
   refine ⟨?_,rfl,rfl,rfl⟩
   simp [I8,Em,En,Bi,Dd,hvc,hvs]
 ·
  have hpos:0<ac:=by omega
  have e0:(ac==0)=false:=by simp [h0]
  have hst:I8 ak ⟨ak,ac,av⟩ v=⟨ak,ac+1,Il ak av (En ak v)⟩:=by
   simp [I8,Em,h0,hw]
  rw [hst]
  refine ⟨?_,rfl,rfl,?_⟩
  ·
   unfold Bi
   have hkk:Dd ak=true:=by simp [Dd];omega
   have e1:(ac+1==0)=false:=by simp;omega
   simp only [hkk,Bool.not_true,hn2,Bool.false_eq_true,if_false,e1,Bool.false_or]
   simp only [e0,Bool.false_or] at h2
   rcases hk01 with rfl | rfl | rfl | rfl | rfl | rfl
   · rfl
   ·
    have hvi:v.kind=0:=by simpa [Eh] using hvs
    have hb:=Fj hvc hvi
    simp at h2
    have:IntKind.i64.wrap (av.num+v.num)=av.num+v.num:=IntWalk.i64_in _ (by omega)
    simp [Il,En,this]
    omega
   ·
    have hvi:v.kind=0:=by simpa [Eh] using hvs
    have hb:=Fj hvc hvi
    simp at h2
    have hai:av.kind=0:=by simpa [Eh] using h2.2
    have hba:=Fj h2.1 hai
    have hm : -1099511627776≤min av.num v.num∧min av.num v.num≤1099511627776:=by omega
    simp [Il,En,An,Dy,Eh]
    omega
   ·
    have hvi:v.kind=0:=by simpa [Eh] using hvs
    have hb:=Fj hvc hvi
    simp at h2
    have hai:av.kind=0:=by simpa [Eh] using h2.2
    have hba:=Fj h2.1 hai
    have hm : -1099511627776≤max av.num v.num∧max av.num v.num≤1099511627776:=by omega
    simp [Il,En,An,Dy,Eh]
    omega
   · simpa [Il] using h2
   · simp [Il,En,hvc,hvs]
  ·
   have hd:decide (0<ac)=true:=by simp [hpos]
   rcases hk01 with rfl | rfl | rfl | rfl | rfl | rfl <;> simp [hd,Il,En]

theorem lY {k:Int}:∀(l:List Vl) (a:Ac),Bi a=0→a.kind=k→Aq (Db k) l=0→a.count+l.length≤4096→Bi (l.foldl (I8 k) a)=0
  | [],a,h,_,_,_=>h
  | v::r,a,h,hk,hf,hc=>by
    simp only [Aq] at hf
    simp only [List.length_cons,Int.natCast_add,Int.cast_ofNat_Int] at hc
    by_cases hv:Db k v=0
    · rw [if_neg (by simp [hv])] at hf
      obtain ⟨h1,h2,h3,_⟩:=yC h hk hv (by omega)
      exact lY r _ h1 h2 hf (by rw [h3];omega)
    · rw [if_pos (by simp [hv])] at hf;exact absurd hf hv


theorem N3 {l:List Ex}{k:Nat}{a:Ex}(d:Nat)(h:l[k]? = some a):max d (((l.drop k).map El).foldr max 0)=max (max d (El a)) (((l.drop (k+1)).map El).foldr max 0):=by
 rw [A4 h];simp only [List.map_cons,List.foldr_cons];omega
theorem eV {l:List Ex}{k:Nat}{a:Ex}(n:Nat)(h:l[k]? = some a):n+((l.drop k).map At).sum=(n+At a)+((l.drop (k+1)).map At).sum:=by
 rw [A4 h];simp only [List.map_cons,List.sum_cons];omega

theorem vL (e:Ex):1≤At e:=by rw [Ek];omega
theorem O7 (e:Ex)(h:At e≤1048576):e.args.length≤1048576:=by
 rw [Ek] at h
 have:∀l:List Ex,l.length≤(l.map At).sum:=by
  intro l
  induction l with
  | nil=>exact Nat.le_refl _
  | cons x r ih=>simp only [List.length_cons,List.map_cons,List.sum_cons];have:=vL x;omega
 have:=this e.args
 omega
theorem bM {L n:Nat}(h:L<n):∀l:List Ex,Fl L l n=n
 | []=>rfl
 | _::_=>by rw [Fl,if_neg (by omega)]

def Cf (e:Ex):Int:=
 if decide ((if 0≤e.op∧e.op≤12 then D6 e.op else -1)<0) then 1
 else if (e.args.length:Int) != (if 0≤e.op∧e.op≤12 then D6 e.op else -1) then 15
 else if ((Dq e.op).1&&(decide (e.var<0)||decide (16≤e.var)))||((Dq e.op).2&&(decide (e.field<0)||decide (8≤e.field))) then 2
 else if e.op==4&&(decide (e.kind<1)||decide (5<e.kind)) then 1
 else if e.op==4||e.op==0 then (if An e.val != 0 then An e.val else if e.op==4&&(!F3 e.kind e.val||(e.kind==1 && !isV0 e.val)) then 9 else Bg e)
 else if e.op==4&&(!F3 e.kind e.val||(e.kind==1 && !isV0 e.val)) then 9
 else Bg e

theorem Hh (e:Ex):Cf e=Bt e:=by
  unfold Cf Bt
  by_cases h:0≤e.op∧e.op≤12
  · have ha : ¬ D6 e.op < 0 := by unfold D6; repeat' split
                                  all_goals omega
    simp only [h,and_self,if_true,decide_true,Bool.not_true,Bool.false_eq_true,if_false,ha,decide_false]
    split
    · rfl
    split
    · rfl
    by_cases h4:e.op=4
    · simp only [h4,BEq.rfl,Bool.true_and,Bool.true_or,if_true]
      by_cases hk:(decide (e.kind<1)||decide (5<e.kind))=true
      · rw [if_pos hk,if_pos hk]
      · rw [if_neg hk,if_neg hk]
        have hs:F3 e.kind e.val=Dk e.kind e.val:=by
          simp at hk
          unfold F3 Dk
          have:(e.kind==0)=false:=by simp;omega
          rw [this];simp
        unfold E3
        rw [hs,h4]
        by_cases hv:An e.val=0
        · rw [hv]
          simp only [bne_self_eq_false,Bool.false_eq_true,if_false,BEq.rfl,Bool.true_and]
          by_cases hb:(!Dk e.kind e.val||(e.kind==1 && !isV0 e.val))=true
          · rw [if_pos hb,if_pos hb];rfl
          · rw [if_neg hb,if_neg hb];rfl
        · simp [hv]
    · have h4':(e.op==4)=false:=by simp [h4]
      simp only [h4',Bool.false_and,Bool.false_eq_true,if_false,Bool.false_or]
      unfold E3
      simp only [h4',Bool.false_and,Bool.false_eq_true,if_false]
      by_cases hv:An e.val=0
      · simp [hv]
      · simp [hv]
  · simp [h]


theorem Hj {α:Type}{f:α→Int}:∀{l:List α},Aq f l=0→∀a∈l,f a=0
  | [],_,_,h=>by cases h
  | x::r,h,a,ha=>by
    simp only [Aq] at h
    by_cases hx:f x=0
    · rw [if_neg (by simp [hx])] at h
      rcases List.mem_cons.1 ha with rfl | ha
      · exact hx
      · exact Hj h a ha
    · rw [if_pos (by simpa using hx)] at h;exact absurd h hx

theorem A8 {e:Ex}(h:Dc e=0):Bt e=0∧∀a∈e.args,Dc a=0:=by
 rw [Or] at h
 by_cases hx:Bt e=0
 ·
  rw [if_neg (by simp [hx])] at h
  exact ⟨hx,Hj h⟩
 · rw [if_pos (by simpa using hx)] at h;exact absurd h hx

theorem Gu {e:Ex}(h:Bt e=0):0≤e.op∧e.op≤12∧(e.args.length:Int)=D6 e.op:=by
 unfold Bt at h
 split at h
 · cases h
 split at h
 · cases h
 rename_i h1 h2
 simp at h1 h2
 exact ⟨h1.1,h1.2,h2⟩

theorem Jd {e:Ex}(h:Bt e=0):0≤e.field:=by
  have hf:Bg e=0→(Dq e.op).2=false→e.field=0:=by
    intro h1 h2
    unfold Bg at h1
    split at h1
    · cases h1
    · rename_i h3
      simp [h2] at h3
      exact h3.1.1.2
  unfold Bt at h
  split at h
  · cases h
  split at h
  · cases h
  split at h
  · cases h
  rename_i h1 h2 h3
  cases hu:(Dq e.op).2 with
  | true=>
    simp [hu] at h3
    omega
  | false=>
    have:Bg e=0:=by
      split at h
      · cases h
      split at h
      · split at h
        · rename_i h4
          exact absurd h (by simpa using h4)
        · exact h
      · exact h
    rw [hf this hu];exact Int.le_refl _

theorem oQ {e:Ex}(h:Bt e=0)(hne:((e.args.length:Int)==0)=false):(e.args.length=1∧e.op=12)∨(e.args.length=2∧5≤e.op∧e.op≤11):=by
 obtain ⟨h1,h2,h3⟩:=Gu h
 have hne':e.args.length≠0:=by simpa using hne
 unfold D6 at h3
 split at h3
 · omega
 split at h3
 · omega
 split at h3
 · omega
 · omega


mutual
def yM (f:Ex→Ex):Ex→Ex
 | ⟨op,args,var,field,kind,val⟩=>f ⟨op,rebL f args,var,field,kind,val⟩
def rebL (f:Ex→Ex):List Ex→List Ex
 | []=>[]
 | e::r=>yM f e::rebL f r
end
def outS (f:Ex→Ex)(e:Ex):Ex:=⟨e.op,e.args.map (yM f),e.var,e.field,e.kind,e.val⟩
def Ap (e:Ex):Ex:=e.args.headD kH
def Bj (e:Ex):Ex:=(e.args[1]?).getD kH
def My (v:Vl):Ex:=⟨0,[],0,0,0,v⟩
def isC (a:Ex)(b:Bool):Bool:=a.op==0&&eqV a.val (Dv b)

theorem get0 {e:Ex}(h:0<e.args.length):e.args[(0:Int).toNat]? = some (Ap e):=by
 unfold Ap
 cases e with | mk op args a b c d=>
 cases args with
 | nil=>simp at h
 | cons x r=>rfl
theorem get1 {e:Ex}(h:1<e.args.length):e.args[(1:Int).toNat]? = some (Bj e):=by
 unfold Bj
 have:e.args[1]? = some e.args[1]:=List.getElem?_eq_getElem h
 show e.args[1]? = _
 rw [this];rfl
theorem I3 {e:Ex}(h:0<e.args.length):(e.args.map G7)[(0:Int).toNat]? = some (cE (Ap e)):=F2 (get0 h)
theorem Kh {e:Ex}(h:1<e.args.length):(e.args.map G7)[(1:Int).toNat]? = some (cE (Bj e)):=F2 (get1 h)
theorem Ba {e:Ex}(h:0<e.args.length):Ap e∈e.args:=List.mem_of_getElem? (get0 h)
theorem Bw {e:Ex}(h:1<e.args.length):Bj e∈e.args:=List.mem_of_getElem? (get1 h)

theorem kO {e:Ex}(h:Bt e=0)(ho:e.op=12):0<e.args.length:=by
 obtain ⟨_,_,h3⟩:=Gu h
 rw [ho] at h3
 have:D6 12=1:=by decide
 omega
def lM (x:Evr)(e:Ex):Vl×Bool:=
 if e.args.any (fun a=>a.op != 0) then (v0,false) else if (e.args.length:Int)==0 then (v0,false) else ((Bq x e).1,(Bq x e).2==0&&An (Bq x e).1==0)

def fnodeS (x:Evr)(e:Ex):Ex:=
 if (lM x e).2 then My (lM x e).1
 else if e.op==12&&(Ap e).op==12 then Ap (Ap e)
 else if e.op != 10&&e.op != 11 then e
 else if isC (Ap e) (e.op==10) then Bj e
 else if isC (Bj e) (e.op==10) then Ap e
 else if isC (Ap e) (!(e.op==10))||isC (Bj e) (!(e.op==10)) then My (Dv (!(e.op==10)))
 else e

def xz:Evr:=⟨[],-1,Ke⟩
theorem yP (b:Bool):An (Dv b)=0:=by cases b <;> decide

def FoldS (e:Ex):Ex×Int:=if B4 e != 0 then (kH,B4 e) else (yM (fnodeS xz) e,0)

def headS (a b:Ex):Bool:=a.op != b.op||a.var != b.var||a.field != b.field||a.kind != b.kind || !eqV a.val b.val||(a.args.length:Int) != (b.args.length:Int)

mutual
def rR:Ex→Ex→Bool
 | ⟨op,args,var,field,kind,val⟩,b=>if headS ⟨op,args,var,field,kind,val⟩ b then false else sameL args b.args
def sameL:List Ex→List Ex→Bool
 | [],_=>true
 | a::r,l=>if !rR a (l.headD kH) then false else sameL r l.tail
end
end Go.Proofs.YtjedflcpjlgokaaGreatDoor
