/-
  Several texts in one: EM, EM2, EM3, EM4, EM5, EM6, EM10, Pa. No condition.
-/
import Derived.Test.YtkdhionilabokaaGreatDoorAw
import Derived.IntWalk
set_option linter.unusedVariables false
set_option linter.unusedSimpArgs false
namespace Go.Proofs.YtkdhionilabokaaGreatDoor
open Go Go.Aw

theorem Dk:({ data:=#[] }:ByteArray).data.toList=([]:List UInt8):=rfl

structure Vl where
 kind:Int
 num:Int
 text:List UInt8
deriving DecidableEq

structure Ex where
 op:Int
 args:List Ex
 var:Int
 field:Int
 kind:Int
 val:Vl

structure Ev where
 source:Int
 seq:Int
 type:Int
 time:Int
 values:List Vl

structure Ac where
 kind:Int
 count:Int
 val:Vl

def v0:Vl:=⟨0,0,[]⟩
def Hg:Ev:=⟨0,0,0,0,[]⟩
def kB:Ex:=⟨0,[],0,0,0,v0⟩
@[reducible] def eqV (v w : Vl) : Bool := v.kind == w.kind && (v.num == w.num && v.text == w.text)
@[reducible] def isV0 (v : Vl) : Bool := v.kind == 0 && (v.num == 0 && v.text == [])
def cV (v:Vl):List AV:=[.int .i64 v.kind,.int .i64 v.num,.str v.text]

mutual
def Ju:Ex->List AV
 | ⟨op,args,var,field,kind,val⟩=>[.int .i64 op,.sl 8 (aL args),.int .i64 var,.int .i64 field,.int .i64 kind,.int .i64 val.kind,.int .i64 val.num,.str val.text]
def aL:List Ex->List (List AV)
 | []=>[]
 | e::r=>Ju e::aL r
end

theorem W3:∀l:List Ex,aL l=l.map Ju
 | []=>by simp [aL]
 | e::r=>by simp [aL,W3 r]

def cE (e:Ex):List AV:=[.int .i64 e.op,.sl 8 (e.args.map Ju),.int .i64 e.var,.int .i64 e.field,.int .i64 e.kind,.int .i64 e.val.kind,.int .i64 e.val.num,.str e.val.text]
def Ec (e:Ev):List AV:=[.int .i64 e.source,.int .i64 e.seq,.int .i64 e.type,.int .i64 e.time,.sl 3 (e.values.map cV)]
def Uw (a:Ac):List AV:=[.int .i64 a.kind,.int .i64 a.count,.int .i64 a.val.kind,.int .i64 a.val.num,.str a.val.text]
def Tu (l:List Ev):List AV:=[.sl 5 (l.map Ec)]
def sN (l:List (List Ev)):List AV:=[.sl 1 (l.map Tu)]

theorem T9 (e:Ex):Ju e=cE e:=by
 cases e
 simp [Ju,cE,W3]

theorem Ex.ind {P:Ex->Prop}(h:∀e,(∀a∈e.args,P a)->P e):∀e,P e:=by
 intro e;exact Ex.rec (motive_1:=P) (motive_2:=fun l=>∀a∈l,P a) (fun op args v f k val ih=>h _ ih) (by simp) (fun a l ha hl=>by simp only [Cz,forall_eq_or_imp];exact ⟨ha,hl⟩) e

theorem Ii {l:List Ex}{k:Nat}{a:Ex}(h:l[k]? = some a):(l.map Ju)[k]? = some (cE a):=by
 simp [h,T9]
theorem Co {α:Type}{f:α->List AV}{l:List α}{k:Nat}{a:α}(h:l[k]? = some a):(l.map f)[k]? = some (f a):=by simp [h]

theorem Dd {α:Type}{l:List α}{k:Nat}(h:decide ((k:Int)<(l.length:Int))=true):∃a,l[k]? = some a:=by
 have:k<l.length:=by simpa using h
 exact ⟨_,List.getElem?_eq_getElem this⟩
theorem Bj {α:Type}{l:List α}{k:Nat}{a:α}(h:l[k]? = some a):k<l.length:=(List.getElem?_eq_some_iff.1 h).1
theorem Bf {α:Type}{l:List α}{k:Nat}{a:α}(h:l[k]? = some a):l.drop k=a::l.drop (k+1):=by
 obtain ⟨h1,h2⟩:=List.getElem?_eq_some_iff.1 h;rw [<-h2];exact R4 h1
theorem Cr {α:Type}{l:List α}{k:Nat}{a:α}(h:l[k]? = some a):l.take (k+1)=l.take k ++ [a]:=by
 rw [M6,h];rfl
theorem D3 {α:Type}{l:List α}{k:Nat}(h:decide ((k:Int)<(l.length:Int))=false):l.take k=l:=by
 have:¬k<l.length:=by simpa using h
 exact It (by omega)
theorem gZ {α:Type}{l:List α}{v:Int}(h0:0<=v)(h:v<(l.length:Int)):∃a,l[v.toNat]? = some a:=⟨_,List.getElem?_eq_getElem (by omega)⟩
theorem Gb {α:Type}{l:List α}{k:Nat}(h:decide ((k:Int)<(l.length:Int))=false):l.drop k = []:=by
 have:¬k<l.length:=by simpa using h
 exact List.drop_eq_nil_of_le (by omega)


def If (b:Bool):Vl:=if b then ⟨1,1,[]⟩ else ⟨1,0,[]⟩

def Gu (v:Vl):Int:=
 if v.kind==0&&(decide (v.num < -1099511627776)||decide (1099511627776<v.num)) then 2
 else if v.kind==1&&v.num != 0&&v.num != 1 then 2
 else if decide (64<(v.text.length:Int)) then 13 else 0

def Bx (v:Vl):Int:=
 if v.kind==0||v.kind==1 then (if !(v.text == []) then 3 else Gu v)
 else if v.kind==2 then (if v.num != 0 then 3 else Gu v)
 else 1

def C1 (v:Vl):Int:=
 if decide (v.kind<0)||decide (2<v.kind) then 1
 else if v.kind==2 then (if v.num != 0 then 3 else if decide (64<(v.text.length:Int)) then 13 else 0)
 else if !(v.text == []) then 3
 else if v.kind==1&&(decide (v.num<0)||decide (1<v.num))||decide (v.num < -1099511627776)||decide (1099511627776<v.num) then 2 else 0
theorem Ir (v:Vl):C1 v=Bx v:=by
 unfold C1 Bx Gu;obtain ⟨k,n,t⟩:=v;by_cases ht:t = []
 .
  subst ht;simp only [Ek,Cq,Di,beq_iff_eq,bne_iff_ne,ne_eq,not_true,if_false,K9,BEq.rfl,Bz,A2,Bz,A2]
  repeat' split
  all_goals first | rfl | omega
 simp only [Ek,Cq,Di,beq_iff_eq,bne_iff_ne,ne_eq,ht,not_false_eq_true,if_true,Bu,Iu]
 repeat' split
 all_goals first | rfl | omega

def Gg (k:Int):Bool:=decide (0<=k)&&decide (k<=5)
def Mp (k:Int)(v:Vl):Bool:=v.kind==0||(k != 1&&k != 2&&k != 3)
def Ks (k:Int)(v:Vl):Bool:=v.kind==0||k==0||k==4||k==5

def Nu (k:Int)(a b:Vl):Vl:=
 if k==1 then ⟨0,IntKind.i64.wrap (a.num+b.num),[]⟩ else if k==2 then ⟨0,min a.num b.num,[]⟩ else if k==3 then ⟨0,max a.num b.num,[]⟩ else if k==4 then a else if k==5 then b else v0
def Jd (k:Int)(v:Vl):Vl:=if k==0 then v0 else v
def Gq (a b:Ac):Ac:=if a.count==0 then b else if b.count==0 then a else ⟨a.kind,IntKind.i64.wrap (a.count+b.count),Nu a.kind a.val b.val⟩

def C8 (a:Ac):Int:=
 if !Gg a.kind then 1
 else if decide (a.count<0)||decide (4096<a.count) then 2
 else if (if a.count==0||a.kind==0 then isV0 a.val
  else if a.kind==1 then a.val.kind==0&&a.val.text == []&&decide (0-a.count*1099511627776<=a.val.num)&&decide (a.val.num<=a.count*1099511627776)
  else Bx a.val==0&&Mp a.kind a.val) then 0 else 3

def F0 (k:Int)(v:Vl):Int:=if Bx v != 0 then Bx v else if !Mp k v then 9 else 0

def D8 (a:Ac)(o:Vl):Vl×Int:=
 if C8 a != 0 then (v0,C8 a)
 else if F0 a.kind o != 0 then (v0,F0 a.kind o)
 else if a.kind==0 then (⟨0,a.count,[]⟩,0)
 else if a.count==0&&a.kind != 1 then (o,0)
 else (a.val,0)

def Tq (k:Int)(a:Ac)(v:Vl):Ac:=Gq a ⟨k,1,Jd k v⟩
def nG (k:Int)(l:List Vl):Ac:=l.foldl (Tq k) ⟨k,0,v0⟩

def Ax {α:Type}(f:α->Int):List α->Int
 | []=>0
 | a::r=>if f a != 0 then f a else Ax f r

theorem bT (a c:Ac)(h:Gg a.kind=true)(h':Gg c.kind=true):Gg (Gq a c).kind=true:=by
 unfold Gq;split
 . exact h'
 split <;> exact h
theorem lF (k:Int)(a:Ac)(v:Vl)(h:Gg a.kind=true)(hk:Gg k=true):Gg (Tq k a v).kind=true:=bT _ _ h hk

def ofS (k:Int)(l:List Vl)(o:Vl):Vl×Int:=
 if !Gg k then (v0,1)
 else if decide (4096<(l.length:Int)) then (v0,5)
 else if Ax (F0 k) l != 0 then (v0,Ax (F0 k) l)
 else D8 (nG k l) o


def D4 (op:Int):Bool×Bool:=if op=1\/op=4 then (true,true) else if op=2\/op=3 then (true,false) else (false,false)
def Hc (op:Int):Int:=if op<0\/12<op then 0 else if op<5 then 0 else if op=12 then 1 else 2
def Kq (k:Int)(v:Vl):Bool:=v.kind==0||k==4||k==5

def G3 (e:Ex):Int:=
 if Bx e.val != 0 then Bx e.val
 else if e.op==4&&(!Kq e.kind e.val||(e.kind==1 && !isV0 e.val)) then 9 else 0

def By (e:Ex):Int:=
 if !(D4 e.op).1&&e.var != 0||(!(D4 e.op).2&&e.field != 0)||(!(e.op==4)&&e.kind != 0)||(!(e.op==4||e.op==0) && !isV0 e.val) then 3 else 0

def Cu (e:Ex):Int:=
 if !decide (0<=e.op/\e.op<=12) then 1
 else if (e.args.length:Int) != Hc e.op then 15
 else if ((D4 e.op).1&&(decide (e.var<0)||decide (16<=e.var)))||((D4 e.op).2&&(decide (e.field<0)||decide (8<=e.field))) then 2
 else if e.op==4&&(decide (e.kind<1)||decide (5<e.kind)) then 1
 else if e.op==4||e.op==0 then (if G3 e != 0 then G3 e else By e)
 else By e

mutual
def D1 (f:Ex->Int):Ex->Int
 | ⟨op,args,var,field,kind,val⟩=>if f ⟨op,args,var,field,kind,val⟩ != 0 then f ⟨op,args,var,field,kind,val⟩ else Wc f args
def Wc (f:Ex->Int):List Ex->Int
 | []=>0
 | e::r=>if D1 f e != 0 then D1 f e else Wc f r
end
theorem R1 (f:Ex->Int):∀l,Wc f l=Ax (D1 f) l
 | []=>by simp [Wc,Ax]
 | e::r=>by simp [Wc,Ax,R1 f r]
theorem Mk (f:Ex->Int)(e:Ex):D1 f e=if f e != 0 then f e else Ax (D1 f) e.args:=by
 cases e;rw [D1,R1]
abbrev Ej:Ex->Int:=D1 Cu
theorem O1 (e:Ex):Ej e=if Cu e != 0 then Cu e else Ax Ej e.args:=Mk Cu e

mutual
def B3:Ex->Nat
 | ⟨_,args,_,_,_,_⟩=>1+V6 args
def V6:List Ex->Nat
 | []=>0
 | e::r=>B3 e+V6 r
end
mutual
def Du:Ex->Nat
 | ⟨_,args,_,_,_,_⟩=>Q5 args+1
def Q5:List Ex->Nat
 | []=>0
 | e::r=>max (Du e) (Q5 r)
end
theorem V7:∀l,V6 l=(l.map B3).sum
 | []=>by simp [V6]
 | e::r=>by simp [V6,V7 r]
theorem Ha (e:Ex):B3 e=1+(e.args.map B3).sum:=by cases e;rw [B3,V7]
theorem Q6:∀l,Q5 l=(l.map Du).foldr max 0
 | []=>by simp [Q5]
 | e::r=>by simp [Q5,Q6 r]
theorem Jt (e:Ex):Du e=(e.args.map Du).foldr max 0+1:=by cases e;rw [Du,Q6]

theorem eR {l:List Ex}{a:Ex}(f:Ex->Nat)(h:a∈l):f a<=(l.map f).sum:=by
  induction l with
  | nil=>cases h
  | cons x r ih=>
    simp only [Ba,Dq];rcases Cz.1 h with rfl | h
    . omega
    have:=ih h;omega
theorem Hb {e a:Ex}(h:a∈e.args):B3 a<B3 e:=by
 have:=eR B3 h;have:=Ha e;omega
theorem J4 (e:Ex):Du e<=B3 e:=by
  refine Ex.ind (P:=fun e=>Du e<=B3 e) (fun e ih=>?_) e;rw [Jt,Ha]
  have:∀l:List Ex,(∀a∈l,Du a<=B3 a)->(l.map Du).foldr max 0<=(l.map B3).sum:=by
    intro l
    induction l with
    | nil=>intro _;exact Bi _
    | cons x r ihr=>
      intro h;simp only [Ba,List.foldr_cons,Dq];have h1:=h x (by simp);have h2:=ihr fun a ha=>h a (by simp [ha])
      omega
  have:=this e.args ih;omega

mutual
def G4 (L:Nat):Ex->Nat
 | ⟨_,args,_,_,_,_⟩=>Ga L args 1
def Ga (L:Nat):List Ex->Nat->Nat
 | [],n=>n
 | e::r,n=>if n<=L then Ga L r (n+G4 L e) else n
end
theorem Wz (L:Nat)(e:Ex):G4 L e=Ga L e.args 1:=by cases e;rw [G4]
theorem Vd (L:Nat)(e:Ex):G4 L e=B3 e\/(L<G4 L e/\G4 L e<=B3 e):=by
  refine Ex.ind (P:=fun e=>G4 L e=B3 e\/(L<G4 L e/\G4 L e<=B3 e)) (fun e ih=>?_) e;rw [Wz,Ha]
  have:∀(l:List Ex) (n:Nat),(∀a∈l,G4 L a=B3 a\/(L<G4 L a/\G4 L a<=B3 a))->Ga L l n=n+(l.map B3).sum\/(L<Ga L l n/\Ga L l n<=n+(l.map B3).sum):=by
    intro l
    induction l with
    | nil=>intro n _;simp [Ga]
    | cons x r ihr=>
      intro n h;simp only [Ga,Ba,Dq];have h1:=h x (by simp);have h2:=ihr (n+G4 L x) fun a ha=>h a (by simp [ha])
      split
      . have hmono:n+G4 L x<=Ga L r (n+G4 L x):=by
          have:∀(l:List Ex) (m:Nat),m<=Ga L l m:=by
            intro l
            induction l with
            | nil=>intro m;simp [Ga]
            | cons y s ihs => intro m; simp only [Ga]; split
                              . exact Fp (Nat.le_add_right _ _) (ihs _)
                              exact Bi _
          exact this r _
        omega
      omega
  have:=this e.args 1 ih;omega
theorem Vc (L:Nat)(e:Ex):L<G4 L e↔L<B3 e:=by
 rcases Vd L e with h | h
 . rw [h]
 omega
def B8 (e:Ex):Int:=if decide (64<(B3 e:Int)) then 5 else if decide (12<(Du e:Int)) then 12 else Ej e

def Kj (op k k0:Int):Bool:=if op==5||op==6||op==7||op==8 then k==0 else if op==10||op==11||op==12 then k==1 else if op==9 then k==k0 else true
def O2 (op:Int)(kinds:List Int):Int:=Ax (fun k=>if Kj op k (kinds.headD 0) then 0 else 9) kinds

structure Evr where
 vars:List (List Ev)
 own:Int
 event:Ev

def OPS:List (Int×AV):=[(5,.fn (.func 205) [] [.ptr [.fn (.func 204) [] []]]),(6,.fn (.func 206) [] [.ptr [.fn (.func 204) [] []]]),(7,.fn (.func 207) [] []),(8,.fn (.func 208) [] []),(10,.fn (.func 209) [] []),(11,.fn (.func 210) [] []),(12,.fn (.func 211) [] [])]
def cX (x:Evr):List AV:=[.sl 1 (x.vars.map Tu),.int .i64 x.own,.int .i64 x.event.source,.int .i64 x.event.seq,.int .i64 x.event.type,.int .i64 x.event.time,.sl 3 (x.event.values.map cV),.mapv OPS]
def Evr.ok (x:Evr):Prop:=∀l∈x.vars,l.length<=1048576

def Db (vars:List (List Ev))(v:Int):List Ev:=if decide (v<0)||decide ((vars.length:Int)<=v) then [] else (vars[v.toNat]?).getD []

theorem W7 {x:Evr}(h:x.ok)(v:Int):(Db x.vars v).length<=1048576:=by
 unfold Db;split
 . simp
 cases hl:x.vars[v.toNat]? with
 | none=>simp
 | some l=>simpa using h l (A0 hl)
def Ge (e:Ev)(k:Int):Vl×Int:=if decide ((e.values.length:Int)<=k) then (v0,6) else ((e.values[k.toNat]?).getD v0,0)

def Tb (x:Evr)(e:Ex):Vl×Int:=
 let l:=Db x.vars e.var
 if Ax (fun v=>(Ge v e.field).2) l != 0 then (v0,Ax (fun v=>(Ge v e.field).2) l) else ofS e.kind (l.map fun v=>(Ge v e.field).1) e.val

def Kb (last:Ev)(e:Ex):Vl×Int:=
 if e.op==2 then (⟨0,last.time,[]⟩,0)
 else if (Ge last e.field).2==0 then (if Bx (Ge last e.field).1 != 0 then (v0,Bx (Ge last e.field).1) else ((Ge last e.field).1,0))
 else (v0,(Ge last e.field).2)

def Hh (x:Evr)(e:Ex):Vl×Int:=
 if e.op==0 then (e.val,0)
 else if e.op==3 then (⟨0,(Db x.vars e.var).length,[]⟩,0)
 else if e.op==4 then Tb x e
 else if e.var != x.own then (if ((Db x.vars e.var).length:Int)==0 then (v0,10) else Kb ((Db x.vars e.var).getLast?.getD Hg) e)
 else Kb x.event e

theorem oD {α:Type}{l:List α}(h:((l.length:Int)==0)=false):∃a,l[((l.length:Int)-1).toNat]? = some a/\l.getLast? = some a:=by
 have h0:l.length≠0:=by simpa using h
 have e:((l.length:Int)-1).toNat=l.length-1:=by omega
 rw [e,List.getLast?_eq_getElem?];exact ⟨_,List.getElem?_eq_getElem (by omega),List.getElem?_eq_getElem (by omega)⟩

def Mo (op:Int)(a b:Int):Vl:=
 if op==5 then ⟨0,IntKind.i64.wrap (a+b),[]⟩ else if op==6 then ⟨0,IntKind.i64.wrap (a-b),[]⟩
 else if op==7 then If (decide (a<b)) else if op==8 then If (decide (a<=b))
 else if op==10 then If (a==1&&b==1) else if op==11 then If (a==1||b==1) else If (a != 1)

def bW (op:Int)(l:List Vl):Vl×Int:=
 if O2 op (l.map (·.kind)) != 0 then (v0,O2 op (l.map (·.kind)))
 else if op==9 then (If (eqV (l.headD v0) ((l[1]?).getD v0)),0)
 else (Mo op (l.headD v0).num (l.getLastD v0).num,0)

mutual
def Dh (x:Evr):Ex->Vl×Int
  | ⟨op,args,var,field,kind,val⟩=>
    if args.isEmpty then Hh x ⟨op,args,var,field,kind,val⟩
    else if (Kk x args).2 != 0 then (v0,(Kk x args).2) else bW op (Kk x args).1
def Kk (x:Evr):List Ex->List Vl×Int
 | []=>([],0)
 | e::r=>if (Dh x e).2 != 0 then ([],(Dh x e).2) else if (Kk x r).2 != 0 then ([],(Kk x r).2) else ((Dh x e).1::(Kk x r).1,0)
end

theorem Sj (x:Evr):∀l,(Kk x l).2=Ax (fun a=>(Dh x a).2) l
  | []=>by simp [Kk,Ax]
  | e::r=>by
    have:=Sj x r;by_cases h:((Dh x e).2 != 0)=true
    . rw [Kk,Ax,if_pos h,if_pos h]
    . rw [Kk,Ax,if_neg h,if_neg h,<-this]
      by_cases h2:((Kk x r).2 != 0)=true
      . rw [if_pos h2]
      . rw [if_neg h2]
        have h3:(Kk x r).2=0:=by simpa using h2
        exact h3.symm

theorem aP (x:Evr):∀l,Ax (fun a=>(Dh x a).2) l=0->(Kk x l).1=l.map fun a=>(Dh x a).1
  | [],_=>by simp [Kk]
  | e::r,h=>by
    simp only [Ax] at h;by_cases h1:((Dh x e).2 != 0)=true
    . rw [if_pos h1] at h;simp [h] at h1
    . rw [if_neg h1] at h
      have h2:¬((Kk x r).2 != 0)=true:=by rw [Sj,h];simp
      rw [Kk,if_neg h1,if_neg h2];simp [aP x r h]

theorem J9 (x:Evr)(e:Ex):Dh x e=if e.args.isEmpty then Hh x e else if Ax (fun a=>(Dh x a).2) e.args != 0 then (v0,Ax (fun a=>(Dh x a).2) e.args) else bW e.op (e.args.map fun a=>(Dh x a).1):=by
 cases e with | mk op args var field kind val=>
 rw [Dh];simp only [Sj];by_cases h:Ax (fun a=>(Dh x a).2) args=0
 . simp [h,aP x args h]
 simp [h]
def Uo (x:Evr)(e:Ex):Vl×Int:=if B8 e != 0 then (v0,B8 e) else Dh x e
def Mn (x:Evr)(e:Ex):Bool:=(Uo x e).2==0&&eqV (Uo x e).1 (If true)



theorem Nw {l:List Ex}{k:Nat}{a:Ex}(d:Nat)(h:l[k]? = some a):max d (((l.drop k).map Du).foldr max 0)=max (max d (Du a)) (((l.drop (k+1)).map Du).foldr max 0):=by
 rw [Bf h];simp only [Ba,List.foldr_cons];omega
theorem cZ {l:List Ex}{k:Nat}{a:Ex}(n:Nat)(h:l[k]? = some a):n+((l.drop k).map B3).sum=(n+B3 a)+((l.drop (k+1)).map B3).sum:=by
 rw [Bf h];simp only [Ba,Dq];omega

theorem qM (e:Ex):1<=B3 e:=by rw [Ha];omega
theorem Lh (e:Ex)(h:B3 e<=1048576):e.args.length<=1048576:=by
 rw [Ha] at h
 have:∀l:List Ex,l.length<=(l.map B3).sum:=by
  intro l
  induction l with
  | nil=>exact Bi _
  | cons x r ih=>simp only [Eb,Ba,Dq];have:=qM x;omega
 have:=this e.args;omega
theorem X2 {L n:Nat}(h:L<n):∀l:List Ex,Ga L l n=n
 | []=>rfl
 | _::_=>by rw [Ga,if_neg (by omega)]

def Cx (e:Ex):Int:=
 if decide ((if 0<=e.op/\e.op<=12 then Hc e.op else -1)<0) then 1
 else if (e.args.length:Int) != (if 0<=e.op/\e.op<=12 then Hc e.op else -1) then 15
 else if ((D4 e.op).1&&(decide (e.var<0)||decide (16<=e.var)))||((D4 e.op).2&&(decide (e.field<0)||decide (8<=e.field))) then 2
 else if e.op==4&&(decide (e.kind<1)||decide (5<e.kind)) then 1
 else if e.op==4||e.op==0 then (if Bx e.val != 0 then Bx e.val else if e.op==4&&(!Ks e.kind e.val||(e.kind==1 && !isV0 e.val)) then 9 else By e)
 else if e.op==4&&(!Ks e.kind e.val||(e.kind==1 && !isV0 e.val)) then 9
 else By e

theorem Hl (e:Ex):Cx e=Cu e:=by
  unfold Cx Cu;by_cases h:0<=e.op/\e.op<=12
  . have ha : ¬ Hc e.op < 0 := by unfold Hc; repeat' split
                                  all_goals omega
    simp only [h,and_self,if_true,decide_true,Bz,A2,if_false,ha,decide_false];split
    . rfl
    split
    . rfl
    by_cases h4:e.op=4
    . simp only [h4,BEq.rfl,Bo,A5,if_true]
      by_cases hk:(decide (e.kind<1)||decide (5<e.kind))=true
      . rw [if_pos hk,if_pos hk]
      . rw [if_neg hk,if_neg hk]
        have hs:Ks e.kind e.val=Kq e.kind e.val:=by
          simp at hk;unfold Ks Kq;have:(e.kind==0)=false:=by simp;omega
          rw [this];simp
        unfold G3;rw [hs,h4];by_cases hv:Bx e.val=0
        . rw [hv]
          simp only [bne_self_eq_false,A2,if_false,BEq.rfl,Bo];by_cases hb:(!Kq e.kind e.val||(e.kind==1 && !isV0 e.val))=true
          . rw [if_pos hb,if_pos hb];rfl
          rw [if_neg hb,if_neg hb];rfl
        simp [hv]
    . have h4':(e.op==4)=false:=by simp [h4]
      simp only [h4',Be,A2,if_false,Bl];unfold G3;simp only [h4',Be,A2,if_false];by_cases hv:Bx e.val=0
      . simp [hv]
      simp [hv]
  simp [h]

theorem Pq {α:Type}{f:α->Int}:∀{l:List α},Ax f l=0->∀a∈l,f a=0
  | [],_,_,h=>by cases h
  | x::r,h,a,ha=>by
    simp only [Ax] at h;by_cases hx:f x=0
    . rw [if_neg (by simp [hx])] at h
      rcases Cz.1 ha with rfl | ha
      . exact hx
      exact Pq h a ha
    rw [if_pos (by simpa using hx)] at h;exact absurd h hx
theorem Hi {e:Ex}(h:Ej e=0):Cu e=0/\∀a∈e.args,Ej a=0:=by
 rw [O1] at h;by_cases hx:Cu e=0
 .
  rw [if_neg (by simp [hx])] at h;exact ⟨hx,Pq h⟩
 rw [if_pos (by simpa using hx)] at h;exact absurd h hx
theorem Vv {e:Ex}(h:Cu e=0):0<=e.op/\e.op<=12/\(e.args.length:Int)=Hc e.op:=by
 unfold Cu at h;split at h
 . cases h
 split at h
 . cases h
 rename_i h1 h2;simp at h1 h2;exact ⟨h1.1,h1.2,h2⟩

theorem eY {e:Ex}(h:Cu e=0):0<=e.field:=by
  have hf:By e=0->(D4 e.op).2=false->e.field=0:=by
    intro h1 h2;unfold By at h1;split at h1
    . cases h1
    . rename_i h3
      simp [h2] at h3;exact h3.1.1.2
  unfold Cu at h;split at h
  . cases h
  split at h
  . cases h
  split at h
  . cases h
  rename_i h1 h2 h3;cases hu:(D4 e.op).2 with
  | true=>
    simp [hu] at h3;omega
  | false=>
    have:By e=0:=by
      split at h
      . cases h
      split at h
      . split at h
        . rename_i h4
          exact absurd h (by simpa using h4)
        exact h
      exact h
    rw [hf this hu];exact Lx _

theorem Xj {e:Ex}(h:Cu e=0)(hne:((e.args.length:Int)==0)=false):(e.args.length=1/\e.op=12)\/(e.args.length=2/\5<=e.op/\e.op<=11):=by
 obtain ⟨h1,h2,h3⟩:=Vv h;have hne':e.args.length≠0:=by simpa using hne
 unfold Hc at h3;split at h3
 . omega
 split at h3
 . omega
 split at h3
 . omega
 omega

mutual
def Ig (f:Ex->Ex):Ex->Ex
 | ⟨op,args,var,field,kind,val⟩=>f ⟨op,pO f args,var,field,kind,val⟩
def pO (f:Ex->Ex):List Ex->List Ex
 | []=>[]
 | e::r=>Ig f e::pO f r
end
theorem cL (f:Ex->Ex):∀l,pO f l=l.map (Ig f)
 | []=>by simp [pO]
 | e::r=>by simp [pO,cL f r]
def Lv (f:Ex->Ex)(e:Ex):Ex:=⟨e.op,e.args.map (Ig f),e.var,e.field,e.kind,e.val⟩
theorem O3 (f:Ex->Ex)(e:Ex):Ig f e=f (Lv f e):=by cases e;rw [Ig,cL];rfl

theorem dN {e:Ex}(h:Cu e=0)(ha:∀a∈e.args,Ej a=0):Ej e=0:=by
  rw [O1,h]
  have:∀l:List Ex,(∀a∈l,Ej a=0)->Ax Ej l=0:=by
    intro l
    induction l with
    | nil=>intro _;rfl
    | cons x r ih=>
      intro h;rw [Ax,if_neg (by simp [h x (by simp)])];exact ih fun a ha=>h a (by simp [ha])
  exact this _ ha

theorem kN {e e':Ex}(h1:e'.op=e.op)(h2:e'.args.length=e.args.length)(h3:e'.var=e.var)(h4:e'.field=e.field)(h5:e'.kind=e.kind)(h6:e'.val=e.val):Cu e'=Cu e:=by
 unfold Cu By G3;rw [h1,h2,h3,h4,h5,h6]

def Nf (a b:Ex):Bool:=a.op != b.op||a.var != b.var||a.field != b.field||a.kind != b.kind || !eqV a.val b.val||(a.args.length:Int) != (b.args.length:Int)

mutual
def Kn:Ex->Ex->Bool
 | ⟨op,args,var,field,kind,val⟩,b=>if Nf ⟨op,args,var,field,kind,val⟩ b then false else Ru args b.args
def Ru:List Ex->List Ex->Bool
 | [],_=>true
 | a::r,l=>if !Kn a (l.headD kB) then false else Ru r l.tail
end
theorem Mh (a b:Ex):Kn a b=if Nf a b then false else Ru a.args b.args:=by cases a;rw [Kn]


def J8 (to:List Int)(v:Int):Int:=(to[v.toNat]?).getD 0
def D7 (to:List Int)(e:Ex):Int:=
 if !(D4 e.op).1 then 0 else if decide ((to.length:Int)<=e.var) then 6 else if decide (J8 to e.var<0)||decide (16<=J8 to e.var) then 2 else 0
def B0 (to:List Int)(e:Ex):Ex:=if (D4 e.op).1 then ⟨e.op,e.args,J8 to e.var,e.field,e.kind,e.val⟩ else e
def Zj (to:List Int)(e:Ex):Ex×Int:=if D1 (D7 to) e != 0 then (kB,D1 (D7 to) e) else (Ig (B0 to) e,0)
def Fg (e:Ex)(to:List Int):Ex×Int:=if B8 e != 0 then (kB,B8 e) else Zj to e

theorem Me {e:Ex}(h:Cu e=0):0<=e.var/\e.var<16:=by
  have hf:By e=0->(D4 e.op).1=false->e.var=0:=by
    intro h1 h2;unfold By at h1;split at h1
    . cases h1
    . rename_i h3
      simp [h2] at h3;exact h3.1.1.1
  unfold Cu at h;split at h
  . cases h
  split at h
  . cases h
  split at h
  . cases h
  rename_i h1 h2 h3;cases hu:(D4 e.op).1 with
  | true=>
    simp [hu] at h3;omega
  | false=>
    have:By e=0:=by
      split at h
      . cases h
      split at h
      . split at h
        . rename_i h4
          exact absurd h (by simpa using h4)
        exact h
      exact h
    rw [hf this hu];omega

theorem Q7 {to:List Int}{v:Int}(h0:0<=v)(h:v<(to.length:Int)):to[v.toNat]? = some (J8 to v):=by
 unfold J8;have:v.toNat<to.length:=by omega
 simp [this]

theorem K6 {f:Ex->Int}{e:Ex}(h:D1 f e=0):f e=0/\∀a∈e.args,D1 f a=0:=by
 rw [Mk] at h;by_cases hx:f e=0
 .
  rw [if_neg (by simp [hx])] at h;exact ⟨hx,Pq h⟩
 rw [if_pos (by simpa using hx)] at h;exact absurd h hx
theorem P3 {to:List Int}{e:Ex}(h:D7 to e=0)(hu:(D4 e.op).1=true):e.var<(to.length:Int)/\0<=J8 to e.var/\J8 to e.var<16:=by
 unfold D7 at h;simp only [hu,Bz,A2,if_false] at h;split at h
 . cases h
 split at h
 . cases h
 rename_i h1 h2;simp at h1 h2;omega

theorem pT (to:List Int)(e:Ex):B3 (Ig (B0 to) e)=B3 e:=by
  induction e using Ex.ind with
  | h e ih=>
    have:∀x:Ex,B3 (B0 to x)=B3 x:=by
      intro x;unfold B0;split
      . rw [Ha,Ha x]
      rfl
    rw [O3,this,Ha,Ha e]
    have key:∀l:List Ex,(∀a∈l,B3 (Ig (B0 to) a)=B3 a)->((l.map (Ig (B0 to))).map B3).sum=(l.map B3).sum:=by
      intro l
      induction l with
      | nil=>intro _;rfl
      | cons x r ihr=>
        intro h;simp only [Ba,Dq];rw [h x (by simp),ihr fun a ha=>h a (by simp [ha])]
    show 1+((e.args.map (Ig (B0 to))).map B3).sum=_;rw [key e.args ih]


theorem Ep {α:Type}{b:Bool}{x y:α}(h:b=false):(if b=true then x else y)=y:=if_neg (by rw [h];decide)
structure Pt where
 op:Int
 args:List Pt
 type:Int
 var:Int
 scope:Int
 span:Int
 cond:Ex
def I4:Pt:=⟨0,[],0,0,0,0,kB⟩
mutual
def Ew:Pt->List AV
 | ⟨o,asx,t,v,s,n,c⟩=>[.int .i64 o,.sl 14 (aM asx),.int .i64 t,.int .i64 v,.int .i64 s,.int .i64 n,.int .i64 c.op,.sl 8 (c.args.map Ju),.int .i64 c.var,.int .i64 c.field,.int .i64 c.kind,.int .i64 c.val.kind,.int .i64 c.val.num,.str c.val.text]
def aM:List Pt->List (List AV)
 | []=>[]
 | a::r=>Ew a::aM r
end
@[reducible] def cPt (p : Pt) : List AV := [.int .i64 p.op, .sl 14 (p.args.map Ew), .int .i64 p.type, .int .i64 p.var, .int .i64 p.scope, .int .i64 p.span, .int .i64 p.cond.op, .sl 8 (p.cond.args.map Ju), .int .i64 p.cond.var, .int .i64 p.cond.field, .int .i64 p.cond.kind, .int .i64 p.cond.val.kind, .int .i64 p.cond.val.num, .str p.cond.val.text]
theorem W4:∀l:List Pt,aM l=l.map Ew
 | []=>by rw [aM,Gv]
 | a::r=>by rw [aM,W4 r,Ba]
theorem Kp (p:Pt):Ew p=cPt p:=by
 cases p;rw [Ew,W4]
mutual
def Fm:Pt->Nat
 | ⟨_,asx,_,_,_,_,_⟩=>pG asx+1
def pG:List Pt->Nat
 | []=>0
 | a::r=>Fm a+pG r
end
theorem cJ:∀l:List Pt,pG l=(l.map Fm).sum
 | []=>by rw [pG];rfl
 | a::r=>by rw [pG,cJ r,Ba,Dq]
theorem H0 (p:Pt):Fm p=(p.args.map Fm).sum+1:=by cases p;rw [Fm,cJ]
theorem Pt.ind {Q:Pt->Prop}(h:∀e,(∀a∈e.args,Q a)->Q e):∀e,Q e:=by
  have key:∀n e,Fm e<=n->Q e:=by
    intro n
    induction n with
    | zero=>intro e he;rw [H0] at he;omega
    | succ n ih=>
      intro e he;refine h e fun a ha=>ih a ?_
      rw [H0] at he
      have:∀l:List Pt,a∈l->Fm a<=(l.map Fm).sum:=by
        intro l
        induction l with
        | nil=>intro h;cases h
        | cons x r ih2=>
          intro h;rw [Ba,Dq];rcases Cz.1 h with rfl | h
          . omega
          have:=ih2 h;omega
      have:=this _ ha;omega
  exact fun e=>key _ e (Bi _)

end Go.Proofs.YtkdhionilabokaaGreatDoor
