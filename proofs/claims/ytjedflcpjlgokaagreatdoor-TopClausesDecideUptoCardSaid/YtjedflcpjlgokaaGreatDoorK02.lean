/-
  Several texts in one: M, M2, M3, M4, M5, M7. No condition.
-/
import Derived.Test.YtjedflcpjlgokaaGreatDoorAw
import Derived.IntWalk
set_option linter.unusedVariables false
set_option linter.unusedSimpArgs false
namespace Go.Proofs.YtjedflcpjlgokaaGreatDoor
open Go Go.Aw

theorem D0:({ data:=#[] }:ByteArray).data.toList=([]:List UInt8):=rfl

structure Vl where
 kind:Int
 num:Int
 text:List UInt8
deriving DecidableEq

structure Ex where
 op:Int
 args:List Ex
 var:Int
 field:Int
 kind:Int
 val:Vl

structure Ev where
 source:Int
 seq:Int
 type:Int
 time:Int
 values:List Vl

structure Ac where
 kind:Int
 count:Int
 val:Vl

def v0:Vl:=⟨0,0,[]⟩
def Ms:Ev:=⟨0,0,0,0,[]⟩
def kD:Ex:=⟨0,[],0,0,0,v0⟩
def ac0:Ac:=⟨0,0,v0⟩

@[reducible] def eqV (v w : Vl) : Bool := v.kind == w.kind && (v.num == w.num && v.text == w.text)
@[reducible] def isV0 (v : Vl) : Bool := v.kind == 0 && (v.num == 0 && v.text == [])
theorem uJ (v w:Vl):eqV v w=true↔v=w:=by
 cases v;cases w;simp [eqV]
theorem qX (v:Vl):isV0 v=true↔v=v0:=by
 cases v;simp [isV0,v0]

def cV (v:Vl):List AV:=[.int .i64 v.kind,.int .i64 v.num,.str v.text]

mutual
def Gq:Ex→List AV
 | ⟨op,args,var,field,kind,val⟩=>[.int .i64 op,.sl 8 (eN args),.int .i64 var,.int .i64 field,.int .i64 kind,.int .i64 val.kind,.int .i64 val.num,.str val.text]
def eN:List Ex→List (List AV)
 | []=>[]
 | e::r=>Gq e::eN r
end

theorem X8:∀l:List Ex,eN l=l.map Gq
 | []=>by simp [eN]
 | e::r=>by simp [eN,X8 r]

def cE (e:Ex):List AV:=[.int .i64 e.op,.sl 8 (e.args.map Gq),.int .i64 e.var,.int .i64 e.field,.int .i64 e.kind,.int .i64 e.val.kind,.int .i64 e.val.num,.str e.val.text]
def aZ (e:Ev):List AV:=[.int .i64 e.source,.int .i64 e.seq,.int .i64 e.type,.int .i64 e.time,.sl 3 (e.values.map cV)]
def cAc (a:Ac):List AV:=[.int .i64 a.kind,.int .i64 a.count,.int .i64 a.val.kind,.int .i64 a.val.num,.str a.val.text]
def cEvs (l:List Ev):List AV:=[.sl 5 (l.map aZ)]
def cEnv (l:List (List Ev)):List AV:=[.sl 1 (l.map cEvs)]

theorem Ko (e:Ex):Gq e=cE e:=by
 cases e
 simp [Gq,cE,X8]

theorem Ex.Aa8 {P:Ex→Prop}(h:∀e,(∀a∈e.args,P a)→P e):∀e,P e:=by
 intro e
 exact Ex.rec (motive_1:=P) (motive_2:=fun l=>∀a∈l,P a) (fun op args v f k val ih=>h _ ih) (by simp) (fun a l ha hl=>by simp only [List.mem_cons,forall_eq_or_imp];exact ⟨ha,hl⟩) e

theorem Fg {l:List Ex}{k:Nat}{a:Ex}(h:l[k]? = some a):(l.map Gq)[k]? = some (cE a):=by
 simp [h,Ko]
theorem B1 {α:Type}{f:α→List AV}{l:List α}{k:Nat}{a:α}(h:l[k]? = some a):(l.map f)[k]? = some (f a):=by simp [h]

theorem B5 {α:Type}{l:List α}{k:Nat}(h:decide ((k:Int)<(l.length:Int))=true):∃a,l[k]? = some a:=by
 have:k<l.length:=by simpa using h
 exact ⟨_,List.getElem?_eq_getElem this⟩
theorem Bh {α:Type}{l:List α}{k:Nat}{a:α}(h:l[k]? = some a):k<l.length:=(List.getElem?_eq_some_iff.1 h).1
theorem Bi {α:Type}{l:List α}{k:Nat}{a:α}(h:l[k]? = some a):l.drop k=a::l.drop (k+1):=by
 obtain ⟨h1,h2⟩:=List.getElem?_eq_some_iff.1 h
 rw [←h2];exact List.drop_eq_getElem_cons h1
theorem Cx {α:Type}{l:List α}{k:Nat}{a:α}(h:l[k]? = some a):l.take (k+1)=l.take k ++ [a]:=by
 rw [List.take_add_one,h];rfl
theorem Cg {α:Type}{l:List α}{k:Nat}(h:decide ((k:Int)<(l.length:Int))=false):l.take k=l:=by
 have:¬k<l.length:=by simpa using h
 exact List.take_of_length_le (by omega)
theorem Hm {α:Type}{l:List α}{v:Int}(h0:0≤v)(h:v<(l.length:Int)):∃a,l[v.toNat]? = some a:=⟨_,List.getElem?_eq_getElem (by omega)⟩
theorem Dq {α:Type}{l:List α}{k:Nat}(h:decide ((k:Int)<(l.length:Int))=false):l.drop k = []:=by
 have:¬k<l.length:=by simpa using h
 exact List.drop_eq_nil_of_le (by omega)


def Fo (b:Bool):Vl:=if b then ⟨1,1,[]⟩ else ⟨1,0,[]⟩

def Dz (v:Vl):Int:=
 if v.kind==0&&(decide (v.num < -1099511627776)||decide (1099511627776<v.num)) then 2
 else if v.kind==1&&v.num != 0&&v.num != 1 then 2
 else if decide (64<(v.text.length:Int)) then 13 else 0

def Ao (v:Vl):Int:=
 if v.kind==0||v.kind==1 then (if !(v.text == []) then 3 else Dz v)
 else if v.kind==2 then (if v.num != 0 then 3 else Dz v)
 else 1

def Ce (v:Vl):Int:=
 if decide (v.kind<0)||decide (2<v.kind) then 1
 else if v.kind==2 then (if v.num != 0 then 3 else if decide (64<(v.text.length:Int)) then 13 else 0)
 else if !(v.text == []) then 3
 else if v.kind==1&&(decide (v.num<0)||decide (1<v.num))||decide (v.num < -1099511627776)||decide (1099511627776<v.num) then 2 else 0
theorem Hv (v:Vl):Ce v=Ao v:=by
 unfold Ce Ao Dz
 obtain ⟨k,n,t⟩:=v
 by_cases ht:t = []
 ·
  subst ht
  simp only [Bool.or_eq_true,Bool.and_eq_true,decide_eq_true_eq,beq_iff_eq,bne_iff_ne,ne_eq,not_true,if_false,List.length_nil,BEq.rfl,Bool.not_true,Bool.false_eq_true,Bool.not_true,Bool.false_eq_true]
  repeat' split
  all_goals first | rfl | omega
 ·
  simp only [Bool.or_eq_true,Bool.and_eq_true,decide_eq_true_eq,beq_iff_eq,bne_iff_ne,ne_eq,ht,not_false_eq_true,if_true,Bool.not_eq_true',beq_eq_false_iff_ne]
  repeat' split
  all_goals first | rfl | omega


def Hy (k:Int):Bool:=decide (0≤k)&&decide (k≤5)
def Fz (k:Int)(v:Vl):Bool:=v.kind==0||(k != 1&&k != 2&&k != 3)
def Fl (k:Int)(v:Vl):Bool:=v.kind==0||k==0||k==4||k==5

def O0 (k:Int)(a b:Vl):Vl:=
 if k==1 then ⟨0,IntKind.i64.wrap (a.num+b.num),[]⟩ else if k==2 then ⟨0,min a.num b.num,[]⟩ else if k==3 then ⟨0,max a.num b.num,[]⟩ else if k==4 then a else if k==5 then b else v0
def I0 (k:Int)(v:Vl):Vl:=if k==0 then v0 else v
def Qa (a b:Ac):Ac:=if a.count==0 then b else if b.count==0 then a else ⟨a.kind,IntKind.i64.wrap (a.count+b.count),O0 a.kind a.val b.val⟩

def D5 (a:Ac):Int:=
 if !Hy a.kind then 1
 else if decide (a.count<0)||decide (4096<a.count) then 2
 else if (if a.count==0||a.kind==0 then isV0 a.val
  else if a.kind==1 then a.val.kind==0&&a.val.text == []&&decide (0-a.count*1099511627776≤a.val.num)&&decide (a.val.num≤a.count*1099511627776)
  else Ao a.val==0&&Fz a.kind a.val) then 0 else 3

def racheckS (a:Ac):Int:=
 if !Hy a.kind then 1
 else if decide (a.count<0)||decide (4096<a.count) then 2
 else if a.count==0||a.kind==0 then (if !isV0 a.val then 3 else 0)
 else if a.kind==1 then (if a.val.kind != 0 || !(a.val.text == [])||decide (a.val.num<0-a.count*1099511627776)||decide (a.count*1099511627776<a.val.num) then 3 else 0)
 else if Ao a.val != 0 || !Fl a.kind a.val then 3 else 0
theorem rM (k:Int)(v:Vl)(h:Hy k=true):Fl k v=Fz k v:=by
 simp only [Hy,Bool.and_eq_true,decide_eq_true_eq] at h
 unfold Fl Fz
 rw [Bool.eq_iff_iff]
 simp
 omega
def Hc (k:Int)(v:Vl):Int:=if Ao v != 0 then Ao v else if !Fz k v then 9 else 0

def iX (a:Ac)(o:Vl):Vl×Int:=
 if D5 a != 0 then (v0,D5 a)
 else if Hc a.kind o != 0 then (v0,Hc a.kind o)
 else if a.kind==0 then (⟨0,a.count,[]⟩,0)
 else if a.count==0&&a.kind != 1 then (o,0)
 else (a.val,0)

def Nw (k:Int)(a:Ac)(v:Vl):Ac:=Qa a ⟨k,1,I0 k v⟩
def jW (k:Int)(l:List Vl):Ac:=l.foldl (Nw k) ⟨k,0,v0⟩

def At {α:Type}(f:α→Int):List α→Int
 | []=>0
 | a::r=>if f a != 0 then f a else At f r

def ofS (k:Int)(l:List Vl)(o:Vl):Vl×Int:=
 if !Hy k then (v0,1)
 else if decide (4096<(l.length:Int)) then (v0,5)
 else if At (Hc k) l != 0 then (v0,At (Hc k) l)
 else iX (jW k l) o


def Dd (op:Int):Bool×Bool:=if op=1∨op=4 then (true,true) else if op=2∨op=3 then (true,false) else (false,false)
def Dp (op:Int):Int:=if op<0∨12<op then 0 else if op<5 then 0 else if op=12 then 1 else 2
def C9 (k:Int)(v:Vl):Bool:=v.kind==0||k==4||k==5

def Et (e:Ex):Int:=
 if Ao e.val != 0 then Ao e.val
 else if e.op==4&&(!C9 e.kind e.val||(e.kind==1 && !isV0 e.val)) then 9 else 0

def Bj (e:Ex):Int:=
 if !(Dd e.op).1&&e.var != 0||(!(Dd e.op).2&&e.field != 0)||(!(e.op==4)&&e.kind != 0)||(!(e.op==4||e.op==0) && !isV0 e.val) then 3 else 0

def Bq (e:Ex):Int:=
 if !decide (0≤e.op∧e.op≤12) then 1
 else if (e.args.length:Int) != Dp e.op then 15
 else if ((Dd e.op).1&&(decide (e.var<0)||decide (16≤e.var)))||((Dd e.op).2&&(decide (e.field<0)||decide (8≤e.field))) then 2
 else if e.op==4&&(decide (e.kind<1)||decide (5<e.kind)) then 1
 else if e.op==4||e.op==0 then (if Et e != 0 then Et e else Bj e)
 else Bj e

mutual
def Im (f:Ex→Int):Ex→Int
 | ⟨op,args,var,field,kind,val⟩=>if f ⟨op,args,var,field,kind,val⟩ != 0 then f ⟨op,args,var,field,kind,val⟩ else Ug f args
def Ug (f:Ex→Int):List Ex→Int
 | []=>0
 | e::r=>if Im f e != 0 then Im f e else Ug f r
end
theorem Qb (f:Ex→Int):∀l,Ug f l=At (Im f) l
 | []=>by simp [Ug,At]
 | e::r=>by simp [Ug,At,Qb f r]
theorem Rk (f:Ex→Int)(e:Ex):Im f e=if f e != 0 then f e else At (Im f) e.args:=by
 cases e;rw [Im,Qb]
abbrev Ci:Ex→Int:=Im Bq
theorem Oc (e:Ex):Ci e=if Bq e != 0 then Bq e else At Ci e.args:=Rk Bq e

mutual
def Av:Ex→Nat
 | ⟨_,args,_,_,_,_⟩=>1+V2 args
def V2:List Ex→Nat
 | []=>0
 | e::r=>Av e+V2 r
end
mutual
def Ch:Ex→Nat
 | ⟨_,args,_,_,_,_⟩=>Qm args+1
def Qm:List Ex→Nat
 | []=>0
 | e::r=>max (Ch e) (Qm r)
end
theorem V6:∀l,V2 l=(l.map Av).sum
 | []=>by simp [V2]
 | e::r=>by simp [V2,V6 r]
theorem Dj (e:Ex):Av e=1+(e.args.map Av).sum:=by cases e;rw [Av,V6]
theorem P6:∀l,Qm l=(l.map Ch).foldr max 0
 | []=>by simp [Qm]
 | e::r=>by simp [Qm,P6 r]
theorem J3 (e:Ex):Ch e=(e.args.map Ch).foldr max 0+1:=by cases e;rw [Ch,P6]

theorem gM {l:List Ex}{a:Ex}(f:Ex→Nat)(h:a∈l):f a≤(l.map f).sum:=by
  induction l with
  | nil=>cases h
  | cons x r ih=>
    simp only [List.map_cons,List.sum_cons]
    rcases List.mem_cons.1 h with rfl | h
    · omega
    · have:=ih h;omega
theorem E9 {e a:Ex}(h:a∈e.args):Av a<Av e:=by
 have:=gM Av h;have:=Dj e;omega
theorem I7 (e:Ex):Ch e≤Av e:=by
  refine Ex.Aa8 (P:=fun e=>Ch e≤Av e) (fun e ih=>?_) e
  rw [J3,Dj]
  have:∀l:List Ex,(∀a∈l,Ch a≤Av a)→(l.map Ch).foldr max 0≤(l.map Av).sum:=by
    intro l
    induction l with
    | nil=>intro _;exact Nat.le_refl _
    | cons x r ihr=>
      intro h
      simp only [List.map_cons,List.foldr_cons,List.sum_cons]
      have h1:=h x (by simp)
      have h2:=ihr fun a ha=>h a (by simp [ha])
      omega
  have:=this e.args ih
  omega

mutual
def Fv (L:Nat):Ex→Nat
 | ⟨_,args,_,_,_,_⟩=>E8 L args 1
def E8 (L:Nat):List Ex→Nat→Nat
 | [],n=>n
 | e::r,n=>if n≤L then E8 L r (n+Fv L e) else n
end
theorem X7 (L:Nat)(e:Ex):Fv L e=E8 L e.args 1:=by cases e;rw [Fv]
theorem V4 (L:Nat)(e:Ex):Fv L e=Av e∨(L<Fv L e∧Fv L e≤Av e):=by
  refine Ex.Aa8 (P:=fun e=>Fv L e=Av e∨(L<Fv L e∧Fv L e≤Av e)) (fun e ih=>?_) e
  rw [X7,Dj]
  have:∀(l:List Ex) (n:Nat),(∀a∈l,Fv L a=Av a∨(L<Fv L a∧Fv L a≤Av a))→E8 L l n=n+(l.map Av).sum∨(L<E8 L l n∧E8 L l n≤n+(l.map Av).sum):=by
    intro l
    induction l with
    | nil=>intro n _;simp [E8]
    | cons x r ihr=>
      intro n h
      simp only [E8,List.map_cons,List.sum_cons]
      have h1:=h x (by simp)
      have h2:=ihr (n+Fv L x) fun a ha=>h a (by simp [ha])
      split
      · have hmono:n+Fv L x≤E8 L r (n+Fv L x):=by
          have:∀(l:List Ex) (m:Nat),m≤E8 L l m:=by
            intro l
            induction l with
            | nil=>intro m;simp [E8]
            | cons y s ihs => intro m; simp only [E8]; split
                              · exact Nat.le_trans (Nat.le_add_right _ _) (ihs _)
                              · exact Nat.le_refl _
          exact this r _
        omega
      · omega
  have:=this e.args 1 ih
  omega
theorem Vd (L:Nat)(e:Ex):L<Fv L e↔L<Av e:=by
 rcases V4 L e with h | h
 · rw [h]
 · omega

def Bp (e:Ex):Int:=if decide (64<(Av e:Int)) then 5 else if decide (12<(Ch e:Int)) then 12 else Ci e

def Mp (op k k0:Int):Bool:=if op==5||op==6||op==7||op==8 then k==0 else if op==10||op==11||op==12 then k==1 else if op==9 then k==k0 else true
def Du (op:Int)(kinds:List Int):Int:=At (fun k=>if Mp op k (kinds.headD 0) then 0 else 9) kinds
def Fh (op:Int):Int:=if op==5||op==6||op==7||op==8 then 0 else if op==10||op==11||op==12 then 1 else -1
theorem Xe (op k k0:Int):((decide (0≤Fh op)&&k != Fh op)||(op==9&&k != k0)) = !Mp op k k0:=by
 unfold Fh Mp
 by_cases h1:(op==5||op==6||op==7||op==8)=true
 ·
  have h9:(op==9)=false:=by simp at h1 ⊢;omega
  rw [if_pos h1,if_pos h1,h9];simp [bne]
 ·
  rw [if_neg h1,if_neg h1]
  by_cases h2:(op==10||op==11||op==12)=true
  ·
   have h9:(op==9)=false:=by simp at h2 ⊢;omega
   rw [if_pos h2,if_pos h2,h9];simp [bne]
  ·
   rw [if_neg h2,if_neg h2]
   by_cases h9:(op==9)=true
   · rw [if_pos h9,h9];simp [bne]
   · rw [if_neg h9];simp at h9;simp [h9]


structure Evr where
 vars:List (List Ev)
 own:Int
 event:Ev

def OPS:List (Int×AV):=[(5,.fn (.func 108) [] [.ptr [.fn (.func 107) [] []]]),(6,.fn (.func 109) [] [.ptr [.fn (.func 107) [] []]]),(7,.fn (.func 110) [] []),(8,.fn (.func 111) [] []),(10,.fn (.func 112) [] []),(11,.fn (.func 113) [] []),(12,.fn (.func 114) [] [])]
def cX (x:Evr):List AV:=[.sl 1 (x.vars.map cEvs),.int .i64 x.own,.int .i64 x.event.source,.int .i64 x.event.seq,.int .i64 x.event.type,.int .i64 x.event.time,.sl 3 (x.event.values.map cV),.mapv OPS]
def Evr.ok (x:Evr):Prop:=∀l∈x.vars,l.length≤1048576

def Cz (vars:List (List Ev))(v:Int):List Ev:=if decide (v<0)||decide ((vars.length:Int)≤v) then [] else (vars[v.toNat]?).getD []

def Gb (e:Ev)(k:Int):Vl×Int:=if decide ((e.values.length:Int)≤k) then (v0,6) else ((e.values[k.toNat]?).getD v0,0)

def gJ (x:Evr)(e:Ex):Vl×Int:=
 let l:=Cz x.vars e.var
 if At (fun v=>(Gb v e.field).2) l != 0 then (v0,At (fun v=>(Gb v e.field).2) l) else ofS e.kind (l.map fun v=>(Gb v e.field).1) e.val

def Pv (last:Ev)(e:Ex):Vl×Int:=
 if e.op==2 then (⟨0,last.time,[]⟩,0)
 else if (Gb last e.field).2==0 then (if Ao (Gb last e.field).1 != 0 then (v0,Ao (Gb last e.field).1) else ((Gb last e.field).1,0))
 else (v0,(Gb last e.field).2)

def La (x:Evr)(e:Ex):Vl×Int:=
 if e.op==0 then (e.val,0)
 else if e.op==3 then (⟨0,(Cz x.vars e.var).length,[]⟩,0)
 else if e.op==4 then gJ x e
 else if e.var != x.own then (if ((Cz x.vars e.var).length:Int)==0 then (v0,10) else Pv ((Cz x.vars e.var).getLast?.getD Ms) e)
 else Pv x.event e

def lastS (vars:List (List Ev))(v own:Int)(ev:Ev):Ev×Bool:=
 if v==own then (ev,true) else if ((Cz vars v).length:Int)==0 then (Ms,false) else ((Cz vars v).getLast?.getD Ms,true)
def Nk (op:Int)(a b:Int):Vl:=
 if op==5 then ⟨0,IntKind.i64.wrap (a+b),[]⟩ else if op==6 then ⟨0,IntKind.i64.wrap (a-b),[]⟩
 else if op==7 then Fo (decide (a<b)) else if op==8 then Fo (decide (a≤b))
 else if op==10 then Fo (a==1&&b==1) else if op==11 then Fo (a==1||b==1) else Fo (a != 1)

def twoS (op:Int)(v w:Vl):Vl:=if op==9 then Fo (eqV v w) else Nk op v.num w.num

def U1 (op:Int)(l:List Vl):Vl×Int:=
 if Du op (l.map (·.kind)) != 0 then (v0,Du op (l.map (·.kind)))
 else if op==9 then (Fo (eqV (l.headD v0) ((l[1]?).getD v0)),0)
 else (Nk op (l.headD v0).num (l.getLastD v0).num,0)

mutual
def C6 (x:Evr):Ex→Vl×Int
  | ⟨op,args,var,field,kind,val⟩=>
    if args.isEmpty then La x ⟨op,args,var,field,kind,val⟩
    else if (Jn x args).2 != 0 then (v0,(Jn x args).2) else U1 op (Jn x args).1
def Jn (x:Evr):List Ex→List Vl×Int
 | []=>([],0)
 | e::r=>if (C6 x e).2 != 0 then ([],(C6 x e).2) else if (Jn x r).2 != 0 then ([],(Jn x r).2) else ((C6 x e).1::(Jn x r).1,0)
end

theorem Rh (x:Evr):∀l,(Jn x l).2=At (fun a=>(C6 x a).2) l
  | []=>by simp [Jn,At]
  | e::r=>by
    have:=Rh x r
    by_cases h:((C6 x e).2 != 0)=true
    · rw [Jn,At,if_pos h,if_pos h]
    · rw [Jn,At,if_neg h,if_neg h,←this]
      by_cases h2:((Jn x r).2 != 0)=true
      · rw [if_pos h2]
      · rw [if_neg h2]
        have h3:(Jn x r).2=0:=by simpa using h2
        exact h3.symm

theorem cF (x:Evr):∀l,At (fun a=>(C6 x a).2) l=0→(Jn x l).1=l.map fun a=>(C6 x a).1
  | [],_=>by simp [Jn]
  | e::r,h=>by
    simp only [At] at h
    by_cases h1:((C6 x e).2 != 0)=true
    · rw [if_pos h1] at h;simp [h] at h1
    · rw [if_neg h1] at h
      have h2:¬((Jn x r).2 != 0)=true:=by rw [Rh,h];simp
      rw [Jn,if_neg h1,if_neg h2]
      simp [cF x r h]

theorem eD (x:Evr)(e:Ex):C6 x e=if e.args.isEmpty then La x e else if At (fun a=>(C6 x a).2) e.args != 0 then (v0,At (fun a=>(C6 x a).2) e.args) else U1 e.op (e.args.map fun a=>(C6 x a).1):=by
 cases e with | mk op args var field kind val=>
 rw [C6]
 simp only [Rh]
 by_cases h:At (fun a=>(C6 x a).2) args=0
 · simp [h,cF x args h]
 · simp [h]

def yS (x:Evr)(e:Ex):Vl×Int:=if Bp e != 0 then (v0,Bp e) else C6 x e
def gO (x:Evr)(e:Ex):Bool:=(yS x e).2==0&&eqV (yS x e).1 (Fo true)


def Oe (k:Int)(v:Vl):Int:=if Ao v != 0 then Ao v else if !Fl k v then 9 else 0
theorem lM (k:Int)(v:Vl)(h:Hy k=true):Oe k v=Hc k v:=by
 unfold Oe Hc;rw [rM k v h]

theorem Qx {a:Ac}(h:D5 a=0):Hy a.kind=true:=by
 unfold D5 at h
 cases hk:Hy a.kind with
 | true=>rfl
 | false=>simp [hk] at h

def rresultS (a:Ac)(o:Vl):Vl×Int:=
 if D5 a != 0 then (v0,D5 a)
 else if Oe a.kind o != 0 then (v0,Oe a.kind o)
 else if a.kind==0 then (⟨0,a.count,[]⟩,0)
 else if a.count==0&&a.kind != 1 then (o,0)
 else (a.val,0)
def zE (a:Ac)(v:Vl):Ac×Int:=
 if D5 a != 0 then (ac0,D5 a)
 else if Oe a.kind v != 0 then (ac0,Oe a.kind v)
 else if a.count==4096 then (ac0,5)
 else if a.kind==0 then (⟨a.kind,IntKind.i64.wrap (a.count+1),v0⟩,0)
 else if decide (0<a.count) then (⟨a.kind,IntKind.i64.wrap (a.count+1),O0 a.kind a.val v⟩,0)
 else (⟨a.kind,IntKind.i64.wrap (a.count+1),v⟩,0)

theorem E6 {v:Vl}(h:Ao v=0)(hk:v.kind=0):v.text = []∧-1099511627776≤v.num∧v.num≤1099511627776:=by
 unfold Ao Dz at h
 by_cases ht:v.text = []
 ·
  simp [hk,ht] at h
  exact ⟨ht,by omega⟩
 · simp [hk,ht] at h

theorem sM {a:Ac}(h:D5 a=0):0≤a.count∧a.count≤4096:=by
 have hk:=Qx h
 unfold D5 at h
 simp only [hk,Bool.not_true,Bool.false_eq_true,if_false] at h
 by_cases hc:(decide (a.count<0)||decide (4096<a.count))=true
 · rw [if_pos hc] at h;cases h
 · simp at hc;omega

theorem vD {k:Int}{a:Ac}{v:Vl}(h:D5 a=0)(hk:a.kind=k)(hv:Hc k v=0)(hc:a.count<4096) :
  D5 (Nw k a v)=0∧(Nw k a v).kind=k∧(Nw k a v).count=a.count+1∧zE a v=(Nw k a v,0):=by
 have hkn:=Qx h
 have hcc:=sM h
 have hw:IntKind.i64.wrap (a.count+1)=a.count+1:=IntWalk.i64_in _ (by omega)
 have hadd:zE a v=if a.kind==0 then (⟨a.kind,a.count+1,v0⟩,0) else if decide (0<a.count) then (⟨a.kind,a.count+1,O0 a.kind a.val v⟩,0) else (⟨a.kind,a.count+1,v⟩,0):=by
  unfold zE
  rw [hw,lM _ _ hkn,h,hk,hv]
  have:(a.count==4096)=false:=by simp;omega
  simp [this]
 have hvc:Ao v=0:=by
  unfold Hc at hv
  by_cases e:Ao v=0
  · exact e
  · simp [e] at hv
 have hvs:Fz k v=true:=by
  unfold Hc at hv
  simp [hvc] at hv;exact hv
 rw [hadd]
 obtain ⟨ak,ac,av⟩:=a
 simp only at hk hkn hc hcc h hw ⊢
 subst hk
 have h2:=h
 unfold D5 at h2
 simp only [hkn,Bool.not_true,Bool.false_eq_true,if_false] at h2
 have hn1:(decide (ac<0)||decide (4096<ac))=false:=by simp;omega
 simp only [hn1,Bool.false_eq_true,if_false] at h2
 simp only [Hy,Bool.and_eq_true,decide_eq_true_eq] at hkn
 have hn2:(decide (ac+1<0)||decide (4096<ac+1))=false:=by simp;omega
 have hk01:ak=0∨ak=1∨ak=2∨ak=3∨ak=4∨ak=5:=by omega
 by_cases h0:ac=0
 ·
  subst h0
  have hvi:ak=1→v.kind=0:=by
   intro e;subst e;simpa [Fz] using hvs
  rcases hk01 with rfl | rfl | rfl | rfl | rfl | rfl
  · refine ⟨by rfl,rfl,rfl,rfl⟩
  ·
   have hb:=E6 hvc (hvi rfl)
   refine ⟨?_,rfl,rfl,rfl⟩
   simp [Nw,Qa,I0,D5,Hy,hvi rfl,hb.1,hb.2]
  all_goals
   refine ⟨?_,rfl,rfl,rfl⟩
   simp [Nw,Qa,I0,D5,Hy,hvc,hvs]
 ·
  have hpos:0<ac:=by omega
  have e0:(ac==0)=false:=by simp [h0]
  have hst:Nw ak ⟨ak,ac,av⟩ v=⟨ak,ac+1,O0 ak av (I0 ak v)⟩:=by
   simp [Nw,Qa,h0,hw]
  rw [hst]
  refine ⟨?_,rfl,rfl,?_⟩
  ·
   unfold D5
   have hkk:Hy ak=true:=by simp [Hy];omega
   have e1:(ac+1==0)=false:=by simp;omega
   simp only [hkk,Bool.not_true,hn2,Bool.false_eq_true,if_false,e1,Bool.false_or]
   simp only [e0,Bool.false_or] at h2
   rcases hk01 with rfl | rfl | rfl | rfl | rfl | rfl
   · rfl
   ·
    have hvi:v.kind=0:=by simpa [Fz] using hvs
    have hb:=E6 hvc hvi
    simp at h2
    have:IntKind.i64.wrap (av.num+v.num)=av.num+v.num:=IntWalk.i64_in _ (by omega)
    simp [O0,I0,this]
    omega
   ·
    have hvi:v.kind=0:=by simpa [Fz] using hvs
    have hb:=E6 hvc hvi
    simp at h2
    have hai:av.kind=0:=by simpa [Fz] using h2.2
    have hba:=E6 h2.1 hai
    have hm : -1099511627776≤min av.num v.num∧min av.num v.num≤1099511627776:=by omega
    simp [O0,I0,Ao,Dz,Fz]
    omega
   ·
    have hvi:v.kind=0:=by simpa [Fz] using hvs
    have hb:=E6 hvc hvi
    simp at h2
    have hai:av.kind=0:=by simpa [Fz] using h2.2
    have hba:=E6 h2.1 hai
    have hm : -1099511627776≤max av.num v.num∧max av.num v.num≤1099511627776:=by omega
    simp [O0,I0,Ao,Dz,Fz]
    omega
   · simpa [O0] using h2
   · simp [O0,I0,hvc,hvs]
  ·
   have hd:decide (0<ac)=true:=by simp [hpos]
   rcases hk01 with rfl | rfl | rfl | rfl | rfl | rfl <;> simp [hd,O0,I0]

theorem kZ {k:Int}:∀(l:List Vl) (a:Ac),D5 a=0→a.kind=k→At (Hc k) l=0→a.count+l.length≤4096→D5 (l.foldl (Nw k) a)=0
  | [],a,h,_,_,_=>h
  | v::r,a,h,hk,hf,hc=>by
    simp only [At] at hf
    simp only [List.length_cons,Int.natCast_add,Int.cast_ofNat_Int] at hc
    by_cases hv:Hc k v=0
    · rw [if_neg (by simp [hv])] at hf
      obtain ⟨h1,h2,h3,_⟩:=vD h hk hv (by omega)
      exact kZ r _ h1 h2 hf (by rw [h3];omega)
    · rw [if_pos (by simp [hv])] at hf;exact absurd hf hv


theorem Np {l:List Ex}{k:Nat}{a:Ex}(d:Nat)(h:l[k]? = some a):max d (((l.drop k).map Ch).foldr max 0)=max (max d (Ch a)) (((l.drop (k+1)).map Ch).foldr max 0):=by
 rw [Bi h];simp only [List.map_cons,List.foldr_cons];omega
theorem fD {l:List Ex}{k:Nat}{a:Ex}(n:Nat)(h:l[k]? = some a):n+((l.drop k).map Av).sum=(n+Av a)+((l.drop (k+1)).map Av).sum:=by
 rw [Bi h];simp only [List.map_cons,List.sum_cons];omega

theorem qU (e:Ex):1≤Av e:=by rw [Dj];omega
theorem N2 (e:Ex)(h:Av e≤1048576):e.args.length≤1048576:=by
 rw [Dj] at h
 have:∀l:List Ex,l.length≤(l.map Av).sum:=by
  intro l
  induction l with
  | nil=>exact Nat.le_refl _
  | cons x r ih=>simp only [List.length_cons,List.map_cons,List.sum_cons];have:=qU x;omega
 have:=this e.args
 omega
theorem Yx {L n:Nat}(h:L<n):∀l:List Ex,E8 L l n=n
 | []=>rfl
 | _::_=>by rw [E8,if_neg (by omega)]

def Cd (e:Ex):Int:=
 if decide ((if 0≤e.op∧e.op≤12 then Dp e.op else -1)<0) then 1
 else if (e.args.length:Int) != (if 0≤e.op∧e.op≤12 then Dp e.op else -1) then 15
 else if ((Dd e.op).1&&(decide (e.var<0)||decide (16≤e.var)))||((Dd e.op).2&&(decide (e.field<0)||decide (8≤e.field))) then 2
 else if e.op==4&&(decide (e.kind<1)||decide (5<e.kind)) then 1
 else if e.op==4||e.op==0 then (if Ao e.val != 0 then Ao e.val else if e.op==4&&(!Fl e.kind e.val||(e.kind==1 && !isV0 e.val)) then 9 else Bj e)
 else if e.op==4&&(!Fl e.kind e.val||(e.kind==1 && !isV0 e.val)) then 9
 else Bj e

theorem Gw (e:Ex):Cd e=Bq e:=by
  unfold Cd Bq
  by_cases h:0≤e.op∧e.op≤12
  · have ha : ¬ Dp e.op < 0 := by unfold Dp; repeat' split
                                  all_goals omega
    simp only [h,and_self,if_true,decide_true,Bool.not_true,Bool.false_eq_true,if_false,ha,decide_false]
    split
    · rfl
    split
    · rfl
    by_cases h4:e.op=4
    · simp only [h4,BEq.rfl,Bool.true_and,Bool.true_or,if_true]
      by_cases hk:(decide (e.kind<1)||decide (5<e.kind))=true
      · rw [if_pos hk,if_pos hk]
      · rw [if_neg hk,if_neg hk]
        have hs:Fl e.kind e.val=C9 e.kind e.val:=by
          simp at hk
          unfold Fl C9
          have:(e.kind==0)=false:=by simp;omega
          rw [this];simp
        unfold Et
        rw [hs,h4]
        by_cases hv:Ao e.val=0
        · rw [hv]
          simp only [bne_self_eq_false,Bool.false_eq_true,if_false,BEq.rfl,Bool.true_and]
          by_cases hb:(!C9 e.kind e.val||(e.kind==1 && !isV0 e.val))=true
          · rw [if_pos hb,if_pos hb];rfl
          · rw [if_neg hb,if_neg hb];rfl
        · simp [hv]
    · have h4':(e.op==4)=false:=by simp [h4]
      simp only [h4',Bool.false_and,Bool.false_eq_true,if_false,Bool.false_or]
      unfold Et
      simp only [h4',Bool.false_and,Bool.false_eq_true,if_false]
      by_cases hv:Ao e.val=0
      · simp [hv]
      · simp [hv]
  · simp [h]


theorem Hx {α:Type}{f:α→Int}:∀{l:List α},At f l=0→∀a∈l,f a=0
  | [],_,_,h=>by cases h
  | x::r,h,a,ha=>by
    simp only [At] at h
    by_cases hx:f x=0
    · rw [if_neg (by simp [hx])] at h
      rcases List.mem_cons.1 ha with rfl | ha
      · exact hx
      · exact Hx h a ha
    · rw [if_pos (by simpa using hx)] at h;exact absurd h hx

theorem A9 {e:Ex}(h:Ci e=0):Bq e=0∧∀a∈e.args,Ci a=0:=by
 rw [Oc] at h
 by_cases hx:Bq e=0
 ·
  rw [if_neg (by simp [hx])] at h
  exact ⟨hx,Hx h⟩
 · rw [if_pos (by simpa using hx)] at h;exact absurd h hx

theorem Fw {e:Ex}(h:Bq e=0):0≤e.op∧e.op≤12∧(e.args.length:Int)=Dp e.op:=by
 unfold Bq at h
 split at h
 · cases h
 split at h
 · cases h
 rename_i h1 h2
 simp at h1 h2
 exact ⟨h1.1,h1.2,h2⟩

theorem Ki {e:Ex}(h:Bq e=0):0≤e.field:=by
  have hf:Bj e=0→(Dd e.op).2=false→e.field=0:=by
    intro h1 h2
    unfold Bj at h1
    split at h1
    · cases h1
    · rename_i h3
      simp [h2] at h3
      exact h3.1.1.2
  unfold Bq at h
  split at h
  · cases h
  split at h
  · cases h
  split at h
  · cases h
  rename_i h1 h2 h3
  cases hu:(Dd e.op).2 with
  | true=>
    simp [hu] at h3
    omega
  | false=>
    have:Bj e=0:=by
      split at h
      · cases h
      split at h
      · split at h
        · rename_i h4
          exact absurd h (by simpa using h4)
        · exact h
      · exact h
    rw [hf this hu];exact Int.le_refl _


mutual
def xF (f:Ex→Ex):Ex→Ex
 | ⟨op,args,var,field,kind,val⟩=>f ⟨op,rebL f args,var,field,kind,val⟩
def rebL (f:Ex→Ex):List Ex→List Ex
 | []=>[]
 | e::r=>xF f e::rebL f r
end
def outS (f:Ex→Ex)(e:Ex):Ex:=⟨e.op,e.args.map (xF f),e.var,e.field,e.kind,e.val⟩
def Ap (e:Ex):Ex:=e.args.headD kD
def B3 (e:Ex):Ex:=(e.args[1]?).getD kD
def Lq (v:Vl):Ex:=⟨0,[],0,0,0,v⟩
def isC (a:Ex)(b:Bool):Bool:=a.op==0&&eqV a.val (Fo b)

theorem get0 {e:Ex}(h:0<e.args.length):e.args[(0:Int).toNat]? = some (Ap e):=by
 unfold Ap
 cases e with | mk op args a b c d=>
 cases args with
 | nil=>simp at h
 | cons x r=>rfl
theorem get1 {e:Ex}(h:1<e.args.length):e.args[(1:Int).toNat]? = some (B3 e):=by
 unfold B3
 have:e.args[1]? = some e.args[1]:=List.getElem?_eq_getElem h
 show e.args[1]? = _
 rw [this];rfl
theorem Gf {e:Ex}(h:0<e.args.length):(e.args.map Gq)[(0:Int).toNat]? = some (cE (Ap e)):=Fg (get0 h)
theorem Jw {e:Ex}(h:1<e.args.length):(e.args.map Gq)[(1:Int).toNat]? = some (cE (B3 e)):=Fg (get1 h)
theorem Ax {e:Ex}(h:0<e.args.length):Ap e∈e.args:=List.mem_of_getElem? (get0 h)
theorem Bf {e:Ex}(h:1<e.args.length):B3 e∈e.args:=List.mem_of_getElem? (get1 h)

theorem kU {e:Ex}(h:Bq e=0)(ho:e.op=12):0<e.args.length:=by
 obtain ⟨_,_,h3⟩:=Fw h
 rw [ho] at h3
 have:Dp 12=1:=by decide
 omega
def kG (x:Evr)(e:Ex):Vl×Bool:=
 if e.args.any (fun a=>a.op != 0) then (v0,false) else if (e.args.length:Int)==0 then (v0,false) else ((C6 x e).1,(C6 x e).2==0&&Ao (C6 x e).1==0)

def Aaq (x:Evr)(e:Ex):Ex:=
 if (kG x e).2 then Lq (kG x e).1
 else if e.op==12&&(Ap e).op==12 then Ap (Ap e)
 else if e.op != 10&&e.op != 11 then e
 else if isC (Ap e) (e.op==10) then B3 e
 else if isC (B3 e) (e.op==10) then Ap e
 else if isC (Ap e) (!(e.op==10))||isC (B3 e) (!(e.op==10)) then Lq (Fo (!(e.op==10)))
 else e

def xz:Evr:=⟨[],-1,Ms⟩
def FoldS (e:Ex):Ex×Int:=if Bp e != 0 then (kD,Bp e) else (xF (Aaq xz) e,0)

def headS (a b:Ex):Bool:=a.op != b.op||a.var != b.var||a.field != b.field||a.kind != b.kind || !eqV a.val b.val||(a.args.length:Int) != (b.args.length:Int)

mutual
def qR:Ex→Ex→Bool
 | ⟨op,args,var,field,kind,val⟩,b=>if headS ⟨op,args,var,field,kind,val⟩ b then false else yT args b.args
def yT:List Ex→List Ex→Bool
 | [],_=>true
 | a::r,l=>if !qR a (l.headD kD) then false else yT r l.tail
end


inductive Fd (f:Ex→Ex):Ex→Prop where
 | mk (e:Ex) (ha:∀a∈e.args,Fd f a) (h:f e=e):Fd f e
theorem mD {e a:Ex}(h:a∈e.args):Ch a<Ch e:=by
  rw [J3 e]
  have:∀l:List Ex,a∈l→Ch a≤(l.map Ch).foldr max 0:=by
    intro l
    induction l with
    | nil=>intro h;cases h
    | cons x r ih=>
      intro h
      simp only [List.map_cons,List.foldr_cons]
      rcases List.mem_cons.1 h with rfl | h
      · omega
      · have:=ih h;omega
  have:=this _ h
  omega
theorem cZ {e:Ex}(h:Bp e=0):Av e≤64∧Ch e≤12∧Ci e=0:=by
 unfold Bp at h
 split at h
 · cases h
 rename_i h1
 split at h
 · cases h
 rename_i h2
 simp at h1 h2
 exact ⟨by omega,by omega,h⟩
theorem qA {e:Ex}(h1:Av e≤64)(h2:Ch e≤12)(h3:Ci e=0):Bp e=0:=by
 unfold Bp
 rw [if_neg (by simp;omega),if_neg (by simp;omega)];exact h3

def okB (v:Vl):Prop:=v.kind=1→v=Fo (v.num==1)
theorem Qq {v:Vl}(h:Ao v=0):okB v:=by
 intro hk
 obtain ⟨k,n,t⟩:=v
 simp only at hk;subst hk
 unfold Ao Dz at h
 by_cases ht:t = []
 ·
  subst ht
  simp at h
  by_cases h1:n=1
  · subst h1;rfl
  ·
   have h0:n=0:=by omega
   subst h0;rfl
 · simp [ht] at h
theorem Nz {e:Ex}(h:Bq e=0)(ho:e.op=0):Ao e.val=0∧e.args = []:=by
 obtain ⟨_,_,h3⟩:=Fw h
 have ha:Dp 0=0:=by decide
 rw [ho,ha] at h3
 refine ⟨?_,List.eq_nil_of_length_eq_zero (by omega)⟩
 unfold Bq at h
 split at h
 · cases h
 split at h
 · cases h
 split at h
 · cases h
 split at h
 · cases h
 rw [if_pos (by simp [ho])] at h
 split at h
 · rename_i h4;simp at h4;exact absurd h h4
 rename_i h4
 simp at h4
 unfold Et at h4
 by_cases e':Ao e.val=0
 · exact e'
 · simp [e'] at h4

theorem N1 {x:Evr}{e:Ex}(h:e.args = []):C6 x e=La x e:=by rw [eD,if_pos (by simp [h])]
theorem Vp {x:Evr}{e:Ex}(hne:e.args≠[])(h:∀a∈e.args,(C6 x a).2=0):C6 x e=U1 e.op (e.args.map fun a=>(C6 x a).1):=by
  have h0:¬e.args.isEmpty=true:=by simpa using hne
  have h1:At (fun a=>(C6 x a).2) e.args=0:=by
    have:∀l:List Ex,(∀a∈l,(C6 x a).2=0)→At (fun a=>(C6 x a).2) l=0:=by
      intro l
      induction l with
      | nil=>intro _;rfl
      | cons y r ih=>
        intro hl
        rw [At,if_neg (by simp [hl y (by simp)])]
        exact ih fun a ha=>hl a (by simp [ha])
    exact this _ h
  rw [eD,if_neg h0,if_neg (by simp [h1])]

theorem oS {x:Evr}{a:Ex}(hn:Bq a=0)(h:a.op=0):C6 x a=(a.val,0):=by
 rw [N1 (Nz hn h).2];unfold La;rw [if_pos (by simp [h])]

end Go.Proofs.YtjedflcpjlgokaaGreatDoor
