/-
  Several texts in one: M13, EM, EM2, EM3, EM4, EM5, EM6, EM10, R1, EM7, EM8, EM9, Shelf, C, W1, W2, W3. No condition.
-/
import Derived.Test.YtckhoadldibflaaGreatDoorK01
import Derived.Lib.ItoaLen
import Derived.Test.YtckhoadldibflaaGreatDoorAw
import Derived.IntWalk
import Derived.Shelf.Small.Strs
import Derived.Shelf.Strconv.Itoa0
import Derived.Shelf.Strconv.Itoa1
import Derived.Shelf.LaysM
import Derived.Shelf.Strconv.Itoa2
import Derived.Shelf.Strconv.Itoa3
import Derived.Shelf.Strings.Search1
import Derived.Shelf.Strings.Search2
import Derived.Shelf.Strings.Search3
import Derived.Shelf.Strings.Shaped
import Derived.Shelf.Strings.Prefix
import Derived.Test.YtckhoadldibflaaGreatDoorProg
import Derived.Test.YtckhoadldibflaaGreatDoorTab
import Derived.KernelRfl
set_option linter.unusedVariables false
set_option linter.unusedSimpArgs false
set_option maxHeartbeats 400000
set_option maxRecDepth 20000
namespace Go.Proofs.YtckhoadldibflaaGreatDoor
open Go Go.Aw
inductive Pl where
 | only (k:Int)
 | pats
 | exps
@[reducible] def isPat (k : Int) : Bool := decide (5 <= k) && decide (k <= 12)
@[reducible] def isExp (k : Int) : Bool := decide (13 <= k) && decide (k <= 18)
def Pl.at:Pl->Int->Bool
 | .only k,x=>x==k
 | .pats,x=>isPat x
 | .exps,x=>isExp x
def Pl.ok:Pl->Prop
 | .only k=>k=0\/k=1\/k=2\/k=3\/k=4\/k=5\/k=13
 | _=>True
def Bi (t:Syn)(i:Nat):Syn:=t.kids.getD i Gz
def Dm (t:Syn)(i:Nat):Pl:=
 if (t.kind==0) then if ((Bi t i).kind==1)&&(((i:Int)==0)||((Bi t (i-1)).kind==1)) then .only 1 else .only 3
 else if (t.kind==1) then .only 2
 else if (t.kind==3) then if ((i:Int)==0) then .only 4 else if ((i:Int)==1) then .pats else .exps
 else if (t.kind==10) then if ((i:Int)==1) then .only 5 else .pats
 else if (t.kind==12) then if ((i:Int)==1) then .exps else .pats
 else if (t.kind==16) then .only 13
 else if ((t.kind==5)||(t.kind==17))||(t.kind==18) then .exps
 else .pats
def Dn (t:Syn):Bool:=
 if (t.kind==0)||(t.kind==1) then true
 else if (t.kind==3) then decide (3<=(t.kids.length:Int))
 else if (t.kind==5) then decide ((t.kids.length:Int)<=1)
 else if ((t.kind==6)||(t.kind==7))||(t.kind==8) then decide (2<=(t.kids.length:Int))
 else if ((t.kind==9)||(t.kind==11))||(t.kind==18) then ((t.kids.length:Int)==1)
 else if ((t.kind==10)||(t.kind==12))||(t.kind==17) then ((t.kids.length:Int)==2)
 else if (t.kind==16) then if (t.num==1) then ((t.kids.length:Int)==0) else ((t.kids.length:Int)==1)
 else ((t.kids.length:Int)==0)
def Nu (k:Int):Bool×Bool:=
 if ((k==5)||(k==14))||(k==16) then (true,true)
 else if ((((k==1)||(k==2))||(k==3))||(k==4))||(k==15) then (true,false)
 else (false,false)
def X7 (s:Ag):Bool:=Hf s==0
def L8 (t:Syn):Bool:=
 if ((Nu t.kind).1 && !X7 t.text)&&((t.kind != 4) || !(t.text == [])) then false
 else (!(Nu t.kind).2||X7 t.name)||((t.kind==14)&&(t.name==F6))
def I3 (t:Syn):Int:=
 if (t.name==G0) then if (decide (t.num < -1099511627776)||decide (1099511627776<t.num)) then 2 else if !(t.text == []) then 3 else 0
 else if (t.name==Ho) then if (decide (t.num<0)||decide (1<t.num)) then 2 else if !(t.text == []) then 3 else 0
 else if (t.name==Ha) then if decide (64<(t.text.length:Int)) then 13 else if (t.num != 0) then 3 else 0
 else 1
def Mz (t:Syn):Int:=
 if (t.kind==2) then if (decide (t.num<0)||decide (2<t.num)) then 1 else 0
 else if (t.kind==16) then if (decide (t.num<1)||decide (5<t.num)) then 1 else 0
 else if (t.kind==17) then if (decide (t.num<5)||decide (11<t.num)) then 1 else 0
 else if (t.kind==11) then if (decide (t.num<0)||decide (1099511627776<t.num)) then 2 else 0
 else if (decide (t.num<0)||decide (0<t.num)) then 3 else 0
def Dl (t:Syn):Int:=
 if (t.kind==13) then I3 t
 else if (Mz t != 0) then Mz t
 else if (!(Nu t.kind).1 && !(t.text == []))||(!(Nu t.kind).2 && !(t.name == [])) then 3 else 0
def aS (p:Pl)(t:Syn):Int:=
 if !(p.at t.kind) then 1 else if !(Dn t) then 15 else if !(L8 t) then 8 else Dl t
def pA:List Int->Int
 | []=>0
 | x::r=>if (x != 0) then x else pA r
mutual
def Al:Syn->Pl->Int
 | ⟨k,x,n,m,kids,p⟩,at'=>if (aS at' ⟨k,x,n,m,kids,p⟩ != 0) then aS at' ⟨k,x,n,m,kids,p⟩ else pA (iB kids ((List.range kids.length).map (Dm ⟨k,x,n,m,kids,p⟩)))
def iB:List Syn->List Pl->List Int
 | [],_=>[]
 | x::r,[]=>[]
 | x::r,p::q=>Al x p::iB r q
end
def Dc (p k:Int):Bool:=if (p==17) then (k==17)||(k==18) else if (p==18) then (k==17) else false
mutual
def C7:Syn->Nat
 | ⟨k,_,_,_,kids,_⟩=>E8 k kids+(if (k==18)||(isPat k&&(k != 5)) then 1 else 0)
def E8 (k:Int):List Syn->Nat
 | []=>0
 | x::r=>max (C7 x+(if Dc k x.kind then 1 else 0)) (E8 k r)
end
def D6:List Ag->Ag
 | []=>[]
 | [x]=>x
 | x::y::r=>x ++ [44,32]++D6 (y::r)
def Im (n:Int):Ag:=if (n==1) then Ho else if (n==2) then Ha else G0
def Nl (n:Int):Ag:=if (n==1) then M6 else if (n==2) then dU else if (n==3) then dT else if (n==4) then Tl else X5
def Mk (n:Int):Ag:=
 if (n==5) then w_add else if (n==6) then Oi else if (n==7) then w_lt else if (n==8) then w_le else if (n==9) then nY else if (n==10) then kZ else wO
def Fz (k:Int):Ag:=
 if (k==6) then Yq else if (k==7) then Yp else if (k==8) then Yn else if (k==9) then Sn else if (k==10) then Ni else if (k==11) then K5 else K4
def U1 (t:Syn):Ag:=
 if (t.name==G0) then Lib.itoa t.num
 else if (t.name==Ho) then if (t.num==1) then K9 else Je
 else (Sj t.text).1
def Hk (p:Syn)(k:Syn)(s:Ag):Ag:=if Dc p.kind k.kind then [40]++s ++ [41] else s
def Do (t:Syn)(ws:List Ag):Ag:=
 if (t.kind==0) then ws.flatten
 else if (t.kind==1) then Dj ++ [32]++t.text ++ [32,123]++(if ws == [] then [] else [32]++D6 ws ++ [32]) ++ [125,10]
 else if (t.kind==2) then t.text ++ [58,32]++Im t.num
 else if (t.kind==3) then C0 ++ [32]++t.text++(if (Bi t 0).text == [] then [] else [32]++Oa ++ [32]++(Bi t 0).text) ++ [10]++E4 ++ [32]++ws.getD 1 [] ++ [10]++Dw ++ [32]++D6 (ws.drop 2) ++ [59,10]
 else if (t.kind==5) then t.text ++ [32]++t.name++(if ws == [] then [] else [32]++Me ++ [32]++ws.getD 0 [])
 else if (t.kind==13) then U1 t
 else if (t.kind==14) then t.text ++ [46]++t.name
 else if (t.kind==15) then Gv ++ [40]++t.text ++ [41]
 else if (t.kind==16) then Nl t.num ++ [40]++t.text ++ [46]++t.name++(if ws == [] then [] else [44,32]++ws.getD 0 []) ++ [41]
 else if (t.kind==17) then Hk t (Bi t 0) (ws.getD 0 []) ++ [32]++Mk t.num ++ [32]++Hk t (Bi t 1) (ws.getD 1 [])
 else if (t.kind==18) then F7 ++ [32]++Hk t (Bi t 0) (ws.getD 0 [])
 else Fz t.kind ++ [40]++D6 ws++(if (t.kind==11) then [44,32]++Lib.itoa t.num else []) ++ [41]
mutual
def Ae:Syn->Ag
 | ⟨k,x,n,m,kids,p⟩=>Do ⟨k,x,n,m,kids,p⟩ (Un kids)
def Un:List Syn->List Ag
 | []=>[]
 | x::r=>Ae x::Un r
end
def Bg (t:Syn)(p:Pl):Ag×Int:=
 if (Al t p != 0) then ([],Al t p)
 else if decide (64<(C7 t:Int)) then ([],12)
 else if decide (65536<((Ae t).length:Int)) then ([],13)
 else (Ae t,0)
theorem lH:∀l:List Syn,Un l=l.map Ae
 | []=>by rw [Un,A5]
 | x::r=>by rw [Un,lH r,Ao]
theorem Fl (t:Syn):Ae t=Do t (t.kids.map Ae):=by cases t;rw [Ae,lH]
theorem Mu (t:Syn):C7 t=E8 t.kind t.kids+(if (t.kind==18)||(isPat t.kind&&(t.kind != 5)) then 1 else 0):=by cases t;rw [C7]
def Mi (t:Syn):Nat->List Syn->Int
 | _,[]=>0
 | i,x::r=>if (Al x (Dm t i) != 0) then Al x (Dm t i) else Mi t (i+1) r
theorem Sy (t:Syn)(p:Pl):Al t p=if (aS p t != 0) then aS p t else Mi t 0 t.kids:=by
 have h:∀(l:List Syn) (i:Nat),pA (iB l ((List.range' i l.length).map (Dm t)))=Mi t i l:=by
  intro l
  induction l with
  | nil=>intro i;rw [iB,Mi];rfl
  | cons x r ih=>intro i;rw [Bb,List.range'_succ,Ao,iB,pA,Mi,ih]
 rw [<-h t.kids 0,<-List.range_eq_range'];cases t;rw [Al]
theorem Lr:({ data:=#[] }:ByteArray).data.toList=([]:List UInt8):=rfl
structure Vl where
 kind:Int
 num:Int
 text:List UInt8
deriving DecidableEq
structure Ex where
 op:Int
 args:List Ex
 var:Int
 field:Int
 kind:Int
 val:Vl
structure Ev where
 source:Int
 seq:Int
 type:Int
 time:Int
 values:List Vl
def v0:Vl:=⟨0,0,[]⟩
def rC:Ex:=⟨0,[],0,0,0,v0⟩
@[reducible] def eqV (v w : Vl) : Bool := v.kind == w.kind && (v.num == w.num && v.text == w.text)
@[reducible] def isV0 (v : Vl) : Bool := v.kind == 0 && (v.num == 0 && v.text == [])
theorem tH (v:Vl):isV0 v=true↔v=v0:=by
 cases v;simp [isV0,v0]
def cV (v:Vl):List AV:=[.int .i64 v.kind,.int .i64 v.num,.str v.text]
mutual
def H8:Ex->List AV
 | ⟨op,args,var,field,kind,val⟩=>[.int .i64 op,.sl 8 (sK args),.int .i64 var,.int .i64 field,.int .i64 kind,.int .i64 val.kind,.int .i64 val.num,.str val.text]
def sK:List Ex->List (List AV)
 | []=>[]
 | e::r=>H8 e::sK r
end
theorem mL:∀l:List Ex,sK l=l.map H8
 | []=>by simp [sK]
 | e::r=>by simp [sK,mL r]
def cE (e:Ex):List AV:=[.int .i64 e.op,.sl 8 (e.args.map H8),.int .i64 e.var,.int .i64 e.field,.int .i64 e.kind,.int .i64 e.val.kind,.int .i64 e.val.num,.str e.val.text]
theorem Nb (e:Ex):H8 e=cE e:=by
 cases e
 simp [H8,cE,mL]
theorem Ex.ind {P:Ex->Prop}(h:∀e,(∀a∈e.args,P a)->P e):∀e,P e:=by
 intro e;exact Ex.rec (motive_1:=P) (motive_2:=fun l=>∀a∈l,P a) (fun op args v f k val ih=>h _ ih) (by simp) (fun a l ha hl=>by simp only [Db,forall_eq_or_imp];exact ⟨ha,hl⟩) e
theorem Rr {l:List Ex}{k:Nat}{a:Ex}(h:l[k]? = some a):(l.map H8)[k]? = some (cE a):=by
 simp [h,Nb]
theorem Cp {α:Type}{f:α->List AV}{l:List α}{k:Nat}{a:α}(h:l[k]? = some a):(l.map f)[k]? = some (f a):=by simp [h]
theorem Cj {α:Type}{l:List α}{k:Nat}(h:decide ((k:Int)<(l.length:Int))=true):∃a,l[k]? = some a:=by
 have:k<l.length:=by simpa using h
 exact ⟨_,List.getElem?_eq_getElem this⟩
theorem Bz {α:Type}{l:List α}{k:Nat}{a:α}(h:l[k]? = some a):k<l.length:=(List.getElem?_eq_some_iff.1 h).1
theorem A2 {α:Type}{l:List α}{k:Nat}{a:α}(h:l[k]? = some a):l.drop k=a::l.drop (k+1):=by
 obtain ⟨h1,h2⟩:=List.getElem?_eq_some_iff.1 h;rw [<-h2];exact Qz h1
theorem C9 {α:Type}{l:List α}{k:Nat}{a:α}(h:l[k]? = some a):l.take (k+1)=l.take k ++ [a]:=by
 rw [List.take_add_one,h];rfl
theorem Ds {α:Type}{l:List α}{k:Nat}(h:decide ((k:Int)<(l.length:Int))=false):l.take k=l:=by
 have:¬k<l.length:=by simpa using h
 exact List.take_of_length_le (by omega)
theorem pE {α:Type}{l:List α}{v:Int}(h0:0<=v)(h:v<(l.length:Int)):∃a,l[v.toNat]? = some a:=⟨_,List.getElem?_eq_getElem (by omega)⟩
theorem Fw {α:Type}{l:List α}{k:Nat}(h:decide ((k:Int)<(l.length:Int))=false):l.drop k = []:=by
 have:¬k<l.length:=by simpa using h
 exact Q8 (by omega)
def Uk (v:Vl):Int:=
 if v.kind==0&&(decide (v.num < -1099511627776)||decide (1099511627776<v.num)) then 2
 else if v.kind==1&&v.num != 0&&v.num != 1 then 2
 else if decide (64<(v.text.length:Int)) then 13 else 0
def F5 (v:Vl):Int:=
 if v.kind==0||v.kind==1 then (if !(v.text == []) then 3 else Uk v)
 else if v.kind==2 then (if v.num != 0 then 3 else Uk v)
 else 1
def Da {α:Type}(f:α->Int):List α->Int
 | []=>0
 | a::r=>if f a != 0 then f a else Da f r
def Kp (op:Int):Bool×Bool:=if op=1\/op=4 then (true,true) else if op=2\/op=3 then (true,false) else (false,false)
def Ts (op:Int):Int:=if op<0\/12<op then 0 else if op<5 then 0 else if op=12 then 1 else 2
def oT (k:Int)(v:Vl):Bool:=v.kind==0||k==4||k==5
def Tw (e:Ex):Int:=
 if F5 e.val != 0 then F5 e.val
 else if e.op==4&&(!oT e.kind e.val||(e.kind==1 && !isV0 e.val)) then 9 else 0
def Lm (e:Ex):Int:=
 if !(Kp e.op).1&&e.var != 0||(!(Kp e.op).2&&e.field != 0)||(!(e.op==4)&&e.kind != 0)||(!(e.op==4||e.op==0) && !isV0 e.val) then 3 else 0
def In (e:Ex):Int:=
 if !decide (0<=e.op/\e.op<=12) then 1
 else if (e.args.length:Int) != Ts e.op then 15
 else if ((Kp e.op).1&&(decide (e.var<0)||decide (16<=e.var)))||((Kp e.op).2&&(decide (e.field<0)||decide (8<=e.field))) then 2
 else if e.op==4&&(decide (e.kind<1)||decide (5<e.kind)) then 1
 else if e.op==4||e.op==0 then (if Tw e != 0 then Tw e else Lm e)
 else Lm e
mutual
def N9 (f:Ex->Int):Ex->Int
 | ⟨op,args,var,field,kind,val⟩=>if f ⟨op,args,var,field,kind,val⟩ != 0 then f ⟨op,args,var,field,kind,val⟩ else kY f args
def kY (f:Ex->Int):List Ex->Int
 | []=>0
 | e::r=>if N9 f e != 0 then N9 f e else kY f r
end
theorem bE (f:Ex->Int):∀l,kY f l=Da (N9 f) l
 | []=>by simp [kY,Da]
 | e::r=>by simp [kY,Da,bE f r]
theorem dQ (f:Ex->Int)(e:Ex):N9 f e=if f e != 0 then f e else Da (N9 f) e.args:=by
 cases e;rw [N9,bE]
abbrev Hg:Ex->Int:=N9 In
theorem nodesS_eq (e:Ex):Hg e=if In e != 0 then In e else Da Hg e.args:=dQ In e
mutual
def B3:Ex->Nat
 | ⟨_,args,_,_,_,_⟩=>1+kS args
def kS:List Ex->Nat
 | []=>0
 | e::r=>B3 e+kS r
end
mutual
def E9:Ex->Nat
 | ⟨_,args,_,_,_,_⟩=>Z5 args+1
def Z5:List Ex->Nat
 | []=>0
 | e::r=>max (E9 e) (Z5 r)
end
theorem kT:∀l,kS l=(l.map B3).sum
 | []=>by simp [kS]
 | e::r=>by simp [kS,kT r]
theorem Hi (e:Ex):B3 e=1+(e.args.map B3).sum:=by cases e;rw [B3,kT]
theorem Z6:∀l,Z5 l=(l.map E9).foldr max 0
 | []=>by simp [Z5]
 | e::r=>by simp [Z5,Z6 r]
theorem bT (e:Ex):E9 e=(e.args.map E9).foldr max 0+1:=by cases e;rw [E9,Z6]
theorem yK {l:List Ex}{a:Ex}(f:Ex->Nat)(h:a∈l):f a<=(l.map f).sum:=by
  induction l with
  | nil=>cases h
  | cons x r ih=>
    simp only [Ao,Ew];rcases Db.1 h with rfl | h
    . omega
    have:=ih h;omega
theorem K1 {e a:Ex}(h:a∈e.args):B3 a<B3 e:=by
 have:=yK B3 h;have:=Hi e;omega
theorem Na (e:Ex):E9 e<=B3 e:=by
  refine Ex.ind (P:=fun e=>E9 e<=B3 e) (fun e ih=>?_) e;rw [bT,Hi]
  have:∀l:List Ex,(∀a∈l,E9 a<=B3 a)->(l.map E9).foldr max 0<=(l.map B3).sum:=by
    intro l
    induction l with
    | nil=>intro _;exact Br _
    | cons x r ihr=>
      intro h;simp only [Ao,List.foldr_cons,Ew];have h1:=h x (by simp);have h2:=ihr fun a ha=>h a (by simp [ha])
      omega
  have:=this e.args ih;omega
mutual
def I4 (L:Nat):Ex->Nat
 | ⟨_,args,_,_,_,_⟩=>Hx L args 1
def Hx (L:Nat):List Ex->Nat->Nat
 | [],n=>n
 | e::r,n=>if n<=L then Hx L r (n+I4 L e) else n
end
theorem mF (L:Nat)(e:Ex):I4 L e=Hx L e.args 1:=by cases e;rw [I4]
theorem iD (L:Nat)(e:Ex):I4 L e=B3 e\/(L<I4 L e/\I4 L e<=B3 e):=by
  refine Ex.ind (P:=fun e=>I4 L e=B3 e\/(L<I4 L e/\I4 L e<=B3 e)) (fun e ih=>?_) e;rw [mF,Hi]
  have:∀(l:List Ex) (n:Nat),(∀a∈l,I4 L a=B3 a\/(L<I4 L a/\I4 L a<=B3 a))->Hx L l n=n+(l.map B3).sum\/(L<Hx L l n/\Hx L l n<=n+(l.map B3).sum):=by
    intro l
    induction l with
    | nil=>intro n _;simp [Hx]
    | cons x r ihr=>
      intro n h;simp only [Hx,Ao,Ew];have h1:=h x (by simp);have h2:=ihr (n+I4 L x) fun a ha=>h a (by simp [ha])
      split
      . have hmono:n+I4 L x<=Hx L r (n+I4 L x):=by
          have:∀(l:List Ex) (m:Nat),m<=Hx L l m:=by
            intro l
            induction l with
            | nil=>intro m;simp [Hx]
            | cons y s ihs => intro m; simp only [Hx]; split
                              . exact Ga (Nat.le_add_right _ _) (ihs _)
                              exact Br _
          exact this r _
        omega
      omega
  have:=this e.args 1 ih;omega
theorem count_gt (L:Nat)(e:Ex):L<I4 L e↔L<B3 e:=by
 rcases iD L e with h | h
 . rw [h]
 omega
def Gk (e:Ex):Int:=if decide (64<(B3 e:Int)) then 5 else if decide (12<(E9 e:Int)) then 12 else Hg e
structure Evr where
 vars:List (List Ev)
 own:Int
 event:Ev
def Evr.ok (x:Evr):Prop:=∀l∈x.vars,l.length<=1048576
theorem Vg {l:List Ex}{k:Nat}{a:Ex}(d:Nat)(h:l[k]? = some a):max d (((l.drop k).map E9).foldr max 0)=max (max d (E9 a)) (((l.drop (k+1)).map E9).foldr max 0):=by
 rw [A2 h];simp only [Ao,List.foldr_cons];omega
theorem wA {l:List Ex}{k:Nat}{a:Ex}(n:Nat)(h:l[k]? = some a):n+((l.drop k).map B3).sum=(n+B3 a)+((l.drop (k+1)).map B3).sum:=by
 rw [A2 h];simp only [Ao,Ew];omega
theorem size_pos (e:Ex):1<=B3 e:=by rw [Hi];omega
theorem Xf (e:Ex)(h:B3 e<=1048576):e.args.length<=1048576:=by
 rw [Hi] at h
 have:∀l:List Ex,l.length<=(l.map B3).sum:=by
  intro l
  induction l with
  | nil=>exact Br _
  | cons x r ih=>simp only [Bb,Ao,Ew];have:=size_pos x;omega
 have:=this e.args;omega
theorem oO {L n:Nat}(h:L<n):∀l:List Ex,Hx L l n=n
 | []=>rfl
 | _::_=>by rw [Hx,if_neg (by omega)]
theorem iW {α:Type}{f:α->Int}:∀{l:List α},Da f l=0->∀a∈l,f a=0
  | [],_,_,h=>by cases h
  | x::r,h,a,ha=>by
    simp only [Da] at h;by_cases hx:f x=0
    . rw [if_neg (by simp [hx])] at h
      rcases Db.1 ha with rfl | ha
      . exact hx
      exact iW h a ha
    rw [if_pos (by simpa using hx)] at h;exact absurd h hx
theorem Gl {e:Ex}(h:Hg e=0):In e=0/\∀a∈e.args,Hg a=0:=by
 rw [nodesS_eq] at h;by_cases hx:In e=0
 .
  rw [if_neg (by simp [hx])] at h;exact ⟨hx,iW h⟩
 rw [if_pos (by simpa using hx)] at h;exact absurd h hx
theorem T9 {e:Ex}(h:In e=0):0<=e.op/\e.op<=12/\(e.args.length:Int)=Ts e.op:=by
 unfold In at h;split at h
 . cases h
 split at h
 . cases h
 rename_i h1 h2;simp at h1 h2;exact ⟨h1.1,h1.2,h2⟩
theorem yN {e:Ex}(h:In e=0):0<=e.field:=by
  have hf:Lm e=0->(Kp e.op).2=false->e.field=0:=by
    intro h1 h2;unfold Lm at h1;split at h1
    . cases h1
    . rename_i h3
      simp [h2] at h3;exact h3.1.1.2
  unfold In at h;split at h
  . cases h
  split at h
  . cases h
  split at h
  . cases h
  rename_i h1 h2 h3;cases hu:(Kp e.op).2 with
  | true=>
    simp [hu] at h3;omega
  | false=>
    have:Lm e=0:=by
      split at h
      . cases h
      split at h
      . split at h
        . rename_i h4
          exact absurd h (by simpa using h4)
        exact h
      exact h
    rw [hf this hu];exact Ic _
def Pj (a b:Ex):Bool:=a.op != b.op||a.var != b.var||a.field != b.field||a.kind != b.kind || !eqV a.val b.val||(a.args.length:Int) != (b.args.length:Int)
mutual
def Ge:Ex->Ex->Bool
 | ⟨op,args,var,field,kind,val⟩,b=>if Pj ⟨op,args,var,field,kind,val⟩ b then false else Ux args b.args
def Ux:List Ex->List Ex->Bool
 | [],_=>true
 | a::r,l=>if !Ge a (l.headD rC) then false else Ux r l.tail
end
theorem Py (a b:Ex):Ge a b=if Pj a b then false else Ux a.args b.args:=by cases a;rw [Ge]
theorem dF (a b:Ex):Ge a b=true↔a=b:=by
  induction a using Ex.ind generalizing b with
  | h a ih=>
    have hL:∀(l m:List Ex),(∀x∈l,∀y,Ge x y=true↔x=y)->l.length=m.length->(Ux l m=true↔l=m):=by
      intro l
      induction l with
      | nil=>intro m _ hl;cases m with | nil=>simp [Ux] | cons _ _=>simp at hl
      | cons x r ihl=>
        intro m hx hl;cases m with
        | nil=>simp at hl
        | cons y s=>
          have h1:=hx x (by simp) y;have h2:=ihl s (fun z hz=>hx z (by simp [hz])) (by simpa using hl);rw [List.cons.injEq];show (if (!Ge x y)=true then false else Ux r s)=true↔x=y/\r=s;by_cases hs:Ge x y=true
          . rw [if_neg (by simp [hs]),h2];simp [h1.1 hs]
          . rw [if_pos (by simp [hs])]
            have:¬x=y:=fun e=>hs (h1.2 e)
            simp [this]
    rw [Py];by_cases hh:Pj a b=true
    . rw [if_pos hh]
      constructor
      . intro h;cases h
      . intro e;subst e
        simp [Pj] at hh
    . rw [if_neg hh]
      have hh':=hh;simp [Pj] at hh;obtain ⟨⟨⟨⟨⟨h1,h2⟩,h3⟩,h4⟩,h5⟩,h6⟩:=hh;rw [hL _ _ (fun x hx y=>ih x hx y) (by omega)]
      cases a with | mk _ _ _ _ _ av=>cases b with | mk _ _ _ _ _ bv=>
        cases av;cases bv
        simp_all
theorem Uf (a:Ex):Ge a a=true:=(dF a a).2 rfl
theorem node_var {e:Ex}(h:In e=0):0<=e.var/\e.var<16:=by
  have hf:Lm e=0->(Kp e.op).1=false->e.var=0:=by
    intro h1 h2;unfold Lm at h1;split at h1
    . cases h1
    . rename_i h3
      simp [h2] at h3;exact h3.1.1.1
  unfold In at h;split at h
  . cases h
  split at h
  . cases h
  split at h
  . cases h
  rename_i h1 h2 h3;cases hu:(Kp e.op).1 with
  | true=>
    simp [hu] at h3;omega
  | false=>
    have:Lm e=0:=by
      split at h
      . cases h
      split at h
      . split at h
        . rename_i h4
          exact absurd h (by simpa using h4)
        exact h
      exact h
    rw [hf this hu];omega
structure Fi where
 name:List UInt8
 kind:Int
structure e8Sc where
 name:List UInt8
 fields:List Fi
structure Va where
 name:List UInt8
 type:Int
def xK (f:Fi):List AV:=[.str f.name,.int .i64 f.kind]
def Lz (s:e8Sc):List AV:=[.str s.name,.sl 2 (s.fields.map xK)]
def Tn (v:Va):List AV:=[.str v.name,.int .i64 v.type]
def lQ:e8Sc:=⟨[],[]⟩
def fi0:Fi:=⟨[],0⟩
def va0:Va:=⟨[],0⟩
def letS (n:Int):Bool:=n==95||(decide (97<=n)&&decide (n<=122))||(decide (65<=n)&&decide (n<=90))
def sI (n:Int):Bool:=decide (48<=n)&&decide (n<=57)
def chS (b:UInt8):Bool:=letS b.toNat||sI b.toNat
def Rq (s:List UInt8):Bool:=!(s.length==0)&&decide (s.length<=24) && !sI ((s.headD 0).toNat)&&s.all chS
def timeB:List UInt8:=[116,105,109,101]
def pC (s:List UInt8):Bool:=Rq s && !(s==timeB)
def Jm (seen:List (List UInt8))(f:Fi):Int:=
 if !pC f.name then 8 else if seen.contains f.name then 7 else if decide (f.kind<0)||decide (3<=f.kind) then 1 else 0
def L4:List (List UInt8)->List Fi->Int
 | _,[]=>0
 | seen,f::r=>if Jm seen f != 0 then Jm seen f else L4 (seen ++ [f.name]) r
def N5 (s:e8Sc):Int:=if !Rq s.name then 8 else if decide (8<(s.fields.length:Int)) then 5 else L4 [] s.fields
def Oh (seen:List (List UInt8))(s:e8Sc):Int:=if N5 s != 0 then N5 s else if seen.contains s.name then 7 else 0
def Qj:List (List UInt8)->List e8Sc->Int
 | _,[]=>0
 | seen,s::r=>if Oh seen s != 0 then Oh seen s else Qj (seen ++ [s.name]) r
def Ef (l:List e8Sc):Int:=if decide (16<(l.length:Int)) then 5 else Qj [] l
def dC (ns:List (List UInt8))(n:List UInt8):Int:=if ns.contains n then ((ns.idxOf n:Nat):Int) else -1
structure Pt where
 op:Int
 args:List Pt
 type:Int
 var:Int
 scope:Int
 span:Int
 cond:Ex
def pt0:Pt:=⟨0,[],0,0,0,0,rC⟩
mutual
def Oq:Pt->List AV
 | ⟨o,asx,t,v,s,n,c⟩=>[.int .i64 o,.sl 14 (sM asx),.int .i64 t,.int .i64 v,.int .i64 s,.int .i64 n,.int .i64 c.op,.sl 8 (c.args.map H8),.int .i64 c.var,.int .i64 c.field,.int .i64 c.kind,.int .i64 c.val.kind,.int .i64 c.val.num,.str c.val.text]
def sM:List Pt->List (List AV)
 | []=>[]
 | a::r=>Oq a::sM r
end
@[reducible] def cPt (p : Pt) : List AV := [.int .i64 p.op, .sl 14 (p.args.map Oq), .int .i64 p.type, .int .i64 p.var, .int .i64 p.scope, .int .i64 p.span, .int .i64 p.cond.op, .sl 8 (p.cond.args.map H8), .int .i64 p.cond.var, .int .i64 p.cond.field, .int .i64 p.cond.kind, .int .i64 p.cond.val.kind, .int .i64 p.cond.val.num, .str p.cond.val.text]
theorem mM:∀l:List Pt,sM l=l.map Oq
 | []=>by rw [sM,A5]
 | a::r=>by rw [sM,mM r,Ao]
theorem Xk (p:Pt):Oq p=cPt p:=by
 cases p;rw [Oq,mM]
mutual
def Iw:Pt->Nat
 | ⟨_,asx,_,_,_,_,_⟩=>ptNs asx+1
def ptNs:List Pt->Nat
 | []=>0
 | a::r=>Iw a+ptNs r
end
theorem vA:∀l:List Pt,ptNs l=(l.map Iw).sum
 | []=>by rw [ptNs];rfl
 | a::r=>by rw [ptNs,vA r,Ao,Ew]
theorem Lc (p:Pt):Iw p=(p.args.map Iw).sum+1:=by cases p;rw [Iw,vA]
theorem Pt.ind {Q:Pt->Prop}(h:∀e,(∀a∈e.args,Q a)->Q e):∀e,Q e:=by
  have key:∀n e,Iw e<=n->Q e:=by
    intro n
    induction n with
    | zero=>intro e he;rw [Lc] at he;omega
    | succ n ih=>
      intro e he;refine h e fun a ha=>ih a ?_
      rw [Lc] at he
      have:∀l:List Pt,a∈l->Iw a<=(l.map Iw).sum:=by
        intro l
        induction l with
        | nil=>intro h;cases h
        | cons x r ih2=>
          intro h;rw [Ao,Ew];rcases Db.1 h with rfl | h
          . omega
          have:=ih2 h;omega
      have:=this _ ha;omega
  exact fun e=>key _ e (Br _)
structure Fa where
 pos:Int
 err:Int
def Oe:Fa:=⟨0,0⟩
def oJ (f:Fa):List AV:=[.int .i64 f.pos,.int .i64 f.err]
def Ja (f:Syn->Fa):List Syn->Fa
 | []=>Oe
 | x::r=>if ((f x).err != 0) then f x else Ja f r
mutual
def O2:Syn->List Syn
 | ⟨k,x,n,m,kids,p⟩=>if (k==5) then [⟨k,x,n,m,kids,p⟩] else if (k==10) then kids.getD 1 Gz::evH kids else if (k==12) then evH kids else evL kids
def evH:List Syn->List Syn
 | []=>[]
 | x::_=>O2 x
def evL:List Syn->List Syn
 | []=>[]
 | x::r=>O2 x++evL r
end
theorem evL_map:∀l:List Syn,evL l=l.flatMap O2
 | []=>by rw [evL];rfl
 | x::r=>by rw [evL,evL_map r,Ld]
theorem oU {l:List Syn}(h:0<l.length):evH l=O2 (l.getD 0 Gz):=by
 cases l with
 | nil=>simp at h
 | cons x r=>rw [evH];rfl
theorem Y2 (t:Syn):O2 t=if (t.kind==5) then [t] else if (t.kind==10) then Bi t 1::evH t.kids else if (t.kind==12) then evH t.kids else t.kids.flatMap O2:=by
 cases t;rw [O2,evL_map];rfl
abbrev Jx (T:List e8Sc):List Ag:=T.map (·.name)
abbrev K8 (V:List Va):List Ag:=V.map (·.name)
def Sr (l:List Ag)(n:Ag):Int:=if l.contains n then ((l.idxOf n:Nat):Int) else 0
def Mg (T:List e8Sc)(V:List Va)(t:Syn):Int:=
 if ((V.length:Int)==16) then 5 else if !((Jx T).contains t.text) then 8 else if (K8 V).contains t.name then 7 else 0
def Oo (T:List e8Sc)(t:Syn):Va:=⟨t.name,Sr (Jx T) t.text⟩
def L2 (T:List e8Sc):List Va->List Syn->List Va×Fa
 | V,[]=>(V,Oe)
 | V,t::r=>if (Mg T V t != 0) then (V,⟨t.pos,Mg T V t⟩) else L2 T (V ++ [Oo T t]) r
def Js (s:e8Sc)(n:Ag):Int:=dC (s.fields.map (·.name)) n
def X1 (T:List e8Sc)(V:List Va)(v:Int):e8Sc:=(T[((V[v.toNat]?).getD va0).type.toNat]?).getD lQ
def Vj (T:List e8Sc)(n:Ag):List Va->List Int->List Int×Bool
 | [],out=>(out,true)
 | v::r,out=>if decide (Js ((T[v.type.toNat]?).getD lQ) n<0) then ([],false) else Vj T n r (out.set v.type.toNat (Js ((T[v.type.toNat]?).getD lQ) n))
def Uy (T:List e8Sc)(V:List Va)(n:Ag):List Int×Bool:=Vj T n V (List.replicate T.length (-1))
section
variable (T:List e8Sc) (V:List Va)
def J7 (t:Syn):Fa:=
 if ((t.kind != 14)&&(t.kind != 15))&&(t.kind != 16) then Oe
 else if !((K8 V).contains t.text) then ⟨t.pos,8⟩
 else if (t.kind==15)||((t.kind==14)&&(t.name==F6)) then Oe
 else if decide (Js (X1 T V (Sr (K8 V) t.text)) t.name<0) then ⟨t.pos,6⟩
 else Oe
mutual
def G4:Syn->Fa
 | ⟨k,x,n,m,kids,p⟩=>if ((J7 T V ⟨k,x,n,m,kids,p⟩).err != 0) then J7 T V ⟨k,x,n,m,kids,p⟩ else wQ kids
def wQ:List Syn->Fa
 | []=>Oe
 | x::r=>if ((G4 x).err != 0) then G4 x else wQ r
end
theorem lC:∀l:List Syn,wQ T V l=Ja (G4 T V) l
 | []=>by rw [wQ,Ja]
 | x::r=>by rw [wQ,Ja,lC r]
theorem Wn (t:Syn):G4 T V t=if ((J7 T V t).err != 0) then J7 T V t else Ja (G4 T V) t.kids:=by
 cases t;rw [G4,lC]
def dP (t:Syn):Vl:=if (t.name==Ho) then ⟨1,t.num,[]⟩ else if (t.name==Ha) then ⟨2,0,t.text⟩ else ⟨0,t.num,[]⟩
def Mj (t:Syn)(asx:List Ex):Ex:=
 if (t.kind==13) then ⟨0,[],0,0,0,dP t⟩
 else if (t.kind==14) then if (t.name==F6) then ⟨2,[],Sr (K8 V) t.text,0,0,v0⟩ else ⟨1,[],Sr (K8 V) t.text,Js (X1 T V (Sr (K8 V) t.text)) t.name,0,v0⟩
 else if (t.kind==15) then ⟨3,[],Sr (K8 V) t.text,0,0,v0⟩
 else if (t.kind==16) then ⟨4,[],Sr (K8 V) t.text,Js (X1 T V (Sr (K8 V) t.text)) t.name,t.num,if decide ((0:Int)<(t.kids.length:Int)) then dP (Bi t 0) else v0⟩
 else if (t.kind==18) then ⟨12,asx,0,0,0,v0⟩
 else ⟨t.num,asx,0,0,0,v0⟩
mutual
def F1:Syn->Ex
 | ⟨k,x,n,m,kids,p⟩=>Mj T V ⟨k,x,n,m,kids,p⟩ (sR kids)
def sR:List Syn->List Ex
 | []=>[]
 | x::r=>F1 x::sR r
end
theorem mS:∀l:List Syn,sR T V l=l.map (F1 T V)
 | []=>by rw [sR,A5]
 | x::r=>by rw [sR,mS r,Ao]
theorem Jb (t:Syn):F1 T V t=Mj T V t (t.kids.map (F1 T V)):=by cases t;rw [F1,mS]
def Mc:Ex:=⟨0,[],0,0,0,⟨1,1,[]⟩⟩
def Mh (t:Syn):Ex:=if decide ((0:Int)<(t.kids.length:Int)) then F1 T V (Bi t 0) else Mc
structure Nx where
 next:Int
 scopes:Int
def Ow (t:Syn)(s:Nx)(asx:List Pt):Pt:=
 if (t.kind==5) then ⟨0,asx,Sr (Jx T) t.text,s.next,0,0,Mh T V t⟩
 else if (t.kind==10) then ⟨5,asx,Sr (Jx T) (Bi t 1).text,s.next,s.scopes,0,Mh T V (Bi t 1)⟩
 else if (t.kind==11) then ⟨6,asx,0,0,s.scopes,t.num,rC⟩
 else if (t.kind==12) then ⟨7,asx,0,0,0,0,F1 T V (Bi t 1)⟩
 else ⟨t.kind-5,asx,0,0,0,0,rC⟩
def Yi (t:Syn)(s:Nx):Nx:=⟨if (t.kind==5)||(t.kind==10) then s.next+1 else s.next,if (t.kind==10)||(t.kind==11) then s.scopes+1 else s.scopes⟩
mutual
def Kk:Syn->Nx->Pt×Nx
  | ⟨k,x,n,m,kids,p⟩,s=>
    if (k==5) then (Ow T V ⟨k,x,n,m,kids,p⟩ s [],Yi ⟨k,x,n,m,kids,p⟩ s)
    else if (k==10)||(k==12) then (Ow T V ⟨k,x,n,m,kids,p⟩ s (ptHR kids (Yi ⟨k,x,n,m,kids,p⟩ s)).1,(ptHR kids (Yi ⟨k,x,n,m,kids,p⟩ s)).2)
    else (Ow T V ⟨k,x,n,m,kids,p⟩ s (Gn kids (Yi ⟨k,x,n,m,kids,p⟩ s)).1,(Gn kids (Yi ⟨k,x,n,m,kids,p⟩ s)).2)
def ptHR:List Syn->Nx->List Pt×Nx
 | [],s=>([],s)
 | x::_,s=>([(Kk x s).1],(Kk x s).2)
def Gn:List Syn->Nx->List Pt×Nx
 | [],s=>([],s)
 | x::r,s=>((Kk x s).1::(Gn r (Kk x s).2).1,(Gn r (Kk x s).2).2)
end
def D7 (t:Syn):List Syn:=if (t.kind==5) then [] else if (t.kind==10)||(t.kind==12) then t.kids.take 1 else t.kids
theorem ptHR_take:∀(l:List Syn) (s:Nx),ptHR T V l s=Gn T V (l.take 1) s
 | [],s=>by rw [ptHR,List.take_nil,Gn]
 | x::r,s=>by rw [ptHR,Zt,Wu,Gn,Gn]
theorem gM (t:Syn)(s:Nx):Kk T V t s=(Ow T V t s (Gn T V (D7 t) (Yi t s)).1,(Gn T V (D7 t) (Yi t s)).2):=by
  cases t with | mk k x n m kids p=>
  rw [Kk];unfold D7;cases h1:(k==5) with
  | true=>simp only [h1,if_true];rw [Gn]
  | false=>
    simp only [h1,Ak,if_false];cases h2:(k==10)||(k==12) with
    | true=>simp only [h2,if_true];rw [ptHR_take]
    | false=>simp only [h2,Ak,if_false]
theorem uY:∀(l r:List Syn) (s:Nx),Gn T V (l++r) s=((Gn T V l s).1++(Gn T V r (Gn T V l s).2).1,(Gn T V r (Gn T V l s).2).2)
 | [],r,s=>by rw [C5,Gn];rfl
 | x::l,r,s=>by rw [Co,Gn,uY l r,Gn];rfl
end
inductive Fd (f:Ex->Ex):Ex->Prop where
 | mk (e:Ex) (ha:∀a∈e.args,Fd f a) (h:f e=e):Fd f e
theorem Rp {e:Ex}(h:Gk e=0):B3 e<=64/\E9 e<=12/\Hg e=0:=by
 unfold Gk at h;split at h
 . cases h
 rename_i h1;split at h
 . cases h
 rename_i h2;simp at h1 h2;exact ⟨by omega,by omega,h⟩
end Go.Proofs.YtckhoadldibflaaGreatDoor
namespace Go.Proofs
open Go.Shelf
def Tryz.lays137_ren:Go.Shelf.Ren:=⟨fun | 137=>275 | 217=>301 | 266=>314 | n=>n,fun | 9=>9 | 5=>5 | 3=>3 | n=>n,fun | n=>n⟩
theorem Tryz.lays137:Go.Proofs.Lays.n137 Tryz.prog Tryz.lays137_ren:={
 mixed:=by kernel_rfl
 f137:=Tryz.func275.trans (congrArg some (by kernel_rfl))
 f217:=Tryz.func301.trans (congrArg some (by kernel_rfl))
 f266:=Tryz.func314.trans (congrArg some (by kernel_rfl))
 t3:=Tryz.underlying3
 a3:=Tryz.isAgg3
 z3:=Tryz.sizeOf3
 v3:=Tryz.zeroValue3
 t5:=Tryz.underlying5
 a5:=Tryz.isAgg5
 z5:=Tryz.sizeOf5
 v5:=Tryz.zeroValue5
 t9:=Tryz.underlying9
 a9:=Tryz.isAgg9
 z9:=Tryz.sizeOf9
 v9:=Tryz.zeroValue9 }
open Go.RowKit in
theorem Tryz.strings_IndexByte (s:ByteArray)(c:Int)(w:World) :
 Calls Tryz.prog 275 #[.string s,.int .u8 c] w fun e w'=>e = .returned (.int .i64 (Lib.indexByte s.data.toList c.toNat.toUInt8))/\w'=w:=Any.strings_IndexByte Tryz.lays137 s c w
def Tryz.laysM171_ren:Go.Shelf.Ren:=⟨fun | 171=>270 | 243=>299 | 246=>313 | 283=>318 | 284=>319 | 285=>320 | 286=>321 | 129=>324 | 317=>323 | 318=>325 | 319=>326 | 320=>327 | 337=>331 | 338=>332 | n=>n,fun | 3=>3 | 9=>9 | 2=>2 | 4=>4 | 171=>311 | 0=>0 | 53=>298 | 37=>205 | 5=>5 | 173=>314 | 212=>318 | 51=>295 | 20=>20 | 213=>319 | 46=>271 | 232=>323 | 233=>324 | n=>n,fun | 17=>7 | 18=>9 | 19=>10 | n=>n⟩
theorem Tryz.laysM171:Go.Proofs.LaysM.n171 Tryz.prog Tryz.laysM171_ren:={
 mixed:=by kernel_rfl
 f129:=Tryz.func324.trans (congrArg some (by kernel_rfl))
 f171:=Tryz.func270.trans (congrArg some (by kernel_rfl))
 f243:=Tryz.func299.trans (congrArg some (by kernel_rfl))
 f246:=Tryz.func313.trans (congrArg some (by kernel_rfl))
 f283:=Tryz.func318.trans (congrArg some (by kernel_rfl))
 f284:=Tryz.func319.trans (congrArg some (by kernel_rfl))
 f285:=Tryz.func320.trans (congrArg some (by kernel_rfl))
 f286:=Tryz.func321.trans (congrArg some (by kernel_rfl))
 f317:=Tryz.func323.trans (congrArg some (by kernel_rfl))
 f318:=Tryz.func325.trans (congrArg some (by kernel_rfl))
 f319:=Tryz.func326.trans (congrArg some (by kernel_rfl))
 f320:=Tryz.func327.trans (congrArg some (by kernel_rfl))
 f337:=Tryz.func331.trans (congrArg some (by kernel_rfl))
 f338:=Tryz.func332.trans (congrArg some (by kernel_rfl))
 t0:=Tryz.underlying0
 a0:=Tryz.isAgg0
 z0:=Tryz.sizeOf0
 v0:=Tryz.zeroValue0
 t2:=Tryz.underlying2
 a2:=Tryz.isAgg2
 z2:=Tryz.sizeOf2
 v2:=Tryz.zeroValue2
 t3:=Tryz.underlying3
 a3:=Tryz.isAgg3
 z3:=Tryz.sizeOf3
 v3:=Tryz.zeroValue3
 t4:=Tryz.underlying4
 a4:=Tryz.isAgg4
 z4:=Tryz.sizeOf4
 v4:=Tryz.zeroValue4
 t5:=Tryz.underlying5
 a5:=Tryz.isAgg5
 z5:=Tryz.sizeOf5
 v5:=Tryz.zeroValue5
 t9:=Tryz.underlying9
 a9:=Tryz.isAgg9
 z9:=Tryz.sizeOf9
 v9:=Tryz.zeroValue9
 t20:=Tryz.underlying20
 a20:=Tryz.isAgg20
 z20:=Tryz.sizeOf20
 v20:=Tryz.zeroValue20
 t37:=Tryz.underlying205
 a37:=Tryz.isAgg205
 z37:=Tryz.sizeOf205
 v37:=Tryz.zeroValue205
 t46:=Tryz.underlying271
 a46:=Tryz.isAgg271
 z46:=Tryz.sizeOf271
 v46:=Tryz.zeroValue271
 t51:=Tryz.underlying295
 a51:=Tryz.isAgg295
 z51:=Tryz.sizeOf295
 v51:=Tryz.zeroValue295
 t53:=Tryz.underlying298
 a53:=Tryz.isAgg298
 z53:=Tryz.sizeOf298
 v53:=Tryz.zeroValue298
 t171:=Tryz.underlying311
 a171:=Tryz.isAgg311
 z171:=Tryz.sizeOf311
 v171:=Tryz.zeroValue311
 t173:=Tryz.underlying314
 a173:=Tryz.isAgg314
 z173:=Tryz.sizeOf314
 v173:=Tryz.zeroValue314
 t212:=Tryz.underlying318
 a212:=Tryz.isAgg318
 z212:=Tryz.sizeOf318
 v212:=Tryz.zeroValue318
 t213:=Tryz.underlying319
 a213:=Tryz.isAgg319
 z213:=Tryz.sizeOf319
 t232:=Tryz.underlying323
 a232:=Tryz.isAgg323
 z232:=Tryz.sizeOf323
 v232:=Tryz.zeroValue323
 t233:=Tryz.underlying324
 a233:=Tryz.isAgg324
 z233:=Tryz.sizeOf324
 v233:=Tryz.zeroValue324
 g17:=by kernel_rfl
 g18:=by kernel_rfl
 g19:=by kernel_rfl
 i0:=by kernel_rfl
 i2:=by kernel_rfl
 i3:=by kernel_rfl
 i4:=by kernel_rfl
 i5:=by kernel_rfl
 i9:=by kernel_rfl
 i20:=by kernel_rfl
 i37:=by kernel_rfl
 i46:=by kernel_rfl
 i51:=by kernel_rfl
 i53:=by kernel_rfl
 i171:=by kernel_rfl
 i173:=by kernel_rfl
 i212:=by kernel_rfl
 i232:=by kernel_rfl
 i233:=by kernel_rfl
 m17:=by kernel_rfl
 m18:=by kernel_rfl
 m19:=by kernel_rfl }
open Go.RowKit Go.Sort Go.Lib in
theorem Tryz.strconv_Itoa (n : Int) (h0 : -9223372036854775808 <= n) (h1 : n <= 9223372036854775807) (w : World) (htab : Lib.TabIs Tryz.prog w "internal/strconv.uint64pow10" .u64 Lib.pow10Tab) :
 Calls Tryz.prog 270 #[.int .i64 n] w fun e w'=>e = .returned (.string ⟨(Lib.itoa n).toArray⟩)/\∃k os,w'=grow (w.drewN k) os:=Any.strconv_Itoa Tryz.laysM171 n h0 h1 w htab
def Tryz.lays144_ren:Go.Shelf.Ren:=⟨fun | 144=>199 | 143=>261 | 219=>297 | 217=>301 | 225=>309 | 224=>310 | 267=>311 | 266=>314 | 314=>317 | n=>n,fun | 9=>9 | 4=>4 | 3=>3 | 5=>5 | 46=>271 | 146=>296 | 51=>295 | n=>n,fun | 1=>5 | n=>n⟩
theorem Tryz.lays144:Go.Proofs.Lays.n144 Tryz.prog Tryz.lays144_ren:={
 mixed:=by kernel_rfl
 f143:=Tryz.func261.trans (congrArg some (by kernel_rfl))
 f144:=Tryz.func199.trans (congrArg some (by kernel_rfl))
 f217:=Tryz.func301.trans (congrArg some (by kernel_rfl))
 f219:=Tryz.func297.trans (congrArg some (by kernel_rfl))
 f224:=Tryz.func310.trans (congrArg some (by kernel_rfl))
 f225:=Tryz.func309.trans (congrArg some (by kernel_rfl))
 f266:=Tryz.func314.trans (congrArg some (by kernel_rfl))
 f267:=Tryz.func311.trans (congrArg some (by kernel_rfl))
 f314:=Tryz.func317.trans (congrArg some (by kernel_rfl))
 t3:=Tryz.underlying3
 a3:=Tryz.isAgg3
 z3:=Tryz.sizeOf3
 v3:=Tryz.zeroValue3
 t4:=Tryz.underlying4
 a4:=Tryz.isAgg4
 z4:=Tryz.sizeOf4
 v4:=Tryz.zeroValue4
 t5:=Tryz.underlying5
 a5:=Tryz.isAgg5
 z5:=Tryz.sizeOf5
 v5:=Tryz.zeroValue5
 t9:=Tryz.underlying9
 a9:=Tryz.isAgg9
 z9:=Tryz.sizeOf9
 v9:=Tryz.zeroValue9
 t46:=Tryz.underlying271
 a46:=Tryz.isAgg271
 z46:=Tryz.sizeOf271
 v46:=Tryz.zeroValue271
 t51:=Tryz.underlying295
 a51:=Tryz.isAgg295
 z51:=Tryz.sizeOf295
 v51:=Tryz.zeroValue295
 t146:=Tryz.underlying296
 a146:=Tryz.isAgg296
 z146:=Tryz.sizeOf296
 v146:=Tryz.zeroValue296
 g1:=by kernel_rfl }
open Go.RowKit Go.Lib in
theorem Tryz.strings_Contains (s sub:ByteArray)(m:Int)(w:World)(hs:s.size<4294967281)(hm:w.cell? ⟨5,0,none⟩=some (.int .i64 m)) :
 Calls Tryz.prog 199 #[.string s,.string sub] w fun e w'=>e = .returned (.bool (Lib.contains s.data.toList sub.data.toList))/\w'=w:=Any.strings_Contains Tryz.lays144 s sub m w hs hm
def Tryz.laysM144_ren:Go.Shelf.Ren:=⟨fun | 144=>199 | 143=>261 | 219=>297 | 217=>301 | 225=>309 | 224=>310 | 267=>311 | 266=>314 | 314=>317 | n=>n,fun | 9=>9 | 4=>4 | 3=>3 | 5=>5 | 46=>271 | 146=>296 | 51=>295 | n=>n,fun | 1=>5 | n=>n⟩
theorem Tryz.laysM144:Go.Proofs.LaysM.n144 Tryz.prog Tryz.laysM144_ren:={
 mixed:=by kernel_rfl
 f143:=Tryz.func261.trans (congrArg some (by kernel_rfl))
 f144:=Tryz.func199.trans (congrArg some (by kernel_rfl))
 f217:=Tryz.func301.trans (congrArg some (by kernel_rfl))
 f219:=Tryz.func297.trans (congrArg some (by kernel_rfl))
 f224:=Tryz.func310.trans (congrArg some (by kernel_rfl))
 f225:=Tryz.func309.trans (congrArg some (by kernel_rfl))
 f266:=Tryz.func314.trans (congrArg some (by kernel_rfl))
 f267:=Tryz.func311.trans (congrArg some (by kernel_rfl))
 f314:=Tryz.func317.trans (congrArg some (by kernel_rfl))
 t3:=Tryz.underlying3
 a3:=Tryz.isAgg3
 z3:=Tryz.sizeOf3
 v3:=Tryz.zeroValue3
 t4:=Tryz.underlying4
 a4:=Tryz.isAgg4
 z4:=Tryz.sizeOf4
 v4:=Tryz.zeroValue4
 t5:=Tryz.underlying5
 a5:=Tryz.isAgg5
 z5:=Tryz.sizeOf5
 v5:=Tryz.zeroValue5
 t9:=Tryz.underlying9
 a9:=Tryz.isAgg9
 z9:=Tryz.sizeOf9
 v9:=Tryz.zeroValue9
 t46:=Tryz.underlying271
 a46:=Tryz.isAgg271
 z46:=Tryz.sizeOf271
 v46:=Tryz.zeroValue271
 t51:=Tryz.underlying295
 a51:=Tryz.isAgg295
 z51:=Tryz.sizeOf295
 v51:=Tryz.zeroValue295
 t146:=Tryz.underlying296
 a146:=Tryz.isAgg296
 z146:=Tryz.sizeOf296
 v146:=Tryz.zeroValue296
 g1:=by kernel_rfl
 i3:=by kernel_rfl
 i4:=by kernel_rfl
 i5:=by kernel_rfl
 i9:=by kernel_rfl
 i46:=by kernel_rfl
 i51:=by kernel_rfl
 i146:=by kernel_rfl
 m1:=by kernel_rfl
 s1_3:=fun w h=>Go.Proofs.cell_of_shapedOpen_int (zero:=#[.int .i64 0]) (t:=3) h (of_decide_eq_true (by kernel_rfl)) (by kernel_rfl) rfl (by kernel_rfl) (by kernel_rfl) Tryz.underlying3 }
def Tryz.lays99_ren:Go.Shelf.Ren:=⟨fun | 99=>305 | 206=>315 | n=>n,fun | 9=>9 | 4=>4 | 3=>3 | n=>n,fun | n=>n⟩
theorem Tryz.lays99:Go.Proofs.Lays.n99 Tryz.prog Tryz.lays99_ren:={
 mixed:=by kernel_rfl
 f99:=Tryz.func305.trans (congrArg some (by kernel_rfl))
 f206:=Tryz.func315.trans (congrArg some (by kernel_rfl))
 t3:=Tryz.underlying3
 a3:=Tryz.isAgg3
 z3:=Tryz.sizeOf3
 v3:=Tryz.zeroValue3
 t4:=Tryz.underlying4
 a4:=Tryz.isAgg4
 z4:=Tryz.sizeOf4
 v4:=Tryz.zeroValue4
 t9:=Tryz.underlying9
 a9:=Tryz.isAgg9
 z9:=Tryz.sizeOf9
 v9:=Tryz.zeroValue9 }
open Go.RowKit Go.Lib in
theorem Tryz.strings_HasPrefix (s p:ByteArray)(w:World) :
 Calls Tryz.prog 305 #[.string s,.string p] w fun e w'=>e = .returned (.bool (Lib.hasPrefix s.data.toList p.data.toList))/\w'=w:=Any.strings_HasPrefix Tryz.lays99 s p w
end Go.Proofs
namespace Go.Proofs.YtckhoadldibflaaGreatDoor
open Go Go.Aw
theorem ba_size (s:Ag):(⟨s.toArray⟩:ByteArray).size=s.length:=by simp [ByteArray.size]
theorem k53 (s:Ag)(c:UInt8):An Tryz.prog 275 [.str s,.int .u8 (c.toNat:Int)] (.int .i64 (Lib.indexByte s c)):=
 .of_same fun g w vs _ ha=>by
  obtain ⟨u,v,rfl,h1,h2⟩:=ha.inv2;have e1:=h1.inv_str.1;have e2:=h2.inv_int;subst e1 e2;refine ⟨.int .i64 (Lib.indexByte s c),fun _ _=>.int _ _,?_⟩;have:=Tryz.strings_IndexByte ⟨s.toArray⟩ (c.toNat:Int) w;simpa using this
theorem k29 (s p:Ag)(hs:s.length<4294967281):An Tryz.prog 199 [.str s,.str p] (.bool (Lib.contains s p)):=
 .of_same fun g w vs hg ha=>by
  obtain ⟨u,v,rfl,h1,h2⟩:=ha.inv2;have e1:=h1.inv_str.1;have e2:=h2.inv_str.1;subst e1 e2;refine ⟨.bool (Lib.contains s p),fun _ _=>.bool _,?_⟩;obtain ⟨m,hm⟩:=hg.int (gl:=5) (k:=.i64) (by simp [globals]);exact Tryz.strings_Contains ⟨s.toArray⟩ ⟨p.toArray⟩ m w (by rw [ba_size];exact hs) hm
theorem k28 (s p:Ag):An Tryz.prog 305 [.str s,.str p] (.bool (Lib.hasPrefix s p)):=
 .of_same fun g w vs hg ha=>by
  obtain ⟨u,v,rfl,h1,h2⟩:=ha.inv2;have e1:=h1.inv_str.1;have e2:=h2.inv_str.1;subst e1 e2;exact ⟨.bool (Lib.hasPrefix s p),fun _ _=>.bool _,Tryz.strings_HasPrefix ⟨s.toArray⟩ ⟨p.toArray⟩ w⟩
theorem c39 (c:UInt8):An Tryz.prog 141 [.int .u8 (c.toNat:Int)] (.bool (Bn c)):=by
 refine Fb 9 Tryz.func141 rfl fun H=>?_
 refine Aa (Qp Bc (B7 (Qp (A1 (v:=.int .u8 _) rfl) (Qp Kv (Qp Cc (Qg [] Qw (A1 (v:=.int .u8 _) rfl) (Qg [(6,_)] Qw Ys (Qp Ju (Qp Bc (Rb (Qr (.bool _) ?_)))))))))));rfl
theorem c43 (c:UInt8):An Tryz.prog 145 [.int .u8 (c.toNat:Int)] (.bool (Di c)):=by
 refine Fb 21 Tryz.func145 rfl fun H=>?_
 refine Aa (Qp Bc (B7 (Qp (A1 (v:=.int .u8 _) rfl) (Qp Bl (Qp Cc (Qg [] Qw (A1 (v:=.int .u8 _) rfl) ?_))))));refine Qg [(6,_)] Qw Kv (Qg [(7,_)] Qw Cc (Qg [] Qw (A1 (v:=.int .u8 _) rfl) (Qg [(9,_)] Qw Ys (Qg [(8,_),(10,_)] Qw Ju (Qp E5 (Qp Cc (Qg [] Qw (A1 (v:=.int .u8 _) rfl) (Qg [(14,_)] Qw Kv (Qg [(15,_)] Qw Cc (Qg [] Qw (A1 (v:=.int .u8 _) rfl) (Qg [(17,_)] Qw Ys (Qg [(16,_),(18,_)] Qw Ju (Qp E5 (Qp Bc (Rb (Qr (.bool _) ?_))))))))))))))));rfl
theorem c52 (c:UInt8):An Tryz.prog 274 [.int .u8 (c.toNat:Int)] (.bool (lineS c)):=by
 refine Fb 5 Tryz.func274 rfl fun H=>?_
 refine Aa (Qp Bc (B7 (Qp (A1 (v:=.int .u8 _) rfl) (Qp Cb (Qp Bc (Rb (Qr (.bool _) ?_)))))));rfl
theorem c69 (c:UInt8):An Tryz.prog 302 [.int .u8 (c.toNat:Int)] (.bool (G5 c)):=by
 refine Fb 9 Tryz.func302 rfl fun H=>?_
 refine Aa (Qp Bc (B7 (Qp (A1 (v:=.int .u8 _) rfl) (Qp (Qc rfl (c43 _)) (Qp Cc (Qg [] Qw (A1 (v:=.int .u8 _) rfl) (Qg [(6,_)] Qw (Qc rfl (c39 _)) (Qp E5 (Qp Bc (Rb (Qr (.bool _) ?_)))))))))));rfl
theorem c42 (c:UInt8):An Tryz.prog 144 [.int .u8 (c.toNat:Int)] (.bool (pY c)):=by
 refine Fb 11 Tryz.func144 rfl fun H=>?_
 refine Aa (Qp Bc (B7 (Qp (A1 (v:=.int .u8 _) rfl) (Qp (Qc rfl (c43 _)) (Qp Ix (Qp Cc (Qg [] Qw (A1 (v:=.int .u8 _) rfl) (Qg [(7,_)] Qw (Qc rfl (c39 _)) (Qg [(8,_)] Qw Ix (Qp Ju (Qp Bc (Rb (Qr (.bool _) ?_)))))))))))));rfl
theorem g1 {b w:Bool}{G:List (Bool×Bool)}(h:N0 ((b,w)::G)):b=w:=h _ (I7 ..)
theorem Tx {s:Ag}{k:Nat}(h:k<s.length):s.drop k=bt s k::s.drop (k+1):=by
 rw [Qz h];have:bt s k=s[k]:=by simp [bt,Ez,List.getElem?_eq_getElem h]
 rw [this]
theorem span_step {p:UInt8->Bool}{s:Ag}{k:Nat}(h:(decide ((k:Int)<(s.length:Int))&&p (bt s k))=true):k<s.length/\B4 p (s.drop k)=B4 p (s.drop (k+1))+1:=by
 simp only [Cd,Ck] at h;have hk:k<s.length:=by omega
 refine ⟨hk,?_⟩;rw [Tx hk,B4,if_pos h.2]
theorem span_stop {p:UInt8->Bool}{s:Ag}{k:Nat}(h:(decide ((k:Int)<(s.length:Int))&&p (bt s k))=false):B4 p (s.drop k)=0:=by
 by_cases hk:k<s.length
 .
  have h2:p (bt s k)=false:=by
   have:decide ((k:Int)<(s.length:Int))=true:=by simp;omega
   cases hq:p (bt s k) with
   | false=>rfl
   | true=>rw [this,hq] at h;cases h
  rw [Tx hk,B4,if_neg (by simp [h2])]
 rw [Q8 (by omega)];rfl
theorem Ng (p:UInt8->Bool):∀s:Ag,B4 p s<=s.length
  | []=>Br _
  | c::r=>by
    unfold B4;split
    . have:=Ng p r;simp;omega
    simp
theorem xH {s:Ag}{k:Nat}(h:k<s.length):(Dr s)[k]? = some [.int .u8 ((bt s k).toNat:Int)]:=by
 simp only [Dr,List.getElem?_map,Jl h];rfl
theorem idx_hit {p:UInt8->Bool}{s:Ag}{k:Nat}(h:k<s.length)(hp:p (bt s k)=true):Lb p (s.drop k)=0:=by rw [Tx h,Lb,if_pos hp]
theorem idx_step {p:UInt8->Bool}{s:Ag}{k:Nat}(h:k<s.length)(hp:p (bt s k)=false):Lb p (s.drop k)=if Lb p (s.drop (k+1)) = -1 then -1 else Lb p (s.drop (k+1))+1:=by rw [Tx h,Lb,if_neg (by simp [hp])]
theorem yA (p:UInt8->Bool):∀s:Ag,-1<=Lb p s
  | []=>Ic _
  | c::r=>by
    have:=yA p r;unfold Lb;split
    . decide
    split <;> omega
theorem idx_zero (p:UInt8->Bool)(s:Ag):Lb p s=if Lb p (s.drop 0) = -1 then -1 else ((0:Nat):Int)+Lb p (s.drop 0):=by
 have:=yA p s;rw [Qt];split <;> simp_all
theorem idx_next {p:UInt8->Bool}{s:Ag}{k:Nat}(h:k<s.length)(hp:p (bt s k)=false)(h2:Lb p s=if Lb p (s.drop k) = -1 then -1 else (k:Int)+Lb p (s.drop k)) :
  Lb p s=if Lb p (s.drop (k+1)) = -1 then -1 else ((k+1:Nat):Int)+Lb p (s.drop (k+1)):=by
 rw [idx_step h hp] at h2;rw [h2];have:=yA p (s.drop (k+1));by_cases h3:Lb p (s.drop (k+1)) = -1
 . rw [if_pos h3,if_pos rfl,if_pos h3]
 rw [if_neg h3,if_neg h3,if_neg (by omega)];omega
theorem c38 (s:Ag)(hl:s.length<=1048576)(f:Nat)(p:UInt8->Bool)(hf:Xq Tryz.prog f=true)(hp:∀c,An Tryz.prog f [.int .u8 (c.toNat:Int)] (.bool (p c))):An Tryz.prog 273 [.str s,.fn (.func f) [] []] (.int .i64 (B4 p s:Int)):=by
 refine Fb 20 Tryz.func273 rfl fun H=>?_
 refine Aa (Qp Aq (B7 (Qp Aq (Re (AW.block ?_)))));refine AW.Aad (fun (k:Nat)=>(⟨[(0,.str s),(1,.fn (.func f) [] []),(5,.int .i64 (k:Int))],H,20⟩:St)) (fun k=>k<=s.length/\B4 p s=k+B4 p (s.drop k)) (fun k=>s.length-k) (0) ?_ C2 ?_
 . exact ⟨A9 _,by simp⟩
 rintro k hR;refine B5 (Qp Ap (Qp H7 (Qp (Du tok rfl rfl rfl rfl) (Qp Cn (Qp Cc (Qg [] Qw (A1 (v:=.fn _ _ _) rfl) (Qg [] Qw H7 (Qg [] Qw Ap ?_))))))));refine Yh [(12,_),(13,_)] Yw (fun hG=>C4 tok rfl rfl rfl rfl (by omega) (Jl (i:=k) (by have h9:=g1 hG;simp at h9;exact h9))) ?_;refine Qg [(14,_),(11,_)] Yw (R0 hf rfl rfl rfl (hp _)) (Qp Ju (Bh (fun hc1=>?_) fun hc1=>?_))
 .
  have hst:=span_step hc1;refine B2 (AW.block (AW.region (Qp Ap (Qp Gw (Qp Aq (Rk ?_))))));refine ⟨k+1,?_,?_,C2⟩
  . exact ⟨hst.1,by rw [hR.2,hst.2];omega⟩
  have:=hst.1;omega
 have hst:=span_stop hc1;refine AW.exit ?_;refine B1 (Ri (Aa (Qp Ap (Qp Aq (Rb ?_)))));refine Qr (Iq _) ?_;have h2:=hR.2;rw [hst] at h2;rw [h2];rfl
theorem c64 (s:Ag)(hl:s.length<=1048576)(f:Nat)(p:UInt8->Bool)(hf:Xq Tryz.prog f=true)(hp:∀c,An Tryz.prog f [.int .u8 (c.toNat:Int)] (.bool (p c))):An Tryz.prog 200 [.sl 1 (Dr s),.fn (.func f) [] []] (.int .i64 (Lb p s)):=by
 refine Fb 19 Tryz.func200 rfl fun H=>?_
 refine Aa (Qp Aq (Ax (B5 (Qp K7 ?_))));refine Qp (E6 s.length rfl rfl (by simp)) ?_;refine Qp Ap (Ax (AW.block ?_));refine AW.Aad (fun (k:Nat)=>(⟨[(0,.sl 1 (Dr s)),(1,.fn (.func f) [] []),(7,.int .i64 (s.length:Int)),(8,.int .i64 (k:Int))],H,19⟩:St)) (fun k=>k<=s.length/\Lb p s=if Lb p (s.drop k) = -1 then -1 else (k:Int)+Lb p (s.drop k)) (fun k=>s.length-k) (0) ?_ C2 ?_
 . exact ⟨A9 _,idx_zero p s⟩
 rintro k hR;refine Aa (Qp Cn (Re (Hb (fun hc1=>?_) fun hc1=>?_)))
 .
  have hk:k<s.length:=by simp at hc1;omega
  refine B2 (AW.seq (AW.block (Aa (Qp Ap (Qp Aq (B7 (Qp (A1 (v:=.fn _ _ _) rfl) (Qp K7 (Qp Ap ?_)))))))));refine Qp (Eh [.int .u8 _] rfl rfl (by omega) (xH (k:=k) hk)) ?_;refine Qp (F0 (c:=.int .u8 _) tok rfl rfl rfl) (Qp (R0 hf rfl rfl rfl (hp _)) (Bh (fun hc2=>Aa (Qp Ap (Qp Aq (Ra (A7 (Dz (A7 (Qr (Iq _) ?_)))))))) fun hc2=>Rf (AW.region (Qp Gw (Qp Ap (Ax ?_))))))
  .
   have h2:=hR.2;rw [idx_hit hk hc2,if_neg (by decide)] at h2;rw [h2,Int.add_zero];rfl
  refine ⟨k+1,?_,?_,C2⟩
  . exact ⟨hk,idx_next hk hc2 hR.2⟩
  omega
 have hk:s.length<=k:=by simp at hc1;omega
 refine AW.exit ?_;refine B1 (Ri (Aa (Qp Aq (Rb ?_))));refine Qr (Iq _) ?_;have h2:=hR.2;rw [Q8 hk] at h2;rw [h2];rfl
theorem c41 (s:Ag)(hl:s.length<=1048576)(f:Nat)(p:UInt8->Bool)(hf:Xq Tryz.prog f=true)(hp:∀c,An Tryz.prog f [.int .u8 (c.toNat:Int)] (.bool (p c))):An Tryz.prog 143 [.sl 1 (Dr s),.fn (.func f) [] []] (.bool (decide (0<=Lb p s))):=by
 refine Fb 9 Tryz.func143 rfl fun H=>?_
 refine Aa (Qp Bc (B7 (Qp K7 (Qp (A1 (v:=.fn _ _ _) rfl) (Qp (Qc rfl (c64 s hl f p hf hp)) (Qp Kv (Qp Bc (Rb (Qr (.bool _) ?_)))))))));rfl
theorem c32 (s:Ag)(hl:s.length<=1048576)(h0:0<s.length):An Tryz.prog 221 [.str s] (.int .i64 (Kl s)):=by
 refine Fb 14 Tryz.func221 rfl fun H=>?_
 refine Aa (Qp Aq (Re (AW.block (Aa (Qp H7 ?_)))));refine Qp (C4 tok rfl rfl rfl rfl (by omega) (Jl (i:=0) h0)) ?_;refine Qp Bl (Qp Bc (Bh (fun hc1=>Aa (Qp H7 ?_)) fun hc1=>Aa (Qp H7 ?_)))
 .
  refine Qp (Qc rfl (c38 s hl 274 lineS (by kernel_rfl) c52)) ?_;refine Qp Aq (Ra (Qr (Iq _) ?_));simp only [Ah,Kl];rw [if_pos hc1]
  done
 refine Qp (C4 tok rfl rfl rfl rfl (by omega) (Jl (i:=0) h0)) ?_;refine Qp (Qc rfl (k53 [32,9,13,10] _)) (Qp Kv (Qp Bc (Bh (fun hc2=>Aa (Qp Aq (Ra (Qr (Iq _) ?_)))) fun hc2=>Rf (Aa (Qp Aq (Rb (Qr (Iq _) ?_)))))))
 .
  simp only [Ah,Kl];rw [iN hc1];rw [if_pos hc2]
  done
 simp only [Ah,Kl];rw [iN hc1];rw [iN hc2]
 done
theorem lG (x:Int):0<=IntKind.u8.wrap x/\IntKind.u8.wrap x<=255:=by rw [IntKind.wrap_u8];omega
theorem wrap64_8 (x:Int):IntKind.i64.wrap (IntKind.u8.wrap x)=IntKind.u8.wrap x:=by
 have:=lG x;exact IntWalk.i64_in _ (by omega)
theorem dv_le (c:UInt8):0<=dvS c/\dvS c<=255:=lG _
theorem ne_len {s:Ag}{b:Bool}(h:((s == [])||b)=false):0<s.length:=by
 cases s with
 | nil=>simp at h
 | cons a r=>simp
theorem yP {s:Ag}{k:Nat}{n:Int}(h:k<s.length)(hc:decide (1099511627776<10*n+dvS (bt s k))=false):Jd (s.drop k) n=Jd (s.drop (k+1)) (10*n+dvS (bt s k)):=by
 rw [Tx h,Jd,if_neg (by simp [hc])]
theorem yQ {s:Ag}{k:Nat}{n:Int}(h:k<s.length)(hc:decide (1099511627776<10*n+dvS (bt s k))=true):Jd (s.drop k) n=(0,2):=by
 rw [Tx h,Jd,if_pos hc]
theorem c22 (s:Ag)(hl:s.length<=1048576):An Tryz.prog 142 [.str s] (.bool (Pk s)):=by
 refine Fb 16 Tryz.func142 rfl fun H=>?_
 refine Aa (Qp Bc (B7 (Qp H7 (Qp (Fh rfl rfl) (Qp Cc (Qg [] Qw H7 ?_))))));refine Qg [(6,_)] Qw (Qc rfl (k29 _ _ (by omega))) ?_;refine Qg [(7,_)] Qw Ix (Qp Ju (Qp Cc (Qg [] Qw H7 ?_)));refine Yh [(11,_)] Qw (fun hG=>lT rfl rfl rfl ((by simp [maxLen];omega))) ?_;refine Yh [(12,_)] Qw (fun hG=>lT rfl rfl rfl ((by simp [maxLen];omega))) ?_;refine Qg [(13,_)] Qw (Qc rfl (k29 _ _ (by simp [jJ]))) ?_;refine Qp Ju (Qp Bc (Rb (Qr (.bool _) ?_)));rfl
end Go.Proofs.YtckhoadldibflaaGreatDoor
