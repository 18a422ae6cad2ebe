/-
  Several texts in one: R1, EM7, EM8, EM9, Shelf, C, W1, W2, W3. No condition.
-/
import Derived.Test.YtckhoadldibflaaGreatDoorK02
import Derived.Shelf.Small.Strs
import Derived.Shelf.Strconv.Itoa0
import Derived.Shelf.Strconv.Itoa1
import Derived.Shelf.LaysM
import Derived.Shelf.Strconv.Itoa2
import Derived.Shelf.Strconv.Itoa3
import Derived.Shelf.Strings.Search1
import Derived.Shelf.Strings.Search2
import Derived.Shelf.Strings.Search3
import Derived.Shelf.Strings.Shaped
import Derived.Shelf.Strings.Prefix
import Derived.Test.YtckhoadldibflaaGreatDoorProg
import Derived.Test.YtckhoadldibflaaGreatDoorK01
import Derived.Test.YtckhoadldibflaaGreatDoorTab
import Derived.KernelRfl
set_option linter.unusedVariables false
set_option linter.unusedSimpArgs false
namespace Go.Proofs.YtckhoadldibflaaGreatDoor
open Go Go.Aw

structure Pt where
 op:Int
 args:List Pt
 type:Int
 var:Int
 scope:Int
 span:Int
 cond:Ex
def pt0:Pt:=⟨0,[],0,0,0,0,Ps⟩
mutual
def K8:Pt→List AV
 | ⟨o,asx,t,v,s,n,c⟩=>[.int .i64 o,.sl 14 (iL asx),.int .i64 t,.int .i64 v,.int .i64 s,.int .i64 n,.int .i64 c.op,.sl 8 (c.args.map M2),.int .i64 c.var,.int .i64 c.field,.int .i64 c.kind,.int .i64 c.val.kind,.int .i64 c.val.num,.str c.val.text]
def iL:List Pt→List (List AV)
 | []=>[]
 | a::r=>K8 a::iL r
end
@[reducible] def cPt (p : Pt) : List AV := [.int .i64 p.op, .sl 14 (p.args.map K8), .int .i64 p.type, .int .i64 p.var, .int .i64 p.scope, .int .i64 p.span, .int .i64 p.cond.op, .sl 8 (p.cond.args.map M2), .int .i64 p.cond.var, .int .i64 p.cond.field, .int .i64 p.cond.kind, .int .i64 p.cond.val.kind, .int .i64 p.cond.val.num, .str p.cond.val.text]
theorem cJ:∀l:List Pt,iL l=l.map K8
 | []=>by rw [iL,Di]
 | a::r=>by rw [iL,cJ r,E7]
theorem Ok (p:Pt):K8 p=cPt p:=by
 cases p;rw [K8,cJ]
mutual
def Gr:Pt→Nat
 | ⟨_,asx,_,_,_,_,_⟩=>zF asx+1
def zF:List Pt→Nat
 | []=>0
 | a::r=>Gr a+zF r
end
theorem jB:∀l:List Pt,zF l=(l.map Gr).sum
 | []=>by rw [zF];rfl
 | a::r=>by rw [zF,jB r,E7,J3]
theorem Ix (p:Pt):Gr p=(p.args.map Gr).sum+1:=by cases p;rw [Gr,jB]
theorem Pt.ind {Q:Pt→Prop}(h:∀e,(∀a∈e.args,Q a)→Q e):∀e,Q e:=by
  have key:∀n e,Gr e≤n→Q e:=by
    intro n
    induction n with
    | zero=>intro e he;rw [Ix] at he;omega
    | succ n ih=>
      intro e he;refine h e fun a ha=>ih a ?_
      rw [Ix] at he
      have:∀l:List Pt,a∈l→Gr a≤(l.map Gr).sum:=by
        intro l
        induction l with
        | nil=>intro h;cases h
        | cons x r ih2=>
          intro h;rw [E7,J3];rcases Hp.1 h with rfl | h
          · omega
          have:=ih2 h;omega
      have:=this _ ha;omega
  exact fun e=>key _ e (C6 _)

structure Fa where
 pos:Int
 err:Int
def Mt:Fa:=⟨0,0⟩
def Pz (f:Fa):List AV:=[.int .i64 f.pos,.int .i64 f.err]
def La (f:Syn→Fa):List Syn→Fa
 | []=>Mt
 | x::r=>if ((f x).err != 0) then f x else La f r

mutual
def Hj:Syn→List Syn
 | ⟨k,x,n,m,kids,p⟩=>if (k==5) then [⟨k,x,n,m,kids,p⟩] else if (k==10) then kids.getD 1 Oy::qE kids else if (k==12) then qE kids else evL kids
def qE:List Syn→List Syn
 | []=>[]
 | x::_=>Hj x
def evL:List Syn→List Syn
 | []=>[]
 | x::r=>Hj x++evL r
end
theorem qI:∀l:List Syn,evL l=l.flatMap Hj
 | []=>by rw [evL];rfl
 | x::r=>by rw [evL,qI r,bL]
theorem eN {l:List Syn}(h:0<l.length):qE l=Hj (l.getD 0 Oy):=by
 cases l with
 | nil=>simp at h
 | cons x r=>rw [qE];rfl
theorem M5 (t:Syn):Hj t=if (t.kind==5) then [t] else if (t.kind==10) then Bb t 1::qE t.kids else if (t.kind==12) then qE t.kids else t.kids.flatMap Hj:=by
 cases t;rw [Hj,qI];rfl

abbrev G8 (T:List e8Sc):List A1:=T.map (·.name)
abbrev Fq (V:List Va):List A1:=V.map (·.name)
def M4 (l:List A1)(n:A1):Int:=if l.contains n then ((l.idxOf n:Nat):Int) else 0
def Hy (T:List e8Sc)(V:List Va)(t:Syn):Int:=
 if ((V.length:Int)==16) then 5 else if !((G8 T).contains t.text) then 8 else if (Fq V).contains t.name then 7 else 0
def Ki (T:List e8Sc)(t:Syn):Va:=⟨t.name,M4 (G8 T) t.text⟩
def K1 (T:List e8Sc):List Va→List Syn→List Va×Fa
 | V,[]=>(V,Mt)
 | V,t::r=>if (Hy T V t != 0) then (V,⟨t.pos,Hy T V t⟩) else K1 T (V ++ [Ki T t]) r
def Gj (s:e8Sc)(n:A1):Int:=B4 (s.fields.map (·.name)) n
def nL (T:List e8Sc)(V:List Va)(v:Int):e8Sc:=(T[((V[v.toNat]?).getD va0).type.toNat]?).getD sc0

def W0 (T:List e8Sc)(n:A1):List Va→List Int→List Int×Bool
 | [],out=>(out,true)
 | v::r,out=>if decide (Gj ((T[v.type.toNat]?).getD sc0) n<0) then ([],false) else W0 T n r (out.set v.type.toNat (Gj ((T[v.type.toNat]?).getD sc0) n))
def X1 (T:List e8Sc)(V:List Va)(n:A1):List Int×Bool:=W0 T n V (List.replicate T.length (-1))

section
variable (T:List e8Sc) (V:List Va)
def Hn (t:Syn):Fa:=
 if ((t.kind != 14)&&(t.kind != 15))&&(t.kind != 16) then Mt
 else if !((Fq V).contains t.text) then ⟨t.pos,8⟩
 else if (t.kind==15)||((t.kind==14)&&(t.name==E6)) then Mt
 else if decide (Gj (nL T V (M4 (Fq V) t.text)) t.name<0) then ⟨t.pos,6⟩
 else Mt
mutual
def D0:Syn→Fa
 | ⟨k,x,n,m,kids,p⟩=>if ((Hn T V ⟨k,x,n,m,kids,p⟩).err != 0) then Hn T V ⟨k,x,n,m,kids,p⟩ else kE kids
def kE:List Syn→Fa
 | []=>Mt
 | x::r=>if ((D0 x).err != 0) then D0 x else kE r
end
theorem Yz:∀l:List Syn,kE T V l=La (D0 T V) l
 | []=>by rw [kE,La]
 | x::r=>by rw [kE,La,Yz r]
theorem Zp (t:Syn):D0 T V t=if ((Hn T V t).err != 0) then Hn T V t else La (D0 T V) t.kids:=by
 cases t;rw [D0,Yz]

def Wo (t:Syn):Vl:=if (t.name==Fy) then ⟨1,t.num,[]⟩ else if (t.name==Ee) then ⟨2,0,t.text⟩ else ⟨0,t.num,[]⟩
def Ng (t:Syn)(asx:List Ex):Ex:=
 if (t.kind==13) then ⟨0,[],0,0,0,Wo t⟩
 else if (t.kind==14) then if (t.name==E6) then ⟨2,[],M4 (Fq V) t.text,0,0,v0⟩ else ⟨1,[],M4 (Fq V) t.text,Gj (nL T V (M4 (Fq V) t.text)) t.name,0,v0⟩
 else if (t.kind==15) then ⟨3,[],M4 (Fq V) t.text,0,0,v0⟩
 else if (t.kind==16) then ⟨4,[],M4 (Fq V) t.text,Gj (nL T V (M4 (Fq V) t.text)) t.name,t.num,if decide ((0:Int)<(t.kids.length:Int)) then Wo (Bb t 0) else v0⟩
 else if (t.kind==18) then ⟨12,asx,0,0,0,v0⟩
 else ⟨t.num,asx,0,0,0,v0⟩
mutual
def Ds:Syn→Ex
 | ⟨k,x,n,m,kids,p⟩=>Ng T V ⟨k,x,n,m,kids,p⟩ (kS kids)
def kS:List Syn→List Ex
 | []=>[]
 | x::r=>Ds x::kS r
end
theorem cB:∀l:List Syn,kS T V l=l.map (Ds T V)
 | []=>by rw [kS,Di]
 | x::r=>by rw [kS,cB r,E7]
theorem Fe (t:Syn):Ds T V t=Ng T V t (t.kids.map (Ds T V)):=by cases t;rw [Ds,cB]

def P9:Ex:=⟨0,[],0,0,0,⟨1,1,[]⟩⟩
def H7 (t:Syn):Ex:=if decide ((0:Int)<(t.kids.length:Int)) then Ds T V (Bb t 0) else P9
structure Nx where
 next:Int
 scopes:Int
def Nf (t:Syn)(s:Nx)(asx:List Pt):Pt:=
 if (t.kind==5) then ⟨0,asx,M4 (G8 T) t.text,s.next,0,0,H7 T V t⟩
 else if (t.kind==10) then ⟨5,asx,M4 (G8 T) (Bb t 1).text,s.next,s.scopes,0,H7 T V (Bb t 1)⟩
 else if (t.kind==11) then ⟨6,asx,0,0,s.scopes,t.num,Ps⟩
 else if (t.kind==12) then ⟨7,asx,0,0,0,0,Ds T V (Bb t 1)⟩
 else ⟨t.kind-5,asx,0,0,0,0,Ps⟩
def Wd (t:Syn)(s:Nx):Nx:=⟨if (t.kind==5)||(t.kind==10) then s.next+1 else s.next,if (t.kind==10)||(t.kind==11) then s.scopes+1 else s.scopes⟩
mutual
def Ih:Syn→Nx→Pt×Nx
  | ⟨k,x,n,m,kids,p⟩,s=>
    if (k==5) then (Nf T V ⟨k,x,n,m,kids,p⟩ s [],Wd ⟨k,x,n,m,kids,p⟩ s)
    else if (k==10)||(k==12) then (Nf T V ⟨k,x,n,m,kids,p⟩ s (xT kids (Wd ⟨k,x,n,m,kids,p⟩ s)).1,(xT kids (Wd ⟨k,x,n,m,kids,p⟩ s)).2)
    else (Nf T V ⟨k,x,n,m,kids,p⟩ s (F0 kids (Wd ⟨k,x,n,m,kids,p⟩ s)).1,(F0 kids (Wd ⟨k,x,n,m,kids,p⟩ s)).2)
def xT:List Syn→Nx→List Pt×Nx
 | [],s=>([],s)
 | x::_,s=>([(Ih x s).1],(Ih x s).2)
def F0:List Syn→Nx→List Pt×Nx
 | [],s=>([],s)
 | x::r,s=>((Ih x s).1::(F0 r (Ih x s).2).1,(F0 r (Ih x s).2).2)
end
def C1 (t:Syn):List Syn:=if (t.kind==5) then [] else if (t.kind==10)||(t.kind==12) then t.kids.take 1 else t.kids
theorem sV:∀(l:List Syn) (s:Nx),xT T V l s=F0 T V (l.take 1) s
 | [],s=>by rw [xT,List.take_nil,F0]
 | x::r,s=>by rw [xT,lE,hJ,F0,F0]
theorem eW (t:Syn)(s:Nx):Ih T V t s=(Nf T V t s (F0 T V (C1 t) (Wd t s)).1,(F0 T V (C1 t) (Wd t s)).2):=by
  cases t with | mk k x n m kids p=>
  rw [Ih];unfold C1;cases h1:(k==5) with
  | true=>simp only [h1,if_true];rw [F0]
  | false=>
    simp only [h1,B0,if_false];cases h2:(k==10)||(k==12) with
    | true=>simp only [h2,if_true];rw [sV]
    | false=>simp only [h2,B0,if_false]
theorem iF:∀(l r:List Syn) (s:Nx),F0 T V (l++r) s=((F0 T V l s).1++(F0 T V r (F0 T V l s).2).1,(F0 T V r (F0 T V l s).2).2)
 | [],r,s=>by rw [J4,F0];rfl
 | x::l,r,s=>by rw [Kv,F0,iF l r,F0];rfl
end


inductive Fd (f:Ex→Ex):Ex→Prop where
 | mk (e:Ex) (ha:∀a∈e.args,Fd f a) (h:f e=e):Fd f e
def okB (v:Vl):Prop:=v.kind=1→v=Ru (v.num==1)

def ownS (e:Ex):List Nat:=if (Hc e.op).1&&decide (0≤e.var)&&decide (e.var<16) then [e.var.toNat] else []
mutual
def usedS:Ex→List Nat
 | ⟨op,args,var,field,kind,val⟩=>ownS ⟨op,args,var,field,kind,val⟩++usedL args
def usedL:List Ex→List Nat
 | []=>[]
 | e::r=>usedS e++usedL r
end
def cSeen (S:List Nat):List AV:=(List.range 16).map fun v=>.bool (S.contains v)
theorem seen_len (S:List Nat):(cSeen S).length=16:=rfl
def uptoS (S:List Nat)(k:Nat):List Int:=((List.range k).filter fun v=>S.contains v).map fun (v:Nat)=>(v:Int)
theorem upto_zero (S:List Nat):uptoS S 0 = []:=rfl
def varsS (e:Ex):List Int:=uptoS (usedS e) 16


def tvS (n b v:Nat):Int:=((v:Int)+(b:Int)).tmod (n:Int)
def toS (n b:Nat):List Int:=(List.range n).map (tvS n b)
end Go.Proofs.YtckhoadldibflaaGreatDoor

namespace Go.Proofs
open Go.Shelf
def Tryz.lays137_ren:Go.Shelf.Ren:=⟨fun | 137=>275 | 217=>301 | 266=>314 | n=>n,fun | 9=>9 | 5=>5 | 3=>3 | n=>n,fun | n=>n⟩
theorem Tryz.lays137:Go.Proofs.Lays.n137 Tryz.prog Tryz.lays137_ren:={
 mixed:=by kernel_rfl
 f137:=Tryz.func275.trans (congrArg some (by kernel_rfl))
 f217:=Tryz.func301.trans (congrArg some (by kernel_rfl))
 f266:=Tryz.func314.trans (congrArg some (by kernel_rfl))
 t3:=Tryz.underlying3
 a3:=Tryz.isAgg3
 z3:=Tryz.sizeOf3
 v3:=Tryz.zeroValue3
 t5:=Tryz.underlying5
 a5:=Tryz.isAgg5
 z5:=Tryz.sizeOf5
 v5:=Tryz.zeroValue5
 t9:=Tryz.underlying9
 a9:=Tryz.isAgg9
 z9:=Tryz.sizeOf9
 v9:=Tryz.zeroValue9 }
open Go.RowKit in
theorem Tryz.strings_IndexByte (s:ByteArray)(c:Int)(w:World) :
 Calls Tryz.prog 275 #[.string s,.int .u8 c] w fun e w'=>e = .returned (.int .i64 (Lib.indexByte s.data.toList c.toNat.toUInt8))∧w'=w:=Any.strings_IndexByte Tryz.lays137 s c w
def Tryz.lays129_ren:Go.Shelf.Ren:=⟨fun | 129=>324 | n=>n,fun | 53=>298 | 3=>3 | 4=>4 | 46=>271 | 5=>5 | 9=>9 | n=>n,fun | n=>n⟩
def Tryz.lays317_ren:Go.Shelf.Ren:=⟨fun | 317=>323 | n=>n,fun | 3=>3 | 46=>271 | n=>n,fun | n=>n⟩
def Tryz.lays318_ren:Go.Shelf.Ren:=⟨fun | 318=>325 | n=>n,fun | 3=>3 | 4=>4 | n=>n,fun | n=>n⟩
def Tryz.lays283_ren:Go.Shelf.Ren:=⟨fun | 283=>318 | n=>n,fun | 3=>3 | 9=>9 | 4=>4 | n=>n,fun | n=>n⟩
def Tryz.laysM284_ren:Go.Shelf.Ren:=⟨fun | 284=>319 | 129=>324 | 317=>323 | 318=>325 | n=>n,fun | 53=>298 | 3=>3 | 212=>318 | 0=>0 | 4=>4 | 46=>271 | 5=>5 | 9=>9 | n=>n,fun | 17=>7 | n=>n⟩
def Tryz.lays285_ren:Go.Shelf.Ren:=⟨fun | 285=>320 | n=>n,fun | 37=>205 | 53=>298 | 3=>3 | 4=>4 | 51=>295 | 9=>9 | 5=>5 | 0=>0 | n=>n,fun | n=>n⟩
def Tryz.laysM246_ren:Go.Shelf.Ren:=⟨fun | 246=>313 | 283=>318 | 284=>319 | 285=>320 | 286=>321 | 129=>324 | 317=>323 | 318=>325 | 319=>326 | 320=>327 | 337=>331 | 338=>332 | n=>n,fun | 2=>2 | 3=>3 | 9=>9 | 4=>4 | 171=>311 | 0=>0 | 53=>298 | 37=>205 | 5=>5 | 173=>314 | 212=>318 | 51=>295 | 20=>20 | 213=>319 | 46=>271 | 232=>323 | 233=>324 | n=>n,fun | 17=>7 | 18=>9 | 19=>10 | n=>n⟩
def Tryz.lays246_ren:Go.Shelf.Ren:=⟨fun | 246=>313 | 283=>318 | 284=>319 | 285=>320 | 286=>321 | 129=>324 | 317=>323 | 318=>325 | 319=>326 | 320=>327 | 337=>331 | 338=>332 | n=>n,fun | 2=>2 | 3=>3 | 9=>9 | 4=>4 | 171=>311 | 0=>0 | 53=>298 | 37=>205 | 5=>5 | 173=>314 | 212=>318 | 51=>295 | 20=>20 | 213=>319 | 46=>271 | 232=>323 | 233=>324 | n=>n,fun | 17=>7 | 18=>9 | 19=>10 | n=>n⟩
def Tryz.laysM243_ren:Go.Shelf.Ren:=⟨fun | 243=>299 | 246=>313 | 283=>318 | 284=>319 | 285=>320 | 286=>321 | 129=>324 | 317=>323 | 318=>325 | 319=>326 | 320=>327 | 337=>331 | 338=>332 | n=>n,fun | 3=>3 | 9=>9 | 2=>2 | 4=>4 | 171=>311 | 0=>0 | 53=>298 | 37=>205 | 5=>5 | 173=>314 | 212=>318 | 51=>295 | 20=>20 | 213=>319 | 46=>271 | 232=>323 | 233=>324 | n=>n,fun | 17=>7 | 18=>9 | 19=>10 | n=>n⟩
def Tryz.lays243_ren:Go.Shelf.Ren:=⟨fun | 243=>299 | 246=>313 | 283=>318 | 284=>319 | 285=>320 | 286=>321 | 129=>324 | 317=>323 | 318=>325 | 319=>326 | 320=>327 | 337=>331 | 338=>332 | n=>n,fun | 3=>3 | 9=>9 | 2=>2 | 4=>4 | 171=>311 | 0=>0 | 53=>298 | 37=>205 | 5=>5 | 173=>314 | 212=>318 | 51=>295 | 20=>20 | 213=>319 | 46=>271 | 232=>323 | 233=>324 | n=>n,fun | 17=>7 | 18=>9 | 19=>10 | n=>n⟩
def Tryz.laysM171_ren:Go.Shelf.Ren:=⟨fun | 171=>270 | 243=>299 | 246=>313 | 283=>318 | 284=>319 | 285=>320 | 286=>321 | 129=>324 | 317=>323 | 318=>325 | 319=>326 | 320=>327 | 337=>331 | 338=>332 | n=>n,fun | 3=>3 | 9=>9 | 2=>2 | 4=>4 | 171=>311 | 0=>0 | 53=>298 | 37=>205 | 5=>5 | 173=>314 | 212=>318 | 51=>295 | 20=>20 | 213=>319 | 46=>271 | 232=>323 | 233=>324 | n=>n,fun | 17=>7 | 18=>9 | 19=>10 | n=>n⟩
theorem Tryz.laysM171:Go.Proofs.LaysM.n171 Tryz.prog Tryz.laysM171_ren:={
 mixed:=by kernel_rfl
 f129:=Tryz.func324.trans (congrArg some (by kernel_rfl))
 f171:=Tryz.func270.trans (congrArg some (by kernel_rfl))
 f243:=Tryz.func299.trans (congrArg some (by kernel_rfl))
 f246:=Tryz.func313.trans (congrArg some (by kernel_rfl))
 f283:=Tryz.func318.trans (congrArg some (by kernel_rfl))
 f284:=Tryz.func319.trans (congrArg some (by kernel_rfl))
 f285:=Tryz.func320.trans (congrArg some (by kernel_rfl))
 f286:=Tryz.func321.trans (congrArg some (by kernel_rfl))
 f317:=Tryz.func323.trans (congrArg some (by kernel_rfl))
 f318:=Tryz.func325.trans (congrArg some (by kernel_rfl))
 f319:=Tryz.func326.trans (congrArg some (by kernel_rfl))
 f320:=Tryz.func327.trans (congrArg some (by kernel_rfl))
 f337:=Tryz.func331.trans (congrArg some (by kernel_rfl))
 f338:=Tryz.func332.trans (congrArg some (by kernel_rfl))
 t0:=Tryz.underlying0
 a0:=Tryz.isAgg0
 z0:=Tryz.sizeOf0
 v0:=Tryz.zeroValue0
 t2:=Tryz.underlying2
 a2:=Tryz.isAgg2
 z2:=Tryz.sizeOf2
 v2:=Tryz.zeroValue2
 t3:=Tryz.underlying3
 a3:=Tryz.isAgg3
 z3:=Tryz.sizeOf3
 v3:=Tryz.zeroValue3
 t4:=Tryz.underlying4
 a4:=Tryz.isAgg4
 z4:=Tryz.sizeOf4
 v4:=Tryz.zeroValue4
 t5:=Tryz.underlying5
 a5:=Tryz.isAgg5
 z5:=Tryz.sizeOf5
 v5:=Tryz.zeroValue5
 t9:=Tryz.underlying9
 a9:=Tryz.isAgg9
 z9:=Tryz.sizeOf9
 v9:=Tryz.zeroValue9
 t20:=Tryz.underlying20
 a20:=Tryz.isAgg20
 z20:=Tryz.sizeOf20
 v20:=Tryz.zeroValue20
 t37:=Tryz.underlying205
 a37:=Tryz.isAgg205
 z37:=Tryz.sizeOf205
 v37:=Tryz.zeroValue205
 t46:=Tryz.underlying271
 a46:=Tryz.isAgg271
 z46:=Tryz.sizeOf271
 v46:=Tryz.zeroValue271
 t51:=Tryz.underlying295
 a51:=Tryz.isAgg295
 z51:=Tryz.sizeOf295
 v51:=Tryz.zeroValue295
 t53:=Tryz.underlying298
 a53:=Tryz.isAgg298
 z53:=Tryz.sizeOf298
 v53:=Tryz.zeroValue298
 t171:=Tryz.underlying311
 a171:=Tryz.isAgg311
 z171:=Tryz.sizeOf311
 v171:=Tryz.zeroValue311
 t173:=Tryz.underlying314
 a173:=Tryz.isAgg314
 z173:=Tryz.sizeOf314
 v173:=Tryz.zeroValue314
 t212:=Tryz.underlying318
 a212:=Tryz.isAgg318
 z212:=Tryz.sizeOf318
 v212:=Tryz.zeroValue318
 t213:=Tryz.underlying319
 a213:=Tryz.isAgg319
 z213:=Tryz.sizeOf319
 t232:=Tryz.underlying323
 a232:=Tryz.isAgg323
 z232:=Tryz.sizeOf323
 v232:=Tryz.zeroValue323
 t233:=Tryz.underlying324
 a233:=Tryz.isAgg324
 z233:=Tryz.sizeOf324
 v233:=Tryz.zeroValue324
 g17:=by kernel_rfl
 g18:=by kernel_rfl
 g19:=by kernel_rfl
 i0:=by kernel_rfl
 i2:=by kernel_rfl
 i3:=by kernel_rfl
 i4:=by kernel_rfl
 i5:=by kernel_rfl
 i9:=by kernel_rfl
 i20:=by kernel_rfl
 i37:=by kernel_rfl
 i46:=by kernel_rfl
 i51:=by kernel_rfl
 i53:=by kernel_rfl
 i171:=by kernel_rfl
 i173:=by kernel_rfl
 i212:=by kernel_rfl
 i232:=by kernel_rfl
 i233:=by kernel_rfl
 m17:=by kernel_rfl
 m18:=by kernel_rfl
 m19:=by kernel_rfl }
open Go.RowKit Go.Sort Go.Lib in
theorem Tryz.strconv_Itoa (n : Int) (h0 : -9223372036854775808 ≤ n) (h1 : n ≤ 9223372036854775807) (w : World) (htab : Lib.TabIs Tryz.prog w "internal/strconv.uint64pow10" .u64 Lib.pow10Tab) :
 Calls Tryz.prog 270 #[.int .i64 n] w fun e w'=>e = .returned (.string ⟨(Lib.itoa n).toArray⟩)∧∃k os,w'=grow (w.drewN k) os:=Any.strconv_Itoa Tryz.laysM171 n h0 h1 w htab
def Tryz.lays171_ren:Go.Shelf.Ren:=⟨fun | 171=>270 | 243=>299 | 246=>313 | 283=>318 | 284=>319 | 285=>320 | 286=>321 | 129=>324 | 317=>323 | 318=>325 | 319=>326 | 320=>327 | 337=>331 | 338=>332 | n=>n,fun | 3=>3 | 9=>9 | 2=>2 | 4=>4 | 171=>311 | 0=>0 | 53=>298 | 37=>205 | 5=>5 | 173=>314 | 212=>318 | 51=>295 | 20=>20 | 213=>319 | 46=>271 | 232=>323 | 233=>324 | n=>n,fun | 17=>7 | 18=>9 | 19=>10 | n=>n⟩
def Tryz.lays217_ren:Go.Shelf.Ren:=⟨fun | 217=>301 | 266=>314 | n=>n,fun | 9=>9 | 5=>5 | 3=>3 | n=>n,fun | n=>n⟩
def Tryz.lays224_ren:Go.Shelf.Ren:=⟨fun | 224=>310 | n=>n,fun | 3=>3 | n=>n,fun | n=>n⟩
def Tryz.lays314_ren:Go.Shelf.Ren:=⟨fun | 314=>317 | n=>n,fun | 9=>9 | 51=>295 | 3=>3 | 4=>4 | 5=>5 | 46=>271 | n=>n,fun | n=>n⟩
def Tryz.lays267_ren:Go.Shelf.Ren:=⟨fun | 267=>311 | 314=>317 | n=>n,fun | 9=>9 | 3=>3 | 146=>296 | 51=>295 | 4=>4 | 5=>5 | 46=>271 | n=>n,fun | n=>n⟩
def Tryz.lays219_ren:Go.Shelf.Ren:=⟨fun | 219=>297 | 217=>301 | 225=>309 | 224=>310 | 267=>311 | 266=>314 | 314=>317 | n=>n,fun | 9=>9 | 3=>3 | 4=>4 | 5=>5 | 46=>271 | 146=>296 | 51=>295 | n=>n,fun | 1=>5 | n=>n⟩
def Tryz.lays143_ren:Go.Shelf.Ren:=⟨fun | 143=>261 | 219=>297 | 217=>301 | 225=>309 | 224=>310 | 267=>311 | 266=>314 | 314=>317 | n=>n,fun | 9=>9 | 3=>3 | 4=>4 | 5=>5 | 46=>271 | 146=>296 | 51=>295 | n=>n,fun | 1=>5 | n=>n⟩
def Tryz.lays144_ren:Go.Shelf.Ren:=⟨fun | 144=>199 | 143=>261 | 219=>297 | 217=>301 | 225=>309 | 224=>310 | 267=>311 | 266=>314 | 314=>317 | n=>n,fun | 9=>9 | 4=>4 | 3=>3 | 5=>5 | 46=>271 | 146=>296 | 51=>295 | n=>n,fun | 1=>5 | n=>n⟩
theorem Tryz.lays144:Go.Proofs.Lays.n144 Tryz.prog Tryz.lays144_ren:={
 mixed:=by kernel_rfl
 f143:=Tryz.func261.trans (congrArg some (by kernel_rfl))
 f144:=Tryz.func199.trans (congrArg some (by kernel_rfl))
 f217:=Tryz.func301.trans (congrArg some (by kernel_rfl))
 f219:=Tryz.func297.trans (congrArg some (by kernel_rfl))
 f224:=Tryz.func310.trans (congrArg some (by kernel_rfl))
 f225:=Tryz.func309.trans (congrArg some (by kernel_rfl))
 f266:=Tryz.func314.trans (congrArg some (by kernel_rfl))
 f267:=Tryz.func311.trans (congrArg some (by kernel_rfl))
 f314:=Tryz.func317.trans (congrArg some (by kernel_rfl))
 t3:=Tryz.underlying3
 a3:=Tryz.isAgg3
 z3:=Tryz.sizeOf3
 v3:=Tryz.zeroValue3
 t4:=Tryz.underlying4
 a4:=Tryz.isAgg4
 z4:=Tryz.sizeOf4
 v4:=Tryz.zeroValue4
 t5:=Tryz.underlying5
 a5:=Tryz.isAgg5
 z5:=Tryz.sizeOf5
 v5:=Tryz.zeroValue5
 t9:=Tryz.underlying9
 a9:=Tryz.isAgg9
 z9:=Tryz.sizeOf9
 v9:=Tryz.zeroValue9
 t46:=Tryz.underlying271
 a46:=Tryz.isAgg271
 z46:=Tryz.sizeOf271
 v46:=Tryz.zeroValue271
 t51:=Tryz.underlying295
 a51:=Tryz.isAgg295
 z51:=Tryz.sizeOf295
 v51:=Tryz.zeroValue295
 t146:=Tryz.underlying296
 a146:=Tryz.isAgg296
 z146:=Tryz.sizeOf296
 v146:=Tryz.zeroValue296
 g1:=by kernel_rfl }
open Go.RowKit Go.Lib in
theorem Tryz.strings_Contains (s sub:ByteArray)(m:Int)(w:World)(hs:s.size<4294967281)(hm:w.cell? ⟨5,0,none⟩=some (.int .i64 m)) :
 Calls Tryz.prog 199 #[.string s,.string sub] w fun e w'=>e = .returned (.bool (Lib.contains s.data.toList sub.data.toList))∧w'=w:=Any.strings_Contains Tryz.lays144 s sub m w hs hm
def Tryz.laysM219_ren:Go.Shelf.Ren:=⟨fun | 219=>297 | 217=>301 | 225=>309 | 224=>310 | 267=>311 | 266=>314 | 314=>317 | n=>n,fun | 9=>9 | 3=>3 | 4=>4 | 5=>5 | 46=>271 | 146=>296 | 51=>295 | n=>n,fun | 1=>5 | n=>n⟩
def Tryz.laysM143_ren:Go.Shelf.Ren:=⟨fun | 143=>261 | 219=>297 | 217=>301 | 225=>309 | 224=>310 | 267=>311 | 266=>314 | 314=>317 | n=>n,fun | 9=>9 | 3=>3 | 4=>4 | 5=>5 | 46=>271 | 146=>296 | 51=>295 | n=>n,fun | 1=>5 | n=>n⟩
def Tryz.laysM144_ren:Go.Shelf.Ren:=⟨fun | 144=>199 | 143=>261 | 219=>297 | 217=>301 | 225=>309 | 224=>310 | 267=>311 | 266=>314 | 314=>317 | n=>n,fun | 9=>9 | 4=>4 | 3=>3 | 5=>5 | 46=>271 | 146=>296 | 51=>295 | n=>n,fun | 1=>5 | n=>n⟩
theorem Tryz.laysM144:Go.Proofs.LaysM.n144 Tryz.prog Tryz.laysM144_ren:={
 mixed:=by kernel_rfl
 f143:=Tryz.func261.trans (congrArg some (by kernel_rfl))
 f144:=Tryz.func199.trans (congrArg some (by kernel_rfl))
 f217:=Tryz.func301.trans (congrArg some (by kernel_rfl))
 f219:=Tryz.func297.trans (congrArg some (by kernel_rfl))
 f224:=Tryz.func310.trans (congrArg some (by kernel_rfl))
 f225:=Tryz.func309.trans (congrArg some (by kernel_rfl))
 f266:=Tryz.func314.trans (congrArg some (by kernel_rfl))
 f267:=Tryz.func311.trans (congrArg some (by kernel_rfl))
 f314:=Tryz.func317.trans (congrArg some (by kernel_rfl))
 t3:=Tryz.underlying3
 a3:=Tryz.isAgg3
 z3:=Tryz.sizeOf3
 v3:=Tryz.zeroValue3
 t4:=Tryz.underlying4
 a4:=Tryz.isAgg4
 z4:=Tryz.sizeOf4
 v4:=Tryz.zeroValue4
 t5:=Tryz.underlying5
 a5:=Tryz.isAgg5
 z5:=Tryz.sizeOf5
 v5:=Tryz.zeroValue5
 t9:=Tryz.underlying9
 a9:=Tryz.isAgg9
 z9:=Tryz.sizeOf9
 v9:=Tryz.zeroValue9
 t46:=Tryz.underlying271
 a46:=Tryz.isAgg271
 z46:=Tryz.sizeOf271
 v46:=Tryz.zeroValue271
 t51:=Tryz.underlying295
 a51:=Tryz.isAgg295
 z51:=Tryz.sizeOf295
 v51:=Tryz.zeroValue295
 t146:=Tryz.underlying296
 a146:=Tryz.isAgg296
 z146:=Tryz.sizeOf296
 v146:=Tryz.zeroValue296
 g1:=by kernel_rfl
 i3:=by kernel_rfl
 i4:=by kernel_rfl
 i5:=by kernel_rfl
 i9:=by kernel_rfl
 i46:=by kernel_rfl
 i51:=by kernel_rfl
 i146:=by kernel_rfl
 m1:=by kernel_rfl
 s1_3:=fun w h=>Go.Proofs.cell_of_shapedOpen_int (zero:=#[.int .i64 0]) (t:=3) h (of_decide_eq_true (by kernel_rfl)) (by kernel_rfl) rfl (by kernel_rfl) (by kernel_rfl) Tryz.underlying3 }
def Tryz.lays206_ren:Go.Shelf.Ren:=⟨fun | 206=>315 | n=>n,fun | 9=>9 | 4=>4 | 3=>3 | n=>n,fun | n=>n⟩
def Tryz.lays99_ren:Go.Shelf.Ren:=⟨fun | 99=>305 | 206=>315 | n=>n,fun | 9=>9 | 4=>4 | 3=>3 | n=>n,fun | n=>n⟩
theorem Tryz.lays99:Go.Proofs.Lays.n99 Tryz.prog Tryz.lays99_ren:={
 mixed:=by kernel_rfl
 f99:=Tryz.func305.trans (congrArg some (by kernel_rfl))
 f206:=Tryz.func315.trans (congrArg some (by kernel_rfl))
 t3:=Tryz.underlying3
 a3:=Tryz.isAgg3
 z3:=Tryz.sizeOf3
 v3:=Tryz.zeroValue3
 t4:=Tryz.underlying4
 a4:=Tryz.isAgg4
 z4:=Tryz.sizeOf4
 v4:=Tryz.zeroValue4
 t9:=Tryz.underlying9
 a9:=Tryz.isAgg9
 z9:=Tryz.sizeOf9
 v9:=Tryz.zeroValue9 }
open Go.RowKit Go.Lib in
theorem Tryz.strings_HasPrefix (s p:ByteArray)(w:World) :
 Calls Tryz.prog 305 #[.string s,.string p] w fun e w'=>e = .returned (.bool (Lib.hasPrefix s.data.toList p.data.toList))∧w'=w:=Any.strings_HasPrefix Tryz.lays99 s p w
end Go.Proofs

namespace Go.Proofs.YtckhoadldibflaaGreatDoor
open Go Go.Aw

theorem ba_size (s:A1):(⟨s.toArray⟩:ByteArray).size=s.length:=by simp [ByteArray.size]

theorem k53 (s:A1)(c:UInt8):An Tryz.prog 275 [.str s,.int .u8 (c.toNat:Int)] (.int .i64 (Lib.indexByte s c)):=
 .of_same fun g w vs _ ha=>by
  obtain ⟨u,v,rfl,h1,h2⟩:=ha.inv2;have e1:=h1.inv_str.1;have e2:=h2.inv_int;subst e1 e2;refine ⟨.int .i64 (Lib.indexByte s c),fun _ _=>.int _ _,?_⟩;have:=Tryz.strings_IndexByte ⟨s.toArray⟩ (c.toNat:Int) w;simpa using this

theorem k29 (s p:A1)(hs:s.length<4294967281):An Tryz.prog 199 [.str s,.str p] (.bool (Lib.contains s p)):=
 .of_same fun g w vs hg ha=>by
  obtain ⟨u,v,rfl,h1,h2⟩:=ha.inv2;have e1:=h1.inv_str.1;have e2:=h2.inv_str.1;subst e1 e2;refine ⟨.bool (Lib.contains s p),fun _ _=>.bool _,?_⟩;obtain ⟨m,hm⟩:=hg.int (gl:=5) (k:=.i64) (by simp [globals]);exact Tryz.strings_Contains ⟨s.toArray⟩ ⟨p.toArray⟩ m w (by rw [ba_size];exact hs) hm

theorem k28 (s p:A1):An Tryz.prog 305 [.str s,.str p] (.bool (Lib.hasPrefix s p)):=
 .of_same fun g w vs hg ha=>by
  obtain ⟨u,v,rfl,h1,h2⟩:=ha.inv2;have e1:=h1.inv_str.1;have e2:=h2.inv_str.1;subst e1 e2;exact ⟨.bool (Lib.hasPrefix s p),fun _ _=>.bool _,Tryz.strings_HasPrefix ⟨s.toArray⟩ ⟨p.toArray⟩ w⟩

set_option maxHeartbeats 400000
set_option maxRecDepth 20000

theorem c39 (c:UInt8):An Tryz.prog 141 [.int .u8 (c.toNat:Int)] (.bool (Dz c)):=by
 refine An.body (n:=9) tok Tryz.func141 rfl rfl rfl fun H=>?_
 refine Ad (Qp Au (Bs (Qp (A0 (v:=.int .u8 _) rfl) (Qp Gb (Qp A9 (AOL.Aal (y:=.int .u8 _) _ [] rfl (uB.all trivial) (fun hG=>A0 (v:=.int .u8 _) rfl) rfl ?_))))));refine Qg [(6,_)] Qw Ox (Qp Ea (Qp Au (Rb (Qr (.bool _) ?_))));rfl
theorem c43 (c:UInt8):An Tryz.prog 145 [.int .u8 (c.toNat:Int)] (.bool (Hv c)):=by
 refine An.body (n:=21) tok Tryz.func145 rfl rfl rfl fun H=>?_
 refine Ad (Qp Au (Bs (Qp (A0 (v:=.int .u8 _) rfl) (Qp Ap (Qp A9 (AOL.Aal (y:=.int .u8 _) _ [] rfl (uB.all trivial) (fun hG=>A0 (v:=.int .u8 _) rfl) rfl ?_))))));refine Qg [(6,_)] Qw Gb (Qg [(7,_)] Qw A9 (AOL.Aal (y:=.int .u8 _) _ [] rfl (uB.all trivial) (fun hG=>A0 (v:=.int .u8 _) rfl) rfl ?_));refine Qg [(9,_)] Qw Ox (Qg [(8,_),(10,_)] Qw Ea (Qp Cf (Qp A9 (AOL.Aal (y:=.int .u8 _) _ [] rfl (uB.all trivial) (fun hG=>A0 (v:=.int .u8 _) rfl) rfl ?_))));refine Qg [(14,_)] Qw Gb (Qg [(15,_)] Qw A9 (AOL.Aal (y:=.int .u8 _) _ [] rfl (uB.all trivial) (fun hG=>A0 (v:=.int .u8 _) rfl) rfl ?_));refine Qg [(17,_)] Qw Ox (Qg [(16,_),(18,_)] Qw Ea (Qp Cf (Qp Au (Rb (Qr (.bool _) ?_)))));rfl
theorem c40 (c:UInt8):An Tryz.prog 196 [.int .u8 (c.toNat:Int)] (.bool (Dz c)):=by
 refine An.body (n:=9) tok Tryz.func196 rfl rfl rfl fun H=>?_
 refine Ad (Qp Au (Bs (Qp (A0 (v:=.int .u8 _) rfl) (Qp Gb (Qp A9 (AOL.Aal (y:=.int .u8 _) _ [] rfl (uB.all trivial) (fun hG=>A0 (v:=.int .u8 _) rfl) rfl ?_))))));refine Qg [(6,_)] Qw Ox (Qp Ea (Qp Au (Rb (Qr (.bool _) ?_))));rfl
theorem c44 (c:UInt8):An Tryz.prog 133 [.int .u8 (c.toNat:Int)] (.bool (Hv c)):=by
 refine An.body (n:=21) tok Tryz.func133 rfl rfl rfl fun H=>?_
 refine Ad (Qp Au (Bs (Qp (A0 (v:=.int .u8 _) rfl) (Qp Ap (Qp A9 (AOL.Aal (y:=.int .u8 _) _ [] rfl (uB.all trivial) (fun hG=>A0 (v:=.int .u8 _) rfl) rfl ?_))))));refine Qg [(6,_)] Qw Gb (Qg [(7,_)] Qw A9 (AOL.Aal (y:=.int .u8 _) _ [] rfl (uB.all trivial) (fun hG=>A0 (v:=.int .u8 _) rfl) rfl ?_));refine Qg [(9,_)] Qw Ox (Qg [(8,_),(10,_)] Qw Ea (Qp Cf (Qp A9 (AOL.Aal (y:=.int .u8 _) _ [] rfl (uB.all trivial) (fun hG=>A0 (v:=.int .u8 _) rfl) rfl ?_))));refine Qg [(14,_)] Qw Gb (Qg [(15,_)] Qw A9 (AOL.Aal (y:=.int .u8 _) _ [] rfl (uB.all trivial) (fun hG=>A0 (v:=.int .u8 _) rfl) rfl ?_));refine Qg [(17,_)] Qw Ox (Qg [(16,_),(18,_)] Qw Ea (Qp Cf (Qp Au (Rb (Qr (.bool _) ?_)))));rfl
theorem c52 (c:UInt8):An Tryz.prog 274 [.int .u8 (c.toNat:Int)] (.bool (pT c)):=by
 refine An.body (n:=5) tok Tryz.func274 rfl rfl rfl fun H=>?_
 refine Ad (Qp Au (Bs (Qp (A0 (v:=.int .u8 _) rfl) (Qp Bu (Qp Au (Rb (Qr (.bool _) ?_)))))));rfl
theorem c69 (c:UInt8):An Tryz.prog 302 [.int .u8 (c.toNat:Int)] (.bool (Jr c)):=by
 refine An.body (n:=9) tok Tryz.func302 rfl rfl rfl fun H=>?_
 refine Ad (Qp Au (Bs (Qp (A0 (v:=.int .u8 _) rfl) (Qp (Qc rfl (c43 _)) (Qp A9 (AOL.Aal (y:=.int .u8 _) _ [] rfl (uB.all trivial) (fun hG=>A0 (v:=.int .u8 _) rfl) rfl ?_))))));refine Qg [(6,_)] Qw (Qc rfl (c39 _)) (Qp Cf (Qp Au (Rb (Qr (.bool _) ?_))));rfl
theorem c42 (c:UInt8):An Tryz.prog 144 [.int .u8 (c.toNat:Int)] (.bool (gC c)):=by
 refine An.body (n:=11) tok Tryz.func144 rfl rfl rfl fun H=>?_
 refine Ad (Qp Au (Bs (Qp (A0 (v:=.int .u8 _) rfl) (Qp (Qc rfl (c43 _)) (Qp Ew (Qp A9 (AOL.Aal (y:=.int .u8 _) _ [] rfl (uB.all trivial) (fun hG=>A0 (v:=.int .u8 _) rfl) rfl ?_)))))));refine Qg [(7,_)] Qw (Qc rfl (c39 _)) (Qg [(8,_)] Qw Ew (Qp Ea (Qp Au (Rb (Qr (.bool _) ?_)))));rfl
theorem c46 (c:UInt8):An Tryz.prog 308 [.int .u8 (c.toNat:Int)] (.bool (fA c)):=by
 refine An.body (n:=17) tok Tryz.func308 rfl rfl rfl fun H=>?_
 refine Ad (Qp Au (Bs (Qp (A0 (v:=.int .u8 _) rfl) (Qp Gb (Qp A9 (AOL.Aal (y:=.int .u8 _) _ [] rfl (uB.all trivial) (fun hG=>A0 (v:=.int .u8 _) rfl) rfl ?_))))));refine Qg [(6,_)] Qw Ox (Qp Ea (Qp A9 (AOL.Aal (y:=.int .u8 _) _ [] rfl (uB.all trivial) (fun hG=>A0 (v:=.int .u8 _) rfl) rfl ?_)));refine Qg [(10,_)] Qw Bu (Qp Ea (Qp A9 (AOL.Aal (y:=.int .u8 _) _ [] rfl (uB.all trivial) (fun hG=>A0 (v:=.int .u8 _) rfl) rfl ?_)));refine Qg [(14,_)] Qw Bu (Qp Ea (Qp Au (Rb (Qr (.bool _) ?_))));rfl

set_option maxHeartbeats 400000
set_option maxRecDepth 20000

theorem g1 {b w:Bool}{G:List (Bool×Bool)}(h:Me ((b,w)::G)):b=w:=h _ (So ..)
theorem Si {s:A1}{k:Nat}(h:k<s.length):s.drop k=bt s k::s.drop (k+1):=by
 rw [X8 h];have:bt s k=s[k]:=by simp [bt,Nv,List.getElem?_eq_getElem h]
 rw [this]
theorem cS {p:UInt8→Bool}{s:A1}{k:Nat}(h:(decide ((k:Int)<(s.length:Int))&&p (bt s k))=true):k<s.length∧D5 p (s.drop k)=D5 p (s.drop (k+1))+1:=by
 simp only [G2,Hi] at h;have hk:k<s.length:=by omega
 refine ⟨hk,?_⟩;rw [Si hk,D5,if_pos h.2]
theorem dW {p:UInt8→Bool}{s:A1}{k:Nat}(h:(decide ((k:Int)<(s.length:Int))&&p (bt s k))=false):D5 p (s.drop k)=0:=by
 by_cases hk:k<s.length
 ·
  have h2:p (bt s k)=false:=by
   have:decide ((k:Int)<(s.length:Int))=true:=by simp;omega
   cases hq:p (bt s k) with
   | false=>rfl
   | true=>rw [this,hq] at h;cases h
  rw [Si hk,D5,if_neg (by simp [h2])]
 rw [O7 (by omega)];rfl
theorem Od (p:UInt8→Bool):∀s:A1,D5 p s≤s.length
  | []=>C6 _
  | c::r=>by
    unfold D5;split
    · have:=Od p r;simp;omega
    simp
theorem nP {s:A1}{k:Nat}(h:k<s.length):(Cd s)[k]? = some [.int .u8 ((bt s k).toNat:Int)]:=by
 simp only [Cd,List.getElem?_map,F3 h];rfl
theorem idx_hit {p:UInt8→Bool}{s:A1}{k:Nat}(h:k<s.length)(hp:p (bt s k)=true):Ir p (s.drop k)=0:=by rw [Si h,Ir,if_pos hp]
theorem wH {p:UInt8→Bool}{s:A1}{k:Nat}(h:k<s.length)(hp:p (bt s k)=false):Ir p (s.drop k)=if Ir p (s.drop (k+1)) = -1 then -1 else Ir p (s.drop (k+1))+1:=by rw [Si h,Ir,if_neg (by simp [hp])]
theorem oJ (p:UInt8→Bool):∀s:A1,-1≤Ir p s
  | []=>Uh _
  | c::r=>by
    have:=oJ p r;unfold Ir;split
    · decide
    split <;> omega
theorem zZ (p:UInt8→Bool)(s:A1):Ir p s=if Ir p (s.drop 0) = -1 then -1 else ((0:Nat):Int)+Ir p (s.drop 0):=by
 have:=oJ p s;rw [Sj];split <;> simp_all
theorem wD {p:UInt8→Bool}{s:A1}{k:Nat}(h:k<s.length)(hp:p (bt s k)=false)(h2:Ir p s=if Ir p (s.drop k) = -1 then -1 else (k:Int)+Ir p (s.drop k)) :
  Ir p s=if Ir p (s.drop (k+1)) = -1 then -1 else ((k+1:Nat):Int)+Ir p (s.drop (k+1)):=by
 rw [wH h hp] at h2;rw [h2];have:=oJ p (s.drop (k+1));by_cases h3:Ir p (s.drop (k+1)) = -1
 · rw [if_pos h3,if_pos rfl,if_pos h3]
 rw [if_neg h3,if_neg h3,if_neg (by omega)];omega
theorem c38 (s:A1)(hl:s.length≤1048576)(f:Nat)(p:UInt8→Bool)(hf:Tm Tryz.prog f=true)(hp:∀c,An Tryz.prog f [.int .u8 (c.toNat:Int)] (.bool (p c))):An Tryz.prog 273 [.str s,.fn (.func f) [] []] (.int .i64 (D5 p s:Int)):=by
 refine An.body (n:=20) tok Tryz.func273 rfl rfl rfl fun H=>?_
 refine Ad (Qp Al (Bs (Qp Al (Re (AW.block ?_)))));refine AW.Aam (fun (k:Nat)=>(⟨[(0,.str s),(1,.fn (.func f) [] []),(5,.int .i64 (k:Int))],H,20⟩:St)) (fun k=>k≤s.length∧D5 p s=k+D5 p (s.drop k)) (fun k=>s.length-k) (0) ?_ Bv ?_
 · exact ⟨Dh _,by simp⟩
 rintro k hR;refine Rd (Qp Am (Qp D2 (Qp (Bx tok rfl rfl rfl rfl) (Qp Bp (Qp A9 (AOL.Aal (y:=.fn _ _ _) _ [] rfl (uB.all trivial) (fun hG=>A0 (v:=.fn _ _ _) rfl) rfl ?_))))));refine Qg [] Qw D2 (Qg [] Qw Am ?_);refine AOL.Aal (y:=.int .u8 _) _ [(12,_),(13,_)] rfl (uB.all ⟨Ent.Aak _ _,Ent.Aak _ _,trivial⟩) (fun hG=>Bq tok rfl rfl rfl rfl (by omega) (F3 (i:=k) (by have h9:=g1 hG;simp at h9;exact h9))) rfl ?_;refine AOL.Aal (y:=.bool _) _ [(14,_),(11,_)] rfl (uB.all ⟨Ent.Aak _ _,Ent.Aak _ _,trivial⟩) (fun hG=>Om hf rfl rfl rfl (hp _)) rfl ?_;refine Qp Ea (Ae (Ao (fun hc1=>?_) fun hc1=>?_))
 ·
  have hst:=cS hc1;refine A7 (AW.block (AW.region (Qp Am (Qp Dl (Qp Al (Rk ?_))))));refine ⟨k+1,?_,?_,Bv⟩
  · exact ⟨hst.1,by rw [hR.2,hst.2];omega⟩
  have:=hst.1;omega
 have hst:=dW hc1;refine AW.exit ?_;refine Bk (Ri (Ad (Qp Am (Qp Al (Rb ?_)))));refine Qr (Iq _) ?_;have h2:=hR.2;rw [hst] at h2;rw [h2];rfl
theorem c64 (s:A1)(hl:s.length≤1048576)(f:Nat)(p:UInt8→Bool)(hf:Tm Tryz.prog f=true)(hp:∀c,An Tryz.prog f [.int .u8 (c.toNat:Int)] (.bool (p c))):An Tryz.prog 200 [.sl 1 (Cd s),.fn (.func f) [] []] (.int .i64 (Ir p s)):=by
 refine An.body (n:=19) tok Tryz.func200 rfl rfl rfl fun H=>?_
 refine Ad (Qp Al (Ae (Rd (Qp Fh ?_))));refine Qp (Ai (n:=s.length) tok rfl rfl rfl (by simp)) ?_;refine Qp Am (Ae (AW.block ?_));refine AW.Aam (fun (k:Nat)=>(⟨[(0,.sl 1 (Cd s)),(1,.fn (.func f) [] []),(7,.int .i64 (s.length:Int)),(8,.int .i64 (k:Int))],H,19⟩:St)) (fun k=>k≤s.length∧Ir p s=if Ir p (s.drop k) = -1 then -1 else (k:Int)+Ir p (s.drop k)) (fun k=>s.length-k) (0) ?_ Bv ?_
 · exact ⟨Dh _,zZ p s⟩
 rintro k hR;refine Ad (Qp Bp (Re (Ao (fun hc1=>?_) fun hc1=>?_)))
 ·
  have hk:k<s.length:=by simp at hc1;omega
  refine A7 (AW.seq (AW.block (Ad (Qp Am (Qp Al (Bs (Qp (A0 (v:=.fn _ _ _) rfl) (Qp Fh (Qp Am ?_)))))))));refine Qp (Aa (c:=[.int .u8 _]) tok rfl rfl rfl rfl rfl rfl (by omega) (nP (k:=k) hk)) ?_;refine Qp (Ek (c:=.int .u8 _) tok rfl rfl rfl) (Qp (Om hf rfl rfl rfl (hp _)) (Ae (Ao (fun hc2=>Ad (Qp Am (Qp Al (Ra (Av (B9 (Av (Qr (Iq _) ?_)))))))) fun hc2=>Rf (AW.region (Qp Dl (Qp Am (Ae ?_)))))))
  ·
   have h2:=hR.2;rw [idx_hit hk hc2,if_neg (by decide)] at h2;rw [h2,Int.add_zero];rfl
  refine ⟨k+1,?_,?_,Bv⟩
  · exact ⟨hk,wD hk hc2 hR.2⟩
  omega
 have hk:s.length≤k:=by simp at hc1;omega
 refine AW.exit ?_;refine Bk (Ri (Ad (Qp Al (Rb ?_))));refine Qr (Iq _) ?_;have h2:=hR.2;rw [O7 hk] at h2;rw [h2];rfl
theorem c41 (s:A1)(hl:s.length≤1048576)(f:Nat)(p:UInt8→Bool)(hf:Tm Tryz.prog f=true)(hp:∀c,An Tryz.prog f [.int .u8 (c.toNat:Int)] (.bool (p c))):An Tryz.prog 143 [.sl 1 (Cd s),.fn (.func f) [] []] (.bool (decide (0≤Ir p s))):=by
 refine An.body (n:=9) tok Tryz.func143 rfl rfl rfl fun H=>?_
 refine Ad (Qp Au (Bs (Qp Fh (Qp (A0 (v:=.fn _ _ _) rfl) (Qp (Qc rfl (c64 s hl f p hf hp)) (Qp Gb (Qp Au (Rb (Qr (.bool _) ?_)))))))));rfl
theorem c45 (s:A1)(hl:s.length≤1048576)(k:Nat):An Tryz.prog 134 [.str s,.int .i64 (k:Int)] (.int .i64 (Y0 s k:Int)):=by
 refine An.body (n:=24) tok Tryz.func134 rfl rfl rfl fun H=>?_
 refine Ad (Qp Al (Re (AW.block ?_)));refine AW.Aam (fun (j:Nat)=>(⟨[(0,.str s),(1,.int .i64 (j:Int))],H,24⟩:St)) (fun j=>Y0 s k=j+D5 Jr (s.drop j)) (fun j=>s.length-j) (k) ?_ Bv ?_
 · exact rfl
 rintro j hR;refine Rd (Qp Am (Qp D2 (Qp (Bx tok rfl rfl rfl rfl) (Qp Bp (Qp A9 (Qg [] Qw D2 (Qg [] Qw Am ?_)))))));refine AOL.Aal (y:=.int .u8 _) _ [(10,_),(11,_)] rfl (uB.all ⟨Ent.Aak _ _,Ent.Aak _ _,trivial⟩) (fun hG=>Bq tok rfl rfl rfl rfl (by omega) (F3 (i:=j) (by have h9:=g1 hG;simp at h9;exact h9))) rfl ?_;refine Qg [(12,_)] Qw (Qc rfl (c44 _)) (Qg [(13,_)] Qw A9 (Qg [] Qw D2 (Qg [] Qw Am ?_)));refine AOL.Aal (y:=.int .u8 _) _ [(15,_),(16,_)] rfl (uB.all ⟨Ent.Aak _ _,Ent.Aak _ _,trivial⟩) (fun hG=>Bq tok rfl rfl rfl rfl (by omega) (F3 (i:=j) (by have h9:=g1 hG;simp at h9;exact h9))) rfl ?_;refine Qg [(17,_)] Qw (Qc rfl (c40 _)) (Qg [(14,_),(18,_)] Qw Cf (Qp Ea (Ae (Ao (fun hc1=>?_) fun hc1=>?_))))
 ·
  have hst:=cS (p:=Jr) hc1;have hj:=hst.1;refine A7 (AW.block (AW.region (Qp Am (Qp Dl (Qp Al (Rk ?_))))));refine ⟨j+1,?_,?_,Bv⟩
  · rw [hR,hst.2];omega
  have:=hst.1;omega
 have hst:=dW (p:=Jr) hc1;refine AW.exit ?_;refine Bk (Ri (Ad (Qp Am (Qp Al (Rb ?_)))));refine Qr (Iq _) ?_;rw [hst] at hR;rw [hR];rfl
theorem c32 (s:A1)(hl:s.length≤1048576)(h0:0<s.length):An Tryz.prog 221 [.str s] (.int .i64 (S8 s)):=by
 refine An.body (n:=14) tok Tryz.func221 rfl rfl rfl fun H=>?_
 refine Ad (Qp Al (Re (AW.block (Ad (Qp D2 ?_)))));refine Qp (Bq tok rfl rfl rfl rfl (by omega) (F3 (i:=0) h0)) ?_;refine Qp Ap (Qp Au (Ae (Ao (fun hc1=>Ad (Qp D2 ?_)) fun hc1=>Ad (Qp D2 ?_))))
 ·
  refine Qp (Qc rfl (c38 s hl 274 pT (by kernel_rfl) c52)) ?_;refine Qp Al (Ra (Qr (Iq _) ?_));simp only [Ag,S8];rw [if_pos hc1]
  done
 refine Qp (Bq tok rfl rfl rfl rfl (by omega) (F3 (i:=0) h0)) ?_;refine Qp (Qc rfl (k53 [32,9,13,10] _)) (Qp Gb (Qp Au (Ae (Ao (fun hc2=>Ad (Qp Al (Ra (Qr (Iq _) ?_)))) fun hc2=>Rf (Ad (Qp Al (Rb (Qr (Iq _) ?_))))))))
 ·
  simp only [Ag,S8];rw [iN hc1];rw [if_pos hc2]
  done
 simp only [Ag,S8];rw [iN hc1];rw [iN hc2]
 done
set_option maxHeartbeats 400000
set_option maxRecDepth 20000

theorem Y3 (x:Int):0≤IntKind.u8.wrap x∧IntKind.u8.wrap x≤255:=by rw [IntKind.wrap_u8];omega
theorem zP (x:Int):IntKind.i64.wrap (IntKind.u8.wrap x)=IntKind.u8.wrap x:=by
 have:=Y3 x;exact IntWalk.i64_in _ (by omega)
theorem dv_le (c:UInt8):0≤uO c∧uO c≤255:=Y3 _
theorem zW {s:A1}{b:Bool}(h:((s == [])||b)=false):0<s.length:=by
 cases s with
 | nil=>simp at h
 | cons a r=>simp
theorem mM {s:A1}{k:Nat}{n:Int}(h:k<s.length)(hc:decide (1099511627776<10*n+uO (bt s k))=false):Mr (s.drop k) n=Mr (s.drop (k+1)) (10*n+uO (bt s k)):=by
 rw [Si h,Mr,if_neg (by simp [hc])]
theorem oO {s:A1}{k:Nat}{n:Int}(h:k<s.length)(hc:decide (1099511627776<10*n+uO (bt s k))=true):Mr (s.drop k) n=(0,2):=by
 rw [Si h,Mr,if_pos hc]
def Q6 (s:A1):Bool:=(s == [97,108,108])||(s == [97,108,116])||(s == [97,110,100])||(s == [98,111,111,108])||(s == [98,121])||(s == [99,111,117,110,116])||(s == [102,97,108,115,101])||(s == [102,105,114,115,116])||(s == [105,102])||(s == [105,110,116])||(s == [108,97,99,107,115])||(s == [108,97,115,116])||(s == [109,97,116,99,104])||(s == [109,97,120])
def Qa (s:A1):Bool:=(s == [109,105,110])||(s == [110,111,116])||(s == [111,114])||(s == [112,108,117,115])||(s == [113,117,101,114,121])||(s == [114,101,116,117,114,110])||(s == [115,101,113])||(s == [115,116,114,105,110,103])||(s == [115,117,109])||(s == [116,105,109,101])||(s == [116,114,117,101])||(s == [116,121,112,101])||(s == [119,104,101,114,101])||(s == [119,105,116,104,105,110])
theorem oE (s:A1):bP s=(Q6 s||Qa s):=by simp only [bP,Q6,Qa,Bool.or_assoc]

theorem c23 (s:A1):An Tryz.prog 135 [.str s] (.bool (bP s)):=by
 refine An.body (n:=34) tok Tryz.func135 rfl rfl rfl fun H=>?_
 refine Ad (Qp Au (Ae (Rd (Qp D2 (Ae (AW.block ?_))))));refine AW.Aas (fun (x:Bool)=>(⟨[(3,.str s),(4,.bool x)],H,34⟩:St)) (fun x=>x=Q6 s) ?_ ?_
 ·
  refine Ad (Qp (A4 rfl rfl) (Qp Au (Ae (Ao (fun hc1=>A7 ?_) fun hc1=>Ad (Qp (A4 rfl rfl) (Qp Au (Ae (Ao (fun hc2=>A7 ?_) fun hc2=>Ad (Qp (A4 rfl rfl) ?_)))))))))
  ·
   refine ⟨_,?_,Bv⟩;simp [Q6, *]
  ·
   refine ⟨_,?_,Bv⟩;simp [Q6, *]
  refine Qp Au (Ae (Ao (fun hc3=>A7 ?_) fun hc3=>Ad (Qp (A4 rfl rfl) (Qp Au (Ae (Ao (fun hc4=>A7 ?_) fun hc4=>Ad (Qp (A4 rfl rfl) (Qp Au (Ae (Ao (fun hc5=>A7 ?_) fun hc5=>Ad (Qp (A4 rfl rfl) (Qp Au (Ae (Ao (fun hc6=>A7 ?_) fun hc6=>Ad (Qp (A4 rfl rfl) (Qp Au (Ae (Ao (fun hc7=>A7 ?_) fun hc7=>Ad (Qp (A4 rfl rfl) (Qp Au (Ae (Ao (fun hc8=>A7 ?_) fun hc8=>?_))))))))))))))))))))))
  ·
   refine ⟨_,?_,Bv⟩;simp [Q6, *]
  ·
   refine ⟨_,?_,Bv⟩;simp [Q6, *]
  ·
   refine ⟨_,?_,Bv⟩;simp [Q6, *]
  ·
   refine ⟨_,?_,Bv⟩;simp [Q6, *]
  ·
   refine ⟨_,?_,Bv⟩;simp [Q6, *]
  ·
   refine ⟨_,?_,Bv⟩;simp [Q6, *]
  refine Ad (Qp (A4 rfl rfl) (Qp Au (Ae (Ao (fun hc9=>A7 ?_) fun hc9=>Ad (Qp (A4 rfl rfl) (Qp Au (Ae (Ao (fun hc10=>A7 ?_) fun hc10=>Ad (Qp (A4 rfl rfl) (Qp Au (Ae (Ao (fun hc11=>A7 ?_) fun hc11=>Ad (Qp (A4 rfl rfl) (Qp Au (Ae (Ao (fun hc12=>A7 ?_) fun hc12=>Ad (Qp (A4 rfl rfl) (Qp Au (Ae (Ao (fun hc13=>A7 ?_) fun hc13=>AW.region (Qp (A4 rfl rfl) (Qp Au (Ae ?_)))))))))))))))))))))))
  ·
   refine ⟨_,?_,Bv⟩;simp [Q6, *]
  ·
   refine ⟨_,?_,Bv⟩;simp [Q6, *]
  ·
   refine ⟨_,?_,Bv⟩;simp [Q6, *]
  ·
   refine ⟨_,?_,Bv⟩;simp [Q6, *]
  ·
   refine ⟨_,?_,Bv⟩;simp [Q6, *]
  refine ⟨_,?_,Bv⟩;simp [Q6, *]
 rintro x hA;refine Ao (fun hc14=>Ad (Qp Au (Ra (Qr (.bool _) ?_)))) fun hc14=>?_
 ·
  subst hA
  try subst hB
  simp only [Ag,oE];simp [*]
 refine AW.Aas (fun (y:Bool)=>(⟨[(19,.bool y)],H,34⟩:St)) (fun y=>y=Qa s) ?_ ?_
 ·
  refine Ad (Qp (A4 rfl rfl) (Qp Au (Ae (Ao (fun hc15=>A7 ?_) fun hc15=>Ad (Qp (A4 rfl rfl) (Qp Au (Ae (Ao (fun hc16=>A7 ?_) fun hc16=>Ad (Qp (A4 rfl rfl) ?_)))))))))
  ·
   refine ⟨_,?_,Bv⟩;simp [Qa, *]
  ·
   refine ⟨_,?_,Bv⟩;simp [Qa, *]
  refine Qp Au (Ae (Ao (fun hc17=>A7 ?_) fun hc17=>Ad (Qp (A4 rfl rfl) (Qp Au (Ae (Ao (fun hc18=>A7 ?_) fun hc18=>Ad (Qp (A4 rfl rfl) (Qp Au (Ae (Ao (fun hc19=>A7 ?_) fun hc19=>Ad (Qp (A4 rfl rfl) (Qp Au (Ae (Ao (fun hc20=>A7 ?_) fun hc20=>Ad (Qp (A4 rfl rfl) (Qp Au (Ae (Ao (fun hc21=>A7 ?_) fun hc21=>Ad (Qp (A4 rfl rfl) (Qp Au (Ae (Ao (fun hc22=>A7 ?_) fun hc22=>?_))))))))))))))))))))))
  ·
   refine ⟨_,?_,Bv⟩;simp [Qa, *]
  ·
   refine ⟨_,?_,Bv⟩;simp [Qa, *]
  ·
   refine ⟨_,?_,Bv⟩;simp [Qa, *]
  ·
   refine ⟨_,?_,Bv⟩;simp [Qa, *]
  ·
   refine ⟨_,?_,Bv⟩;simp [Qa, *]
  ·
   refine ⟨_,?_,Bv⟩;simp [Qa, *]
  refine Ad (Qp (A4 rfl rfl) (Qp Au (Ae (Ao (fun hc23=>A7 ?_) fun hc23=>Ad (Qp (A4 rfl rfl) (Qp Au (Ae (Ao (fun hc24=>A7 ?_) fun hc24=>Ad (Qp (A4 rfl rfl) (Qp Au (Ae (Ao (fun hc25=>A7 ?_) fun hc25=>Ad (Qp (A4 rfl rfl) (Qp Au (Ae (Ao (fun hc26=>A7 ?_) fun hc26=>Ad (Qp (A4 rfl rfl) (Qp Au (Ae (Ao (fun hc27=>A7 ?_) fun hc27=>AW.region (Qp (A4 rfl rfl) (Qp Au (Ae ?_)))))))))))))))))))))))
  ·
   refine ⟨_,?_,Bv⟩;simp [Qa, *]
  ·
   refine ⟨_,?_,Bv⟩;simp [Qa, *]
  ·
   refine ⟨_,?_,Bv⟩;simp [Qa, *]
  ·
   refine ⟨_,?_,Bv⟩;simp [Qa, *]
  ·
   refine ⟨_,?_,Bv⟩;simp [Qa, *]
  refine ⟨_,?_,Bv⟩;simp [Qa, *]
 rintro y hB;refine Ao (fun hc28=>Ad (Qp Au (Ra (Qr (.bool _) ?_)))) fun hc28=>Rf (Ad (Qp Au (Rb (Qr (.bool _) ?_))))
 ·
  subst hA
  try subst hB
  simp only [Ag,oE];simp [*]
 subst hA
 try subst hB
 simp only [Ag,oE];simp [*]
theorem c22 (s:A1)(hl:s.length≤1048576):An Tryz.prog 142 [.str s] (.bool (sT s)):=by
 refine An.body (n:=16) tok Tryz.func142 rfl rfl rfl fun H=>?_
 refine Ad (Qp Au (Bs (Qp D2 (Qp (Cs rfl rfl) (Qp A9 (Qg [] Qw D2 ?_))))));refine Qg [(6,_)] Qw (Qc rfl (k29 _ _ (by omega))) ?_;refine Qg [(7,_)] Qw Ew (Qp Ea (Qp A9 (Qg [] Qw D2 ?_)));refine AOL.Aal (y:=.str _) _ [(11,_)] rfl (uB.all ⟨Ent.Aak _ _,trivial⟩) (fun hG=>A3 rfl rfl rfl ((by simp [maxLen];omega))) rfl ?_;refine AOL.Aal (y:=.str _) _ [(12,_)] rfl (uB.all ⟨Ent.Aak _ _,trivial⟩) (fun hG=>A3 rfl rfl rfl ((by simp [maxLen];omega))) rfl ?_;refine Qg [(13,_)] Qw (Qc rfl (k29 _ _ (by simp [aO]))) ?_;refine Qp Ea (Qp Au (Rb (Qr (.bool _) ?_)));rfl

end Go.Proofs.YtckhoadldibflaaGreatDoor
