/-
  Several texts in one: R1, EM7, EM8, EM9, Shelf, C, W1, W2, W3, W4. No condition.
-/
import Derived.Test.YtckhoadldibflaaGreatDoorK02
import Derived.Shelf.Small.Strs
import Derived.Shelf.Strconv.Itoa0
import Derived.Shelf.Strconv.Itoa1
import Derived.Shelf.LaysM
import Derived.Shelf.Strconv.Itoa2
import Derived.Shelf.Strconv.Itoa3
import Derived.Shelf.Strings.Search1
import Derived.Shelf.Strings.Search2
import Derived.Shelf.Strings.Search3
import Derived.Shelf.Strings.Shaped
import Derived.Shelf.Strings.Prefix
import Derived.Test.YtckhoadldibflaaGreatDoorProg
import Derived.Test.YtckhoadldibflaaGreatDoorK01
import Derived.Test.YtckhoadldibflaaGreatDoorTab
import Derived.KernelRfl
set_option linter.unusedVariables false
set_option linter.unusedSimpArgs false
namespace Go.Proofs.YtckhoadldibflaaGreatDoor
open Go Go.Aw

structure Pt where
 op:Int
 args:List Pt
 type:Int
 var:Int
 scope:Int
 span:Int
 cond:Ex
def pt0:Pt:=⟨0,[],0,0,0,0,Un⟩
mutual
def Lw:Pt→List AV
 | ⟨o,asx,t,v,s,n,c⟩=>[.int .i64 o,.sl 14 (iP asx),.int .i64 t,.int .i64 v,.int .i64 s,.int .i64 n,.int .i64 c.op,.sl 8 (c.args.map M5),.int .i64 c.var,.int .i64 c.field,.int .i64 c.kind,.int .i64 c.val.kind,.int .i64 c.val.num,.str c.val.text]
def iP:List Pt→List (List AV)
 | []=>[]
 | a::r=>Lw a::iP r
end
@[reducible] def cPt (p : Pt) : List AV := [.int .i64 p.op, .sl 14 (p.args.map Lw), .int .i64 p.type, .int .i64 p.var, .int .i64 p.scope, .int .i64 p.span, .int .i64 p.cond.op, .sl 8 (p.cond.args.map M5), .int .i64 p.cond.var, .int .i64 p.cond.field, .int .i64 p.cond.kind, .int .i64 p.cond.val.kind, .int .i64 p.cond.val.num, .str p.cond.val.text]
theorem bW:∀l:List Pt,iP l=l.map Lw
 | []=>by rw [iP,C8]
 | a::r=>by rw [iP,bW r,Dn]
theorem Tw (p:Pt):Lw p=cPt p:=by
 cases p;rw [Lw,bW]
mutual
def Gx:Pt→Nat
 | ⟨_,asx,_,_,_,_,_⟩=>yP asx+1
def yP:List Pt→Nat
 | []=>0
 | a::r=>Gx a+yP r
end
theorem iO:∀l:List Pt,yP l=(l.map Gx).sum
 | []=>by rw [yP];rfl
 | a::r=>by rw [yP,iO r,Dn,Ki]
theorem Jn (p:Pt):Gx p=(p.args.map Gx).sum+1:=by cases p;rw [Gx,iO]
theorem Pt.ind {Q:Pt→Prop}(h:∀e,(∀a∈e.args,Q a)→Q e):∀e,Q e:=by
  have key:∀n e,Gx e≤n→Q e:=by
    intro n
    induction n with
    | zero=>intro e he;rw [Jn] at he;omega
    | succ n ih=>
      intro e he;refine h e fun a ha=>ih a ?_
      rw [Jn] at he
      have:∀l:List Pt,a∈l→Gx a≤(l.map Gx).sum:=by
        intro l
        induction l with
        | nil=>intro h;cases h
        | cons x r ih2=>
          intro h;rw [Dn,Ki];rcases G2.1 h with rfl | h
          · omega
          have:=ih2 h;omega
      have:=this _ ha;omega
  exact fun e=>key _ e (C4 _)

structure Fa where
 pos:Int
 err:Int
def O3:Fa:=⟨0,0⟩
def Uc (f:Fa):List AV:=[.int .i64 f.pos,.int .i64 f.err]
def Fh (f:Syn→Fa):List Syn→Fa
 | []=>O3
 | x::r=>if ((f x).err != 0) then f x else Fh f r

mutual
def I4:Syn→List Syn
 | ⟨k,x,n,m,kids,p⟩=>if (k==5) then [⟨k,x,n,m,kids,p⟩] else if (k==10) then kids.getD 1 Mz::rT kids else if (k==12) then rT kids else evL kids
def rT:List Syn→List Syn
 | []=>[]
 | x::_=>I4 x
def evL:List Syn→List Syn
 | []=>[]
 | x::r=>I4 x++evL r
end
theorem oQ:∀l:List Syn,evL l=l.flatMap I4
 | []=>by rw [evL];rfl
 | x::r=>by rw [evL,oQ r,aE]
theorem dO {l:List Syn}(h:0<l.length):rT l=I4 (l.getD 0 Mz):=by
 cases l with
 | nil=>simp at h
 | cons x r=>rw [rT];rfl
theorem Oc (t:Syn):I4 t=if (t.kind==5) then [t] else if (t.kind==10) then A3 t 1::rT t.kids else if (t.kind==12) then rT t.kids else t.kids.flatMap I4:=by
 cases t;rw [I4,oQ];rfl

abbrev Ky (T:List e8Sc):List Am:=T.map (·.name)
abbrev Id (V:List Va):List Am:=V.map (·.name)
def L7 (l:List Am)(n:Am):Int:=if l.contains n then ((l.idxOf n:Nat):Int) else 0
def Io (T:List e8Sc)(V:List Va)(t:Syn):Int:=
 if ((V.length:Int)==16) then 5 else if !((Ky T).contains t.text) then 8 else if (Id V).contains t.name then 7 else 0
def Ou (T:List e8Sc)(t:Syn):Va:=⟨t.name,L7 (Ky T) t.text⟩
def Hi (T:List e8Sc):List Va→List Syn→List Va×Fa
 | V,[]=>(V,O3)
 | V,t::r=>if (Io T V t != 0) then (V,⟨t.pos,Io T V t⟩) else Hi T (V ++ [Ou T t]) r
def Dl (s:e8Sc)(n:Am):Int:=Kc (s.fields.map (·.name)) n
def bC (T:List e8Sc)(V:List Va)(v:Int):e8Sc:=(T[((V[v.toNat]?).getD va0).type.toNat]?).getD cR

def Nt (T:List e8Sc)(n:Am):List Va→List Int→List Int×Bool
 | [],out=>(out,true)
 | v::r,out=>if decide (Dl ((T[v.type.toNat]?).getD cR) n<0) then ([],false) else Nt T n r (out.set v.type.toNat (Dl ((T[v.type.toNat]?).getD cR) n))
def Wh (T:List e8Sc)(V:List Va)(n:Am):List Int×Bool:=Nt T n V (List.replicate T.length (-1))

section
variable (T:List e8Sc) (V:List Va)
def G7 (t:Syn):Fa:=
 if ((t.kind != 14)&&(t.kind != 15))&&(t.kind != 16) then O3
 else if !((Id V).contains t.text) then ⟨t.pos,8⟩
 else if (t.kind==15)||((t.kind==14)&&(t.name==Eh)) then O3
 else if decide (Dl (bC T V (L7 (Id V) t.text)) t.name<0) then ⟨t.pos,6⟩
 else O3
mutual
def D4:Syn→Fa
 | ⟨k,x,n,m,kids,p⟩=>if ((G7 T V ⟨k,x,n,m,kids,p⟩).err != 0) then G7 T V ⟨k,x,n,m,kids,p⟩ else jU kids
def jU:List Syn→Fa
 | []=>O3
 | x::r=>if ((D4 x).err != 0) then D4 x else jU r
end
theorem Zt:∀l:List Syn,jU T V l=Fh (D4 T V) l
 | []=>by rw [jU,Fh]
 | x::r=>by rw [jU,Fh,Zt r]
theorem Qd (t:Syn):D4 T V t=if ((G7 T V t).err != 0) then G7 T V t else Fh (D4 T V) t.kids:=by
 cases t;rw [D4,Zt]

def Zx (t:Syn):Vl:=if (t.name==F0) then ⟨1,t.num,[]⟩ else if (t.name==Gl) then ⟨2,0,t.text⟩ else ⟨0,t.num,[]⟩
def Ip (t:Syn)(asx:List Ex):Ex:=
 if (t.kind==13) then ⟨0,[],0,0,0,Zx t⟩
 else if (t.kind==14) then if (t.name==Eh) then ⟨2,[],L7 (Id V) t.text,0,0,v0⟩ else ⟨1,[],L7 (Id V) t.text,Dl (bC T V (L7 (Id V) t.text)) t.name,0,v0⟩
 else if (t.kind==15) then ⟨3,[],L7 (Id V) t.text,0,0,v0⟩
 else if (t.kind==16) then ⟨4,[],L7 (Id V) t.text,Dl (bC T V (L7 (Id V) t.text)) t.name,t.num,if decide ((0:Int)<(t.kids.length:Int)) then Zx (A3 t 0) else v0⟩
 else if (t.kind==18) then ⟨12,asx,0,0,0,v0⟩
 else ⟨t.num,asx,0,0,0,v0⟩
mutual
def Cp:Syn→Ex
 | ⟨k,x,n,m,kids,p⟩=>Ip T V ⟨k,x,n,m,kids,p⟩ (gQ kids)
def gQ:List Syn→List Ex
 | []=>[]
 | x::r=>Cp x::gQ r
end
theorem bF:∀l:List Syn,gQ T V l=l.map (Cp T V)
 | []=>by rw [gQ,C8]
 | x::r=>by rw [gQ,bF r,Dn]
theorem Fq (t:Syn):Cp T V t=Ip T V t (t.kids.map (Cp T V)):=by cases t;rw [Cp,bF]

def Pn:Ex:=⟨0,[],0,0,0,⟨1,1,[]⟩⟩
def Ij (t:Syn):Ex:=if decide ((0:Int)<(t.kids.length:Int)) then Cp T V (A3 t 0) else Pn
structure Nx where
 next:Int
 scopes:Int
def Kb (t:Syn)(s:Nx)(asx:List Pt):Pt:=
 if (t.kind==5) then ⟨0,asx,L7 (Ky T) t.text,s.next,0,0,Ij T V t⟩
 else if (t.kind==10) then ⟨5,asx,L7 (Ky T) (A3 t 1).text,s.next,s.scopes,0,Ij T V (A3 t 1)⟩
 else if (t.kind==11) then ⟨6,asx,0,0,s.scopes,t.num,Un⟩
 else if (t.kind==12) then ⟨7,asx,0,0,0,0,Cp T V (A3 t 1)⟩
 else ⟨t.kind-5,asx,0,0,0,0,Un⟩
def Sg (t:Syn)(s:Nx):Nx:=⟨if (t.kind==5)||(t.kind==10) then s.next+1 else s.next,if (t.kind==10)||(t.kind==11) then s.scopes+1 else s.scopes⟩
mutual
def G3:Syn→Nx→Pt×Nx
  | ⟨k,x,n,m,kids,p⟩,s=>
    if (k==5) then (Kb T V ⟨k,x,n,m,kids,p⟩ s [],Sg ⟨k,x,n,m,kids,p⟩ s)
    else if (k==10)||(k==12) then (Kb T V ⟨k,x,n,m,kids,p⟩ s (yE kids (Sg ⟨k,x,n,m,kids,p⟩ s)).1,(yE kids (Sg ⟨k,x,n,m,kids,p⟩ s)).2)
    else (Kb T V ⟨k,x,n,m,kids,p⟩ s (Dq kids (Sg ⟨k,x,n,m,kids,p⟩ s)).1,(Dq kids (Sg ⟨k,x,n,m,kids,p⟩ s)).2)
def yE:List Syn→Nx→List Pt×Nx
 | [],s=>([],s)
 | x::_,s=>([(G3 x s).1],(G3 x s).2)
def Dq:List Syn→Nx→List Pt×Nx
 | [],s=>([],s)
 | x::r,s=>((G3 x s).1::(Dq r (G3 x s).2).1,(Dq r (G3 x s).2).2)
end
def De (t:Syn):List Syn:=if (t.kind==5) then [] else if (t.kind==10)||(t.kind==12) then t.kids.take 1 else t.kids
theorem rO:∀(l:List Syn) (s:Nx),yE T V l s=Dq T V (l.take 1) s
 | [],s=>by rw [yE,List.take_nil,Dq]
 | x::r,s=>by rw [yE,kW,List.take_zero,Dq,Dq]
theorem Q6 (t:Syn)(s:Nx):G3 T V t s=(Kb T V t s (Dq T V (De t) (Sg t s)).1,(Dq T V (De t) (Sg t s)).2):=by
  cases t with | mk k x n m kids p=>
  rw [G3];unfold De;cases h1:(k==5) with
  | true=>simp only [h1,if_true];rw [Dq]
  | false=>
    simp only [h1,Bz,if_false];cases h2:(k==10)||(k==12) with
    | true=>simp only [h2,if_true];rw [rO]
    | false=>simp only [h2,Bz,if_false]
theorem jS:∀(l r:List Syn) (s:Nx),Dq T V (l++r) s=((Dq T V l s).1++(Dq T V r (Dq T V l s).2).1,(Dq T V r (Dq T V l s).2).2)
 | [],r,s=>by rw [Je,Dq];rfl
 | x::l,r,s=>by rw [Kh,Dq,jS l r,Dq];rfl
end


inductive Fd (f:Ex→Ex):Ex→Prop where
 | mk (e:Ex) (ha:∀a∈e.args,Fd f a) (h:f e=e):Fd f e
def okB (v:Vl):Prop:=v.kind=1→v=Pk (v.num==1)

def ownS (e:Ex):List Nat:=if (Fg e.op).1&&decide (0≤e.var)&&decide (e.var<16) then [e.var.toNat] else []
mutual
def usedS:Ex→List Nat
 | ⟨op,args,var,field,kind,val⟩=>ownS ⟨op,args,var,field,kind,val⟩++usedL args
def usedL:List Ex→List Nat
 | []=>[]
 | e::r=>usedS e++usedL r
end
def cSeen (S:List Nat):List AV:=(List.range 16).map fun v=>.bool (S.contains v)
theorem seen_len (S:List Nat):(cSeen S).length=16:=rfl
def uptoS (S:List Nat)(k:Nat):List Int:=((List.range k).filter fun v=>S.contains v).map fun (v:Nat)=>(v:Int)
theorem upto_zero (S:List Nat):uptoS S 0 = []:=rfl
def varsS (e:Ex):List Int:=uptoS (usedS e) 16


def tvS (n b v:Nat):Int:=((v:Int)+(b:Int)).tmod (n:Int)
def toS (n b:Nat):List Int:=(List.range n).map (tvS n b)
end Go.Proofs.YtckhoadldibflaaGreatDoor

namespace Go.Proofs
open Go.Shelf
def Tryz.lays137_ren:Go.Shelf.Ren:=⟨fun | 137=>275 | 217=>301 | 266=>314 | n=>n,fun | 9=>9 | 5=>5 | 3=>3 | n=>n,fun | n=>n⟩
theorem Tryz.lays137:Go.Proofs.Lays.n137 Tryz.prog Tryz.lays137_ren:={
 mixed:=by kernel_rfl
 f137:=Tryz.func275.trans (congrArg some (by kernel_rfl))
 f217:=Tryz.func301.trans (congrArg some (by kernel_rfl))
 f266:=Tryz.func314.trans (congrArg some (by kernel_rfl))
 t3:=Tryz.underlying3
 a3:=Tryz.isAgg3
 z3:=Tryz.sizeOf3
 v3:=Tryz.zeroValue3
 t5:=Tryz.underlying5
 a5:=Tryz.isAgg5
 z5:=Tryz.sizeOf5
 v5:=Tryz.zeroValue5
 t9:=Tryz.underlying9
 a9:=Tryz.isAgg9
 z9:=Tryz.sizeOf9
 v9:=Tryz.zeroValue9 }
open Go.RowKit in
theorem Tryz.strings_IndexByte (s:ByteArray)(c:Int)(w:World) :
 Calls Tryz.prog 275 #[.string s,.int .u8 c] w fun e w'=>e = .returned (.int .i64 (Lib.indexByte s.data.toList c.toNat.toUInt8))∧w'=w:=Any.strings_IndexByte Tryz.lays137 s c w
def Tryz.lays129_ren:Go.Shelf.Ren:=⟨fun | 129=>324 | n=>n,fun | 53=>298 | 3=>3 | 4=>4 | 46=>271 | 5=>5 | 9=>9 | n=>n,fun | n=>n⟩
def Tryz.lays317_ren:Go.Shelf.Ren:=⟨fun | 317=>323 | n=>n,fun | 3=>3 | 46=>271 | n=>n,fun | n=>n⟩
def Tryz.lays318_ren:Go.Shelf.Ren:=⟨fun | 318=>325 | n=>n,fun | 3=>3 | 4=>4 | n=>n,fun | n=>n⟩
def Tryz.lays283_ren:Go.Shelf.Ren:=⟨fun | 283=>318 | n=>n,fun | 3=>3 | 9=>9 | 4=>4 | n=>n,fun | n=>n⟩
def Tryz.laysM284_ren:Go.Shelf.Ren:=⟨fun | 284=>319 | 129=>324 | 317=>323 | 318=>325 | n=>n,fun | 53=>298 | 3=>3 | 212=>318 | 0=>0 | 4=>4 | 46=>271 | 5=>5 | 9=>9 | n=>n,fun | 17=>7 | n=>n⟩
def Tryz.lays285_ren:Go.Shelf.Ren:=⟨fun | 285=>320 | n=>n,fun | 37=>205 | 53=>298 | 3=>3 | 4=>4 | 51=>295 | 9=>9 | 5=>5 | 0=>0 | n=>n,fun | n=>n⟩
def Tryz.laysM246_ren:Go.Shelf.Ren:=⟨fun | 246=>313 | 283=>318 | 284=>319 | 285=>320 | 286=>321 | 129=>324 | 317=>323 | 318=>325 | 319=>326 | 320=>327 | 337=>331 | 338=>332 | n=>n,fun | 2=>2 | 3=>3 | 9=>9 | 4=>4 | 171=>311 | 0=>0 | 53=>298 | 37=>205 | 5=>5 | 173=>314 | 212=>318 | 51=>295 | 20=>20 | 213=>319 | 46=>271 | 232=>323 | 233=>324 | n=>n,fun | 17=>7 | 18=>9 | 19=>10 | n=>n⟩
def Tryz.lays246_ren:Go.Shelf.Ren:=⟨fun | 246=>313 | 283=>318 | 284=>319 | 285=>320 | 286=>321 | 129=>324 | 317=>323 | 318=>325 | 319=>326 | 320=>327 | 337=>331 | 338=>332 | n=>n,fun | 2=>2 | 3=>3 | 9=>9 | 4=>4 | 171=>311 | 0=>0 | 53=>298 | 37=>205 | 5=>5 | 173=>314 | 212=>318 | 51=>295 | 20=>20 | 213=>319 | 46=>271 | 232=>323 | 233=>324 | n=>n,fun | 17=>7 | 18=>9 | 19=>10 | n=>n⟩
def Tryz.laysM243_ren:Go.Shelf.Ren:=⟨fun | 243=>299 | 246=>313 | 283=>318 | 284=>319 | 285=>320 | 286=>321 | 129=>324 | 317=>323 | 318=>325 | 319=>326 | 320=>327 | 337=>331 | 338=>332 | n=>n,fun | 3=>3 | 9=>9 | 2=>2 | 4=>4 | 171=>311 | 0=>0 | 53=>298 | 37=>205 | 5=>5 | 173=>314 | 212=>318 | 51=>295 | 20=>20 | 213=>319 | 46=>271 | 232=>323 | 233=>324 | n=>n,fun | 17=>7 | 18=>9 | 19=>10 | n=>n⟩
def Tryz.lays243_ren:Go.Shelf.Ren:=⟨fun | 243=>299 | 246=>313 | 283=>318 | 284=>319 | 285=>320 | 286=>321 | 129=>324 | 317=>323 | 318=>325 | 319=>326 | 320=>327 | 337=>331 | 338=>332 | n=>n,fun | 3=>3 | 9=>9 | 2=>2 | 4=>4 | 171=>311 | 0=>0 | 53=>298 | 37=>205 | 5=>5 | 173=>314 | 212=>318 | 51=>295 | 20=>20 | 213=>319 | 46=>271 | 232=>323 | 233=>324 | n=>n,fun | 17=>7 | 18=>9 | 19=>10 | n=>n⟩
def Tryz.laysM171_ren:Go.Shelf.Ren:=⟨fun | 171=>270 | 243=>299 | 246=>313 | 283=>318 | 284=>319 | 285=>320 | 286=>321 | 129=>324 | 317=>323 | 318=>325 | 319=>326 | 320=>327 | 337=>331 | 338=>332 | n=>n,fun | 3=>3 | 9=>9 | 2=>2 | 4=>4 | 171=>311 | 0=>0 | 53=>298 | 37=>205 | 5=>5 | 173=>314 | 212=>318 | 51=>295 | 20=>20 | 213=>319 | 46=>271 | 232=>323 | 233=>324 | n=>n,fun | 17=>7 | 18=>9 | 19=>10 | n=>n⟩
theorem Tryz.laysM171:Go.Proofs.LaysM.n171 Tryz.prog Tryz.laysM171_ren:={
 mixed:=by kernel_rfl
 f129:=Tryz.func324.trans (congrArg some (by kernel_rfl))
 f171:=Tryz.func270.trans (congrArg some (by kernel_rfl))
 f243:=Tryz.func299.trans (congrArg some (by kernel_rfl))
 f246:=Tryz.func313.trans (congrArg some (by kernel_rfl))
 f283:=Tryz.func318.trans (congrArg some (by kernel_rfl))
 f284:=Tryz.func319.trans (congrArg some (by kernel_rfl))
 f285:=Tryz.func320.trans (congrArg some (by kernel_rfl))
 f286:=Tryz.func321.trans (congrArg some (by kernel_rfl))
 f317:=Tryz.func323.trans (congrArg some (by kernel_rfl))
 f318:=Tryz.func325.trans (congrArg some (by kernel_rfl))
 f319:=Tryz.func326.trans (congrArg some (by kernel_rfl))
 f320:=Tryz.func327.trans (congrArg some (by kernel_rfl))
 f337:=Tryz.func331.trans (congrArg some (by kernel_rfl))
 f338:=Tryz.func332.trans (congrArg some (by kernel_rfl))
 t0:=Tryz.underlying0
 a0:=Tryz.isAgg0
 z0:=Tryz.sizeOf0
 v0:=Tryz.zeroValue0
 t2:=Tryz.underlying2
 a2:=Tryz.isAgg2
 z2:=Tryz.sizeOf2
 v2:=Tryz.zeroValue2
 t3:=Tryz.underlying3
 a3:=Tryz.isAgg3
 z3:=Tryz.sizeOf3
 v3:=Tryz.zeroValue3
 t4:=Tryz.underlying4
 a4:=Tryz.isAgg4
 z4:=Tryz.sizeOf4
 v4:=Tryz.zeroValue4
 t5:=Tryz.underlying5
 a5:=Tryz.isAgg5
 z5:=Tryz.sizeOf5
 v5:=Tryz.zeroValue5
 t9:=Tryz.underlying9
 a9:=Tryz.isAgg9
 z9:=Tryz.sizeOf9
 v9:=Tryz.zeroValue9
 t20:=Tryz.underlying20
 a20:=Tryz.isAgg20
 z20:=Tryz.sizeOf20
 v20:=Tryz.zeroValue20
 t37:=Tryz.underlying205
 a37:=Tryz.isAgg205
 z37:=Tryz.sizeOf205
 v37:=Tryz.zeroValue205
 t46:=Tryz.underlying271
 a46:=Tryz.isAgg271
 z46:=Tryz.sizeOf271
 v46:=Tryz.zeroValue271
 t51:=Tryz.underlying295
 a51:=Tryz.isAgg295
 z51:=Tryz.sizeOf295
 v51:=Tryz.zeroValue295
 t53:=Tryz.underlying298
 a53:=Tryz.isAgg298
 z53:=Tryz.sizeOf298
 v53:=Tryz.zeroValue298
 t171:=Tryz.underlying311
 a171:=Tryz.isAgg311
 z171:=Tryz.sizeOf311
 v171:=Tryz.zeroValue311
 t173:=Tryz.underlying314
 a173:=Tryz.isAgg314
 z173:=Tryz.sizeOf314
 v173:=Tryz.zeroValue314
 t212:=Tryz.underlying318
 a212:=Tryz.isAgg318
 z212:=Tryz.sizeOf318
 v212:=Tryz.zeroValue318
 t213:=Tryz.underlying319
 a213:=Tryz.isAgg319
 z213:=Tryz.sizeOf319
 t232:=Tryz.underlying323
 a232:=Tryz.isAgg323
 z232:=Tryz.sizeOf323
 v232:=Tryz.zeroValue323
 t233:=Tryz.underlying324
 a233:=Tryz.isAgg324
 z233:=Tryz.sizeOf324
 v233:=Tryz.zeroValue324
 g17:=by kernel_rfl
 g18:=by kernel_rfl
 g19:=by kernel_rfl
 i0:=by kernel_rfl
 i2:=by kernel_rfl
 i3:=by kernel_rfl
 i4:=by kernel_rfl
 i5:=by kernel_rfl
 i9:=by kernel_rfl
 i20:=by kernel_rfl
 i37:=by kernel_rfl
 i46:=by kernel_rfl
 i51:=by kernel_rfl
 i53:=by kernel_rfl
 i171:=by kernel_rfl
 i173:=by kernel_rfl
 i212:=by kernel_rfl
 i232:=by kernel_rfl
 i233:=by kernel_rfl
 m17:=by kernel_rfl
 m18:=by kernel_rfl
 m19:=by kernel_rfl }
open Go.RowKit Go.Sort Go.Lib in
theorem Tryz.strconv_Itoa (n : Int) (h0 : -9223372036854775808 ≤ n) (h1 : n ≤ 9223372036854775807) (w : World) (htab : Lib.TabIs Tryz.prog w "internal/strconv.uint64pow10" .u64 Lib.pow10Tab) :
 Calls Tryz.prog 270 #[.int .i64 n] w fun e w'=>e = .returned (.string ⟨(Lib.itoa n).toArray⟩)∧∃k os,w'=grow (w.drewN k) os:=Any.strconv_Itoa Tryz.laysM171 n h0 h1 w htab
def Tryz.lays171_ren:Go.Shelf.Ren:=⟨fun | 171=>270 | 243=>299 | 246=>313 | 283=>318 | 284=>319 | 285=>320 | 286=>321 | 129=>324 | 317=>323 | 318=>325 | 319=>326 | 320=>327 | 337=>331 | 338=>332 | n=>n,fun | 3=>3 | 9=>9 | 2=>2 | 4=>4 | 171=>311 | 0=>0 | 53=>298 | 37=>205 | 5=>5 | 173=>314 | 212=>318 | 51=>295 | 20=>20 | 213=>319 | 46=>271 | 232=>323 | 233=>324 | n=>n,fun | 17=>7 | 18=>9 | 19=>10 | n=>n⟩
def Tryz.lays217_ren:Go.Shelf.Ren:=⟨fun | 217=>301 | 266=>314 | n=>n,fun | 9=>9 | 5=>5 | 3=>3 | n=>n,fun | n=>n⟩
def Tryz.lays224_ren:Go.Shelf.Ren:=⟨fun | 224=>310 | n=>n,fun | 3=>3 | n=>n,fun | n=>n⟩
def Tryz.lays314_ren:Go.Shelf.Ren:=⟨fun | 314=>317 | n=>n,fun | 9=>9 | 51=>295 | 3=>3 | 4=>4 | 5=>5 | 46=>271 | n=>n,fun | n=>n⟩
def Tryz.lays267_ren:Go.Shelf.Ren:=⟨fun | 267=>311 | 314=>317 | n=>n,fun | 9=>9 | 3=>3 | 146=>296 | 51=>295 | 4=>4 | 5=>5 | 46=>271 | n=>n,fun | n=>n⟩
def Tryz.lays219_ren:Go.Shelf.Ren:=⟨fun | 219=>297 | 217=>301 | 225=>309 | 224=>310 | 267=>311 | 266=>314 | 314=>317 | n=>n,fun | 9=>9 | 3=>3 | 4=>4 | 5=>5 | 46=>271 | 146=>296 | 51=>295 | n=>n,fun | 1=>5 | n=>n⟩
def Tryz.lays143_ren:Go.Shelf.Ren:=⟨fun | 143=>261 | 219=>297 | 217=>301 | 225=>309 | 224=>310 | 267=>311 | 266=>314 | 314=>317 | n=>n,fun | 9=>9 | 3=>3 | 4=>4 | 5=>5 | 46=>271 | 146=>296 | 51=>295 | n=>n,fun | 1=>5 | n=>n⟩
def Tryz.lays144_ren:Go.Shelf.Ren:=⟨fun | 144=>199 | 143=>261 | 219=>297 | 217=>301 | 225=>309 | 224=>310 | 267=>311 | 266=>314 | 314=>317 | n=>n,fun | 9=>9 | 4=>4 | 3=>3 | 5=>5 | 46=>271 | 146=>296 | 51=>295 | n=>n,fun | 1=>5 | n=>n⟩
theorem Tryz.lays144:Go.Proofs.Lays.n144 Tryz.prog Tryz.lays144_ren:={
 mixed:=by kernel_rfl
 f143:=Tryz.func261.trans (congrArg some (by kernel_rfl))
 f144:=Tryz.func199.trans (congrArg some (by kernel_rfl))
 f217:=Tryz.func301.trans (congrArg some (by kernel_rfl))
 f219:=Tryz.func297.trans (congrArg some (by kernel_rfl))
 f224:=Tryz.func310.trans (congrArg some (by kernel_rfl))
 f225:=Tryz.func309.trans (congrArg some (by kernel_rfl))
 f266:=Tryz.func314.trans (congrArg some (by kernel_rfl))
 f267:=Tryz.func311.trans (congrArg some (by kernel_rfl))
 f314:=Tryz.func317.trans (congrArg some (by kernel_rfl))
 t3:=Tryz.underlying3
 a3:=Tryz.isAgg3
 z3:=Tryz.sizeOf3
 v3:=Tryz.zeroValue3
 t4:=Tryz.underlying4
 a4:=Tryz.isAgg4
 z4:=Tryz.sizeOf4
 v4:=Tryz.zeroValue4
 t5:=Tryz.underlying5
 a5:=Tryz.isAgg5
 z5:=Tryz.sizeOf5
 v5:=Tryz.zeroValue5
 t9:=Tryz.underlying9
 a9:=Tryz.isAgg9
 z9:=Tryz.sizeOf9
 v9:=Tryz.zeroValue9
 t46:=Tryz.underlying271
 a46:=Tryz.isAgg271
 z46:=Tryz.sizeOf271
 v46:=Tryz.zeroValue271
 t51:=Tryz.underlying295
 a51:=Tryz.isAgg295
 z51:=Tryz.sizeOf295
 v51:=Tryz.zeroValue295
 t146:=Tryz.underlying296
 a146:=Tryz.isAgg296
 z146:=Tryz.sizeOf296
 v146:=Tryz.zeroValue296
 g1:=by kernel_rfl }
open Go.RowKit Go.Lib in
theorem Tryz.strings_Contains (s sub:ByteArray)(m:Int)(w:World)(hs:s.size<4294967281)(hm:w.cell? ⟨5,0,none⟩=some (.int .i64 m)) :
 Calls Tryz.prog 199 #[.string s,.string sub] w fun e w'=>e = .returned (.bool (Lib.contains s.data.toList sub.data.toList))∧w'=w:=Any.strings_Contains Tryz.lays144 s sub m w hs hm
def Tryz.laysM219_ren:Go.Shelf.Ren:=⟨fun | 219=>297 | 217=>301 | 225=>309 | 224=>310 | 267=>311 | 266=>314 | 314=>317 | n=>n,fun | 9=>9 | 3=>3 | 4=>4 | 5=>5 | 46=>271 | 146=>296 | 51=>295 | n=>n,fun | 1=>5 | n=>n⟩
def Tryz.laysM143_ren:Go.Shelf.Ren:=⟨fun | 143=>261 | 219=>297 | 217=>301 | 225=>309 | 224=>310 | 267=>311 | 266=>314 | 314=>317 | n=>n,fun | 9=>9 | 3=>3 | 4=>4 | 5=>5 | 46=>271 | 146=>296 | 51=>295 | n=>n,fun | 1=>5 | n=>n⟩
def Tryz.laysM144_ren:Go.Shelf.Ren:=⟨fun | 144=>199 | 143=>261 | 219=>297 | 217=>301 | 225=>309 | 224=>310 | 267=>311 | 266=>314 | 314=>317 | n=>n,fun | 9=>9 | 4=>4 | 3=>3 | 5=>5 | 46=>271 | 146=>296 | 51=>295 | n=>n,fun | 1=>5 | n=>n⟩
theorem Tryz.laysM144:Go.Proofs.LaysM.n144 Tryz.prog Tryz.laysM144_ren:={
 mixed:=by kernel_rfl
 f143:=Tryz.func261.trans (congrArg some (by kernel_rfl))
 f144:=Tryz.func199.trans (congrArg some (by kernel_rfl))
 f217:=Tryz.func301.trans (congrArg some (by kernel_rfl))
 f219:=Tryz.func297.trans (congrArg some (by kernel_rfl))
 f224:=Tryz.func310.trans (congrArg some (by kernel_rfl))
 f225:=Tryz.func309.trans (congrArg some (by kernel_rfl))
 f266:=Tryz.func314.trans (congrArg some (by kernel_rfl))
 f267:=Tryz.func311.trans (congrArg some (by kernel_rfl))
 f314:=Tryz.func317.trans (congrArg some (by kernel_rfl))
 t3:=Tryz.underlying3
 a3:=Tryz.isAgg3
 z3:=Tryz.sizeOf3
 v3:=Tryz.zeroValue3
 t4:=Tryz.underlying4
 a4:=Tryz.isAgg4
 z4:=Tryz.sizeOf4
 v4:=Tryz.zeroValue4
 t5:=Tryz.underlying5
 a5:=Tryz.isAgg5
 z5:=Tryz.sizeOf5
 v5:=Tryz.zeroValue5
 t9:=Tryz.underlying9
 a9:=Tryz.isAgg9
 z9:=Tryz.sizeOf9
 v9:=Tryz.zeroValue9
 t46:=Tryz.underlying271
 a46:=Tryz.isAgg271
 z46:=Tryz.sizeOf271
 v46:=Tryz.zeroValue271
 t51:=Tryz.underlying295
 a51:=Tryz.isAgg295
 z51:=Tryz.sizeOf295
 v51:=Tryz.zeroValue295
 t146:=Tryz.underlying296
 a146:=Tryz.isAgg296
 z146:=Tryz.sizeOf296
 v146:=Tryz.zeroValue296
 g1:=by kernel_rfl
 i3:=by kernel_rfl
 i4:=by kernel_rfl
 i5:=by kernel_rfl
 i9:=by kernel_rfl
 i46:=by kernel_rfl
 i51:=by kernel_rfl
 i146:=by kernel_rfl
 m1:=by kernel_rfl
 s1_3:=fun w h=>Go.Proofs.cell_of_shapedOpen_int (zero:=#[.int .i64 0]) (t:=3) h (of_decide_eq_true (by kernel_rfl)) (by kernel_rfl) rfl (by kernel_rfl) (by kernel_rfl) Tryz.underlying3 }
def Tryz.lays206_ren:Go.Shelf.Ren:=⟨fun | 206=>315 | n=>n,fun | 9=>9 | 4=>4 | 3=>3 | n=>n,fun | n=>n⟩
def Tryz.lays99_ren:Go.Shelf.Ren:=⟨fun | 99=>305 | 206=>315 | n=>n,fun | 9=>9 | 4=>4 | 3=>3 | n=>n,fun | n=>n⟩
theorem Tryz.lays99:Go.Proofs.Lays.n99 Tryz.prog Tryz.lays99_ren:={
 mixed:=by kernel_rfl
 f99:=Tryz.func305.trans (congrArg some (by kernel_rfl))
 f206:=Tryz.func315.trans (congrArg some (by kernel_rfl))
 t3:=Tryz.underlying3
 a3:=Tryz.isAgg3
 z3:=Tryz.sizeOf3
 v3:=Tryz.zeroValue3
 t4:=Tryz.underlying4
 a4:=Tryz.isAgg4
 z4:=Tryz.sizeOf4
 v4:=Tryz.zeroValue4
 t9:=Tryz.underlying9
 a9:=Tryz.isAgg9
 z9:=Tryz.sizeOf9
 v9:=Tryz.zeroValue9 }
open Go.RowKit Go.Lib in
theorem Tryz.strings_HasPrefix (s p:ByteArray)(w:World) :
 Calls Tryz.prog 305 #[.string s,.string p] w fun e w'=>e = .returned (.bool (Lib.hasPrefix s.data.toList p.data.toList))∧w'=w:=Any.strings_HasPrefix Tryz.lays99 s p w
end Go.Proofs

namespace Go.Proofs.YtckhoadldibflaaGreatDoor
open Go Go.Aw

theorem ba_size (s:Am):(⟨s.toArray⟩:ByteArray).size=s.length:=by simp [ByteArray.size]

theorem k53 (s:Am)(c:UInt8):Ap Tryz.prog 275 [.str s,.int .u8 (c.toNat:Int)] (.int .i64 (Lib.indexByte s c)):=
 .of_same fun g w vs _ ha=>by
  obtain ⟨u,v,rfl,h1,h2⟩:=ha.inv2;have e1:=h1.inv_str.1;have e2:=h2.inv_int;subst e1 e2;refine ⟨.int .i64 (Lib.indexByte s c),fun _ _=>.int _ _,?_⟩;have:=Tryz.strings_IndexByte ⟨s.toArray⟩ (c.toNat:Int) w;simpa using this

theorem k29 (s p:Am)(hs:s.length<4294967281):Ap Tryz.prog 199 [.str s,.str p] (.bool (Lib.contains s p)):=
 .of_same fun g w vs hg ha=>by
  obtain ⟨u,v,rfl,h1,h2⟩:=ha.inv2;have e1:=h1.inv_str.1;have e2:=h2.inv_str.1;subst e1 e2;refine ⟨.bool (Lib.contains s p),fun _ _=>.bool _,?_⟩;obtain ⟨m,hm⟩:=hg.int (gl:=5) (k:=.i64) (by simp [globals]);exact Tryz.strings_Contains ⟨s.toArray⟩ ⟨p.toArray⟩ m w (by rw [ba_size];exact hs) hm

theorem k28 (s p:Am):Ap Tryz.prog 305 [.str s,.str p] (.bool (Lib.hasPrefix s p)):=
 .of_same fun g w vs hg ha=>by
  obtain ⟨u,v,rfl,h1,h2⟩:=ha.inv2;have e1:=h1.inv_str.1;have e2:=h2.inv_str.1;subst e1 e2;exact ⟨.bool (Lib.hasPrefix s p),fun _ _=>.bool _,Tryz.strings_HasPrefix ⟨s.toArray⟩ ⟨p.toArray⟩ w⟩

set_option maxHeartbeats 400000
set_option maxRecDepth 20000

theorem c39 (c:UInt8):Ap Tryz.prog 141 [.int .u8 (c.toNat:Int)] (.bool (Da c)):=by
 refine Ap.body (n:=9) tok Tryz.func141 rfl rfl rfl fun H=>?_
 refine Ae (Qp A0 (Bs (Qp (A1 (v:=.int .u8 _) rfl) (Qp H6 (Qp A9 (AOL.g (y:=.int .u8 _) _ [] rfl (qZ.all trivial) (fun hG=>A1 (v:=.int .u8 _) rfl) rfl ?_))))));refine Qg [(6,_)] Qw Z5 (Qp E0 (Qp A0 (Rb (Qr (.bool _) ?_))));rfl
theorem c43 (c:UInt8):Ap Tryz.prog 145 [.int .u8 (c.toNat:Int)] (.bool (Gw c)):=by
 refine Ap.body (n:=21) tok Tryz.func145 rfl rfl rfl fun H=>?_
 refine Ae (Qp A0 (Bs (Qp (A1 (v:=.int .u8 _) rfl) (Qp Av (Qp A9 (AOL.g (y:=.int .u8 _) _ [] rfl (qZ.all trivial) (fun hG=>A1 (v:=.int .u8 _) rfl) rfl ?_))))));refine Qg [(6,_)] Qw H6 (Qg [(7,_)] Qw A9 (AOL.g (y:=.int .u8 _) _ [] rfl (qZ.all trivial) (fun hG=>A1 (v:=.int .u8 _) rfl) rfl ?_));refine Qg [(9,_)] Qw Z5 (Qg [(8,_),(10,_)] Qw E0 (Qp B9 (Qp A9 (AOL.g (y:=.int .u8 _) _ [] rfl (qZ.all trivial) (fun hG=>A1 (v:=.int .u8 _) rfl) rfl ?_))));refine Qg [(14,_)] Qw H6 (Qg [(15,_)] Qw A9 (AOL.g (y:=.int .u8 _) _ [] rfl (qZ.all trivial) (fun hG=>A1 (v:=.int .u8 _) rfl) rfl ?_));refine Qg [(17,_)] Qw Z5 (Qg [(16,_),(18,_)] Qw E0 (Qp B9 (Qp A0 (Rb (Qr (.bool _) ?_)))));rfl
theorem c52 (c:UInt8):Ap Tryz.prog 274 [.int .u8 (c.toNat:Int)] (.bool (nI c)):=by
 refine Ap.body (n:=5) tok Tryz.func274 rfl rfl rfl fun H=>?_
 refine Ae (Qp A0 (Bs (Qp (A1 (v:=.int .u8 _) rfl) (Qp Br (Qp A0 (Rb (Qr (.bool _) ?_)))))));rfl
theorem c69 (c:UInt8):Ap Tryz.prog 302 [.int .u8 (c.toNat:Int)] (.bool (Kn c)):=by
 refine Ap.body (n:=9) tok Tryz.func302 rfl rfl rfl fun H=>?_
 refine Ae (Qp A0 (Bs (Qp (A1 (v:=.int .u8 _) rfl) (Qp (Qc rfl (c43 _)) (Qp A9 (AOL.g (y:=.int .u8 _) _ [] rfl (qZ.all trivial) (fun hG=>A1 (v:=.int .u8 _) rfl) rfl ?_))))));refine Qg [(6,_)] Qw (Qc rfl (c39 _)) (Qp B9 (Qp A0 (Rb (Qr (.bool _) ?_))));rfl
theorem c42 (c:UInt8):Ap Tryz.prog 144 [.int .u8 (c.toNat:Int)] (.bool (eQ c)):=by
 refine Ap.body (n:=11) tok Tryz.func144 rfl rfl rfl fun H=>?_
 refine Ae (Qp A0 (Bs (Qp (A1 (v:=.int .u8 _) rfl) (Qp (Qc rfl (c43 _)) (Qp Et (Qp A9 (AOL.g (y:=.int .u8 _) _ [] rfl (qZ.all trivial) (fun hG=>A1 (v:=.int .u8 _) rfl) rfl ?_)))))));refine Qg [(7,_)] Qw (Qc rfl (c39 _)) (Qg [(8,_)] Qw Et (Qp E0 (Qp A0 (Rb (Qr (.bool _) ?_)))));rfl
set_option maxHeartbeats 400000
set_option maxRecDepth 20000

theorem g1 {b w:Bool}{G:List (Bool×Bool)}(h:K7 ((b,w)::G)):b=w:=h _ (Sx ..)
theorem Q7 {s:Am}{k:Nat}(h:k<s.length):s.drop k=bt s k::s.drop (k+1):=by
 rw [Wt h];have:bt s k=s[k]:=by simp [bt,N2,List.getElem?_eq_getElem h]
 rw [this]
theorem pT {p:UInt8→Bool}{s:Am}{k:Nat}(h:(decide ((k:Int)<(s.length:Int))&&p (bt s k))=true):k<s.length∧Di p (s.drop k)=Di p (s.drop (k+1))+1:=by
 simp only [Gs,H5] at h;have hk:k<s.length:=by omega
 refine ⟨hk,?_⟩;rw [Q7 hk,Di,if_pos h.2]
theorem rA {p:UInt8→Bool}{s:Am}{k:Nat}(h:(decide ((k:Int)<(s.length:Int))&&p (bt s k))=false):Di p (s.drop k)=0:=by
 by_cases hk:k<s.length
 ·
  have h2:p (bt s k)=false:=by
   have:decide ((k:Int)<(s.length:Int))=true:=by simp;omega
   cases hq:p (bt s k) with
   | false=>rfl
   | true=>rw [this,hq] at h;cases h
  rw [Q7 hk,Di,if_neg (by simp [h2])]
 rw [Wd (by omega)];rfl
theorem Ns (p:UInt8→Bool):∀s:Am,Di p s≤s.length
  | []=>C4 _
  | c::r=>by
    unfold Di;split
    · have:=Ns p r;simp;omega
    simp
theorem kS {s:Am}{k:Nat}(h:k<s.length):(Ci s)[k]? = some [.int .u8 ((bt s k).toNat:Int)]:=by
 simp only [Ci,List.getElem?_map,Gt h];rfl
theorem idx_hit {p:UInt8→Bool}{s:Am}{k:Nat}(h:k<s.length)(hp:p (bt s k)=true):H1 p (s.drop k)=0:=by rw [Q7 h,H1,if_pos hp]
theorem xQ {p:UInt8→Bool}{s:Am}{k:Nat}(h:k<s.length)(hp:p (bt s k)=false):H1 p (s.drop k)=if H1 p (s.drop (k+1)) = -1 then -1 else H1 p (s.drop (k+1))+1:=by rw [Q7 h,H1,if_neg (by simp [hp])]
theorem kY (p:UInt8→Bool):∀s:Am,-1≤H1 p s
  | []=>R0 _
  | c::r=>by
    have:=kY p r;unfold H1;split
    · decide
    split <;> omega
theorem sG (p:UInt8→Bool)(s:Am):H1 p s=if H1 p (s.drop 0) = -1 then -1 else ((0:Nat):Int)+H1 p (s.drop 0):=by
 have:=kY p s;rw [Tm];split <;> simp_all
theorem xM {p:UInt8→Bool}{s:Am}{k:Nat}(h:k<s.length)(hp:p (bt s k)=false)(h2:H1 p s=if H1 p (s.drop k) = -1 then -1 else (k:Int)+H1 p (s.drop k)) :
  H1 p s=if H1 p (s.drop (k+1)) = -1 then -1 else ((k+1:Nat):Int)+H1 p (s.drop (k+1)):=by
 rw [xQ h hp] at h2;rw [h2];have:=kY p (s.drop (k+1));by_cases h3:H1 p (s.drop (k+1)) = -1
 · rw [if_pos h3,if_pos rfl,if_pos h3]
 rw [if_neg h3,if_neg h3,if_neg (by omega)];omega
theorem c38 (s:Am)(hl:s.length≤1048576)(f:Nat)(p:UInt8→Bool)(hf:Sj Tryz.prog f=true)(hp:∀c,Ap Tryz.prog f [.int .u8 (c.toNat:Int)] (.bool (p c))):Ap Tryz.prog 273 [.str s,.fn (.func f) [] []] (.int .i64 (Di p s:Int)):=by
 refine Ap.body (n:=20) tok Tryz.func273 rfl rfl rfl fun H=>?_
 refine Ae (Qp Al (Bs (Qp Al (Re (AW.block ?_)))));refine AW.Aag (fun (k:Nat)=>(⟨[(0,.str s),(1,.fn (.func f) [] []),(5,.int .i64 (k:Int))],H,20⟩:St)) (fun k=>k≤s.length∧Di p s=k+Di p (s.drop k)) (fun k=>s.length-k) (0) ?_ Cs ?_
 · exact ⟨E2 _,by simp⟩
 rintro k hR;refine Bk (Qp Ao (Qp Gj (Qp (B8 tok rfl rfl rfl rfl) (Qp Bx (Qp A9 (AOL.g (y:=.fn _ _ _) _ [] rfl (qZ.all trivial) (fun hG=>A1 (v:=.fn _ _ _) rfl) rfl ?_))))));refine Qg [] Qw Gj (Qg [] Qw Ao ?_);refine AOL.g (y:=.int .u8 _) _ [(12,_),(13,_)] rfl (qZ.all ⟨Ent.Aad _ _,Ent.Aad _ _,trivial⟩) (fun hG=>B3 tok rfl rfl rfl rfl (by omega) (Gt (i:=k) (by have h9:=g1 hG;simp at h9;exact h9))) rfl ?_;refine AOL.g (y:=.bool _) _ [(14,_),(11,_)] rfl (qZ.all ⟨Ent.Aad _ _,Ent.Aad _ _,trivial⟩) (fun hG=>Nj hf rfl rfl rfl (hp _)) rfl ?_;refine Qp E0 (Ag (Aq (fun hc1=>?_) fun hc1=>?_))
 ·
  have hst:=pT hc1;refine Bg (AW.block (AW.region (Qp Ao (Qp E9 (Qp Al (Rk ?_))))));refine ⟨k+1,?_,?_,Cs⟩
  · exact ⟨hst.1,by rw [hR.2,hst.2];omega⟩
  have:=hst.1;omega
 have hst:=rA hc1;refine AW.exit ?_;refine Bq (Ri (Ae (Qp Ao (Qp Al (Rb ?_)))));refine Qr (Iq _) ?_;have h2:=hR.2;rw [hst] at h2;rw [h2];rfl
theorem c64 (s:Am)(hl:s.length≤1048576)(f:Nat)(p:UInt8→Bool)(hf:Sj Tryz.prog f=true)(hp:∀c,Ap Tryz.prog f [.int .u8 (c.toNat:Int)] (.bool (p c))):Ap Tryz.prog 200 [.sl 1 (Ci s),.fn (.func f) [] []] (.int .i64 (H1 p s)):=by
 refine Ap.body (n:=19) tok Tryz.func200 rfl rfl rfl fun H=>?_
 refine Ae (Qp Al (Ag (Bk (Qp G4 ?_))));refine Qp (Ah (n:=s.length) tok rfl rfl rfl (by simp)) ?_;refine Qp Ao (Ag (AW.block ?_));refine AW.Aag (fun (k:Nat)=>(⟨[(0,.sl 1 (Ci s)),(1,.fn (.func f) [] []),(7,.int .i64 (s.length:Int)),(8,.int .i64 (k:Int))],H,19⟩:St)) (fun k=>k≤s.length∧H1 p s=if H1 p (s.drop k) = -1 then -1 else (k:Int)+H1 p (s.drop k)) (fun k=>s.length-k) (0) ?_ Cs ?_
 · exact ⟨E2 _,sG p s⟩
 rintro k hR;refine Ae (Qp Bx (Re (Aq (fun hc1=>?_) fun hc1=>?_)))
 ·
  have hk:k<s.length:=by simp at hc1;omega
  refine Bg (AW.seq (AW.block (Ae (Qp Ao (Qp Al (Bs (Qp (A1 (v:=.fn _ _ _) rfl) (Qp G4 (Qp Ao ?_)))))))));refine Qp (Aa (c:=[.int .u8 _]) tok rfl rfl rfl rfl rfl rfl (by omega) (kS (k:=k) hk)) ?_;refine Qp (Dj (c:=.int .u8 _) tok rfl rfl rfl) (Qp (Nj hf rfl rfl rfl (hp _)) (Ag (Aq (fun hc2=>Ae (Qp Ao (Qp Al (Ra (Be (Db (Be (Qr (Iq _) ?_)))))))) fun hc2=>Rf (AW.region (Qp E9 (Qp Ao (Ag ?_)))))))
  ·
   have h2:=hR.2;rw [idx_hit hk hc2,if_neg (by decide)] at h2;rw [h2,Int.add_zero];rfl
  refine ⟨k+1,?_,?_,Cs⟩
  · exact ⟨hk,xM hk hc2 hR.2⟩
  omega
 have hk:s.length≤k:=by simp at hc1;omega
 refine AW.exit ?_;refine Bq (Ri (Ae (Qp Al (Rb ?_))));refine Qr (Iq _) ?_;have h2:=hR.2;rw [Wd hk] at h2;rw [h2];rfl
theorem c41 (s:Am)(hl:s.length≤1048576)(f:Nat)(p:UInt8→Bool)(hf:Sj Tryz.prog f=true)(hp:∀c,Ap Tryz.prog f [.int .u8 (c.toNat:Int)] (.bool (p c))):Ap Tryz.prog 143 [.sl 1 (Ci s),.fn (.func f) [] []] (.bool (decide (0≤H1 p s))):=by
 refine Ap.body (n:=9) tok Tryz.func143 rfl rfl rfl fun H=>?_
 refine Ae (Qp A0 (Bs (Qp G4 (Qp (A1 (v:=.fn _ _ _) rfl) (Qp (Qc rfl (c64 s hl f p hf hp)) (Qp H6 (Qp A0 (Rb (Qr (.bool _) ?_)))))))));rfl
theorem c32 (s:Am)(hl:s.length≤1048576)(h0:0<s.length):Ap Tryz.prog 221 [.str s] (.int .i64 (N3 s)):=by
 refine Ap.body (n:=14) tok Tryz.func221 rfl rfl rfl fun H=>?_
 refine Ae (Qp Al (Re (AW.block (Ae (Qp Gj ?_)))));refine Qp (B3 tok rfl rfl rfl rfl (by omega) (Gt (i:=0) h0)) ?_;refine Qp Av (Qp A0 (Ag (Aq (fun hc1=>Ae (Qp Gj ?_)) fun hc1=>Ae (Qp Gj ?_))))
 ·
  refine Qp (Qc rfl (c38 s hl 274 nI (by kernel_rfl) c52)) ?_;refine Qp Al (Ra (Qr (Iq _) ?_));simp only [Ai,N3];rw [if_pos hc1]
  done
 refine Qp (B3 tok rfl rfl rfl rfl (by omega) (Gt (i:=0) h0)) ?_;refine Qp (Qc rfl (k53 [32,9,13,10] _)) (Qp H6 (Qp A0 (Ag (Aq (fun hc2=>Ae (Qp Al (Ra (Qr (Iq _) ?_)))) fun hc2=>Rf (Ae (Qp Al (Rb (Qr (Iq _) ?_))))))))
 ·
  simp only [Ai,N3];rw [iN hc1];rw [if_pos hc2]
  done
 simp only [Ai,N3];rw [iN hc1];rw [iN hc2]
 done
set_option maxHeartbeats 400000
set_option maxRecDepth 20000

theorem Zk (x:Int):0≤IntKind.u8.wrap x∧IntKind.u8.wrap x≤255:=by rw [IntKind.wrap_u8];omega
theorem tU (x:Int):IntKind.i64.wrap (IntKind.u8.wrap x)=IntKind.u8.wrap x:=by
 have:=Zk x;exact IntWalk.i64_in _ (by omega)
theorem dv_le (c:UInt8):0≤rV c∧rV c≤255:=Zk _
theorem ne_len {s:Am}{b:Bool}(h:((s == [])||b)=false):0<s.length:=by
 cases s with
 | nil=>simp at h
 | cons a r=>simp
theorem lI {s:Am}{k:Nat}{n:Int}(h:k<s.length)(hc:decide (1099511627776<10*n+rV (bt s k))=false):L6 (s.drop k) n=L6 (s.drop (k+1)) (10*n+rV (bt s k)):=by
 rw [Q7 h,L6,if_neg (by simp [hc])]
theorem lA {s:Am}{k:Nat}{n:Int}(h:k<s.length)(hc:decide (1099511627776<10*n+rV (bt s k))=true):L6 (s.drop k) n=(0,2):=by
 rw [Q7 h,L6,if_pos hc]
def keyA (s:Am):Bool:=(s == [97,108,108])||(s == [97,108,116])||(s == [97,110,100])||(s == [98,111,111,108])||(s == [98,121])||(s == [99,111,117,110,116])||(s == [102,97,108,115,101])||(s == [102,105,114,115,116])||(s == [105,102])||(s == [105,110,116])||(s == [108,97,99,107,115])||(s == [108,97,115,116])||(s == [109,97,116,99,104])||(s == [109,97,120])
def keyB (s:Am):Bool:=(s == [109,105,110])||(s == [110,111,116])||(s == [111,114])||(s == [112,108,117,115])||(s == [113,117,101,114,121])||(s == [114,101,116,117,114,110])||(s == [115,101,113])||(s == [115,116,114,105,110,103])||(s == [115,117,109])||(s == [116,105,109,101])||(s == [116,114,117,101])||(s == [116,121,112,101])||(s == [119,104,101,114,101])||(s == [119,105,116,104,105,110])
theorem c22 (s:Am)(hl:s.length≤1048576):Ap Tryz.prog 142 [.str s] (.bool (lM s)):=by
 refine Ap.body (n:=16) tok Tryz.func142 rfl rfl rfl fun H=>?_
 refine Ae (Qp A0 (Bs (Qp Gj (Qp (Dk rfl rfl) (Qp A9 (Qg [] Qw Gj ?_))))));refine Qg [(6,_)] Qw (Qc rfl (k29 _ _ (by omega))) ?_;refine Qg [(7,_)] Qw Et (Qp E0 (Qp A9 (Qg [] Qw Gj ?_)));refine AOL.g (y:=.str _) _ [(11,_)] rfl (qZ.all ⟨Ent.Aad _ _,trivial⟩) (fun hG=>M1 rfl rfl rfl ((by simp [maxLen];omega))) rfl ?_;refine AOL.g (y:=.str _) _ [(12,_)] rfl (qZ.all ⟨Ent.Aad _ _,trivial⟩) (fun hG=>M1 rfl rfl rfl ((by simp [maxLen];omega))) rfl ?_;refine Qg [(13,_)] Qw (Qc rfl (k29 _ _ (by simp [Xw]))) ?_;refine Qp E0 (Qp A0 (Rb (Qr (.bool _) ?_)));rfl

set_option maxHeartbeats 400000
set_option maxRecDepth 20000

theorem gO {s:Am}(h:((s == [])||decide ((Di Da s:Int)<(s.length:Int)))=false):Z9 s=L6 s 0:=by unfold Z9;rw [iN h]
theorem Pz:∀s:Am,(D6 s).length≤4*s.length
  | []=>C4 _
  | c::r=>by
    have:=Pz r;have h:(Og c).length≤4:=by unfold Og;split <;> (try split) <;> simp
    simp only [D6,D9,Ep];omega
theorem Vn:∀a b:Am,D6 (a++b)=D6 a++D6 b
 | [],b=>rfl
 | c::r,b=>by simp [D6,Vn r b]
theorem take_bt {s:Am}{k:Nat}(h:k<s.length):s.take (k+1)=s.take k ++ [bt s k]:=by rw [List.take_add_one,Gt h];rfl
theorem Sw {s:Am}{k:Nat}{es:List (List AV)}{x:Am}(h:k<s.length)(he:es=Ci ([34]++D6 (s.take k)))(hx:Og (bt s k)=x):es++Ci x=Ci ([34]++D6 (s.take (k+1))):=by
 rw [he,take_bt h,Vn,←Mg];simp [D6,hx]
theorem kZ {s:Am}{k:Nat}{es:List (List AV)}(hl:s.length≤64)(he:es=Ci ([34]++D6 (s.take k))):es.length≤257:=by
 have:=Pz (s.take k);rw [he,Mr];rw [Me] at this;simp;omega
theorem nat8 (c:UInt8):c.toNat≤255:=by have:=c.toNat_lt;omega
theorem xF (c:UInt8):0≤IntKind.u8.wrap ((c.toNat:Int).tdiv 16)∧Tx[(IntKind.u8.wrap ((c.toNat:Int).tdiv 16)).toNat]? = some (bt Tx (c.toNat / 16)):=by
 have h:=nat8 c
 have e:IntKind.u8.wrap ((c.toNat:Int).tdiv 16)=((c.toNat / 16:Nat):Int):=by
  rw [IntWalk.u8_quo _ _ (by omega)];omega
 rw [e];refine ⟨by omega,?_⟩;rw [mK];exact Gt (by show c.toNat / 16<16;omega)
theorem xV (c:UInt8):0≤(c.toNat:Int).tmod 16∧Tx[((c.toNat:Int).tmod 16).toNat]? = some (bt Tx (c.toNat % 16)):=by
 have e:(c.toNat:Int).tmod 16=((c.toNat % 16:Nat):Int):=by
  rw [Int.tmod_eq_emod_of_nonneg (by omega)];omega
 rw [e];refine ⟨by omega,?_⟩;rw [mK];exact Gt (by show c.toNat % 16<16;omega)
theorem qO (n:Int):IntKind.u8.wrap n=((Yu n).toNat:Int):=by
 have h:=Zk n;unfold Yu;rw [UInt8.toNat_ofNat_of_lt' (by show _<256;omega)];omega
theorem nB:∀(s:Am) (c:UInt8),-1≤Lib.indexByte s c∧Lib.indexByte s c<s.length
  | [],c=>⟨by unfold Lib.indexByte;decide,by unfold Lib.indexByte;decide⟩
  | a::r,c=>by
    have:=nB r c;unfold Lib.indexByte;simp only [Ep,beq_iff_eq];split
    · omega
    split <;> omega
theorem nW (c:UInt8) : -1≤dR c∧dR c<16:=nB Tx c
theorem sc_two (a b:Int):∀c∈[[AV.int .u8 a],[AV.int .u8 b]],Bb c=true:=by simp [Bb,Xt]
theorem sc_four (a b c d:Int):∀x∈[[AV.int .u8 a],[AV.int .u8 b],[AV.int .u8 c],[AV.int .u8 d]],Bb x=true:=by simp [Bb,Xt]

theorem c18 (s:Am)(hl:s.length≤1048576):Ap Tryz.prog 303 [.str s] (.tuple [.int .i64 (Z9 s).1,.int .i64 (Z9 s).2]):=by
 refine Ap.body (n:=33) tok Tryz.func303 rfl rfl rfl fun H=>?_
 refine Ae (Qp Al (Qp Al (Ag (Bk (Qp Gj (Qp (D5 rfl rfl) (Qp A9 (Qg [] Qw Gj ?_))))))));refine Qg [(10,_)] Qw (Qc rfl (c38 s hl 141 Da (by kernel_rfl) c39)) ?_;refine Qg [] Qw Gj (AOL.g (y:=Iq _) _ [(12,_)] rfl (qZ.all ⟨Ent.Aad _ _,trivial⟩) (fun hG=>B8 tok rfl rfl rfl rfl) rfl ?_);refine AOL.g (y:=.bool _) _ [(11,_),(13,_)] rfl (qZ.all ⟨Ent.Aad _ _,Ent.Aad _ _,trivial⟩) (fun hG=>P_lss rfl rfl) rfl ?_;refine Qp B9 (Ag (Aq (fun hc1=>Ae (Qp Al (Qp Al (Rc (Mf (Iq _) (Iq _) ?_))))) fun hc1=>?_))
 ·
  simp only [Ai,Z9];rw [if_pos hc1]
  done
 have hn:=gO hc1;refine Bg (Ae (Qp Al (Ag (Bk (Qp Gj (Qp (Si tok rfl rfl rfl rfl rfl rfl rfl) ?_))))));refine Qp (Ah (n:=s.length) tok rfl rfl rfl (by simp)) ?_;refine Qp Ao (Ag (AW.block ?_));refine AW.Aag (fun (p:Nat×Int)=>(⟨[(17,.sl 1 (Ci s)),(18,.int .i64 (s.length:Int)),(4,.int .i64 p.2),(19,.int .i64 (p.1:Int))],H,33⟩:St)) (fun p=>p.1≤s.length∧(0≤p.2∧p.2≤1099511627776)∧L6 s 0=L6 (s.drop p.1) p.2) (fun p=>s.length-p.1) ((0,0)) ?_ Cs ?_
 · exact ⟨E2 _,⟨by decide,by decide⟩,rfl⟩
 rintro p hR;have hb:=hR.2.1;have hdv:=dv_le (bt s p.1);refine Ae (Qp Bx (Re (Aq (fun hc2=>?_) fun hc2=>?_)))
 ·
  have hk:p.1<s.length:=by simp at hc2;omega
  refine Bg (AW.seq (AW.block (Ae ?_)));refine Qp (Aa (c:=[.int .u8 _]) tok rfl rfl rfl rfl rfl rfl (by omega) (kS (k:=p.1) hk)) ?_;refine Qp (Dj (c:=.int .u8 _) tok rfl rfl rfl) (Qp (A6 (v:=.int .u8 _) rfl) (Bs (Qp Ao ?_)));refine Qp (P_mul rfl rfl rfl (by constructor <;> omega)) ?_;refine Qp (A1 (v:=.int .u8 _) rfl) (Qp (kF rfl rfl) (Qp (X9 (m:=rV (bt s p.1)) tok rfl rfl rfl rfl rfl (tU _)) (Qp E9 (Qp Al (Bs (Qp Ao (Qp Ej (Ag (Aq (fun hc3=>Ae (Qp Al (Qp Al (Ra (Be (Db (Be (Mf (Iq _) (Iq _) ?_)))))))) fun hc3=>Rf (AW.region (Qp E9 (Qp Ao (Ag ?_)))))))))))))
  · rw [hn,hR.2.2,lA hk hc3];rfl
  refine ⟨(p.1+1,10*p.2+rV (bt s p.1)),?_,?_,Cs⟩
  · exact ⟨hk,⟨by simp only;omega,by simp only [Wu] at hc3;simp only;omega⟩,hR.2.2.trans (lI hk hc3)⟩
  simp only;omega
 have hk:s.length≤p.1:=by simp at hc2;omega
 refine AW.exit ?_;refine Bq (Ri (Ae (Qp Ao (Qp Al (Qp Al (Rb ?_))))));refine Mf (Iq _) (Iq _) ?_;have h9:Z9 s=(p.2,0):=by rw [hn,hR.2.2,Wd hk];rfl
 rw [h9];rfl
theorem c20 (s:Am)(hl:s.length≤1048576):Ap Tryz.prog 84 [.str s] (.int .i64 (Ze s)):=by
 refine Ap.body (n:=22) tok Tryz.func84 rfl rfl rfl fun H=>?_
 refine Ae (Qp Al (Ag (Bk (Qp Gj (Qp (D5 rfl rfl) (Qp A9 (Qg [] Qw Gj (AOL.g (y:=Iq _) _ [(6,_)] rfl (qZ.all ⟨Ent.Aad _ _,trivial⟩) (fun hG=>B8 tok rfl rfl rfl rfl) rfl ?_))))))));refine Qg [(7,_)] Qw Ej (Qp B9 (Qp A9 (Qg [] Qw Gj ?_)));refine AOL.g (y:=.int .u8 _) _ [(11,_)] rfl (qZ.all ⟨Ent.Aad _ _,trivial⟩) (fun hG=>B3 tok rfl rfl rfl rfl (by omega) (Gt (i:=0) (ne_len (g1 hG)))) rfl ?_;refine Qg [(12,_)] Qw (Qc rfl (c39 _)) (Qp B9 (Qp A9 (Qg [] Qw Gj (Qg [(16,_)] Qw (Qc rfl (c22 s hl)) (Qp B9 (Ag (Aq (fun hc1=>Ae (Qp Al (Rc (Qr (Iq _) ?_)))) fun hc1=>Bg (Bk (Qp Gj (Qp (Si tok rfl rfl rfl rfl rfl rfl rfl) ?_))))))))))
 ·
  simp only [Ai,Ze];rw [if_pos hc1]
  done
 refine Qp (Qc rfl (c41 s hl 144 eQ (by kernel_rfl) c42)) ?_;refine Ag (Aq (fun hc2=>Ae (Qp Al (Rc (Qr (Iq _) ?_)))) fun hc2=>Bg (Ae (Qp Al (Rb (Qr (Iq _) ?_)))))
 ·
  simp only [Ai,Ze];rw [iN hc1];rw [if_pos hc2]
  done
 simp only [Ai,Ze];rw [iN hc1];rw [iN hc2]
 done
theorem c24 (s:Am)(hl:s.length≤1048576):Ap Tryz.prog 272 [.str s] (.tuple [.str (N8 s).1,.int .i64 (N8 s).2]):=by
 refine Ap.body (n:=54) tok Tryz.func272 rfl rfl rfl fun H=>?_
 refine Ae (Qp Tu (Qp Al (Ag (Bk (Qp Gj (Qp (B8 tok rfl rfl rfl rfl) (Qp Ej (Ag (Aq (fun hc1=>Ae (Qp Tu (Qp Al (Rc (Mf (.str _) (Iq _) ?_))))) fun hc1=>Bg (Ae (Qe (F4 (es:=[[.int .u8 _]]) tok rfl rfl rfl rfl rfl rfl rfl rfl rfl) ?_)))))))))))
 ·
  simp only [Ai,N8];rw [if_pos hc1]
  done
 rintro _ _ ⟨v10,rfl,rfl⟩;refine Qp (A6 (v:=.row _ _ _) rfl) (Ag (Bk (Qp Gj (Qp (Si tok rfl rfl rfl rfl rfl rfl rfl) ?_))));refine Qp (Ah (n:=s.length) tok rfl rfl rfl (by simp)) ?_;refine Qp Ao (Ag (AW.block ?_));refine AW.Aag (fun (p:Nat×List (List AV)×Value)=>(⟨[(4,.row p.2.2 1 p.2.1),(12,.sl 1 (Ci s)),(13,.int .i64 (s.length:Int)),(14,.int .i64 (p.1:Int))],.row p.2.2 p.2.1.length 5 1::H,54⟩:St)) (fun p=>p.1≤s.length∧p.2.1=Ci ([34]++D6 (s.take p.1))) (fun p=>s.length-p.1) ((0,_,v10)) ?_ Cs ?_
 · exact ⟨E2 _,rfl⟩
 rintro p hR;have hroom:=kZ (by simp at hc1;omega) hR.2;have hsc:∀c∈p.2.1,Bb c=true:=by rw [hR.2];exact fG _
 refine Ae (Qp Bx (Re (Aq (fun hc2=>?_) fun hc2=>?_)))
 ·
  have hk:p.1<s.length:=by simp at hc2;omega
  refine Bg (AW.seq (AW.block (Ae ?_)));refine Qp (Aa (c:=[.int .u8 _]) tok rfl rfl rfl rfl rfl rfl (by omega) (kS (k:=p.1) hk)) ?_;refine Qp (Dj (c:=.int .u8 _) tok rfl rfl rfl) (Qp (A6 (v:=.int .u8 _) rfl) (Ag (AW.block (Ae (Qp (A1 (v:=.int .u8 _) rfl) (Qp Av (Qp A9 (AOL.g (y:=.int .u8 _) _ [] rfl (qZ.all trivial) (fun hG=>A1 (v:=.int .u8 _) rfl) rfl ?_))))))));refine Qg [(26,_)] Qw Av (Qp B9 (Qp A0 (Ag (Aq (fun hc3=>AW.region (Qp (A1 (v:=.row _ _ _) rfl) (Qp (A1 (v:=.int .u8 _) rfl) (Qp (Aj (es:=[[.int .u8 _],[.int .u8 _]]) tok rfl rfl rfl rfl rfl rfl rfl rfl rfl) ?_)))) fun hc3=>Ae (Qp (A1 (v:=.int .u8 _) rfl) (Qp Bx (Qp A9 (AOL.g (y:=.int .u8 _) _ [] rfl (qZ.all trivial) (fun hG=>A1 (v:=.int .u8 _) rfl) rfl ?_))))))))
  ·
   refine Qe (Dh (k:=0) tok rfl rfl rfl rfl rfl rfl rfl rfl (sc_two _ _) (hsc) (by simp;omega) (by simp [maxLen];omega)) ?_;rintro _ _ ⟨v32,rfl,rfl⟩;refine Qp (A6 (v:=.row _ _ _) rfl) (AOL.nil (I6 (I6 (Bh (AW.region (Qp E9 (Qp Ao (Ag ?_))))))));refine ⟨(p.1+1,p.2.1++Ci [92,bt s p.1],v32),?_,?_,Cs⟩
   · exact ⟨hk,Sw hk hR.2 (by unfold Og;rw [if_pos hc3])⟩
   simp only;omega
  refine Qg [(37,_)] Qw Ej (Qp B9 (Qp A0 (Ag (Aq (fun hc4=>?_) fun hc4=>AW.region (Qp (A1 (v:=.row _ _ _) rfl) (Qp (A1 (v:=.int .u8 _) rfl) (Qp (Aj (es:=[[.int .u8 _]]) tok rfl rfl rfl rfl rfl rfl rfl rfl rfl) ?_)))))))
  ·
   refine Ol ?_;refine Qn 0 rfl (A1 (v:=.row _ _ _) rfl) (Qn 1 rfl (A1 (v:=.int .u8 _) rfl) ?_);refine Qn 2 rfl (P_quow rfl rfl (by omega)) ?_;refine Qn 3 rfl (B3 tok rfl rfl rfl rfl ((xF _).1) ((xF _).2)) (Qn 4 rfl (A1 (v:=.int .u8 _) rfl) ?_);refine Qn 5 rfl (P_rem rfl rfl (by omega)) ?_;refine Qn 6 rfl (B3 tok rfl rfl rfl rfl ((xV _).1) ((xV _).2)) (Qn 7 rfl (Aj (es:=[[.int .u8 _],[.int .u8 _],[.int .u8 _],[.int .u8 _]]) tok rfl rfl rfl rfl rfl rfl rfl rfl rfl) ?_);refine uT 8 rfl (Dh (k:=0) tok rfl rfl rfl rfl rfl rfl rfl rfl (sc_four _ _ _ _) (hsc) (by simp;omega) (by simp [maxLen];omega)) ?_;rintro _ _ ⟨v48,rfl,rfl⟩;refine Qn 9 rfl (A6 (v:=.row _ _ _) rfl) ?_;refine Hs ?_;refine I6 (I6 (Bh (AW.region (Qp E9 (Qp Ao (Ag ?_))))));refine ⟨(p.1+1,p.2.1++Ci [92,120,bt Tx ((bt s p.1).toNat / 16),bt Tx ((bt s p.1).toNat % 16)],v48),?_,?_,Cs⟩
   · exact ⟨hk,Sw hk hR.2 (by unfold Og;rw [iN hc3,if_pos hc4])⟩
   simp only;omega
  refine Qe (Dh (k:=0) tok rfl rfl rfl rfl rfl rfl rfl rfl (Gu rfl) (hsc) (by simp;omega) (by simp [maxLen];omega)) ?_;rintro _ _ ⟨v21,rfl,rfl⟩;refine Qp (A6 (v:=.row _ _ _) rfl) (AOL.nil (I6 (I6 (Bh (AW.region (Qp E9 (Qp Ao (Ag ?_))))))));refine ⟨(p.1+1,p.2.1++Ci [bt s p.1],v21),?_,?_,Cs⟩
  · exact ⟨hk,Sw hk hR.2 (by unfold Og;rw [iN hc3,iN hc4])⟩
  simp only;omega
 have hk:p.1=s.length:=by simp at hc2;have:=hR.1;omega
 have hfin:p.2.1 ++ [[.int .u8 34]]=Ci ([34]++D6 s ++ [34]):=by rw [hR.2,hk,mA,Mg ([34]++D6 s) [34]];rfl
 have hfl:([34]++D6 s ++ [34]).length≤maxLen:=by have h1:=Pz s;simp at hc1;simp [maxLen];omega
 refine AW.exit ?_;refine Bq (Ri (Ae ?_));refine Qp (A1 (v:=.row _ _ _) rfl) (Qp (Aj (es:=[[.int .u8 _]]) tok rfl rfl rfl rfl rfl rfl rfl rfl rfl) ?_);refine Qe (Dh (k:=0) tok rfl rfl rfl rfl rfl rfl rfl rfl (Gu rfl) (hsc) (by simp;omega) (by simp [maxLen];omega)) ?_;rintro _ _ ⟨v52,rfl,rfl⟩;refine Qp (Yj (s:=[34]++D6 s ++ [34]) tok rfl rfl rfl rfl rfl rfl rfl (hfl) (yH hfin)) (Qp Tu (Qp Al (Rb ?_)));refine ⟨.inr rfl,Jz,.cons (.tmp _ _ rfl) <| .cons (.tmp _ _ rfl) <| .nil,.cons _ (.refl _),?_⟩;simp only [Ai,N8];rw [iN hc1]
 done
theorem c70 (s:Am)(hl:s.length≤1048576):Ap Tryz.prog 304 [.str s] (.tuple [.int .u8 ((Kf s).1.toNat:Int),.int .i64 (Kf s).2]):=by
 refine Ap.body (n:=48) tok Tryz.func304 rfl rfl rfl fun H=>?_
 refine Ae ?_;refine Qp (A6 (v:=.int .u8 _) rfl) ?_;refine Qp Al (Re (AW.block (Ae (Qp Gj ?_))));refine Qp (B8 tok rfl rfl rfl rfl) ?_;refine Qp H6 (Qp A9 (Qg [] Qw Gj ?_));refine AOL.g (y:=.int .u8 _) _ [(11,_)] rfl (qZ.all ⟨Ent.Aad _ _,trivial⟩) (fun hG=>B3 tok rfl rfl rfl rfl (by omega) (Gt (i:=1) (by have h9:=g1 hG;simp at h9;omega))) rfl ?_;refine Qg [(12,_)] Qw Av (Qg [(13,_)] Qw A9 (Qg [] Qw Gj ?_));refine AOL.g (y:=.int .u8 _) _ [(15,_)] rfl (qZ.all ⟨Ent.Aad _ _,trivial⟩) (fun hG=>B3 tok rfl rfl rfl rfl (by omega) (Gt (i:=1) (by have h9:=g1 hG;simp at h9;omega))) rfl ?_;refine Qg [(16,_)] Qw Av (Qg [(14,_),(17,_)] Qw B9 (Qp E0 (Qp A0 (Ag (Aq (fun hc1=>?_) fun hc1=>?_)))))
 ·
  refine Ae (Qp Gj ?_);refine Qp (B3 tok rfl rfl rfl rfl (by omega) (Gt (i:=1) (by simp at hc1;omega))) ?_;refine Qp (A6 (v:=.int .u8 _) rfl) ?_;refine Qp Al (Ra ?_);refine Mf (.int .u8 _) (Iq _) ?_;simp only [Ai,Kf];rw [if_pos hc1]
  done
 refine Ae (Qp Gj ?_);refine Qp (B8 tok rfl rfl rfl rfl) ?_;refine Qp H6 (Qp A9 (Qg [] Qw Gj ?_));refine AOL.g (y:=.int .u8 _) _ [(27,_)] rfl (qZ.all ⟨Ent.Aad _ _,trivial⟩) (fun hG=>B3 tok rfl rfl rfl rfl (by omega) (Gt (i:=1) (by have h9:=g1 hG;simp at h9;omega))) rfl ?_;refine Qg [(28,_)] Qw Av (Qp E0 (Qp A0 (Ag (Aq (fun hc2=>?_) fun hc2=>?_))))
 ·
  refine AW.seq ?_;refine Ol ?_;refine Qn 0 rfl Gj ?_;refine Qn 1 rfl (B3 tok rfl rfl rfl rfl (by omega) (Gt (i:=2) (by simp at hc2;omega))) ?_;refine Qn 2 rfl (Qc rfl (k53 Tx _)) ?_;refine Qn 3 rfl Gj ?_;refine Qn 4 rfl (B3 tok rfl rfl rfl rfl (by omega) (Gt (i:=3) (by simp at hc2;omega))) ?_;refine Qn 5 rfl (Qc rfl (k53 Tx _)) ?_;refine Qn 6 rfl Al (Qn 7 rfl Al ?_);refine Hs ?_;refine Bh (Ae (Qp Ao (Qp H6 (Qp A9 (Qg [] Qw Ao (Qg [(40,_)] Qw H6 (Qp E0 (Ag (Aq (fun hc3=>?_) fun hc3=>?_)))))))))
  ·
   refine AW.seq ?_;have hh1:=nW (bt s 2);have hh2:=nW (bt s 3);unfold dR at hh1 hh2;refine AW.region (Qp Ao ?_);refine Qp (P_mul rfl rfl rfl (by constructor <;> omega)) ?_;refine Qp Ao (Qp E9 ?_);refine Qp (X9 (m:=((Yu (16*dR (bt s 2)+dR (bt s 3))).toNat:Int)) tok rfl rfl rfl rfl rfl (qO _)) ?_;refine Qp (A6 (v:=.int .u8 _) rfl) ?_;refine Qp Al (Ra ?_);refine Mf (.int .u8 _) (Iq _) ?_;simp only [Ai,Kf];rw [iN hc1];rw [if_pos hc2];rw [if_pos hc3]
   done
  refine Rf (Ae ?_);refine Qp (A6 (v:=.int .u8 _) rfl) ?_;refine Qp Al (Rb ?_);refine Mf (.int .u8 _) (Iq _) ?_;simp only [Ai,Kf];rw [iN hc1];rw [if_pos hc2];rw [iN hc3];rfl
 refine Rf (Ae ?_);refine Qp (A6 (v:=.int .u8 _) rfl) ?_;refine Qp Al (Rb ?_);refine Mf (.int .u8 _) (Iq _) ?_;simp only [Ai,Kf];rw [iN hc1];rw [iN hc2];rfl
end Go.Proofs.YtckhoadldibflaaGreatDoor
