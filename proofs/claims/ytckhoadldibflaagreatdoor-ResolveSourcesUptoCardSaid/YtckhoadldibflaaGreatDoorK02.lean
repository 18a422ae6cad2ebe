/-
  Several texts in one: EM3, EM4, EM5, EM6, EM10, R1, EM7, EM8, EM9, Shelf, C, W1, W2, W3, W4, W5, W6. No condition.
-/
import Derived.Test.YtckhoadldibflaaGreatDoorK01
import Derived.Shelf.Small.Strs
import Derived.Shelf.Strconv.Itoa0
import Derived.Shelf.Strconv.Itoa1
import Derived.Shelf.LaysM
import Derived.Shelf.Strconv.Itoa2
import Derived.Shelf.Strconv.Itoa3
import Derived.Shelf.Strings.Search1
import Derived.Shelf.Strings.Search2
import Derived.Shelf.Strings.Search3
import Derived.Shelf.Strings.Shaped
import Derived.Shelf.Strings.Prefix
import Derived.Test.YtckhoadldibflaaGreatDoorProg
import Derived.Test.YtckhoadldibflaaGreatDoorTab
import Derived.KernelRfl
set_option linter.unusedVariables false
set_option linter.unusedSimpArgs false
set_option maxHeartbeats 800000
set_option maxRecDepth 100000
namespace Go.Proofs.YtckhoadldibflaaGreatDoor
open Go Go.Aw
theorem Ts {l:List Ex}{k:Nat}{a:Ex}(d:Nat)(h:l[k]? = some a):max d (((l.drop k).map Ea).foldr max 0)=max (max d (Ea a)) (((l.drop (k+1)).map Ea).foldr max 0):=by
 rw [Bd h];simp only [Bj,List.foldr_cons];omega
theorem rK {l:List Ex}{k:Nat}{a:Ex}(n:Nat)(h:l[k]? = some a):n+((l.drop k).map Bz).sum=(n+Bz a)+((l.drop (k+1)).map Bz).sum:=by
 rw [Bd h];simp only [Bj,Ed];omega
theorem size_pos (e:Ex):1<=Bz e:=by rw [Gb];omega
theorem Mb (e:Ex)(h:Bz e<=1048576):e.args.length<=1048576:=by
 rw [Gb] at h
 have:∀l:List Ex,l.length<=(l.map Bz).sum:=by
  intro l
  induction l with
  | nil=>exact B6 _
  | cons x r ih=>simp only [A1,Bj,Ed];have:=size_pos x;omega
 have:=this e.args;omega
theorem lA {L n:Nat}(h:L<n):∀l:List Ex,Gr L l n=n
 | []=>rfl
 | _::_=>by rw [Gr,if_neg (by omega)]
def Lw (e:Ex):Int:=
 if decide ((if 0<=e.op/\e.op<=12 then Iy e.op else -1)<0) then 1
 else if (e.args.length:Int) != (if 0<=e.op/\e.op<=12 then Iy e.op else -1) then 15
 else if ((Gz e.op).1&&(decide (e.var<0)||decide (16<=e.var)))||((Gz e.op).2&&(decide (e.field<0)||decide (8<=e.field))) then 2
 else if e.op==4&&(decide (e.kind<1)||decide (5<e.kind)) then 1
 else if e.op==4||e.op==0 then (if C4 e.val != 0 then C4 e.val else if e.op==4&&(!Pb e.kind e.val||(e.kind==1 && !isV0 e.val)) then 9 else Ga e)
 else if e.op==4&&(!Pb e.kind e.val||(e.kind==1 && !isV0 e.val)) then 9
 else Ga e
theorem I1 (e:Ex):Lw e=Gt e:=by
  unfold Lw Gt;by_cases h:0<=e.op/\e.op<=12
  . have ha : ¬ Iy e.op < 0 := by unfold Iy; repeat' split
                                  all_goals omega
    simp only [h,and_self,if_true,decide_true,Bc,Al,if_false,ha,decide_false];split
    . rfl
    split
    . rfl
    by_cases h4:e.op=4
    . simp only [h4,BEq.rfl,Ee,I7,if_true]
      by_cases hk:(decide (e.kind<1)||decide (5<e.kind))=true
      . rw [if_pos hk,if_pos hk]
      . rw [if_neg hk,if_neg hk]
        have hs:Pb e.kind e.val=Rr e.kind e.val:=by
          simp at hk;unfold Pb Rr;have:(e.kind==0)=false:=by simp;omega
          rw [this];simp
        unfold N8;rw [hs,h4];by_cases hv:C4 e.val=0
        . rw [hv]
          simp only [bne_self_eq_false,Al,if_false,BEq.rfl,Ee];by_cases hb:(!Rr e.kind e.val||(e.kind==1 && !isV0 e.val))=true
          . rw [if_pos hb,if_pos hb];rfl
          rw [if_neg hb,if_neg hb];rfl
        simp [hv]
    . have h4':(e.op==4)=false:=by simp [h4]
      simp only [h4',Jq,Al,if_false,Fz];unfold N8;simp only [h4',Jq,Al,if_false];by_cases hv:C4 e.val=0
      . simp [hv]
      simp [hv]
  simp [h]
theorem eW {α:Type}{f:α->Int}:∀{l:List α},Ch f l=0->∀a∈l,f a=0
  | [],_,_,h=>by cases h
  | x::r,h,a,ha=>by
    simp only [Ch] at h;by_cases hx:f x=0
    . rw [if_neg (by simp [hx])] at h
      rcases Dn.1 ha with rfl | ha
      . exact hx
      exact eW h a ha
    rw [if_pos (by simpa using hx)] at h;exact absurd h hx
theorem D1 {e:Ex}(h:C0 e=0):Gt e=0/\∀a∈e.args,C0 a=0:=by
 rw [Z9] at h;by_cases hx:Gt e=0
 .
  rw [if_neg (by simp [hx])] at h;exact ⟨hx,eW h⟩
 rw [if_pos (by simpa using hx)] at h;exact absurd h hx
theorem Wq {e:Ex}(h:Gt e=0):0<=e.op/\e.op<=12/\(e.args.length:Int)=Iy e.op:=by
 unfold Gt at h;split at h
 . cases h
 split at h
 . cases h
 rename_i h1 h2;simp at h1 h2;exact ⟨h1.1,h1.2,h2⟩
theorem tR {e:Ex}(h:Gt e=0):0<=e.field:=by
  have hf:Ga e=0->(Gz e.op).2=false->e.field=0:=by
    intro h1 h2;unfold Ga at h1;split at h1
    . cases h1
    . rename_i h3
      simp [h2] at h3;exact h3.1.1.2
  unfold Gt at h;split at h
  . cases h
  split at h
  . cases h
  split at h
  . cases h
  rename_i h1 h2 h3;cases hu:(Gz e.op).2 with
  | true=>
    simp [hu] at h3;omega
  | false=>
    have:Ga e=0:=by
      split at h
      . cases h
      split at h
      . split at h
        . rename_i h4
          exact absurd h (by simpa using h4)
        exact h
      exact h
    rw [hf this hu];exact I8 _
mutual
def rebS (f:Ex->Ex):Ex->Ex
 | ⟨op,args,var,field,kind,val⟩=>f ⟨op,rebL f args,var,field,kind,val⟩
def rebL (f:Ex->Ex):List Ex->List Ex
 | []=>[]
 | e::r=>rebS f e::rebL f r
end
def outS (f:Ex->Ex)(e:Ex):Ex:=⟨e.op,e.args.map (rebS f),e.var,e.field,e.kind,e.val⟩
def yQ (e:Ex):Ex:=e.args.headD Zs
def arg1 (e:Ex):Ex:=(e.args[1]?).getD Zs
def constE (v:Vl):Ex:=⟨0,[],0,0,0,v⟩
def isC (a:Ex)(b:Bool):Bool:=a.op==0&&eqV a.val (Tq b)
def wN (x:Evr)(e:Ex):Vl×Bool:=
 if e.args.any (fun a=>a.op != 0) then (v0,false) else if (e.args.length:Int)==0 then (v0,false) else ((eQ x e).1,(eQ x e).2==0&&C4 (eQ x e).1==0)
def fnodeS (x:Evr)(e:Ex):Ex:=
 if (wN x e).2 then constE (wN x e).1
 else if e.op==12&&(yQ e).op==12 then yQ (yQ e)
 else if e.op != 10&&e.op != 11 then e
 else if isC (yQ e) (e.op==10) then arg1 e
 else if isC (arg1 e) (e.op==10) then yQ e
 else if isC (yQ e) (!(e.op==10))||isC (arg1 e) (!(e.op==10)) then constE (Tq (!(e.op==10)))
 else e
def xz:Evr:=⟨[],-1,vS⟩
def FoldS (e:Ex):Ex×Int:=if C2 e != 0 then (Zs,C2 e) else (rebS (fnodeS xz) e,0)
def N9 (a b:Ex):Bool:=a.op != b.op||a.var != b.var||a.field != b.field||a.kind != b.kind || !eqV a.val b.val||(a.args.length:Int) != (b.args.length:Int)
mutual
def F4:Ex->Ex->Bool
 | ⟨op,args,var,field,kind,val⟩,b=>if N9 ⟨op,args,var,field,kind,val⟩ b then false else Tc args b.args
def Tc:List Ex->List Ex->Bool
 | [],_=>true
 | a::r,l=>if !F4 a (l.headD Zs) then false else Tc r l.tail
end
theorem Oh (a b:Ex):F4 a b=if N9 a b then false else Tc a.args b.args:=by cases a;rw [F4]
theorem Aak (a b:Ex):F4 a b=true↔a=b:=by
  induction a using Ex.ind generalizing b with
  | h a ih=>
    have hL:∀(l m:List Ex),(∀x∈l,∀y,F4 x y=true↔x=y)->l.length=m.length->(Tc l m=true↔l=m):=by
      intro l
      induction l with
      | nil=>intro m _ hl;cases m with | nil=>simp [Tc] | cons _ _=>simp at hl
      | cons x r ihl=>
        intro m hx hl;cases m with
        | nil=>simp at hl
        | cons y s=>
          have h1:=hx x (by simp) y;have h2:=ihl s (fun z hz=>hx z (by simp [hz])) (by simpa using hl);rw [List.cons.injEq];show (if (!F4 x y)=true then false else Tc r s)=true↔x=y/\r=s;by_cases hs:F4 x y=true
          . rw [if_neg (by simp [hs]),h2];simp [h1.1 hs]
          . rw [if_pos (by simp [hs])]
            have:¬x=y:=fun e=>hs (h1.2 e)
            simp [this]
    rw [Oh];by_cases hh:N9 a b=true
    . rw [if_pos hh]
      constructor
      . intro h;cases h
      . intro e;subst e
        simp [N9] at hh
    . rw [if_neg hh]
      have hh':=hh;simp [N9] at hh;obtain ⟨⟨⟨⟨⟨h1,h2⟩,h3⟩,h4⟩,h5⟩,h6⟩:=hh;rw [hL _ _ (fun x hx y=>ih x hx y) (by omega)]
      cases a with | mk _ _ _ _ _ av=>cases b with | mk _ _ _ _ _ bv=>
        cases av;cases bv
        simp_all
theorem gH (a:Ex):F4 a a=true:=(Aak a a).2 rfl
def atS (to:List Int)(v:Int):Int:=(to[v.toNat]?).getD 0
def mJ (to:List Int)(e:Ex):Int:=
 if !(Gz e.op).1 then 0 else if decide ((to.length:Int)<=e.var) then 6 else if decide (atS to e.var<0)||decide (16<=atS to e.var) then 2 else 0
def renNodeS (to:List Int)(e:Ex):Ex:=if (Gz e.op).1 then ⟨e.op,e.args,atS to e.var,e.field,e.kind,e.val⟩ else e
def renS (to:List Int)(e:Ex):Ex×Int:=if J8 (mJ to) e != 0 then (Zs,J8 (mJ to) e) else (rebS (renNodeS to) e,0)
def RenameS (e:Ex)(to:List Int):Ex×Int:=if C2 e != 0 then (Zs,C2 e) else renS to e
theorem node_var {e:Ex}(h:Gt e=0):0<=e.var/\e.var<16:=by
  have hf:Ga e=0->(Gz e.op).1=false->e.var=0:=by
    intro h1 h2;unfold Ga at h1;split at h1
    . cases h1
    . rename_i h3
      simp [h2] at h3;exact h3.1.1.1
  unfold Gt at h;split at h
  . cases h
  split at h
  . cases h
  split at h
  . cases h
  rename_i h1 h2 h3;cases hu:(Gz e.op).1 with
  | true=>
    simp [hu] at h3;omega
  | false=>
    have:Ga e=0:=by
      split at h
      . cases h
      split at h
      . split at h
        . rename_i h4
          exact absurd h (by simpa using h4)
        exact h
      exact h
    rw [hf this hu];omega
structure Fi where
 name:List UInt8
 kind:Int
structure e8Sc where
 name:List UInt8
 fields:List Fi
structure Va where
 name:List UInt8
 type:Int
def vM (f:Fi):List AV:=[.str f.name,.int .i64 f.kind]
def Js (s:e8Sc):List AV:=[.str s.name,.sl 2 (s.fields.map vM)]
def Ox (v:Va):List AV:=[.str v.name,.int .i64 v.type]
def Yu:e8Sc:=⟨[],[]⟩
def fi0:Fi:=⟨[],0⟩
def va0:Va:=⟨[],0⟩
def Z3 (n:Int):Bool:=n==95||(decide (97<=n)&&decide (n<=122))||(decide (65<=n)&&decide (n<=90))
def Zo (n:Int):Bool:=decide (48<=n)&&decide (n<=57)
def kV (b:UInt8):Bool:=Z3 b.toNat||Zo b.toNat
def Ik (s:List UInt8):Bool:=!(s.length==0)&&decide (s.length<=24) && !Zo ((s.headD 0).toNat)&&s.all kV
def timeB:List UInt8:=[116,105,109,101]
def Tr (s:List UInt8):Bool:=Ik s && !(s==timeB)
def Fe (seen:List (List UInt8))(f:Fi):Int:=
 if !Tr f.name then 8 else if seen.contains f.name then 7 else if decide (f.kind<0)||decide (3<=f.kind) then 1 else 0
def K2:List (List UInt8)->List Fi->Int
 | _,[]=>0
 | seen,f::r=>if Fe seen f != 0 then Fe seen f else K2 (seen ++ [f.name]) r
def Iu (s:e8Sc):Int:=if !Ik s.name then 8 else if decide (8<(s.fields.length:Int)) then 5 else K2 [] s.fields
def Ip (seen:List (List UInt8))(s:e8Sc):Int:=if Iu s != 0 then Iu s else if seen.contains s.name then 7 else 0
def L4:List (List UInt8)->List e8Sc->Int
 | _,[]=>0
 | seen,s::r=>if Ip seen s != 0 then Ip seen s else L4 (seen ++ [s.name]) r
def C7 (l:List e8Sc):Int:=if decide (16<(l.length:Int)) then 5 else L4 [] l
def Ha (ns:List (List UInt8))(n:List UInt8):Int:=if ns.contains n then ((ns.idxOf n:Nat):Int) else -1
theorem T4 {ns:List (List UInt8)}{k:Nat}{n:List UInt8}(h:ns[k]? = some n):decide (Ha ns n<(k:Int))=(ns.take k).contains n:=by
 have hm:n∈ns:=An h;have hc:ns.contains n=true:=by simpa using hm
 unfold Ha;rw [if_pos hc]
 have key:ns.idxOf n<k↔n∈ns.take k:=by
  constructor
  .
   intro hlt;have h1:ns.idxOf n<ns.length:=List.idxOf_lt_length_of_mem hm;have h2:ns[ns.idxOf n]=n:=List.getElem_idxOf h1;rw [List.mem_take_iff_getElem];exact ⟨ns.idxOf n,by omega,h2⟩
  intro hmem;obtain ⟨i,hi,he⟩:=List.mem_take_iff_getElem.1 hmem
  have:ns.idxOf n<=i:=by
   refine Nat.le_of_not_lt fun hlt=>?_
   have h4:=List.not_of_lt_findIdx (p:=fun x=>x==n) (xs:=ns) (i:=i) hlt;simp only [he] at h4;simp at h4
  omega
 by_cases hk:ns.idxOf n<k
 .
  have h2:=key.1 hk;have e1:decide (((ns.idxOf n:Nat):Int)<(k:Int))=true:=by simp;omega
  rw [e1];symm;simpa using h2
 have h2:¬n∈ns.take k:=fun h=>hk (key.2 h)
 have e1:decide (((ns.idxOf n:Nat):Int)<(k:Int))=false:=by simp;omega
 rw [e1];symm;simpa using h2
def varE (n:Int)(v:Va):Int:=if decide (v.type<0)||decide (n<=v.type) then 6 else 0
def varsE (types:List e8Sc)(vars:List Va):Int:=if decide (16<(vars.length:Int)) then 5 else Ch (varE types.length) vars
def vW (types:List e8Sc)(vars:List Va)(v:Int):List Fi:=((types[((vars[v.toNat]?).getD va0).type.toNat]?).getD Yu).fields
def tI (l:List Fi)(k:Int):Int:=((l[k.toNat]?).getD fi0).kind
def leafK (types:List e8Sc)(vars:List Va)(e:Ex):Int×Int:=
 if e.op==0 then (e.val.kind,0)
 else if decide ((vars.length:Int)<=e.var) then (0,6)
 else if e.op==2||e.op==3 then (0,0)
 else if decide (((vW types vars e.var).length:Int)<=e.field) then (0,6)
 else if e.op==4&&(tI (vW types vars e.var) e.field != e.val.kind || !Rr e.kind ⟨tI (vW types vars e.var) e.field,0,[]⟩) then (0,9)
 else (tI (vW types vars e.var) e.field,0)
def resK (op:Int):Int:=if op==5||op==6 then 0 else 1
mutual
def wK (types:List e8Sc)(vars:List Va):Ex->Int×Int
  | ⟨op,args,var,field,kind,val⟩=>
    if args.isEmpty then leafK types vars ⟨op,args,var,field,kind,val⟩
    else if (fK types vars args).2 != 0 then (0,(fK types vars args).2)
    else if U8 op (fK types vars args).1 != 0 then (0,U8 op (fK types vars args).1) else (resK op,0)
def fK (types:List e8Sc)(vars:List Va):List Ex->List Int×Int
 | []=>([],0)
 | e::r=>if (wK types vars e).2 != 0 then ([],(wK types vars e).2) else if (fK types vars r).2 != 0 then ([],(fK types vars r).2) else ((wK types vars e).1::(fK types vars r).1,0)
end
def KindS (types:List e8Sc)(vars:List Va)(e:Ex):Int×Int:=
 if C7 types != 0 then (0,C7 types) else if varsE types vars != 0 then (0,varsE types vars) else if C2 e != 0 then (0,C2 e) else wK types vars e
def shortS (types:List e8Sc)(vars:List Va):Bool:=!((types.take 30).any fun s=>decide (12<(s.fields.length:Int)))&&(decide ((types.length:Int)<=20)&&decide ((vars.length:Int)<=20))
structure Pt where
 op:Int
 args:List Pt
 type:Int
 var:Int
 scope:Int
 span:Int
 cond:Ex
def pt0:Pt:=⟨0,[],0,0,0,0,Zs⟩
mutual
def Jd:Pt->List AV
 | ⟨o,asx,t,v,s,n,c⟩=>[.int .i64 o,.sl 14 (oB asx),.int .i64 t,.int .i64 v,.int .i64 s,.int .i64 n,.int .i64 c.op,.sl 8 (c.args.map F5),.int .i64 c.var,.int .i64 c.field,.int .i64 c.kind,.int .i64 c.val.kind,.int .i64 c.val.num,.str c.val.text]
def oB:List Pt->List (List AV)
 | []=>[]
 | a::r=>Jd a::oB r
end
@[reducible] def cPt (p : Pt) : List AV := [.int .i64 p.op, .sl 14 (p.args.map Jd), .int .i64 p.type, .int .i64 p.var, .int .i64 p.scope, .int .i64 p.span, .int .i64 p.cond.op, .sl 8 (p.cond.args.map F5), .int .i64 p.cond.var, .int .i64 p.cond.field, .int .i64 p.cond.kind, .int .i64 p.cond.val.kind, .int .i64 p.cond.val.num, .str p.cond.val.text]
theorem jC:∀l:List Pt,oB l=l.map Jd
 | []=>by rw [oB,Ca]
 | a::r=>by rw [oB,jC r,Bj]
theorem Uz (p:Pt):Jd p=cPt p:=by
 cases p;rw [Jd,jC]
mutual
def Gy:Pt->Nat
 | ⟨_,asx,_,_,_,_,_⟩=>ptNs asx+1
def ptNs:List Pt->Nat
 | []=>0
 | a::r=>Gy a+ptNs r
end
theorem qG:∀l:List Pt,ptNs l=(l.map Gy).sum
 | []=>by rw [ptNs];rfl
 | a::r=>by rw [ptNs,qG r,Bj,Ed]
theorem J5 (p:Pt):Gy p=(p.args.map Gy).sum+1:=by cases p;rw [Gy,qG]
theorem Pt.ind {Q:Pt->Prop}(h:∀e,(∀a∈e.args,Q a)->Q e):∀e,Q e:=by
  have key:∀n e,Gy e<=n->Q e:=by
    intro n
    induction n with
    | zero=>intro e he;rw [J5] at he;omega
    | succ n ih=>
      intro e he;refine h e fun a ha=>ih a ?_
      rw [J5] at he
      have:∀l:List Pt,a∈l->Gy a<=(l.map Gy).sum:=by
        intro l
        induction l with
        | nil=>intro h;cases h
        | cons x r ih2=>
          intro h;rw [Bj,Ed];rcases Dn.1 h with rfl | h
          . omega
          have:=ih2 h;omega
      have:=this _ ha;omega
  exact fun e=>key _ e (B6 _)
structure Fa where
 pos:Int
 err:Int
def Xy:Fa:=⟨0,0⟩
def sP (f:Fa):List AV:=[.int .i64 f.pos,.int .i64 f.err]
def Mp (f:Syn->Fa):List Syn->Fa
 | []=>Xy
 | x::r=>if ((f x).err != 0) then f x else Mp f r
mutual
def Xx:Syn->List Syn
 | ⟨k,x,n,m,kids,p⟩=>if (k==5) then [⟨k,x,n,m,kids,p⟩] else if (k==10) then kids.getD 1 Hb::evH kids else if (k==12) then evH kids else evL kids
def evH:List Syn->List Syn
 | []=>[]
 | x::_=>Xx x
def evL:List Syn->List Syn
 | []=>[]
 | x::r=>Xx x++evL r
end
theorem vT:∀l:List Syn,evL l=l.flatMap Xx
 | []=>by rw [evL];rfl
 | x::r=>by rw [evL,vT r,P6]
theorem lC {l:List Syn}(h:0<l.length):evH l=Xx (l.getD 0 Hb):=by
 cases l with
 | nil=>simp at h
 | cons x r=>rw [evH];rfl
theorem Zr (t:Syn):Xx t=if (t.kind==5) then [t] else if (t.kind==10) then Cd t 1::evH t.kids else if (t.kind==12) then evH t.kids else t.kids.flatMap Xx:=by
 cases t;rw [Xx,vT];rfl
abbrev Nz (T:List e8Sc):List Av:=T.map (·.name)
abbrev Lh (V:List Va):List Av:=V.map (·.name)
def Tv (l:List Av)(n:Av):Int:=if l.contains n then ((l.idxOf n:Nat):Int) else 0
def M3 (T:List e8Sc)(V:List Va)(t:Syn):Int:=
 if ((V.length:Int)==16) then 5 else if !((Nz T).contains t.text) then 8 else if (Lh V).contains t.name then 7 else 0
def Zm (T:List e8Sc)(t:Syn):Va:=⟨t.name,Tv (Nz T) t.text⟩
def Qq (T:List e8Sc):List Va->List Syn->List Va×Fa
 | V,[]=>(V,Xy)
 | V,t::r=>if (M3 T V t != 0) then (V,⟨t.pos,M3 T V t⟩) else Qq T (V ++ [Zm T t]) r
def Hz (s:e8Sc)(n:Av):Int:=Ha (s.fields.map (·.name)) n
def Xg (T:List e8Sc)(V:List Va)(v:Int):e8Sc:=(T[((V[v.toNat]?).getD va0).type.toNat]?).getD Yu
def Wg (T:List e8Sc)(n:Av):List Va->List Int->List Int×Bool
 | [],out=>(out,true)
 | v::r,out=>if decide (Hz ((T[v.type.toNat]?).getD Yu) n<0) then ([],false) else Wg T n r (out.set v.type.toNat (Hz ((T[v.type.toNat]?).getD Yu) n))
def Oz (T:List e8Sc)(V:List Va)(n:Av):List Int×Bool:=Wg T n V (List.replicate T.length (-1))
section
variable (T:List e8Sc) (V:List Va)
def Ms (t:Syn):Fa:=
 if ((t.kind != 14)&&(t.kind != 15))&&(t.kind != 16) then Xy
 else if !((Lh V).contains t.text) then ⟨t.pos,8⟩
 else if (t.kind==15)||((t.kind==14)&&(t.name==F6)) then Xy
 else if decide (Hz (Xg T V (Tv (Lh V) t.text)) t.name<0) then ⟨t.pos,6⟩
 else Xy
mutual
def H5:Syn->Fa
 | ⟨k,x,n,m,kids,p⟩=>if ((Ms T V ⟨k,x,n,m,kids,p⟩).err != 0) then Ms T V ⟨k,x,n,m,kids,p⟩ else rW kids
def rW:List Syn->Fa
 | []=>Xy
 | x::r=>if ((H5 x).err != 0) then H5 x else rW r
end
theorem gQ:∀l:List Syn,rW T V l=Mp (H5 T V) l
 | []=>by rw [rW,Mp]
 | x::r=>by rw [rW,Mp,gQ r]
theorem gR (t:Syn):H5 T V t=if ((Ms T V t).err != 0) then Ms T V t else Mp (H5 T V) t.kids:=by
 cases t;rw [H5,gQ]
def rP (t:Syn):Vl:=if (t.name==E6) then ⟨1,t.num,[]⟩ else if (t.name==D4) then ⟨2,0,t.text⟩ else ⟨0,t.num,[]⟩
def S9 (t:Syn)(asx:List Ex):Ex:=
 if (t.kind==13) then ⟨0,[],0,0,0,rP t⟩
 else if (t.kind==14) then if (t.name==F6) then ⟨2,[],Tv (Lh V) t.text,0,0,v0⟩ else ⟨1,[],Tv (Lh V) t.text,Hz (Xg T V (Tv (Lh V) t.text)) t.name,0,v0⟩
 else if (t.kind==15) then ⟨3,[],Tv (Lh V) t.text,0,0,v0⟩
 else if (t.kind==16) then ⟨4,[],Tv (Lh V) t.text,Hz (Xg T V (Tv (Lh V) t.text)) t.name,t.num,if decide ((0:Int)<(t.kids.length:Int)) then rP (Cd t 0) else v0⟩
 else if (t.kind==18) then ⟨12,asx,0,0,0,v0⟩
 else ⟨t.num,asx,0,0,0,v0⟩
mutual
def Gs:Syn->Ex
 | ⟨k,x,n,m,kids,p⟩=>S9 T V ⟨k,x,n,m,kids,p⟩ (oD kids)
def oD:List Syn->List Ex
 | []=>[]
 | x::r=>Gs x::oD r
end
theorem jI:∀l:List Syn,oD T V l=l.map (Gs T V)
 | []=>by rw [oD,Ca]
 | x::r=>by rw [oD,jI r,Bj]
theorem K1 (t:Syn):Gs T V t=S9 T V t (t.kids.map (Gs T V)):=by cases t;rw [Gs,jI]
def Lb:Ex:=⟨0,[],0,0,0,⟨1,1,[]⟩⟩
def N7 (t:Syn):Ex:=if decide ((0:Int)<(t.kids.length:Int)) then Gs T V (Cd t 0) else Lb
structure Nx where
 next:Int
 scopes:Int
def Q6 (t:Syn)(s:Nx)(asx:List Pt):Pt:=
 if (t.kind==5) then ⟨0,asx,Tv (Nz T) t.text,s.next,0,0,N7 T V t⟩
 else if (t.kind==10) then ⟨5,asx,Tv (Nz T) (Cd t 1).text,s.next,s.scopes,0,N7 T V (Cd t 1)⟩
 else if (t.kind==11) then ⟨6,asx,0,0,s.scopes,t.num,Zs⟩
 else if (t.kind==12) then ⟨7,asx,0,0,0,0,Gs T V (Cd t 1)⟩
 else ⟨t.kind-5,asx,0,0,0,0,Zs⟩
def aB (t:Syn)(s:Nx):Nx:=⟨if (t.kind==5)||(t.kind==10) then s.next+1 else s.next,if (t.kind==10)||(t.kind==11) then s.scopes+1 else s.scopes⟩
mutual
def J6:Syn->Nx->Pt×Nx
  | ⟨k,x,n,m,kids,p⟩,s=>
    if (k==5) then (Q6 T V ⟨k,x,n,m,kids,p⟩ s [],aB ⟨k,x,n,m,kids,p⟩ s)
    else if (k==10)||(k==12) then (Q6 T V ⟨k,x,n,m,kids,p⟩ s (ptHR kids (aB ⟨k,x,n,m,kids,p⟩ s)).1,(ptHR kids (aB ⟨k,x,n,m,kids,p⟩ s)).2)
    else (Q6 T V ⟨k,x,n,m,kids,p⟩ s (G2 kids (aB ⟨k,x,n,m,kids,p⟩ s)).1,(G2 kids (aB ⟨k,x,n,m,kids,p⟩ s)).2)
def ptHR:List Syn->Nx->List Pt×Nx
 | [],s=>([],s)
 | x::_,s=>([(J6 x s).1],(J6 x s).2)
def G2:List Syn->Nx->List Pt×Nx
 | [],s=>([],s)
 | x::r,s=>((J6 x s).1::(G2 r (J6 x s).2).1,(G2 r (J6 x s).2).2)
end
def Hi (t:Syn):List Syn:=if (t.kind==5) then [] else if (t.kind==10)||(t.kind==12) then t.kids.take 1 else t.kids
theorem zW:∀(l:List Syn) (s:Nx),ptHR T V l s=G2 T V (l.take 1) s
 | [],s=>by rw [ptHR,List.take_nil,G2]
 | x::r,s=>by rw [ptHR,W0,Ul,G2,G2]
theorem xE (t:Syn)(s:Nx):J6 T V t s=(Q6 T V t s (G2 T V (Hi t) (aB t s)).1,(G2 T V (Hi t) (aB t s)).2):=by
  cases t with | mk k x n m kids p=>
  rw [J6];unfold Hi;cases h1:(k==5) with
  | true=>simp only [h1,if_true];rw [G2]
  | false=>
    simp only [h1,Al,if_false];cases h2:(k==10)||(k==12) with
    | true=>simp only [h2,if_true];rw [zW]
    | false=>simp only [h2,Al,if_false]
theorem qE:∀(l r:List Syn) (s:Nx),G2 T V (l++r) s=((G2 T V l s).1++(G2 T V r (G2 T V l s).2).1,(G2 T V r (G2 T V l s).2).2)
 | [],r,s=>by rw [Fp,G2];rfl
 | x::l,r,s=>by rw [E2,G2,qE l r,G2];rfl
end
inductive Fd (f:Ex->Ex):Ex->Prop where
 | mk (e:Ex) (ha:∀a∈e.args,Fd f a) (h:f e=e):Fd f e
theorem Mo {e:Ex}(h:C2 e=0):Bz e<=64/\Ea e<=12/\C0 e=0:=by
 unfold C2 at h;split at h
 . cases h
 rename_i h1;split at h
 . cases h
 rename_i h2;simp at h1 h2;exact ⟨by omega,by omega,h⟩
def okB (v:Vl):Prop:=v.kind=1->v=Tq (v.num==1)
def ownS (e:Ex):List Nat:=if (Gz e.op).1&&decide (0<=e.var)&&decide (e.var<16) then [e.var.toNat] else []
mutual
def usedS:Ex->List Nat
 | ⟨op,args,var,field,kind,val⟩=>ownS ⟨op,args,var,field,kind,val⟩++usedL args
def usedL:List Ex->List Nat
 | []=>[]
 | e::r=>usedS e++usedL r
end
def cSeen (S:List Nat):List AV:=(List.range 16).map fun v=>.bool (S.contains v)
theorem seen_len (S:List Nat):(cSeen S).length=16:=rfl
def uptoS (S:List Nat)(k:Nat):List Int:=((List.range k).filter fun v=>S.contains v).map fun (v:Nat)=>(v:Int)
theorem upto_zero (S:List Nat):uptoS S 0 = []:=rfl
def varsS (e:Ex):List Int:=uptoS (usedS e) 16
def tvS (n b v:Nat):Int:=((v:Int)+(b:Int)).tmod (n:Int)
def toS (n b:Nat):List Int:=(List.range n).map (tvS n b)
end Go.Proofs.YtckhoadldibflaaGreatDoor
namespace Go.Proofs
open Go.Shelf
def Tryz.lays137_ren:Go.Shelf.Ren:=⟨fun | 137=>275 | 217=>301 | 266=>314 | n=>n,fun | 9=>9 | 5=>5 | 3=>3 | n=>n,fun | n=>n⟩
theorem Tryz.lays137:Go.Proofs.Lays.n137 Tryz.prog Tryz.lays137_ren:={
 mixed:=by kernel_rfl
 f137:=Tryz.func275.trans (congrArg some (by kernel_rfl))
 f217:=Tryz.func301.trans (congrArg some (by kernel_rfl))
 f266:=Tryz.func314.trans (congrArg some (by kernel_rfl))
 t3:=Tryz.underlying3
 a3:=Tryz.isAgg3
 z3:=Tryz.sizeOf3
 v3:=Tryz.zeroValue3
 t5:=Tryz.underlying5
 a5:=Tryz.isAgg5
 z5:=Tryz.sizeOf5
 v5:=Tryz.zeroValue5
 t9:=Tryz.underlying9
 a9:=Tryz.isAgg9
 z9:=Tryz.sizeOf9
 v9:=Tryz.zeroValue9 }
open Go.RowKit in
theorem Tryz.strings_IndexByte (s:ByteArray)(c:Int)(w:World) :
 Calls Tryz.prog 275 #[.string s,.int .u8 c] w fun e w'=>e = .returned (.int .i64 (Lib.indexByte s.data.toList c.toNat.toUInt8))/\w'=w:=Any.strings_IndexByte Tryz.lays137 s c w
def Tryz.lays129_ren:Go.Shelf.Ren:=⟨fun | 129=>324 | n=>n,fun | 53=>298 | 3=>3 | 4=>4 | 46=>271 | 5=>5 | 9=>9 | n=>n,fun | n=>n⟩
def Tryz.lays317_ren:Go.Shelf.Ren:=⟨fun | 317=>323 | n=>n,fun | 3=>3 | 46=>271 | n=>n,fun | n=>n⟩
def Tryz.lays318_ren:Go.Shelf.Ren:=⟨fun | 318=>325 | n=>n,fun | 3=>3 | 4=>4 | n=>n,fun | n=>n⟩
def Tryz.lays283_ren:Go.Shelf.Ren:=⟨fun | 283=>318 | n=>n,fun | 3=>3 | 9=>9 | 4=>4 | n=>n,fun | n=>n⟩
def Tryz.laysM284_ren:Go.Shelf.Ren:=⟨fun | 284=>319 | 129=>324 | 317=>323 | 318=>325 | n=>n,fun | 53=>298 | 3=>3 | 212=>318 | 0=>0 | 4=>4 | 46=>271 | 5=>5 | 9=>9 | n=>n,fun | 17=>7 | n=>n⟩
def Tryz.lays285_ren:Go.Shelf.Ren:=⟨fun | 285=>320 | n=>n,fun | 37=>205 | 53=>298 | 3=>3 | 4=>4 | 51=>295 | 9=>9 | 5=>5 | 0=>0 | n=>n,fun | n=>n⟩
def Tryz.laysM246_ren:Go.Shelf.Ren:=⟨fun | 246=>313 | 283=>318 | 284=>319 | 285=>320 | 286=>321 | 129=>324 | 317=>323 | 318=>325 | 319=>326 | 320=>327 | 337=>331 | 338=>332 | n=>n,fun | 2=>2 | 3=>3 | 9=>9 | 4=>4 | 171=>311 | 0=>0 | 53=>298 | 37=>205 | 5=>5 | 173=>314 | 212=>318 | 51=>295 | 20=>20 | 213=>319 | 46=>271 | 232=>323 | 233=>324 | n=>n,fun | 17=>7 | 18=>9 | 19=>10 | n=>n⟩
def Tryz.lays246_ren:Go.Shelf.Ren:=⟨fun | 246=>313 | 283=>318 | 284=>319 | 285=>320 | 286=>321 | 129=>324 | 317=>323 | 318=>325 | 319=>326 | 320=>327 | 337=>331 | 338=>332 | n=>n,fun | 2=>2 | 3=>3 | 9=>9 | 4=>4 | 171=>311 | 0=>0 | 53=>298 | 37=>205 | 5=>5 | 173=>314 | 212=>318 | 51=>295 | 20=>20 | 213=>319 | 46=>271 | 232=>323 | 233=>324 | n=>n,fun | 17=>7 | 18=>9 | 19=>10 | n=>n⟩
def Tryz.laysM243_ren:Go.Shelf.Ren:=⟨fun | 243=>299 | 246=>313 | 283=>318 | 284=>319 | 285=>320 | 286=>321 | 129=>324 | 317=>323 | 318=>325 | 319=>326 | 320=>327 | 337=>331 | 338=>332 | n=>n,fun | 3=>3 | 9=>9 | 2=>2 | 4=>4 | 171=>311 | 0=>0 | 53=>298 | 37=>205 | 5=>5 | 173=>314 | 212=>318 | 51=>295 | 20=>20 | 213=>319 | 46=>271 | 232=>323 | 233=>324 | n=>n,fun | 17=>7 | 18=>9 | 19=>10 | n=>n⟩
def Tryz.lays243_ren:Go.Shelf.Ren:=⟨fun | 243=>299 | 246=>313 | 283=>318 | 284=>319 | 285=>320 | 286=>321 | 129=>324 | 317=>323 | 318=>325 | 319=>326 | 320=>327 | 337=>331 | 338=>332 | n=>n,fun | 3=>3 | 9=>9 | 2=>2 | 4=>4 | 171=>311 | 0=>0 | 53=>298 | 37=>205 | 5=>5 | 173=>314 | 212=>318 | 51=>295 | 20=>20 | 213=>319 | 46=>271 | 232=>323 | 233=>324 | n=>n,fun | 17=>7 | 18=>9 | 19=>10 | n=>n⟩
def Tryz.laysM171_ren:Go.Shelf.Ren:=⟨fun | 171=>270 | 243=>299 | 246=>313 | 283=>318 | 284=>319 | 285=>320 | 286=>321 | 129=>324 | 317=>323 | 318=>325 | 319=>326 | 320=>327 | 337=>331 | 338=>332 | n=>n,fun | 3=>3 | 9=>9 | 2=>2 | 4=>4 | 171=>311 | 0=>0 | 53=>298 | 37=>205 | 5=>5 | 173=>314 | 212=>318 | 51=>295 | 20=>20 | 213=>319 | 46=>271 | 232=>323 | 233=>324 | n=>n,fun | 17=>7 | 18=>9 | 19=>10 | n=>n⟩
theorem Tryz.laysM171:Go.Proofs.LaysM.n171 Tryz.prog Tryz.laysM171_ren:={
 mixed:=by kernel_rfl
 f129:=Tryz.func324.trans (congrArg some (by kernel_rfl))
 f171:=Tryz.func270.trans (congrArg some (by kernel_rfl))
 f243:=Tryz.func299.trans (congrArg some (by kernel_rfl))
 f246:=Tryz.func313.trans (congrArg some (by kernel_rfl))
 f283:=Tryz.func318.trans (congrArg some (by kernel_rfl))
 f284:=Tryz.func319.trans (congrArg some (by kernel_rfl))
 f285:=Tryz.func320.trans (congrArg some (by kernel_rfl))
 f286:=Tryz.func321.trans (congrArg some (by kernel_rfl))
 f317:=Tryz.func323.trans (congrArg some (by kernel_rfl))
 f318:=Tryz.func325.trans (congrArg some (by kernel_rfl))
 f319:=Tryz.func326.trans (congrArg some (by kernel_rfl))
 f320:=Tryz.func327.trans (congrArg some (by kernel_rfl))
 f337:=Tryz.func331.trans (congrArg some (by kernel_rfl))
 f338:=Tryz.func332.trans (congrArg some (by kernel_rfl))
 t0:=Tryz.underlying0
 a0:=Tryz.isAgg0
 z0:=Tryz.sizeOf0
 v0:=Tryz.zeroValue0
 t2:=Tryz.underlying2
 a2:=Tryz.isAgg2
 z2:=Tryz.sizeOf2
 v2:=Tryz.zeroValue2
 t3:=Tryz.underlying3
 a3:=Tryz.isAgg3
 z3:=Tryz.sizeOf3
 v3:=Tryz.zeroValue3
 t4:=Tryz.underlying4
 a4:=Tryz.isAgg4
 z4:=Tryz.sizeOf4
 v4:=Tryz.zeroValue4
 t5:=Tryz.underlying5
 a5:=Tryz.isAgg5
 z5:=Tryz.sizeOf5
 v5:=Tryz.zeroValue5
 t9:=Tryz.underlying9
 a9:=Tryz.isAgg9
 z9:=Tryz.sizeOf9
 v9:=Tryz.zeroValue9
 t20:=Tryz.underlying20
 a20:=Tryz.isAgg20
 z20:=Tryz.sizeOf20
 v20:=Tryz.zeroValue20
 t37:=Tryz.underlying205
 a37:=Tryz.isAgg205
 z37:=Tryz.sizeOf205
 v37:=Tryz.zeroValue205
 t46:=Tryz.underlying271
 a46:=Tryz.isAgg271
 z46:=Tryz.sizeOf271
 v46:=Tryz.zeroValue271
 t51:=Tryz.underlying295
 a51:=Tryz.isAgg295
 z51:=Tryz.sizeOf295
 v51:=Tryz.zeroValue295
 t53:=Tryz.underlying298
 a53:=Tryz.isAgg298
 z53:=Tryz.sizeOf298
 v53:=Tryz.zeroValue298
 t171:=Tryz.underlying311
 a171:=Tryz.isAgg311
 z171:=Tryz.sizeOf311
 v171:=Tryz.zeroValue311
 t173:=Tryz.underlying314
 a173:=Tryz.isAgg314
 z173:=Tryz.sizeOf314
 v173:=Tryz.zeroValue314
 t212:=Tryz.underlying318
 a212:=Tryz.isAgg318
 z212:=Tryz.sizeOf318
 v212:=Tryz.zeroValue318
 t213:=Tryz.underlying319
 a213:=Tryz.isAgg319
 z213:=Tryz.sizeOf319
 t232:=Tryz.underlying323
 a232:=Tryz.isAgg323
 z232:=Tryz.sizeOf323
 v232:=Tryz.zeroValue323
 t233:=Tryz.underlying324
 a233:=Tryz.isAgg324
 z233:=Tryz.sizeOf324
 v233:=Tryz.zeroValue324
 g17:=by kernel_rfl
 g18:=by kernel_rfl
 g19:=by kernel_rfl
 i0:=by kernel_rfl
 i2:=by kernel_rfl
 i3:=by kernel_rfl
 i4:=by kernel_rfl
 i5:=by kernel_rfl
 i9:=by kernel_rfl
 i20:=by kernel_rfl
 i37:=by kernel_rfl
 i46:=by kernel_rfl
 i51:=by kernel_rfl
 i53:=by kernel_rfl
 i171:=by kernel_rfl
 i173:=by kernel_rfl
 i212:=by kernel_rfl
 i232:=by kernel_rfl
 i233:=by kernel_rfl
 m17:=by kernel_rfl
 m18:=by kernel_rfl
 m19:=by kernel_rfl }
open Go.RowKit Go.Sort Go.Lib in
theorem Tryz.strconv_Itoa (n : Int) (h0 : -9223372036854775808 <= n) (h1 : n <= 9223372036854775807) (w : World) (htab : Lib.TabIs Tryz.prog w "internal/strconv.uint64pow10" .u64 Lib.pow10Tab) :
 Calls Tryz.prog 270 #[.int .i64 n] w fun e w'=>e = .returned (.string ⟨(Lib.itoa n).toArray⟩)/\∃k os,w'=grow (w.drewN k) os:=Any.strconv_Itoa Tryz.laysM171 n h0 h1 w htab
def Tryz.lays171_ren:Go.Shelf.Ren:=⟨fun | 171=>270 | 243=>299 | 246=>313 | 283=>318 | 284=>319 | 285=>320 | 286=>321 | 129=>324 | 317=>323 | 318=>325 | 319=>326 | 320=>327 | 337=>331 | 338=>332 | n=>n,fun | 3=>3 | 9=>9 | 2=>2 | 4=>4 | 171=>311 | 0=>0 | 53=>298 | 37=>205 | 5=>5 | 173=>314 | 212=>318 | 51=>295 | 20=>20 | 213=>319 | 46=>271 | 232=>323 | 233=>324 | n=>n,fun | 17=>7 | 18=>9 | 19=>10 | n=>n⟩
def Tryz.lays217_ren:Go.Shelf.Ren:=⟨fun | 217=>301 | 266=>314 | n=>n,fun | 9=>9 | 5=>5 | 3=>3 | n=>n,fun | n=>n⟩
def Tryz.lays224_ren:Go.Shelf.Ren:=⟨fun | 224=>310 | n=>n,fun | 3=>3 | n=>n,fun | n=>n⟩
def Tryz.lays314_ren:Go.Shelf.Ren:=⟨fun | 314=>317 | n=>n,fun | 9=>9 | 51=>295 | 3=>3 | 4=>4 | 5=>5 | 46=>271 | n=>n,fun | n=>n⟩
def Tryz.lays267_ren:Go.Shelf.Ren:=⟨fun | 267=>311 | 314=>317 | n=>n,fun | 9=>9 | 3=>3 | 146=>296 | 51=>295 | 4=>4 | 5=>5 | 46=>271 | n=>n,fun | n=>n⟩
def Tryz.lays219_ren:Go.Shelf.Ren:=⟨fun | 219=>297 | 217=>301 | 225=>309 | 224=>310 | 267=>311 | 266=>314 | 314=>317 | n=>n,fun | 9=>9 | 3=>3 | 4=>4 | 5=>5 | 46=>271 | 146=>296 | 51=>295 | n=>n,fun | 1=>5 | n=>n⟩
def Tryz.lays143_ren:Go.Shelf.Ren:=⟨fun | 143=>261 | 219=>297 | 217=>301 | 225=>309 | 224=>310 | 267=>311 | 266=>314 | 314=>317 | n=>n,fun | 9=>9 | 3=>3 | 4=>4 | 5=>5 | 46=>271 | 146=>296 | 51=>295 | n=>n,fun | 1=>5 | n=>n⟩
def Tryz.lays144_ren:Go.Shelf.Ren:=⟨fun | 144=>199 | 143=>261 | 219=>297 | 217=>301 | 225=>309 | 224=>310 | 267=>311 | 266=>314 | 314=>317 | n=>n,fun | 9=>9 | 4=>4 | 3=>3 | 5=>5 | 46=>271 | 146=>296 | 51=>295 | n=>n,fun | 1=>5 | n=>n⟩
theorem Tryz.lays144:Go.Proofs.Lays.n144 Tryz.prog Tryz.lays144_ren:={
 mixed:=by kernel_rfl
 f143:=Tryz.func261.trans (congrArg some (by kernel_rfl))
 f144:=Tryz.func199.trans (congrArg some (by kernel_rfl))
 f217:=Tryz.func301.trans (congrArg some (by kernel_rfl))
 f219:=Tryz.func297.trans (congrArg some (by kernel_rfl))
 f224:=Tryz.func310.trans (congrArg some (by kernel_rfl))
 f225:=Tryz.func309.trans (congrArg some (by kernel_rfl))
 f266:=Tryz.func314.trans (congrArg some (by kernel_rfl))
 f267:=Tryz.func311.trans (congrArg some (by kernel_rfl))
 f314:=Tryz.func317.trans (congrArg some (by kernel_rfl))
 t3:=Tryz.underlying3
 a3:=Tryz.isAgg3
 z3:=Tryz.sizeOf3
 v3:=Tryz.zeroValue3
 t4:=Tryz.underlying4
 a4:=Tryz.isAgg4
 z4:=Tryz.sizeOf4
 v4:=Tryz.zeroValue4
 t5:=Tryz.underlying5
 a5:=Tryz.isAgg5
 z5:=Tryz.sizeOf5
 v5:=Tryz.zeroValue5
 t9:=Tryz.underlying9
 a9:=Tryz.isAgg9
 z9:=Tryz.sizeOf9
 v9:=Tryz.zeroValue9
 t46:=Tryz.underlying271
 a46:=Tryz.isAgg271
 z46:=Tryz.sizeOf271
 v46:=Tryz.zeroValue271
 t51:=Tryz.underlying295
 a51:=Tryz.isAgg295
 z51:=Tryz.sizeOf295
 v51:=Tryz.zeroValue295
 t146:=Tryz.underlying296
 a146:=Tryz.isAgg296
 z146:=Tryz.sizeOf296
 v146:=Tryz.zeroValue296
 g1:=by kernel_rfl }
open Go.RowKit Go.Lib in
theorem Tryz.strings_Contains (s sub:ByteArray)(m:Int)(w:World)(hs:s.size<4294967281)(hm:w.cell? ⟨5,0,none⟩=some (.int .i64 m)) :
 Calls Tryz.prog 199 #[.string s,.string sub] w fun e w'=>e = .returned (.bool (Lib.contains s.data.toList sub.data.toList))/\w'=w:=Any.strings_Contains Tryz.lays144 s sub m w hs hm
def Tryz.laysM219_ren:Go.Shelf.Ren:=⟨fun | 219=>297 | 217=>301 | 225=>309 | 224=>310 | 267=>311 | 266=>314 | 314=>317 | n=>n,fun | 9=>9 | 3=>3 | 4=>4 | 5=>5 | 46=>271 | 146=>296 | 51=>295 | n=>n,fun | 1=>5 | n=>n⟩
def Tryz.laysM143_ren:Go.Shelf.Ren:=⟨fun | 143=>261 | 219=>297 | 217=>301 | 225=>309 | 224=>310 | 267=>311 | 266=>314 | 314=>317 | n=>n,fun | 9=>9 | 3=>3 | 4=>4 | 5=>5 | 46=>271 | 146=>296 | 51=>295 | n=>n,fun | 1=>5 | n=>n⟩
def Tryz.laysM144_ren:Go.Shelf.Ren:=⟨fun | 144=>199 | 143=>261 | 219=>297 | 217=>301 | 225=>309 | 224=>310 | 267=>311 | 266=>314 | 314=>317 | n=>n,fun | 9=>9 | 4=>4 | 3=>3 | 5=>5 | 46=>271 | 146=>296 | 51=>295 | n=>n,fun | 1=>5 | n=>n⟩
theorem Tryz.laysM144:Go.Proofs.LaysM.n144 Tryz.prog Tryz.laysM144_ren:={
 mixed:=by kernel_rfl
 f143:=Tryz.func261.trans (congrArg some (by kernel_rfl))
 f144:=Tryz.func199.trans (congrArg some (by kernel_rfl))
 f217:=Tryz.func301.trans (congrArg some (by kernel_rfl))
 f219:=Tryz.func297.trans (congrArg some (by kernel_rfl))
 f224:=Tryz.func310.trans (congrArg some (by kernel_rfl))
 f225:=Tryz.func309.trans (congrArg some (by kernel_rfl))
 f266:=Tryz.func314.trans (congrArg some (by kernel_rfl))
 f267:=Tryz.func311.trans (congrArg some (by kernel_rfl))
 f314:=Tryz.func317.trans (congrArg some (by kernel_rfl))
 t3:=Tryz.underlying3
 a3:=Tryz.isAgg3
 z3:=Tryz.sizeOf3
 v3:=Tryz.zeroValue3
 t4:=Tryz.underlying4
 a4:=Tryz.isAgg4
 z4:=Tryz.sizeOf4
 v4:=Tryz.zeroValue4
 t5:=Tryz.underlying5
 a5:=Tryz.isAgg5
 z5:=Tryz.sizeOf5
 v5:=Tryz.zeroValue5
 t9:=Tryz.underlying9
 a9:=Tryz.isAgg9
 z9:=Tryz.sizeOf9
 v9:=Tryz.zeroValue9
 t46:=Tryz.underlying271
 a46:=Tryz.isAgg271
 z46:=Tryz.sizeOf271
 v46:=Tryz.zeroValue271
 t51:=Tryz.underlying295
 a51:=Tryz.isAgg295
 z51:=Tryz.sizeOf295
 v51:=Tryz.zeroValue295
 t146:=Tryz.underlying296
 a146:=Tryz.isAgg296
 z146:=Tryz.sizeOf296
 v146:=Tryz.zeroValue296
 g1:=by kernel_rfl
 i3:=by kernel_rfl
 i4:=by kernel_rfl
 i5:=by kernel_rfl
 i9:=by kernel_rfl
 i46:=by kernel_rfl
 i51:=by kernel_rfl
 i146:=by kernel_rfl
 m1:=by kernel_rfl
 s1_3:=fun w h=>Go.Proofs.cell_of_shapedOpen_int (zero:=#[.int .i64 0]) (t:=3) h (of_decide_eq_true (by kernel_rfl)) (by kernel_rfl) rfl (by kernel_rfl) (by kernel_rfl) Tryz.underlying3 }
def Tryz.lays206_ren:Go.Shelf.Ren:=⟨fun | 206=>315 | n=>n,fun | 9=>9 | 4=>4 | 3=>3 | n=>n,fun | n=>n⟩
def Tryz.lays99_ren:Go.Shelf.Ren:=⟨fun | 99=>305 | 206=>315 | n=>n,fun | 9=>9 | 4=>4 | 3=>3 | n=>n,fun | n=>n⟩
theorem Tryz.lays99:Go.Proofs.Lays.n99 Tryz.prog Tryz.lays99_ren:={
 mixed:=by kernel_rfl
 f99:=Tryz.func305.trans (congrArg some (by kernel_rfl))
 f206:=Tryz.func315.trans (congrArg some (by kernel_rfl))
 t3:=Tryz.underlying3
 a3:=Tryz.isAgg3
 z3:=Tryz.sizeOf3
 v3:=Tryz.zeroValue3
 t4:=Tryz.underlying4
 a4:=Tryz.isAgg4
 z4:=Tryz.sizeOf4
 v4:=Tryz.zeroValue4
 t9:=Tryz.underlying9
 a9:=Tryz.isAgg9
 z9:=Tryz.sizeOf9
 v9:=Tryz.zeroValue9 }
open Go.RowKit Go.Lib in
theorem Tryz.strings_HasPrefix (s p:ByteArray)(w:World) :
 Calls Tryz.prog 305 #[.string s,.string p] w fun e w'=>e = .returned (.bool (Lib.hasPrefix s.data.toList p.data.toList))/\w'=w:=Any.strings_HasPrefix Tryz.lays99 s p w
end Go.Proofs
namespace Go.Proofs.YtckhoadldibflaaGreatDoor
open Go Go.Aw
theorem ba_size (s:Av):(⟨s.toArray⟩:ByteArray).size=s.length:=by simp [ByteArray.size]
theorem k53 (s:Av)(c:UInt8):Ak Tryz.prog 275 [.str s,.int .u8 (c.toNat:Int)] (.int .i64 (Lib.indexByte s c)):=
 .of_same fun g w vs _ ha=>by
  obtain ⟨u,v,rfl,h1,h2⟩:=ha.inv2;have e1:=h1.inv_str.1;have e2:=h2.inv_int;subst e1 e2;refine ⟨.int .i64 (Lib.indexByte s c),fun _ _=>.int _ _,?_⟩;have:=Tryz.strings_IndexByte ⟨s.toArray⟩ (c.toNat:Int) w;simpa using this
theorem k29 (s p:Av)(hs:s.length<4294967281):Ak Tryz.prog 199 [.str s,.str p] (.bool (Lib.contains s p)):=
 .of_same fun g w vs hg ha=>by
  obtain ⟨u,v,rfl,h1,h2⟩:=ha.inv2;have e1:=h1.inv_str.1;have e2:=h2.inv_str.1;subst e1 e2;refine ⟨.bool (Lib.contains s p),fun _ _=>.bool _,?_⟩;obtain ⟨m,hm⟩:=hg.int (gl:=5) (k:=.i64) (by simp [globals]);exact Tryz.strings_Contains ⟨s.toArray⟩ ⟨p.toArray⟩ m w (by rw [ba_size];exact hs) hm
theorem k28 (s p:Av):Ak Tryz.prog 305 [.str s,.str p] (.bool (Lib.hasPrefix s p)):=
 .of_same fun g w vs hg ha=>by
  obtain ⟨u,v,rfl,h1,h2⟩:=ha.inv2;have e1:=h1.inv_str.1;have e2:=h2.inv_str.1;subst e1 e2;exact ⟨.bool (Lib.hasPrefix s p),fun _ _=>.bool _,Tryz.strings_HasPrefix ⟨s.toArray⟩ ⟨p.toArray⟩ w⟩
theorem c39 (c:UInt8):Ak Tryz.prog 141 [.int .u8 (c.toNat:Int)] (.bool (Eb c)):=by
 refine Cw 9 Tryz.func141 rfl fun H=>?_
 refine Aa (Qp Ao (B2 (Qp (A0 (v:=.int .u8 _) rfl) (Qp Fc (Qp A8 (Qg [] Qw (A0 (v:=.int .u8 _) rfl) (Qg [(6,_)] Qw Mk (Qp Ej (Qp Ao (Rb (Qr (.bool _) ?_)))))))))));rfl
theorem c43 (c:UInt8):Ak Tryz.prog 145 [.int .u8 (c.toNat:Int)] (.bool (Hq c)):=by
 refine Cw 21 Tryz.func145 rfl fun H=>?_
 refine Aa (Qp Ao (B2 (Qp (A0 (v:=.int .u8 _) rfl) (Qp Aj (Qp A8 (Qg [] Qw (A0 (v:=.int .u8 _) rfl) ?_))))));refine Qg [(6,_)] Qw Fc (Qg [(7,_)] Qw A8 (Qg [] Qw (A0 (v:=.int .u8 _) rfl) (Qg [(9,_)] Qw Mk (Qg [(8,_),(10,_)] Qw Ej (Qp Cr (Qp A8 (Qg [] Qw (A0 (v:=.int .u8 _) rfl) (Qg [(14,_)] Qw Fc (Qg [(15,_)] Qw A8 (Qg [] Qw (A0 (v:=.int .u8 _) rfl) (Qg [(17,_)] Qw Mk (Qg [(16,_),(18,_)] Qw Ej (Qp Cr (Qp Ao (Rb (Qr (.bool _) ?_))))))))))))))));rfl
theorem c40 (c:UInt8):Ak Tryz.prog 196 [.int .u8 (c.toNat:Int)] (.bool (Eb c)):=by
 refine Cw 9 Tryz.func196 rfl fun H=>?_
 refine Aa (Qp Ao (B2 (Qp (A0 (v:=.int .u8 _) rfl) (Qp Fc (Qp A8 (Qg [] Qw (A0 (v:=.int .u8 _) rfl) (Qg [(6,_)] Qw Mk (Qp Ej (Qp Ao (Rb (Qr (.bool _) ?_)))))))))));rfl
theorem c44 (c:UInt8):Ak Tryz.prog 133 [.int .u8 (c.toNat:Int)] (.bool (Hq c)):=by
 refine Cw 21 Tryz.func133 rfl fun H=>?_
 refine Aa (Qp Ao (B2 (Qp (A0 (v:=.int .u8 _) rfl) (Qp Aj (Qp A8 (Qg [] Qw (A0 (v:=.int .u8 _) rfl) ?_))))));refine Qg [(6,_)] Qw Fc (Qg [(7,_)] Qw A8 (Qg [] Qw (A0 (v:=.int .u8 _) rfl) (Qg [(9,_)] Qw Mk (Qg [(8,_),(10,_)] Qw Ej (Qp Cr (Qp A8 (Qg [] Qw (A0 (v:=.int .u8 _) rfl) (Qg [(14,_)] Qw Fc (Qg [(15,_)] Qw A8 (Qg [] Qw (A0 (v:=.int .u8 _) rfl) (Qg [(17,_)] Qw Mk (Qg [(16,_),(18,_)] Qw Ej (Qp Cr (Qp Ao (Rb (Qr (.bool _) ?_))))))))))))))));rfl
theorem c52 (c:UInt8):Ak Tryz.prog 274 [.int .u8 (c.toNat:Int)] (.bool (wR c)):=by
 refine Cw 5 Tryz.func274 rfl fun H=>?_
 refine Aa (Qp Ao (B2 (Qp (A0 (v:=.int .u8 _) rfl) (Qp Bq (Qp Ao (Rb (Qr (.bool _) ?_)))))));rfl
theorem c69 (c:UInt8):Ak Tryz.prog 302 [.int .u8 (c.toNat:Int)] (.bool (J0 c)):=by
 refine Cw 9 Tryz.func302 rfl fun H=>?_
 refine Aa (Qp Ao (B2 (Qp (A0 (v:=.int .u8 _) rfl) (Qp (Qc rfl (c43 _)) (Qp A8 (Qg [] Qw (A0 (v:=.int .u8 _) rfl) (Qg [(6,_)] Qw (Qc rfl (c39 _)) (Qp Cr (Qp Ao (Rb (Qr (.bool _) ?_)))))))))));rfl
theorem c42 (c:UInt8):Ak Tryz.prog 144 [.int .u8 (c.toNat:Int)] (.bool (lX c)):=by
 refine Cw 11 Tryz.func144 rfl fun H=>?_
 refine Aa (Qp Ao (B2 (Qp (A0 (v:=.int .u8 _) rfl) (Qp (Qc rfl (c43 _)) (Qp E7 (Qp A8 (Qg [] Qw (A0 (v:=.int .u8 _) rfl) (Qg [(7,_)] Qw (Qc rfl (c39 _)) (Qg [(8,_)] Qw E7 (Qp Ej (Qp Ao (Rb (Qr (.bool _) ?_)))))))))))));rfl
theorem c46 (c:UInt8):Ak Tryz.prog 308 [.int .u8 (c.toNat:Int)] (.bool (mF c)):=by
 refine Cw 17 Tryz.func308 rfl fun H=>?_
 refine Aa (Qp Ao (B2 (Qp (A0 (v:=.int .u8 _) rfl) (Qp Fc (Qp A8 (Qg [] Qw (A0 (v:=.int .u8 _) rfl) (Qg [(6,_)] Qw Mk (Qp Ej (Qp A8 (Qg [] Qw (A0 (v:=.int .u8 _) rfl) (Qg [(10,_)] Qw Bq (Qp Ej (Qp A8 (Qg [] Qw (A0 (v:=.int .u8 _) rfl) (Qg [(14,_)] Qw Bq (Qp Ej (Qp Ao (Rb (Qr (.bool _) ?_)))))))))))))))))));rfl
theorem g1 {b w:Bool}{G:List (Bool×Bool)}(h:M2 ((b,w)::G)):b=w:=h _ (L5 ..)
theorem Uy {s:Av}{k:Nat}(h:k<s.length):s.drop k=bt s k::s.drop (k+1):=by
 rw [Ou h];have:bt s k=s[k]:=by simp [bt,Ii,List.getElem?_eq_getElem h]
 rw [this]
theorem kG {p:UInt8->Bool}{s:Av}{k:Nat}(h:(decide ((k:Int)<(s.length:Int))&&p (bt s k))=true):k<s.length/\Eo p (s.drop k)=Eo p (s.drop (k+1))+1:=by
 simp only [Cz,Dp] at h;have hk:k<s.length:=by omega
 refine ⟨hk,?_⟩;rw [Uy hk,Eo,if_pos h.2]
theorem kH {p:UInt8->Bool}{s:Av}{k:Nat}(h:(decide ((k:Int)<(s.length:Int))&&p (bt s k))=false):Eo p (s.drop k)=0:=by
 by_cases hk:k<s.length
 .
  have h2:p (bt s k)=false:=by
   have:decide ((k:Int)<(s.length:Int))=true:=by simp;omega
   cases hq:p (bt s k) with
   | false=>rfl
   | true=>rw [this,hq] at h;cases h
  rw [Uy hk,Eo,if_neg (by simp [h2])]
 rw [L7 (by omega)];rfl
theorem Sm (p:UInt8->Bool):∀s:Av,Eo p s<=s.length
  | []=>B6 _
  | c::r=>by
    unfold Eo;split
    . have:=Sm p r;simp;omega
    simp
theorem sM {s:Av}{k:Nat}(h:k<s.length):(Cu s)[k]? = some [.int .u8 ((bt s k).toNat:Int)]:=by
 simp only [Cu,List.getElem?_map,Gk h];rfl
theorem idx_hit {p:UInt8->Bool}{s:Av}{k:Nat}(h:k<s.length)(hp:p (bt s k)=true):J4 p (s.drop k)=0:=by rw [Uy h,J4,if_pos hp]
theorem idx_step {p:UInt8->Bool}{s:Av}{k:Nat}(h:k<s.length)(hp:p (bt s k)=false):J4 p (s.drop k)=if J4 p (s.drop (k+1)) = -1 then -1 else J4 p (s.drop (k+1))+1:=by rw [Uy h,J4,if_neg (by simp [hp])]
theorem tB (p:UInt8->Bool):∀s:Av,-1<=J4 p s
  | []=>I8 _
  | c::r=>by
    have:=tB p r;unfold J4;split
    . decide
    split <;> omega
theorem idx_zero (p:UInt8->Bool)(s:Av):J4 p s=if J4 p (s.drop 0) = -1 then -1 else ((0:Nat):Int)+J4 p (s.drop 0):=by
 have:=tB p s;rw [Nb];split <;> simp_all
theorem idx_next {p:UInt8->Bool}{s:Av}{k:Nat}(h:k<s.length)(hp:p (bt s k)=false)(h2:J4 p s=if J4 p (s.drop k) = -1 then -1 else (k:Int)+J4 p (s.drop k)) :
  J4 p s=if J4 p (s.drop (k+1)) = -1 then -1 else ((k+1:Nat):Int)+J4 p (s.drop (k+1)):=by
 rw [idx_step h hp] at h2;rw [h2];have:=tB p (s.drop (k+1));by_cases h3:J4 p (s.drop (k+1)) = -1
 . rw [if_pos h3,if_pos rfl,if_pos h3]
 rw [if_neg h3,if_neg h3,if_neg (by omega)];omega
theorem c38 (s:Av)(hl:s.length<=1048576)(f:Nat)(p:UInt8->Bool)(hf:U3 Tryz.prog f=true)(hp:∀c,Ak Tryz.prog f [.int .u8 (c.toNat:Int)] (.bool (p c))):Ak Tryz.prog 273 [.str s,.fn (.func f) [] []] (.int .i64 (Eo p s:Int)):=by
 refine Cw 20 Tryz.func273 rfl fun H=>?_
 refine Aa (Qp Ah (B2 (Qp Ah (Re (AW.block ?_)))));refine AW.Aan (fun (k:Nat)=>(⟨[(0,.str s),(1,.fn (.func f) [] []),(5,.int .i64 (k:Int))],H,20⟩:St)) (fun k=>k<=s.length/\Eo p s=k+Eo p (s.drop k)) (fun k=>s.length-k) (0) ?_ Bx ?_
 . exact ⟨A3 _,by simp⟩
 rintro k hR;refine Ba (Qp Ai (Qp D3 (Qp (Ck tok rfl rfl rfl rfl) (Qp Bt (Qp A8 (Qg [] Qw (A0 (v:=.fn _ _ _) rfl) (Qg [] Qw D3 (Qg [] Qw Ai ?_))))))));refine Yh [(12,_),(13,_)] Yw (fun hG=>B8 tok rfl rfl rfl rfl (by omega) (Gk (i:=k) (by have h9:=g1 hG;simp at h9;exact h9))) ?_;refine Qg [(14,_),(11,_)] Yw (Pi hf rfl rfl rfl (hp _)) (Qp Ej (Ap (fun hc1=>?_) fun hc1=>?_))
 .
  have hst:=kG hc1;refine A5 (AW.block (AW.region (Qp Ai (Qp Dt (Qp Ah (Rk ?_))))));refine ⟨k+1,?_,?_,Bx⟩
  . exact ⟨hst.1,by rw [hR.2,hst.2];omega⟩
  have:=hst.1;omega
 have hst:=kH hc1;refine AW.exit ?_;refine Bn (Ri (Aa (Qp Ai (Qp Ah (Rb ?_)))));refine Qr (Iq _) ?_;have h2:=hR.2;rw [hst] at h2;rw [h2];rfl
theorem c64 (s:Av)(hl:s.length<=1048576)(f:Nat)(p:UInt8->Bool)(hf:U3 Tryz.prog f=true)(hp:∀c,Ak Tryz.prog f [.int .u8 (c.toNat:Int)] (.bool (p c))):Ak Tryz.prog 200 [.sl 1 (Cu s),.fn (.func f) [] []] (.int .i64 (J4 p s)):=by
 refine Cw 19 Tryz.func200 rfl fun H=>?_
 refine Aa (Qp Ah (Aq (Ba (Qp Ez ?_))));refine Qp (Da s.length rfl rfl (by simp)) ?_;refine Qp Ai (Aq (AW.block ?_));refine AW.Aan (fun (k:Nat)=>(⟨[(0,.sl 1 (Cu s)),(1,.fn (.func f) [] []),(7,.int .i64 (s.length:Int)),(8,.int .i64 (k:Int))],H,19⟩:St)) (fun k=>k<=s.length/\J4 p s=if J4 p (s.drop k) = -1 then -1 else (k:Int)+J4 p (s.drop k)) (fun k=>s.length-k) (0) ?_ Bx ?_
 . exact ⟨A3 _,idx_zero p s⟩
 rintro k hR;refine Aa (Qp Bt (Re (E9 (fun hc1=>?_) fun hc1=>?_)))
 .
  have hk:k<s.length:=by simp at hc1;omega
  refine A5 (AW.seq (AW.block (Aa (Qp Ai (Qp Ah (B2 (Qp (A0 (v:=.fn _ _ _) rfl) (Qp Ez (Qp Ai ?_)))))))));refine Qp (Cp [.int .u8 _] rfl rfl (by omega) (sM (k:=k) hk)) ?_;refine Qp (Fb (c:=.int .u8 _) tok rfl rfl rfl) (Qp (Pi hf rfl rfl rfl (hp _)) (Ap (fun hc2=>Aa (Qp Ai (Qp Ah (Ra (Au (Cn (Au (Qr (Iq _) ?_)))))))) fun hc2=>Rf (AW.region (Qp Dt (Qp Ai (Aq ?_))))))
  .
   have h2:=hR.2;rw [idx_hit hk hc2,if_neg (by decide)] at h2;rw [h2,Int.add_zero];rfl
  refine ⟨k+1,?_,?_,Bx⟩
  . exact ⟨hk,idx_next hk hc2 hR.2⟩
  omega
 have hk:s.length<=k:=by simp at hc1;omega
 refine AW.exit ?_;refine Bn (Ri (Aa (Qp Ah (Rb ?_))));refine Qr (Iq _) ?_;have h2:=hR.2;rw [L7 hk] at h2;rw [h2];rfl
theorem c41 (s:Av)(hl:s.length<=1048576)(f:Nat)(p:UInt8->Bool)(hf:U3 Tryz.prog f=true)(hp:∀c,Ak Tryz.prog f [.int .u8 (c.toNat:Int)] (.bool (p c))):Ak Tryz.prog 143 [.sl 1 (Cu s),.fn (.func f) [] []] (.bool (decide (0<=J4 p s))):=by
 refine Cw 9 Tryz.func143 rfl fun H=>?_
 refine Aa (Qp Ao (B2 (Qp Ez (Qp (A0 (v:=.fn _ _ _) rfl) (Qp (Qc rfl (c64 s hl f p hf hp)) (Qp Fc (Qp Ao (Rb (Qr (.bool _) ?_)))))))));rfl
theorem c45 (s:Av)(hl:s.length<=1048576)(k:Nat):Ak Tryz.prog 134 [.str s,.int .i64 (k:Int)] (.int .i64 (gS s k:Int)):=by
 refine Cw 24 Tryz.func134 rfl fun H=>?_
 refine Aa (Qp Ah (Re (AW.block ?_)));refine AW.Aan (fun (j:Nat)=>(⟨[(0,.str s),(1,.int .i64 (j:Int))],H,24⟩:St)) (fun j=>gS s k=j+Eo J0 (s.drop j)) (fun j=>s.length-j) (k) ?_ Bx ?_
 . exact rfl
 rintro j hR;refine Ba (Qp Ai (Qp D3 (Qp (Ck tok rfl rfl rfl rfl) (Qp Bt (Qp A8 (Qg [] Qw D3 (Qg [] Qw Ai ?_)))))));refine Yh [(10,_),(11,_)] Yw (fun hG=>B8 tok rfl rfl rfl rfl (by omega) (Gk (i:=j) (by have h9:=g1 hG;simp at h9;exact h9))) ?_;refine Qg [(12,_)] Qw (Qc rfl (c44 _)) (Qg [(13,_)] Qw A8 (Qg [] Qw D3 (Qg [] Qw Ai ?_)));refine Yh [(15,_),(16,_)] Yw (fun hG=>B8 tok rfl rfl rfl rfl (by omega) (Gk (i:=j) (by have h9:=g1 hG;simp at h9;exact h9))) ?_;refine Qg [(17,_)] Qw (Qc rfl (c40 _)) (Qg [(14,_),(18,_)] Qw Cr (Qp Ej (Ap (fun hc1=>?_) fun hc1=>?_)))
 .
  have hst:=kG (p:=J0) hc1;have hj:=hst.1;refine A5 (AW.block (AW.region (Qp Ai (Qp Dt (Qp Ah (Rk ?_))))));refine ⟨j+1,?_,?_,Bx⟩
  . rw [hR,hst.2];omega
  have:=hst.1;omega
 have hst:=kH (p:=J0) hc1;refine AW.exit ?_;refine Bn (Ri (Aa (Qp Ai (Qp Ah (Rb ?_)))));refine Qr (Iq _) ?_;rw [hst] at hR;rw [hR];rfl
theorem c32 (s:Av)(hl:s.length<=1048576)(h0:0<s.length):Ak Tryz.prog 221 [.str s] (.int .i64 (Sk s)):=by
 refine Cw 14 Tryz.func221 rfl fun H=>?_
 refine Aa (Qp Ah (Re (AW.block (Aa (Qp D3 ?_)))));refine Qp (B8 tok rfl rfl rfl rfl (by omega) (Gk (i:=0) h0)) ?_;refine Qp Aj (Qp Ao (Ap (fun hc1=>Aa (Qp D3 ?_)) fun hc1=>Aa (Qp D3 ?_)))
 .
  refine Qp (Qc rfl (c38 s hl 274 wR (by kernel_rfl) c52)) ?_;refine Qp Ah (Ra (Qr (Iq _) ?_));simp only [Ad,Sk];rw [if_pos hc1]
  done
 refine Qp (B8 tok rfl rfl rfl rfl (by omega) (Gk (i:=0) h0)) ?_;refine Qp (Qc rfl (k53 [32,9,13,10] _)) (Qp Fc (Qp Ao (Ap (fun hc2=>Aa (Qp Ah (Ra (Qr (Iq _) ?_)))) fun hc2=>Rf (Aa (Qp Ah (Rb (Qr (Iq _) ?_)))))))
 .
  simp only [Ad,Sk];rw [iN hc1];rw [if_pos hc2]
  done
 simp only [Ad,Sk];rw [iN hc1];rw [iN hc2]
 done
theorem gV (x:Int):0<=IntKind.u8.wrap x/\IntKind.u8.wrap x<=255:=by rw [IntKind.wrap_u8];omega
theorem wrap64_8 (x:Int):IntKind.i64.wrap (IntKind.u8.wrap x)=IntKind.u8.wrap x:=by
 have:=gV x;exact IntWalk.i64_in _ (by omega)
theorem dv_le (c:UInt8):0<=dvS c/\dvS c<=255:=gV _
theorem ne_len {s:Av}{b:Bool}(h:((s == [])||b)=false):0<s.length:=by
 cases s with
 | nil=>simp at h
 | cons a r=>simp
theorem tS {s:Av}{k:Nat}{n:Int}(h:k<s.length)(hc:decide (1099511627776<10*n+dvS (bt s k))=false):O9 (s.drop k) n=O9 (s.drop (k+1)) (10*n+dvS (bt s k)):=by
 rw [Uy h,O9,if_neg (by simp [hc])]
theorem tT {s:Av}{k:Nat}{n:Int}(h:k<s.length)(hc:decide (1099511627776<10*n+dvS (bt s k))=true):O9 (s.drop k) n=(0,2):=by
 rw [Uy h,O9,if_pos hc]
def Tw (s:Av):Bool:=(s == [97,108,108])||(s == [97,108,116])||(s == [97,110,100])||(s == [98,111,111,108])||(s == [98,121])||(s == [99,111,117,110,116])||(s == [102,97,108,115,101])||(s == [102,105,114,115,116])||(s == [105,102])||(s == [105,110,116])||(s == [108,97,99,107,115])||(s == [108,97,115,116])||(s == [109,97,116,99,104])||(s == [109,97,120])
def Tx (s:Av):Bool:=(s == [109,105,110])||(s == [110,111,116])||(s == [111,114])||(s == [112,108,117,115])||(s == [113,117,101,114,121])||(s == [114,101,116,117,114,110])||(s == [115,101,113])||(s == [115,116,114,105,110,103])||(s == [115,117,109])||(s == [116,105,109,101])||(s == [116,114,117,101])||(s == [116,121,112,101])||(s == [119,104,101,114,101])||(s == [119,105,116,104,105,110])
theorem tG (s:Av):iC s=(Tw s||Tx s):=by simp only [iC,Tw,Tx,Bool.or_assoc]
theorem c23 (s:Av):Ak Tryz.prog 135 [.str s] (.bool (iC s)):=by
 refine Cw 34 Tryz.func135 rfl fun H=>?_
 refine Aa (Qp Ao (Aq (Ba (Qp D3 (Aq (AW.block ?_))))));refine AW.Aar (fun (x:Bool)=>(⟨[(3,.str s),(4,.bool x)],H,34⟩:St)) (fun x=>x=Tw s) ?_ ?_
 .
  refine Aa (Qp (A9 rfl rfl) (Qp Ao (Ap (fun hc1=>A5 ?_) fun hc1=>?_)))
  .
   refine ⟨_,?_,Bx⟩;simp [Tw, *]
  refine Aa (Qp (A9 rfl rfl) (Qp Ao (Ap (fun hc2=>A5 ?_) fun hc2=>Aa (Qp (A9 rfl rfl) (Qp Ao (Ap (fun hc3=>A5 ?_) fun hc3=>Aa (Qp (A9 rfl rfl) (Qp Ao (Ap (fun hc4=>A5 ?_) fun hc4=>Aa (Qp (A9 rfl rfl) (Qp Ao (Ap (fun hc5=>A5 ?_) fun hc5=>Aa (Qp (A9 rfl rfl) (Qp Ao (Ap (fun hc6=>A5 ?_) fun hc6=>Aa (Qp (A9 rfl rfl) (Qp Ao (Ap (fun hc7=>A5 ?_) fun hc7=>Aa ?_))))))))))))))))))
  .
   refine ⟨_,?_,Bx⟩;simp [Tw, *]
  .
   refine ⟨_,?_,Bx⟩;simp [Tw, *]
  .
   refine ⟨_,?_,Bx⟩;simp [Tw, *]
  .
   refine ⟨_,?_,Bx⟩;simp [Tw, *]
  .
   refine ⟨_,?_,Bx⟩;simp [Tw, *]
  .
   refine ⟨_,?_,Bx⟩;simp [Tw, *]
  refine Qp (A9 rfl rfl) (Qp Ao (Ap (fun hc8=>A5 ?_) fun hc8=>Aa (Qp (A9 rfl rfl) (Qp Ao (Ap (fun hc9=>A5 ?_) fun hc9=>Aa (Qp (A9 rfl rfl) (Qp Ao (Ap (fun hc10=>A5 ?_) fun hc10=>Aa (Qp (A9 rfl rfl) (Qp Ao (Ap (fun hc11=>A5 ?_) fun hc11=>Aa (Qp (A9 rfl rfl) (Qp Ao (Ap (fun hc12=>A5 ?_) fun hc12=>Aa (Qp (A9 rfl rfl) (Qp Ao (Ap (fun hc13=>A5 ?_) fun hc13=>AW.region (Qp (A9 rfl rfl) (Qp Ao (Aq ?_))))))))))))))))))))
  .
   refine ⟨_,?_,Bx⟩;simp [Tw, *]
  .
   refine ⟨_,?_,Bx⟩;simp [Tw, *]
  .
   refine ⟨_,?_,Bx⟩;simp [Tw, *]
  .
   refine ⟨_,?_,Bx⟩;simp [Tw, *]
  .
   refine ⟨_,?_,Bx⟩;simp [Tw, *]
  .
   refine ⟨_,?_,Bx⟩;simp [Tw, *]
  refine ⟨_,?_,Bx⟩;simp [Tw, *]
 rintro x hA;refine E9 (fun hc14=>Aa (Qp Ao (Ra (Qr (.bool _) ?_)))) fun hc14=>?_
 .
  subst hA
  try subst hB
  simp only [Ad,tG];simp [*]
 refine AW.Aar (fun (y:Bool)=>(⟨[(19,.bool y)],H,34⟩:St)) (fun y=>y=Tx s) ?_ ?_
 .
  refine Aa (Qp (A9 rfl rfl) (Qp Ao (Ap (fun hc15=>A5 ?_) fun hc15=>?_)))
  .
   refine ⟨_,?_,Bx⟩;simp [Tx, *]
  refine Aa (Qp (A9 rfl rfl) (Qp Ao (Ap (fun hc16=>A5 ?_) fun hc16=>Aa (Qp (A9 rfl rfl) (Qp Ao (Ap (fun hc17=>A5 ?_) fun hc17=>Aa (Qp (A9 rfl rfl) (Qp Ao (Ap (fun hc18=>A5 ?_) fun hc18=>Aa (Qp (A9 rfl rfl) (Qp Ao (Ap (fun hc19=>A5 ?_) fun hc19=>Aa (Qp (A9 rfl rfl) (Qp Ao (Ap (fun hc20=>A5 ?_) fun hc20=>Aa (Qp (A9 rfl rfl) (Qp Ao (Ap (fun hc21=>A5 ?_) fun hc21=>Aa ?_))))))))))))))))))
  .
   refine ⟨_,?_,Bx⟩;simp [Tx, *]
  .
   refine ⟨_,?_,Bx⟩;simp [Tx, *]
  .
   refine ⟨_,?_,Bx⟩;simp [Tx, *]
  .
   refine ⟨_,?_,Bx⟩;simp [Tx, *]
  .
   refine ⟨_,?_,Bx⟩;simp [Tx, *]
  .
   refine ⟨_,?_,Bx⟩;simp [Tx, *]
  refine Qp (A9 rfl rfl) (Qp Ao (Ap (fun hc22=>A5 ?_) fun hc22=>Aa (Qp (A9 rfl rfl) (Qp Ao (Ap (fun hc23=>A5 ?_) fun hc23=>Aa (Qp (A9 rfl rfl) (Qp Ao (Ap (fun hc24=>A5 ?_) fun hc24=>Aa (Qp (A9 rfl rfl) (Qp Ao (Ap (fun hc25=>A5 ?_) fun hc25=>Aa (Qp (A9 rfl rfl) (Qp Ao (Ap (fun hc26=>A5 ?_) fun hc26=>Aa (Qp (A9 rfl rfl) (Qp Ao (Ap (fun hc27=>A5 ?_) fun hc27=>AW.region (Qp (A9 rfl rfl) (Qp Ao (Aq ?_))))))))))))))))))))
  .
   refine ⟨_,?_,Bx⟩;simp [Tx, *]
  .
   refine ⟨_,?_,Bx⟩;simp [Tx, *]
  .
   refine ⟨_,?_,Bx⟩;simp [Tx, *]
  .
   refine ⟨_,?_,Bx⟩;simp [Tx, *]
  .
   refine ⟨_,?_,Bx⟩;simp [Tx, *]
  .
   refine ⟨_,?_,Bx⟩;simp [Tx, *]
  refine ⟨_,?_,Bx⟩;simp [Tx, *]
 rintro y hB;refine E9 (fun hc28=>Aa (Qp Ao (Ra (Qr (.bool _) ?_)))) fun hc28=>Rf (Aa (Qp Ao (Rb (Qr (.bool _) ?_))))
 .
  subst hA
  try subst hB
  simp only [Ad,tG];simp [*]
 subst hA
 try subst hB
 simp only [Ad,tG];simp [*]
theorem c22 (s:Av)(hl:s.length<=1048576):Ak Tryz.prog 142 [.str s] (.bool (tF s)):=by
 refine Cw 16 Tryz.func142 rfl fun H=>?_
 refine Aa (Qp Ao (B2 (Qp D3 (Qp (Dq rfl rfl) (Qp A8 (Qg [] Qw D3 ?_))))));refine Qg [(6,_)] Qw (Qc rfl (k29 _ _ (by omega))) ?_;refine Qg [(7,_)] Qw E7 (Qp Ej (Qp A8 (Qg [] Qw D3 ?_)));refine Yh [(11,_)] Qw (fun hG=>A4 rfl rfl rfl ((by simp [maxLen];omega))) ?_;refine Yh [(12,_)] Qw (fun hG=>A4 rfl rfl rfl ((by simp [maxLen];omega))) ?_;refine Qg [(13,_)] Qw (Qc rfl (k29 _ _ (by simp [fI]))) ?_;refine Qp Ej (Qp Ao (Rb (Qr (.bool _) ?_)));rfl
theorem pU {s:Av}(h:((s == [])||decide ((Eo Eb s:Int)<(s.length:Int)))=false):iD s=O9 s 0:=by unfold iD;rw [iN h]
theorem T5:∀s:Av,(E5 s).length<=4*s.length
  | []=>B6 _
  | c::r=>by
    have:=T5 r;have h:(Of c).length<=4:=by unfold Of;split <;> (try split) <;> simp
    simp only [E5,Ax,A1];omega
theorem Sg:∀s:Av,(Eu s).length<=4*s.length
  | []=>B6 _
  | c::r=>by
    have:=Sg r;have h:(Nr c).length<=4:=by unfold Nr;split <;> (try split) <;> simp
    simp only [Eu,Ax,A1];omega
theorem bY:∀a b:Av,E5 (a++b)=E5 a++E5 b
 | [],b=>rfl
 | c::r,b=>by simp [E5,bY r b]
theorem Yl:∀a b:Av,Eu (a++b)=Eu a++Eu b
 | [],b=>rfl
 | c::r,b=>by simp [Eu,Yl r b]
theorem xZ {s:Av}{k:Nat}(h:k<s.length):s.take (k+1)=s.take k ++ [bt s k]:=by rw [List.take_add_one,Gk h];rfl
theorem Wu {s:Av}{k:Nat}{es:List (List AV)}{x:Av}(h:k<s.length)(he:es=Cu ([34]++E5 (s.take k)))(hx:Of (bt s k)=x):es++Cu x=Cu ([34]++E5 (s.take (k+1))):=by
 rw [he,xZ h,bY,<-Jv];simp [E5,hx]
theorem T6 {s:Av}{k:Nat}{es:List (List AV)}{x:Av}(h:k<s.length)(he:es=Cu ([34]++Eu (s.take k)))(hx:Nr (bt s k)=x):es++Cu x=Cu ([34]++Eu (s.take (k+1))):=by
 rw [he,xZ h,Yl,<-Jv];simp [Eu,hx]
theorem tY {s:Av}{k:Nat}{es:List (List AV)}(hl:s.length<=64)(he:es=Cu ([34]++E5 (s.take k))):es.length<=257:=by
 have:=T5 (s.take k);rw [he,Mc];rw [Fm] at this;simp;omega
theorem qI {s:Av}{k:Nat}{es:List (List AV)}(hl:s.length<=64)(he:es=Cu ([34]++Eu (s.take k))):es.length<=257:=by
 have:=Sg (s.take k);rw [he,Mc];rw [Fm] at this;simp;omega
theorem nat8 (c:UInt8):c.toNat<=255:=by have:=c.toNat_lt;omega
theorem lJ (c:UInt8):0<=IntKind.u8.wrap ((c.toNat:Int).tdiv 16)/\Vi[(IntKind.u8.wrap ((c.toNat:Int).tdiv 16)).toNat]? = some (bt Vi (c.toNat / 16)):=by
 have h:=nat8 c
 have e:IntKind.u8.wrap ((c.toNat:Int).tdiv 16)=((c.toNat / 16:Nat):Int):=by
  rw [IntWalk.u8_quo _ _ (by omega)];omega
 rw [e];refine ⟨by omega,?_⟩;rw [Um];exact Gk (by show c.toNat / 16<16;omega)
theorem lK (c:UInt8):0<=(c.toNat:Int).tmod 16/\Vi[((c.toNat:Int).tmod 16).toNat]? = some (bt Vi (c.toNat % 16)):=by
 have e:(c.toNat:Int).tmod 16=((c.toNat % 16:Nat):Int):=by
  rw [Int.tmod_eq_emod_of_nonneg (by omega)];omega
 rw [e];refine ⟨by omega,?_⟩;rw [Um];exact Gk (by show c.toNat % 16<16;omega)
theorem yS (n:Int):IntKind.u8.wrap n=((dZ n).toNat:Int):=by
 have h:=gV n;unfold dZ;rw [UInt8.toNat_ofNat_of_lt' (by show _<256;omega)];omega
theorem wG:∀(s:Av) (c:UInt8),-1<=Lib.indexByte s c/\Lib.indexByte s c<s.length
  | [],c=>⟨by unfold Lib.indexByte;decide,by unfold Lib.indexByte;decide⟩
  | a::r,c=>by
    have:=wG r c;unfold Lib.indexByte;simp only [A1,beq_iff_eq];split
    . omega
    split <;> omega
theorem wD (c:UInt8) : -1<=lI c/\lI c<16:=wG Vi c
theorem sc_two (a b:Int):∀c∈[[AV.int .u8 a],[AV.int .u8 b]],A7 c=true:=by simp [A7,gJ]
theorem xP (a b c d:Int):∀x∈[[AV.int .u8 a],[AV.int .u8 b],[AV.int .u8 c],[AV.int .u8 d]],A7 x=true:=by simp [A7,gJ]
theorem c18 (s:Av)(hl:s.length<=1048576):Ak Tryz.prog 303 [.str s] (.tuple [.int .i64 (iD s).1,.int .i64 (iD s).2]):=by
 refine Cw 33 Tryz.func303 rfl fun H=>?_
 refine Aa (Qp Ah (Qp Ah (Aq (Ba (Qp D3 (Qp (A9 rfl rfl) (Qp A8 (Qg [] Qw D3 ?_))))))));refine Qg [(10,_)] Qw (Qc rfl (c38 s hl 141 Eb (by kernel_rfl) c39)) ?_;refine Qg [] Qw D3 (Qg [(12,_)] Qw (Ck tok rfl rfl rfl rfl) (Qg [(11,_),(13,_)] Yw Bt (Qp Cr (Ap (fun hc1=>Aa (Qp Ah (Qp Ah (Rc (Ku (Iq _) (Iq _) ?_))))) fun hc1=>?_))))
 .
  simp only [Ad,iD];rw [if_pos hc1]
  done
 have hn:=pU hc1;refine A5 (Aa (Qp Ah (Aq (Ba (Qp D3 (Qp (Vx tok rfl rfl rfl rfl rfl rfl rfl) ?_))))));refine Qp (Da s.length rfl rfl (by simp)) ?_;refine Qp Ai (Aq (AW.block ?_));refine AW.Aan (fun (p:Nat×Int)=>(⟨[(17,.sl 1 (Cu s)),(18,.int .i64 (s.length:Int)),(4,.int .i64 p.2),(19,.int .i64 (p.1:Int))],H,33⟩:St)) (fun p=>p.1<=s.length/\(0<=p.2/\p.2<=1099511627776)/\O9 s 0=O9 (s.drop p.1) p.2) (fun p=>s.length-p.1) ((0,0)) ?_ Bx ?_
 . exact ⟨A3 _,⟨by decide,by decide⟩,rfl⟩
 rintro p hR;have hb:=hR.2.1;have hdv:=dv_le (bt s p.1);refine Aa (Qp Bt (Re (E9 (fun hc2=>?_) fun hc2=>?_)))
 .
  have hk:p.1<s.length:=by simp at hc2;omega
  refine A5 (AW.seq (AW.block (Aa ?_)));refine Qp (Cp [.int .u8 _] rfl rfl (by omega) (sM (k:=p.1) hk)) ?_;refine Qp (Fb (c:=.int .u8 _) tok rfl rfl rfl) (Qp (Bb (v:=.int .u8 _) rfl) (B2 (Qp Ai ?_)));refine Qp (P_mul rfl rfl rfl (by constructor <;> omega)) ?_;refine Qp (A0 (v:=.int .u8 _) rfl) (Qp (sF rfl rfl) (Qp (Vw (m:=dvS (bt s p.1)) tok rfl rfl rfl rfl rfl (wrap64_8 _)) (Qp Dt (Qp Ah (B2 (Qp Ai (Qp De (Ap (fun hc3=>Aa (Qp Ah (Qp Ah (Ra (Au (Cn (Au (Ku (Iq _) (Iq _) ?_)))))))) fun hc3=>Rf (AW.region (Qp Dt (Qp Ai (Aq ?_))))))))))))
  . rw [hn,hR.2.2,tT hk hc3];rfl
  refine ⟨(p.1+1,10*p.2+dvS (bt s p.1)),?_,?_,Bx⟩
  . exact ⟨hk,⟨by simp only;omega,by simp only [Ih] at hc3;simp only;omega⟩,hR.2.2.trans (tS hk hc3)⟩
  simp only;omega
 have hk:s.length<=p.1:=by simp at hc2;omega
 refine AW.exit ?_;refine Bn (Ri (Aa (Qp Ai (Qp Ah (Qp Ah (Rb ?_))))));refine Ku (Iq _) (Iq _) ?_;have h9:iD s=(p.2,0):=by rw [hn,hR.2.2,L7 hk];rfl
 rw [h9];rfl
theorem c20 (s:Av)(hl:s.length<=1048576):Ak Tryz.prog 84 [.str s] (.int .i64 (F7 s)):=by
 refine Cw 22 Tryz.func84 rfl fun H=>?_
 refine Aa (Qp Ah (Aq (Ba (Qp D3 (Qp (A9 rfl rfl) (Qp A8 (Qg [] Qw D3 (Qg [(6,_)] Qw (Ck tok rfl rfl rfl rfl) (Qg [(7,_)] Qw De (Qp Cr (Qp A8 (Qg [] Qw D3 ?_))))))))))));refine Yh [(11,_)] Qw (fun hG=>B8 tok rfl rfl rfl rfl (by omega) (Gk (i:=0) (ne_len (g1 hG)))) ?_;refine Qg [(12,_)] Qw (Qc rfl (c39 _)) (Qp Cr (Qp A8 (Qg [] Qw D3 (Qg [(16,_)] Qw (Qc rfl (c22 s hl)) (Qp Cr (Ap (fun hc1=>Aa (Qp Ah (Rc (Qr (Iq _) ?_)))) fun hc1=>A5 (Ba (Qp D3 (Qp (Vx tok rfl rfl rfl rfl rfl rfl rfl) ?_)))))))))
 .
  simp only [Ad,F7];rw [if_pos hc1]
  done
 refine Qp (Qc rfl (c41 s hl 144 lX (by kernel_rfl) c42)) ?_;refine Ap (fun hc2=>Aa (Qp Ah (Rc (Qr (Iq _) ?_)))) fun hc2=>A5 (Aa (Qp Ah (Rb (Qr (Iq _) ?_))))
 .
  simp only [Ad,F7];rw [iN hc1];rw [if_pos hc2]
  done
 simp only [Ad,F7];rw [iN hc1];rw [iN hc2]
 done
theorem word0 (s:Av)(hl:s.length<=1048576):Ak Tryz.prog 134 [.str s,.int .i64 0] (.int .i64 (Eo J0 s:Int)):=by
 have h:=c45 s hl 0;have e:gS s 0=Eo J0 s:=by simp [gS]
 rw [e] at h;exact h
theorem c21 (s:Av)(hl:s.length<=1048576):Ak Tryz.prog 75 [.str s] (.int .i64 (Il s)):=by
 refine Cw 27 Tryz.func75 rfl fun H=>?_
 refine Aa (Qp Ah (Aq (Ba (Qp D3 (Qp (A9 rfl rfl) (Qp A8 (Qg [] Qw D3 (Qg [(6,_)] Qw (Ck tok rfl rfl rfl rfl) (Qg [(7,_)] Qw De (Qp Cr (Qp A8 (Qg [] Qw D3 ?_))))))))))));refine Yh [(11,_)] Qw (fun hG=>B8 tok rfl rfl rfl rfl (by omega) (Gk (i:=0) (ne_len (g1 hG)))) ?_;refine Qg [(12,_)] Qw (Qc rfl (c44 _)) (Qg [(13,_)] Qw E7 (Qp Cr (Qp A8 (Qg [] Qw D3 ?_))));refine Qg [(17,_)] Qw (Qc rfl (word0 s hl)) (Qg [] Qw D3 (Qg [(19,_)] Qw (Ck tok rfl rfl rfl rfl) (Qg [(18,_),(20,_)] Yw Bq (Qp Cr (Qp A8 (Qg [] Qw D3 (Qg [(24,_)] Qw (Qc rfl (c23 s)) (Qp Cr (Ap (fun hc1=>Aa (Qp Ah (Rc (Qr (Iq _) ?_)))) fun hc1=>A5 (Aa (Qp Ah (Rb (Qr (Iq _) ?_)))))))))))))
 .
  simp only [Ad,Il];rw [if_pos hc1]
  done
 simp only [Ad,Il];rw [iN hc1]
 done
theorem c24 (s:Av)(hl:s.length<=1048576):Ak Tryz.prog 272 [.str s] (.tuple [.str (Og s).1,.int .i64 (Og s).2]):=by
 refine Cw 54 Tryz.func272 rfl fun H=>?_
 refine Aa (Qp Dj (Qp Ah (Aq (Ba (Qp D3 (Qp (Ck tok rfl rfl rfl rfl) (Qp De (Ap (fun hc1=>Aa (Qp Dj (Qp Ah (Rc (Ku (.str _) (Iq _) ?_))))) fun hc1=>A5 (Aa (Qe (D7 (es:=[[.int .u8 _]]) tok rfl rfl rfl rfl rfl rfl rfl rfl rfl) ?_))))))))))
 .
  simp only [Ad,Og];rw [if_pos hc1]
  done
 rintro _ _ ⟨v10,rfl,rfl⟩;refine Qp (Bb (v:=.row _ _ _) rfl) (Aq (Ba (Qp D3 (Qp (Vx tok rfl rfl rfl rfl rfl rfl rfl) ?_))));refine Qp (Da s.length rfl rfl (by simp)) ?_;refine Qp Ai (Aq (AW.block ?_));refine AW.Aan (fun (p:Nat×List (List AV)×Value)=>(⟨[(4,.row p.2.2 1 p.2.1),(12,.sl 1 (Cu s)),(13,.int .i64 (s.length:Int)),(14,.int .i64 (p.1:Int))],.row p.2.2 p.2.1.length 5 1::H,54⟩:St)) (fun p=>p.1<=s.length/\p.2.1=Cu ([34]++E5 (s.take p.1))) (fun p=>s.length-p.1) ((0,_,v10)) ?_ Bx ?_
 . exact ⟨A3 _,rfl⟩
 rintro p hR;have hroom:=tY (by simp at hc1;omega) hR.2;have hsc:∀c∈p.2.1,A7 c=true:=by rw [hR.2];exact gI _
 refine Aa (Qp Bt (Re (E9 (fun hc2=>?_) fun hc2=>?_)))
 .
  have hk:p.1<s.length:=by simp at hc2;omega
  refine A5 (AW.seq (AW.block (Aa ?_)));refine Qp (Cp [.int .u8 _] rfl rfl (by omega) (sM (k:=p.1) hk)) ?_;refine Qp (Fb (c:=.int .u8 _) tok rfl rfl rfl) (Qp (Bb (v:=.int .u8 _) rfl) (Aq (AW.block (Aa ?_))));refine Qp (A0 (v:=.int .u8 _) rfl) (Qp Aj (Qp A8 (Qg [] Qw (A0 (v:=.int .u8 _) rfl) (Qg [(26,_)] Qw Aj (Qp Cr (Qp Ao (Ap (fun hc3=>AW.region (Qp (A0 (v:=.row _ _ _) rfl) (Qp (A0 (v:=.int .u8 _) rfl) (Qp (G0 ([[.int .u8 _],[.int .u8 _]]) rfl) ?_)))) fun hc3=>Aa (Qp (A0 (v:=.int .u8 _) rfl) (Qp Bt (Qp A8 (Qg [] Qw (A0 (v:=.int .u8 _) rfl) (Qg [(37,_)] Qw De (Qp Cr (Qp Ao (Ap (fun hc4=>?_) fun hc4=>AW.region (Qp (A0 (v:=.row _ _ _) rfl) (Qp (A0 (v:=.int .u8 _) rfl) (Qp (G0 ([[.int .u8 _]]) rfl) ?_))))))))))))))))))
  .
   refine Qe (Pk 0 rfl (sc_two _ _) (hsc) (by simp;omega) (by simp [maxLen];omega)) ?_;rintro _ _ ⟨v32,rfl,rfl⟩;refine Qp (Bb (v:=.row _ _ _) rfl) (AOL.nil (Gv (Gv (A2 (AW.region (Qp Dt (Qp Ai (Aq ?_))))))));refine ⟨(p.1+1,p.2.1++Cu [92,bt s p.1],v32),?_,?_,Bx⟩
   . exact ⟨hk,Wu hk hR.2 (by unfold Of;rw [if_pos hc3])⟩
   simp only;omega
  .
   refine Id ?_;refine Qn 0 rfl (A0 (v:=.row _ _ _) rfl) (Qn 1 rfl (A0 (v:=.int .u8 _) rfl) ?_);refine Qn 2 rfl (sE rfl rfl (by omega)) ?_;refine Qn 3 rfl (B8 tok rfl rfl rfl rfl ((lJ _).1) ((lJ _).2)) (Qn 4 rfl (A0 (v:=.int .u8 _) rfl) ?_);refine Qn 5 rfl (P_rem rfl rfl (by omega)) ?_;refine Qn 6 rfl (B8 tok rfl rfl rfl rfl ((lK _).1) ((lK _).2)) (Qn 7 rfl (G0 ([[.int .u8 _],[.int .u8 _],[.int .u8 _],[.int .u8 _]]) rfl) ?_);refine hJ 8 rfl (Pk 0 rfl (xP _ _ _ _) (hsc) (by simp;omega) (by simp [maxLen];omega)) ?_;rintro _ _ ⟨v48,rfl,rfl⟩;refine Qn 9 rfl (Bb (v:=.row _ _ _) rfl) ?_;refine Fs ?_;refine Gv (Gv (A2 (AW.region (Qp Dt (Qp Ai (Aq ?_))))));refine ⟨(p.1+1,p.2.1++Cu [92,120,bt Vi ((bt s p.1).toNat / 16),bt Vi ((bt s p.1).toNat % 16)],v48),?_,?_,Bx⟩
   . exact ⟨hk,Wu hk hR.2 (by unfold Of;rw [iN hc3,if_pos hc4])⟩
   simp only;omega
  refine Qe (Pk 0 rfl (Dl rfl) (hsc) (by simp;omega) (by simp [maxLen];omega)) ?_;rintro _ _ ⟨v21,rfl,rfl⟩;refine Qp (Bb (v:=.row _ _ _) rfl) (AOL.nil (Gv (Gv (A2 (AW.region (Qp Dt (Qp Ai (Aq ?_))))))));refine ⟨(p.1+1,p.2.1++Cu [bt s p.1],v21),?_,?_,Bx⟩
  . exact ⟨hk,Wu hk hR.2 (by unfold Of;rw [iN hc3,iN hc4])⟩
  simp only;omega
 have hk:p.1=s.length:=by simp at hc2;have:=hR.1;omega
 have hfin:p.2.1 ++ [[.int .u8 34]]=Cu ([34]++E5 s ++ [34]):=by rw [hR.2,hk,Ld,Jv ([34]++E5 s) [34]];rfl
 have hfl:([34]++E5 s ++ [34]).length<=maxLen:=by have h1:=T5 s;simp at hc1;simp [maxLen];omega
 refine AW.exit ?_;refine Bn (Ri (Aa ?_));refine Qp (A0 (v:=.row _ _ _) rfl) (Qp (G0 ([[.int .u8 _]]) rfl) ?_);refine Qe (Pk 0 rfl (Dl rfl) (hsc) (by simp;omega) (by simp [maxLen];omega)) ?_;rintro _ _ ⟨v52,rfl,rfl⟩;refine Qp (Vv (s:=[34]++E5 s ++ [34]) tok rfl rfl rfl rfl rfl rfl rfl (hfl) (sK hfin)) (Qp Dj (Qp Ah (Rb ?_)));refine Yx E4 Zf S1 ?_;simp only [Ad,Og];rw [iN hc1]
 done
theorem c70 (s:Av)(hl:s.length<=1048576):Ak Tryz.prog 304 [.str s] (.tuple [.int .u8 ((M4 s).1.toNat:Int),.int .i64 (M4 s).2]):=by
 refine Cw 48 Tryz.func304 rfl fun H=>?_
 refine Aa ?_;refine Qp (Bb (v:=.int .u8 _) rfl) ?_;refine Qp Ah (Re (AW.block (Aa (Qp D3 ?_))));refine Qp (Ck tok rfl rfl rfl rfl) ?_;refine Qp Fc (Qp A8 (Qg [] Qw D3 ?_));refine Yh [(11,_)] Qw (fun hG=>B8 tok rfl rfl rfl rfl (by omega) (Gk (i:=1) (by have h9:=g1 hG;simp at h9;omega))) ?_;refine Qg [(12,_)] Qw Aj (Qg [(13,_)] Qw A8 (Qg [] Qw D3 ?_));refine Yh [(15,_)] Qw (fun hG=>B8 tok rfl rfl rfl rfl (by omega) (Gk (i:=1) (by have h9:=g1 hG;simp at h9;omega))) ?_;refine Qg [(16,_)] Qw Aj (Qg [(14,_),(17,_)] Qw Cr (Qp Ej (Qp Ao (Ap (fun hc1=>?_) fun hc1=>?_))))
 .
  refine Aa (Qp D3 ?_);refine Qp (B8 tok rfl rfl rfl rfl (by omega) (Gk (i:=1) (by simp at hc1;omega))) ?_;refine Qp (Bb (v:=.int .u8 _) rfl) ?_;refine Qp Ah (Ra ?_);refine Ku (.int .u8 _) (Iq _) ?_;simp only [Ad,M4];rw [if_pos hc1]
  done
 refine Aa (Qp D3 ?_);refine Qp (Ck tok rfl rfl rfl rfl) ?_;refine Qp Fc (Qp A8 (Qg [] Qw D3 ?_));refine Yh [(27,_)] Qw (fun hG=>B8 tok rfl rfl rfl rfl (by omega) (Gk (i:=1) (by have h9:=g1 hG;simp at h9;omega))) ?_;refine Qg [(28,_)] Qw Aj (Qp Ej (Qp Ao (Ap (fun hc2=>?_) fun hc2=>?_)))
 .
  refine AW.seq ?_;refine Id ?_;refine Qn 0 rfl D3 ?_;refine Qn 1 rfl (B8 tok rfl rfl rfl rfl (by omega) (Gk (i:=2) (by simp at hc2;omega))) ?_;refine Qn 2 rfl (Qc rfl (k53 Vi _)) ?_;refine Qn 3 rfl D3 ?_;refine Qn 4 rfl (B8 tok rfl rfl rfl rfl (by omega) (Gk (i:=3) (by simp at hc2;omega))) ?_;refine Qn 5 rfl (Qc rfl (k53 Vi _)) ?_;refine Qn 6 rfl Ah (Qn 7 rfl Ah ?_);refine Fs ?_;refine A2 (Aa (Qp Ai (Qp Fc (Qp A8 (Qg [] Qw Ai (Qg [(40,_)] Qw Fc (Qp Ej (Ap (fun hc3=>?_) fun hc3=>?_))))))))
  .
   refine AW.seq ?_;have hh1:=wD (bt s 2);have hh2:=wD (bt s 3);unfold lI at hh1 hh2;refine AW.region (Qp Ai ?_);refine Qp (P_mul rfl rfl rfl (by constructor <;> omega)) ?_;refine Qp Ai (Qp Dt ?_);refine Qp (Vw (m:=((dZ (16*lI (bt s 2)+lI (bt s 3))).toNat:Int)) tok rfl rfl rfl rfl rfl (yS _)) ?_;refine Qp (Bb (v:=.int .u8 _) rfl) ?_;refine Qp Ah (Ra ?_);refine Ku (.int .u8 _) (Iq _) ?_;simp only [Ad,M4];rw [iN hc1];rw [if_pos hc2];rw [if_pos hc3]
   done
  refine Rf (Aa ?_);refine Qp (Bb (v:=.int .u8 _) rfl) ?_;refine Qp Ah (Rb ?_);refine Ku (.int .u8 _) (Iq _) ?_;simp only [Ad,M4];rw [iN hc1];rw [if_pos hc2];rw [iN hc3];rfl
 refine Rf (Aa ?_);refine Qp (Bb (v:=.int .u8 _) rfl) ?_;refine Qp Ah (Rb ?_);refine Ku (.int .u8 _) (Iq _) ?_;simp only [Ad,M4];rw [iN hc1];rw [iN hc2];rfl
theorem sign_get (k:Nat)(h:k<17):L2[k]? = some (.str (rD.getD k [])):=by
 have e:L2=rD.map AV.str:=rfl;rw [e,List.getElem?_map];have h':k<rD.length:=h;simp [Ii,List.getElem?_eq_getElem h']
theorem sign_step {s:Av}{k:Nat}(h:k<17)(hc:Lib.hasPrefix s (rD.getD k [])=false):Hs s (rD.drop k)=Hs s (rD.drop (k+1)):=by
 have h':k<rD.length:=h;rw [Ou h'];have e:rD.getD k []=rD[k]:=by simp [Ii,List.getElem?_eq_getElem h']
 rw [e] at hc;rw [Hs,iN hc]
theorem sign_stop {s:Av}{k:Nat}(h:k<17)(hc:Lib.hasPrefix s (rD.getD k [])=true):Hs s (rD.drop k)=sY 3 (rD.getD k []) (rD.getD k []).length:=by
 have h':k<rD.length:=h;rw [Ou h'];have e:rD.getD k []=rD[k]:=by simp [Ii,List.getElem?_eq_getElem h']
 rw [e] at hc ⊢;rw [Hs,if_pos hc]
theorem c25 (s:Av)(hl:s.length<=1048576):Ak Tryz.prog 294 [.str s] (.tuple [.str (Wt s).1,.int .i64 (Wt s).2]):=by
 refine Cw 49 Tryz.func294 rfl fun H=>?_
 refine Aa (Qp Dj (Qp Ah (Aq (Ba (Qp D3 (Qp (Ck tok rfl rfl rfl rfl) (Qp De (Ap (fun hc1=>Aa (Qp Dj (Qp Ah (Rc (Ku (.str _) (Iq _) ?_))))) fun hc1=>A5 (Aa (Qe (D7 (es:=[[.int .u8 _]]) tok rfl rfl rfl rfl rfl rfl rfl rfl rfl) ?_))))))))))
 .
  simp only [Ad,Wt];rw [if_pos hc1]
  done
 rintro _ _ ⟨v10,rfl,rfl⟩;refine Qp (Bb (v:=.row _ _ _) rfl) (Aq (Ba (Qp Ah (Aq (AW.block ?_)))));refine AW.Aan (fun (p:Nat×List (List AV)×Value)=>(⟨[(0,.str s),(4,.row p.2.2 1 p.2.1),(5,.int .i64 (p.1:Int))],.row p.2.2 p.2.1.length 5 1::H,49⟩:St)) (fun p=>p.1<=s.length/\p.2.1=Cu ([34]++Eu (s.take p.1))) (fun p=>s.length-p.1) ((0,_,v10)) ?_ Bx ?_
 . exact ⟨A3 _,rfl⟩
 rintro p hR;have hroom:=qI (by simp at hc1;omega) hR.2;have hsc:∀c∈p.2.1,A7 c=true:=by rw [hR.2];exact gI _
 refine Ba (Qp Ai (Qp D3 (Qp (Ck tok rfl rfl rfl rfl) (Qp Bt (Ap (fun hc2=>?_) fun hc2=>?_)))))
 .
  have hk:p.1<s.length:=by simp at hc2;omega
  refine A5 (AW.seq (AW.block (Aa (Qp D3 (Qp Ai ?_)))));refine Qp (B8 tok rfl rfl rfl rfl (by omega) (Gk (i:=p.1) hk)) ?_;refine Qp (Bb (v:=.int .u8 _) rfl) (B2 (Qp (A0 (v:=.int .u8 _) rfl) (Qp (Qc rfl (c46 _)) (Ap (fun hc3=>AW.region (Qp (A0 (v:=.row _ _ _) rfl) (Qp (A0 (v:=.int .u8 _) rfl) (Qp (G0 ([[.int .u8 _]]) rfl) ?_)))) fun hc3=>Aa (Qp (A0 (v:=.int .u8 _) rfl) (Qp Aj (Qp A8 (Qg [] Qw (A0 (v:=.int .u8 _) rfl) (Qg [(29,_)] Qw Aj (Qp Cr (Ap (fun hc4=>AW.region (Qp (A0 (v:=.row _ _ _) rfl) (Qp (A0 (v:=.int .u8 _) rfl) (Qp (G0 ([[.int .u8 _],[.int .u8 _]]) rfl) ?_)))) fun hc4=>?_)))))))))))
  .
   refine Qe (Pk 0 rfl (Dl rfl) (hsc) (by simp;omega) (by simp [maxLen];omega)) ?_;rintro _ _ ⟨v25,rfl,rfl⟩;refine Qp (Bb (v:=.row _ _ _) rfl) (Rk (AW.region (Qp Ai (Qp Dt (Qp Ah (Aq ?_))))));refine ⟨(p.1+1,p.2.1++Cu [bt s p.1],v25),?_,?_,Bx⟩
   . exact ⟨hk,T6 hk hR.2 (by unfold Nr;rw [if_pos hc3])⟩
   simp only;omega
  .
   refine Qe (Pk 0 rfl (sc_two _ _) (hsc) (by simp;omega) (by simp [maxLen];omega)) ?_;rintro _ _ ⟨v35,rfl,rfl⟩;refine Qp (Bb (v:=.row _ _ _) rfl) (Rk (AW.region (Qp Ai (Qp Dt (Qp Ah (Aq ?_))))));refine ⟨(p.1+1,p.2.1++Cu [92,bt s p.1],v35),?_,?_,Bx⟩
   . exact ⟨hk,T6 hk hR.2 (by unfold Nr;rw [iN hc3,if_pos hc4])⟩
   simp only;omega
  refine Id ?_;refine Qn 0 rfl (A0 (v:=.row _ _ _) rfl) (Qn 1 rfl (A0 (v:=.int .u8 _) rfl) ?_);refine Qn 2 rfl (sE rfl rfl (by omega)) ?_;refine Qn 3 rfl (B8 tok rfl rfl rfl rfl ((lJ _).1) ((lJ _).2)) (Qn 4 rfl (A0 (v:=.int .u8 _) rfl) ?_);refine Qn 5 rfl (P_rem rfl rfl (by omega)) ?_;refine Qn 6 rfl (B8 tok rfl rfl rfl rfl ((lK _).1) ((lK _).2)) (Qn 7 rfl (G0 ([[.int .u8 _],[.int .u8 _],[.int .u8 _],[.int .u8 _]]) rfl) ?_);refine hJ 8 rfl (Pk 0 rfl (xP _ _ _ _) (hsc) (by simp;omega) (by simp [maxLen];omega)) ?_;rintro _ _ ⟨v44,rfl,rfl⟩;refine Qn 9 rfl (Bb (v:=.row _ _ _) rfl) ?_;refine Fs ?_;refine Gv (A2 (AW.region (Qp Ai (Qp Dt (Qp Ah (Aq ?_))))));refine ⟨(p.1+1,p.2.1++Cu [92,120,bt Vi ((bt s p.1).toNat / 16),bt Vi ((bt s p.1).toNat % 16)],v44),?_,?_,Bx⟩
  . exact ⟨hk,T6 hk hR.2 (by unfold Nr;rw [iN hc3,iN hc4])⟩
  simp only;omega
 have hk:p.1=s.length:=by simp at hc2;have:=hR.1;omega
 have hfin:p.2.1 ++ [[.int .u8 34]]=Cu ([34]++Eu s ++ [34]):=by rw [hR.2,hk,Ld,Jv ([34]++Eu s) [34]];rfl
 have hfl:([34]++Eu s ++ [34]).length<=maxLen:=by have h1:=Sg s;simp at hc1;simp [maxLen];omega
 refine AW.exit ?_;refine Bn (Ri (Aa ?_));refine Qp (A0 (v:=.row _ _ _) rfl) (Qp (G0 ([[.int .u8 _]]) rfl) ?_);refine Qe (Pk 0 rfl (Dl rfl) (hsc) (by simp;omega) (by simp [maxLen];omega)) ?_;rintro _ _ ⟨v47,rfl,rfl⟩;refine Qp (Vv (s:=[34]++Eu s ++ [34]) tok rfl rfl rfl rfl rfl rfl rfl (hfl) (sK hfin)) (Qp Dj (Qp Ah (Rb ?_)));refine Yx E4 Zf S1 ?_;simp only [Ad,Wt];rw [iN hc1]
 done
theorem c54 (s:Av)(hl:s.length<=1048576)(h0:0<s.length):Ak Tryz.prog 276 [.str s] (.agg (cFo (O7 s))):=by
 refine Cw 20 Tryz.func276 rfl fun H=>?_
 refine Aa (Dx gix fun b2=>Aq (Ba (Qp D3 ?_)));refine Qp (B8 tok rfl rfl rfl rfl (by omega) (Gk (i:=0) h0)) ?_;refine Qp (Qc rfl (c43 _)) (Qp E7 (Ap (fun hc1=>Aa (Qp (D0 Mq) ?_)) fun hc1=>A5 (Aa (Qp D3 ?_))))
 .
  refine Bw 0 Mq (_::_) (Rc ?_);refine Yx [.agg Mq] (Zb 0) S1 ?_;simp only [Ad,O7];rw [if_pos hc1];rfl
 refine Qp (Qc rfl (c38 s hl 302 J0 (by kernel_rfl) c69)) ?_;refine Qp Ah (Aq (Ba (Qp Ai (Qp De (Ap (fun hc2=>Aa (Qp (D0 Mq) ?_)) fun hc2=>A5 (Aa (Qp D3 (Qp Ai (Qp (Ka (l:=0) (h:=Eo J0 s) tok rfl rfl rfl (rfl) (⟨_,rfl⟩) (A3 _) (Sm _ _) (Nb)) (Qp (D0 oN) (Qp Ai (Qp (D0 Mq) ?_))))))))))))
 .
  refine Bw 0 Mq (_::_) (Rc ?_);refine Yx [.agg Mq] (Zb 0) S1 ?_;simp only [Ad,O7];rw [iN hc1];rw [if_pos hc2];rfl
 refine Bw 0 Mq (_::_) (Rb ?_);refine Yx [.agg Mq] (Zb 0) S1 ?_;simp only [Ad,O7];rw [iN hc1];rw [iN hc2];rfl
theorem c55 (s:Av)(hl:s.length<=1048576)(h0:0<s.length):Ak Tryz.prog 277 [.str s] (.agg (cFo (Im s))):=by
 refine Cw 40 Tryz.func277 rfl fun H=>?_
 refine Aa (Dx gix fun b2=>B2 (Qp D3 ?_));refine Qp (Qc rfl (c38 s hl 141 Eb (by kernel_rfl) c39)) ?_;refine Qp Ah (Aq (Ba (Qp Ai (Qp Aj (Ap (fun hc1=>Aa (Qp (D0 Mq) ?_)) fun hc1=>A5 (Ba (Qp D3 (Qp Ai (Qp (Ka (l:=0) (h:=Eo Eb s) tok rfl rfl rfl (rfl) (⟨_,rfl⟩) (A3 _) (Sm _ _) (Nb)) ?_)))))))))
 .
  refine Bw 0 Mq (_::_) (Rc ?_);refine Yx [.agg Mq] (Zb 0) S1 ?_;simp only [Ad,Im];rw [if_pos hc1];rfl
 refine Qp (Qc rfl (c18 (s.take (Eo Eb s)) (by rw [Fm];omega))) ?_;refine Qp Ml (Qp Km (Qp Km (Qp Ah (Qp Ah (B2 (Qp Ai (Qp Bq (Ap (fun hc2=>Aa (Qp Ai (Qp (D0 Mq) ?_))) fun hc2=>A5 (Ba (Qp Ai (Qp D3 (Qp (Ck tok rfl rfl rfl rfl) (Qp Bt (Qp A8 (Qg [] Qw D3 (Qg [] Qw Ai ?_))))))))))))))))
 .
  refine Bw 0 Mq (_::_) (Rc ?_);refine Yx [.agg Mq] (Zb 0) S1 ?_;simp only [Ad,Im];rw [iN hc1];rw [if_pos hc2];rfl
 refine Yh [(27,_),(28,_)] Yw (fun hG=>B8 tok rfl rfl rfl rfl (by omega) (Gk (i:=Eo Eb s) (by have h9:=g1 hG;simp at h9;exact h9))) ?_;refine Qg [(29,_)] Qw (Qc rfl (c43 _)) (Qp Ej (Ap (fun hc3=>Aa (Qp Ai (Qp (D0 Mq) ?_))) fun hc3=>A5 (Aa (Qp D3 (Qp Ai (Qp (Ka (l:=0) (h:=Eo Eb s) tok rfl rfl rfl (rfl) (⟨_,rfl⟩) (A3 _) (Sm _ _) (Nb)) (Qp (D0 oN) (Qp Ai (Qp (D0 Mq) ?_)))))))))
 .
  refine Bw 0 Mq (_::_) (Rc ?_);refine Yx [.agg Mq] (Zb 0) S1 ?_;simp only [Ad,Im];rw [iN hc1];rw [iN hc2];rw [if_pos hc3];rfl
 refine Bw 0 Mq (_::_) (Rb ?_);refine Yx [.agg Mq] (Zb 0) S1 ?_;simp only [Ad,Im];rw [iN hc1];rw [iN hc2];rw [iN hc3];rfl
theorem c57 (s:Av):Ak Tryz.prog 279 [.str s] (.agg (cFo (cB s))):=by
 refine Cw 19 Tryz.func279 rfl fun H=>?_
 refine Aa (Dx gix fun b2=>Aq (Ba ?_));refine Qp (bC (l:=L2) tok (⟨_,by simp [globals],fun _ h=>h⟩) rfl rfl rfl rfl) ?_;refine Qp Ai (Aq (AW.block ?_));refine AW.Aan (fun (k:Nat)=>(⟨[(0,.str s),(2,.val (.pointer (some ⟨b2,0,none⟩))),(5,.agg L2),(6,.int .i64 (k:Int))],.box b2 256 gix::H,19⟩:St)) (fun k=>k<=17/\cB s=Hs s (rD.drop k)) (fun k=>17-k) (0) ?_ Bx ?_
 . exact ⟨A3 _,rfl⟩
 rintro k hR;refine Aa (Qp Bt (Re (E9 (fun hc1=>?_) fun hc1=>?_)))
 .
  have hk:k<17:=by simp at hc1;omega
  refine A5 (AW.seq (AW.block (Aa ?_)));refine Qp (bB (c:=.str (rD.getD k [])) tok rfl rfl rfl rfl rfl rfl rfl (by omega) (by omega) (sign_get k hk)) ?_;refine Qp Dj (B2 (Qp D3 (Qp D3 (Qp (Qc rfl (k28 _ _)) (Ap (fun hc2=>Aa (Qp D3 (Qp (D0 oN) (Qp D3 (Qp (Ck tok rfl rfl rfl rfl) (Qp (D0 Mq) ?_)))))) fun hc2=>Rf (AW.region (Qp Dt (Qp Ai (Aq ?_)))))))))
  .
   refine Bw 0 Mq (_::_) (Ra (Au (Cn (Au ?_))));refine Yx [.agg Mq] (Zb 0) S1 ?_;have h9:=hR.2.trans (sign_stop hk hc2);rw [h9];rfl
  refine ⟨k+1,?_,?_,Bx⟩
  . exact ⟨hk,hR.2.trans (sign_step hk hc2)⟩
  omega
 have hk:k=17:=by simp at hc1;have:=hR.1;omega
 refine AW.exit ?_;refine Bn (Ri (Aa (Qp (D0 Mq) ?_)));refine Bw 0 Mq (_::_) (Rb ?_);refine Yx [.agg Mq] (Zb 0) S1 ?_;have h9:cB s=Sy 0 4:=by rw [hR.2,hk];rfl
 rw [h9];rfl
theorem Ob {s:Av}{n i:Nat}{b:Av}(h:0<n):Kh s n i b =
  if decide ((i:Int)<(s.length:Int)) then
   if (((bt s i).toNat:Int)==34) then
    if decide (64<(b.length:Int)) then Sy 0 13 else sY 2 b ((i:Int)+1)
   else if (((bt s i).toNat:Int)==92) then
    if ((M4 (s.drop i)).2==0) then Sy i 4 else Kh s (n-1) (i+(M4 (s.drop i)).2.toNat) (b ++ [(M4 (s.drop i)).1])
   else if (decide (((bt s i).toNat:Int)<32)||decide (126<((bt s i).toNat:Int))) then Sy i 4
   else Kh s (n-1) (i+1) (b ++ [bt s i])
  else Sy s.length 4:=by
 cases n with
 | zero=>omega
 | succ n=>rfl
theorem sU (t:Av):0<=(M4 t).2/\(M4 t).2<=t.length:=by
 unfold M4;split
 . rename_i h;simp at h;simp;omega
 split
 .
  rename_i h;simp at h;split <;> simp;omega
 simp
theorem sN (b:Av)(c:UInt8):Cu (b ++ [c])=Cu b ++ [[AV.int .u8 (c.toNat:Int)]]:=Jv b [c]
theorem qW {es:List (List AV)}{b:Av}(h:es=Cu b)(c:UInt8):es ++ [[AV.int .u8 (c.toNat:Int)]]=Cu (b ++ [c]):=by rw [h,sN]
theorem pB {b:Av}{n m:Nat}(h:b.length<=n)(hm:n<m)(c:UInt8):(b ++ [c]).length<=m:=by simp;omega
def recL:List (List AV):=[[.fn (.func 276) [] []],[.fn (.func 277) [] []],[.fn (.func 278) [] []]]
def Aac:Nat->Av->Fo
 | 0,s=>O7 s
 | 1,s=>Im s
 | _,s=>Np s
theorem rec_get (k:Nat)(h:k<3):recL[k]? = some [.fn (.func (276+k)) [] []]:=by
 match k,h with
 | 0,_=>rfl
 | 1,_=>rfl
 | 2,_=>rfl
theorem rec_fn (k:Nat)(h:k<3):U3 Tryz.prog (276+k)=true:=by
 match k,h with
 | 0,_=>exact (by kernel_rfl:U3 Tryz.prog 276=true)
 | 1,_=>exact (by kernel_rfl:U3 Tryz.prog 277=true)
 | 2,_=>exact (by kernel_rfl:U3 Tryz.prog 278=true)
theorem next_hit {s:Av}{k:Nat}(h:k<3)(hk:∀j,j<k->Tg (Aac j s)=false)(hc:Tg (Aac k s)=true):Du s=Aac k s:=by
 unfold Du
 match k,h with
 | 0,_=>rw [if_pos (show Tg (O7 s)=true from hc)];rfl
 | 1,_=>rw [if_neg (nD.mp (show Tg (O7 s)=false from hk 0 (by omega))),if_pos (show Tg (Im s)=true from hc)];rfl
 | 2,_=>rw [if_neg (nD.mp (show Tg (O7 s)=false from hk 0 (by omega))),if_neg (nD.mp (show Tg (Im s)=false from hk 1 (by omega))),if_pos (show Tg (Np s)=true from hc)];rfl
theorem zF {s:Av}(hk:∀j,j<3->Tg (Aac j s)=false):Du s=cB s:=by
 unfold Du;rw [if_neg (nD.mp (show Tg (O7 s)=false from hk 0 (by omega))),if_neg (nD.mp (show Tg (Im s)=false from hk 1 (by omega))),if_neg (nD.mp (show Tg (Np s)=false from hk 2 (by omega)))]
theorem c56 (s:Av)(hl:s.length<=1048576)(h0:0<s.length):Ak Tryz.prog 278 [.str s] (.agg (cFo (Np s))):=by
 refine Cw 71 Tryz.func278 rfl fun H=>?_
 refine Aa (Dx gix fun b2=>Aq (Ba (Qp D3 ?_)));refine Qp (B8 tok rfl rfl rfl rfl (by omega) (Gk (i:=0) h0)) ?_;refine Qp Bq (Ap (fun hc1=>Aa (Qp (D0 Mq) ?_)) fun hc1=>A5 (Aa (Qp Qh ?_)))
 .
  refine Bw 0 Mq (_::_) (Rc ?_);refine Yx [.agg Mq] (Zb 0) S1 ?_;simp only [Ad,Np];rw [if_pos hc1];rfl
 refine AOL.ghost (GS.row (t:=3) 5 1 rfl) ?_;refine Aq (Ba (Qp Ah (Aq (AW.block ?_))));refine AW.Aan (fun (p:Nat×Nat×Av×List (List AV)×Value)=>(⟨[(0,.str s),(2,.val (.pointer (some ⟨b2,0,none⟩))),(3,.row p.2.2.2.2 1 p.2.2.2.1),(4,.int .i64 (p.2.1:Int))],.row p.2.2.2.2 p.2.2.2.1.length 5 1 :: .box b2 256 gix::H,71⟩:St)) (fun p=>p.2.1<=s.length/\s.length<p.1+p.2.1/\p.2.2.2.1=Cu p.2.2.1/\p.2.2.1.length<=p.2.1/\Kh s (s.length+1) 1 []=Kh s p.1 p.2.1 p.2.2.1) (fun p=>p.1) ((s.length+1,1,[],[],.slice none 0 0)) ?_ Bx ?_
 . exact ⟨h0,by simp only;omega,rfl,A3 _,rfl⟩
 rintro p hR;have hle:p.2.1<=s.length:=hR.1;have hfu:s.length<p.1+p.2.1:=hR.2.1;have hes:p.2.2.2.1=Cu p.2.2.1:=hR.2.2.1;have hbl:p.2.2.1.length<=p.2.1:=hR.2.2.2.1;have hn:0<p.1:=by omega
 have hsc:∀c∈p.2.2.2.1,A7 c=true:=by rw [hes];exact gI _
 have hel:p.2.2.2.1.length<=s.length:=by rw [hes,Mc];omega
 refine Ba (Qp Ai (Qp D3 (Qp (Ck tok rfl rfl rfl rfl) (Qp Bt (Ap (fun hc2=>?_) fun hc2=>AW.exit ?_)))))
 .
  have hi:p.2.1<s.length:=by simp at hc2;omega
  have hel2:=sU (s.drop p.2.1);rw [Fk] at hel2;refine A5 (AW.block (Aa (Qp D3 (Qp Ai ?_))));refine Qp (B8 tok rfl rfl rfl rfl (by omega) (Gk (i:=p.2.1) hi)) ?_;refine Qp (Bb (v:=.int .u8 _) rfl) (Aq (AW.block (Aa (Qp (A0 (v:=.int .u8 _) rfl) (Qp Aj (Qp Ao (Ap (fun hc3=>Ba (Qp (A0 (v:=.row _ _ _) rfl) ?_)) fun hc3=>?_)))))))
  .
   refine Qp (H7 (n:=p.2.2.1.length) tok rfl rfl rfl (by rw [hes,Mc])) ?_;refine Qp De (Ap (fun hc4=>Aa (Qp (D0 Mq) ?_)) fun hc4=>A5 (Aa (Qp (A0 (v:=.row _ _ _) rfl) ?_)))
   .
    refine Bw 1 Mq (_::_::_) (Rc (Cn (Cn (Au (Cn (Au ?_))))));refine Yx [.agg Mq] (Zb 1) S2 ?_
    have h9:Np s=Sy 0 13:=by
     unfold Np;rw [iN hc1,hR.2.2.2.2,Ob hn,if_pos hc2,if_pos hc3,if_pos hc4]
    rw [h9];rfl
   refine Qp (Vv (s:=p.2.2.1) tok rfl rfl rfl rfl rfl rfl rfl (by simp [maxLen];omega) (sK hes)) ?_;refine Qp (D0 oN) (Qp Ai (Qp Dt (Qp (D0 Mq) ?_)));refine Bw 1 Mq (_::_::_) (Rb (Cn (Cn (Au (Cn (Au ?_))))));refine Yx [.agg Mq] (Zb 1) S2 ?_
   have h9:Np s=sY 2 p.2.2.1 ((p.2.1:Int)+1):=by
    unfold Np;rw [iN hc1,hR.2.2.2.2,Ob hn,if_pos hc2,if_pos hc3,iN hc4]
   rw [h9];rfl
  refine Aa (Qp (A0 (v:=.int .u8 _) rfl) (Qp Aj (Qp Ao (Ap (fun hc5=>Aa (Qp D3 (Qp Ai (Qp (Ka (l:=p.2.1) (h:=s.length) tok rfl rfl rfl (⟨_,rfl⟩) (rfl) (hle) (B6 _) (congrArg (List.drop _) Ld)) ?_)))) fun hc5=>Aa (Qp (A0 (v:=.int .u8 _) rfl) (Qp Bt (Qp A8 (Qg [] Qw (A0 (v:=.int .u8 _) rfl) (Qg [(63,_)] Qw De (Qp Cr (Qp Ao (Ap (fun hc7=>Aa (Qp Ai (Qp (D0 Mq) ?_))) fun hc7=>Aa (Qp (A0 (v:=.row _ _ _) rfl) (Qp (A0 (v:=.int .u8 _) rfl) (Qp (G0 ([[.int .u8 _]]) rfl) ?_)))))))))))))))
  .
   refine Qp (Qc rfl (c70 (s.drop p.2.1) (by rw [Fk];omega))) ?_;refine Qp Ml (Qp (Cq (v:=.int .u8 _) rfl rfl) (Qp Km (Qp (Bb (v:=.int .u8 _) rfl) (Qp Ah (Aq (Ba (Qp Ai (Qp Aj (Ap (fun hc6=>Aa (Qp Ai (Qp (D0 Mq) ?_))) fun hc6=>?_)))))))))
   .
    refine Bw 1 Mq (_::_::_) (Rc (Cn (Cn (Au (Cn (Au ?_))))));refine Yx [.agg Mq] (Zb 1) S2 ?_
    have h9:Np s=Sy p.2.1 4:=by
     unfold Np;rw [iN hc1,hR.2.2.2.2,Ob hn,if_pos hc2,iN hc3,if_pos hc5,if_pos hc6]
    rw [h9];rfl
   have hne:(M4 (s.drop p.2.1)).2≠0:=by simpa using hc6
   refine A5 (Aa (Qp (A0 (v:=.row _ _ _) rfl) (Qp (A0 (v:=.int .u8 _) rfl) (Qp (G0 ([[.int .u8 _]]) rfl) ?_))));refine Qe (Pk 0 rfl (Dl rfl) (hsc) (by simp;omega) (by simp [maxLen];omega)) ?_;rintro _ _ ⟨v55,rfl,rfl⟩;refine Qp (Bb (v:=.row _ _ _) rfl) (Aq (AW.region (Qp Ai (Qp Ai (Qp Dt (Qp Ah (AOL.nil (Gv (Gv (A2 ?_))))))))));refine ⟨(p.1-1,p.2.1+(M4 (s.drop p.2.1)).2.toNat,p.2.2.1 ++ [(M4 (s.drop p.2.1)).1],p.2.2.2.1 ++ [[.int .u8 ((M4 (s.drop p.2.1)).1.toNat:Int)]],v55),?_,?_,GS.weaken ⟨rfl,rfl,rfl,congrArg (AV.int .i64) (by simp only;omega),trivial⟩ (.refl _)⟩
   . exact ⟨by simp only;omega,by simp only;omega,qW hes _,pB hbl (by simp only;omega) _,hR.2.2.2.2.trans (by rw [Ob hn,if_pos hc2,iN hc3,if_pos hc5,iN hc6])⟩
   simp only;omega
  .
   refine Bw 1 Mq (_::_::_) (Rb (Cn (Cn (Au (Cn (Au ?_))))));refine Yx [.agg Mq] (Zb 1) S2 ?_
   have h9:Np s=Sy p.2.1 4:=by
    unfold Np;rw [iN hc1,hR.2.2.2.2,Ob hn,if_pos hc2,iN hc3,iN hc5,if_pos hc7]
   rw [h9];rfl
  refine Qe (Pk 0 rfl (Dl rfl) (hsc) (by simp;omega) (by simp [maxLen];omega)) ?_;rintro _ _ ⟨v22,rfl,rfl⟩;refine Qp (Bb (v:=.row _ _ _) rfl) (Aq (AW.region (Qp Ai (Qp Dt (Qp Ah (AOL.nil (Gv (Gv (A2 ?_)))))))));refine ⟨(p.1-1,p.2.1+1,p.2.2.1 ++ [bt s p.2.1],p.2.2.2.1 ++ [[.int .u8 ((bt s p.2.1).toNat:Int)]],v22),?_,?_,Bx⟩
  . exact ⟨by simp only;omega,by simp only;omega,qW hes _,pB hbl (by simp only;omega) _,hR.2.2.2.2.trans (by rw [Ob hn,if_pos hc2,iN hc3,iN hc5,iN hc7])⟩
  simp only;omega
 refine Bn (Ri (Aa (Qp D3 ?_)));refine Qp (Ck tok rfl rfl rfl rfl) (Qp (D0 Mq) ?_);refine Bw 1 Mq (_::_::_) (Rb ?_);refine Yx [.agg Mq] (Zb 1) S2 ?_
 have h9:Np s=Sy s.length 4:=by
  unfold Np;rw [iN hc1,hR.2.2.2.2,Ob hn,iN hc2]
 rw [h9];rfl
theorem rec_call (s:Av)(hl:s.length<=1048576)(h0:0<s.length)(k:Nat)(h:k<3):Ak Tryz.prog (276+k) [.str s] (.agg (cFo (Aac k s))):=by
 match k,h with
 | 0,_=>exact c54 s hl h0
 | 1,_=>exact c55 s hl h0
 | 2,_=>exact c56 s hl h0
theorem c33 (s:Av)(hl:s.length<=1048576)(h0:0<s.length):Ak Tryz.prog 222 [.str s] (.agg (cFo (Du s))):=by
 refine Cw 27 Tryz.func222 rfl fun H=>?_
 refine Aa (Dx gix fun b2=>Aq (Ba (Qp (G0 ([[_],[_],[_]]) rfl) (Qp (nO tok rfl rfl rfl rfl) (Qp Ai (Aq (AW.block ?_)))))));refine AW.Aan (fun (k:Nat)=>(⟨[(0,.str s),(2,.val (.pointer (some ⟨b2,0,none⟩))),(6,.sl 1 recL),(7,.int .i64 3),(8,.int .i64 (k:Int))],.box b2 256 gix::H,27⟩:St)) (fun k=>k<=3/\∀j,j<k->Tg (Aac j s)=false) (fun k=>3-k) (0) ?_ Bx ?_
 . exact ⟨A3 _,fun j hj=>absurd hj (Nat.not_lt_zero _)⟩
 rintro k hR;refine Aa (Qp Bt (Re (E9 (fun hc1=>?_) fun hc1=>?_)))
 .
  have hk:k<3:=by simp at hc1;omega
  refine A5 (AW.seq (AW.block (Aa ?_)));refine Qp (Cp ([.fn (.func (276+k)) [] []]) rfl rfl (by omega) (rec_get k hk)) ?_;refine Qp (Fb (c:=.fn _ _ _) tok rfl rfl rfl) (Qp (Bb (v:=.fn _ _ _) rfl) (B2 (Qp (A0 (v:=.fn _ _ _) rfl) (Qp D3 (Qp (Pi (rec_fn k hk) rfl rfl rfl (rec_call s hl h0 k hk)) (Dx gix fun b5=>?_))))));refine Bw 0 Mq (_::_::_) ?_;refine Ji 5 0 rfl ?_;refine B2 (Qp (Qf [Iq _,Iq _,Iq _]) (Qp Be (Qp De (Qp A8 (Qg [] Qw (Qf [Iq _]) (Qg [(19,_)] Qw Be (Qg [(20,_)] Qw Bq (Qp Cr (Ap (fun hc2=>Aa (Qp (B1 Mq) ?_)) fun hc2=>Rf (AW.region (Qp Dt (Qp Ai (Aq ?_)))))))))))))
  .
   refine Bw 0 Mq (_::_) (Ra (Au (Cn (Au ?_))));refine Yx [.agg Mq] (Zb 0) S1 ?_;rw [next_hit hk hR.2 hc2];rfl
  refine ⟨k+1,?_,?_,Bx⟩
  . exact ⟨hk,fun j hj=>by rcases Nat.lt_succ_iff_lt_or_eq.1 hj with h | rfl;exact hR.2 j h;exact hc2⟩
  omega
 have hk:k=3:=by simp at hc1;have:=hR.1;omega
 refine AW.exit ?_;refine Bn (Ri (Aa (Qp D3 ?_)));refine Qp (Qc rfl (c57 s)) ?_;refine Bw 0 Mq (_::_) (Rb ?_);refine Yx [.agg Mq] (Zb 0) S1 ?_;have h9:Du s=cB s:=by subst hk;exact zF hR.2
 rw [h9];rfl
end Go.Proofs.YtckhoadldibflaaGreatDoor
