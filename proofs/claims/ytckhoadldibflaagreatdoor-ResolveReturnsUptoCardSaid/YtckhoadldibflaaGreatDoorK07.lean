/-
  Several texts in one: R13, R14, R16, R17, R20, R23, R27, S12, B12, P15, P16, P1, P2, P3, P5. No condition.
-/
import Derived.Test.YtckhoadldibflaaGreatDoorK06
import Derived.Test.YtckhoadldibflaaGreatDoorK04
import Derived.Test.YtckhoadldibflaaGreatDoorK03
import Derived.KernelRfl
set_option linter.unusedVariables false
set_option linter.unusedSimpArgs false
namespace Go.Proofs.YtckhoadldibflaaGreatDoor
open Go Go.Aw

mutual
def X8 (L:Nat):Pt->Nat
 | ⟨_,xs,_,_,_,_,_⟩=>Nt L xs 1
def Nt (L:Nat):List Pt->Nat->Nat
 | [],n=>n
 | a::r,n=>if n<=L then Nt L r (n+X8 L a) else n
end
theorem totP_eq (L:Nat)(p:Pt):X8 L p=Nt L p.args 1:=by cases p;rw [X8]
theorem wF (L:Nat):∀(l:List Pt) (m:Nat),m<=Nt L l m
  | [],m=>by rw [Nt];exact Br _
  | a::r,m=>by
    rw [Nt];split
    . exact Ga (Nat.le_add_right _ _) (wF L r _)
    exact Br _
theorem zS {L:Nat}{l:List Pt}{n:Nat}(h:L<n):Nt L l n=n:=by
 cases l with
 | nil=>rw [Nt]
 | cons a r=>rw [Nt,if_neg (by omega)]
theorem tot_spec (L:Nat)(p:Pt):X8 L p=Iw p\/(L<X8 L p/\X8 L p<=Iw p):=by
  induction p using Pt.ind with
  | h p ih=>
    rw [totP_eq,Lc]
    have:∀(l:List Pt) (n:Nat),(∀a∈l,X8 L a=Iw a\/(L<X8 L a/\X8 L a<=Iw a))->Nt L l n=n+(l.map Iw).sum\/(L<Nt L l n/\Nt L l n<=n+(l.map Iw).sum):=by
      intro l
      induction l with
      | nil=>intro n _;simp [Nt]
      | cons x r ihr=>
        intro n h;simp only [Nt,Ao,Ew];have h1:=h x (by simp);have h2:=ihr (n+X8 L x) fun a ha=>h a (by simp [ha])
        split
        . have hm:=wF L r (n+X8 L x)
          omega
        omega
    have:=this p.args 1 ih;omega
theorem vB {l:List Pt}{k:Nat}{a:Pt}(n:Nat)(h:l[k]? = some a):n+((l.drop k).map Iw).sum=(n+Iw a)+((l.drop (k+1)).map Iw).sum:=by
 rw [A2 h,Ao,Ew];omega

section
variable {p:Pt}
end
theorem mW {α:Type}{f:α->Int}:∀{l:List α} {k:Nat} {a:α},l[k]? = some a->(l.take k).any (fun x=>f x != 0)=false->(f a != 0)=true->Da f l=f a
  | [],k,a,h,_,_=>by simp at h
  | b::r,0,a,h,_,hp=>by simp at h;subst h;rw [Da,if_pos hp]
  | b::r,k+1,a,h,hn,hp=>by
    rw [Zt,Rh,Eb] at hn;rw [Da,if_neg (by rw [hn.1];decide)];exact mW (by simpa using h) hn.2 hp
theorem Pi {α:Type}{f:α->Int}:∀{l:List α},l.any (fun x=>f x != 0)=false->Da f l=0
  | [],_=>rfl
  | b::r,h=>by
    rw [Rh,Eb] at h;rw [Da,if_neg (by rw [h.1];decide)];exact Pi h.2

theorem sA:∀(l:List Pt) (c:Cnt),c.ok=false->(l.foldl K2 c).ok=false
 | [],c,h=>h
 | q::r,c,h=>by rw [List.foldl_cons];exact sA r _ (by unfold K2;simp [h])
section
variable {v s:Int} {l:List Pt} {k:Nat} {a:Pt}
end

def hdP (a b:Pt):Bool:=((((((a.op != b.op)||(a.type != b.type))||(a.var != b.var))||(a.scope != b.scope))||(a.span != b.span)) || !Ge a.cond b.cond)||((a.args.length:Int) != (b.args.length:Int))
mutual
def smP:Pt->Pt->Bool
 | ⟨o,xs,t,v,s,n,c⟩,b=>if hdP ⟨o,xs,t,v,s,n,c⟩ b then false else bB xs b.args
def bB:List Pt->List Pt->Bool
 | [],_=>true
 | a::r,l=>if !smP a (l.headD pt0) then false else bB r l.tail
end
theorem qQ (a b:Pt):smP a b=if hdP a b then false else bB a.args b.args:=by cases a;rw [smP]
theorem hdP_len {a b:Pt}(h:hdP a b=false):a.args.length=b.args.length:=by
 unfold hdP at h;rw [Eb] at h;have:=h.2;simp at this;omega
theorem smP_refl (a:Pt):smP a a=true:=by
  induction a using Pt.ind with
  | h a ih=>
    have hh:hdP a a=false:=by unfold hdP;simp [Uf]
    rw [qQ,Bo hh]
    have:∀l:List Pt,(∀x∈l,smP x x=true)->bB l l=true:=by
      intro l
      induction l with
      | nil=>intro _;rw [bB]
      | cons x r ih2=>intro h;rw [bB];exact Eq.trans (if_neg (show ¬(!smP x x)=true by rw [h x (by simp)];decide)) (ih2 fun y hy=>h y (by simp [hy]))
    exact this _ ih
def siL:List Int->List Int->Bool
 | [],_=>true
 | a::r,l=>if a != l.headD 0 then false else siL r l.tail
def siB (a b:List Int):Bool:=if ((a.length:Int) != (b.length:Int)) then false else siL a b
theorem siB_refl (a:List Int):siB a a=true:=by
 unfold siB;rw [if_neg (by simp)]
 induction a with
 | nil=>rfl
 | cons x r ih=>rw [siL];exact Eq.trans (if_neg (show ¬(x != x)=true by simp)) ih
theorem si_get {l:List Int}{k:Nat}{a:Int}(h:l[k]? = some a):(l.map cI)[k]? = some [.int .i64 a]:=by rw [List.getElem?_map,h];rfl
def fewX (e:Ex):Bool:=decide (B3 e<=200/\E9 e<=100)
def fewP (p:Pt):Bool:=if decide ((150:Int)<(X8 150 p:Int))||decide ((60:Int)<(mJ p:Int)) then false else (F2 p).all fun q=>fewX q.cond
theorem nd_at {p q:Pt}{k:Nat}(h:(F2 p)[k]? = some q):((F2 p).map Oq)[k]? = some (cPt q):=by rw [List.getElem?_map,h];exact congrArg some (Xk q)
@[reducible] def cNm (T : List e8Sc) (V : List Va) : List AV := [.sl 2 (T.map Lz), .sl 2 (V.map Tn)]
section
variable {T:List e8Sc} {V:List Va} {t:Syn}
theorem exp_kid (h:Al t .exps=0)(hk:t.kind=17\/t.kind=18){k:Nat}{a:Syn}(ha:t.kids[k]? = some a):Al a .exps=0:=by
 have hc:=(Ei h ha).1;unfold Dm at hc;rcases hk with hk | hk <;> (rw [hk] at hc;exact hc)
end
section
variable {out:List e8Sc} {l:List Syn} {k:Nat} {a:Syn}
end
end Go.Proofs.YtckhoadldibflaaGreatDoor

namespace Go.Aw
open Go
end Go.Aw
namespace Go.Proofs.YtckhoadldibflaaGreatDoor
open Go Go.Aw
@[reducible] def cPtW (p : Pt) (rs : AV) : List AV := [.int .i64 p.op, rs, .int .i64 p.type, .int .i64 p.var, .int .i64 p.scope, .int .i64 p.span, .int .i64 p.cond.op, .sl 8 (p.cond.args.map H8), .int .i64 p.cond.var, .int .i64 p.cond.field, .int .i64 p.cond.kind, .int .i64 p.cond.val.kind, .int .i64 p.cond.val.num, .str p.cond.val.text]
section
variable (T:List e8Sc) (V:List Va)
end
section
variable {T:List e8Sc} {V:List Va} {t:Syn}
theorem evt_kid {p:Pl}(h:Al t p=0)(h5:t.kind=5){a:Syn}(ha:t.kids[0]? = some a):Al a .exps=0:=by
 have hc:=(Ei h ha).1;unfold Dm at hc;rw [h5] at hc;exact hc
end

section
variable {T:List e8Sc} {V:List Va} {l:List Syn} {k:Nat} {a:Syn}
end
section
variable {T:List e8Sc} {V:List Va}
theorem ev_pk (t:Syn):O2 t=(if (t.kind==5) then [t] else if (t.kind==10) then [Bi t 1] else [])++(D7 t).flatMap O2:=by
  rw [Y2];unfold D7;cases h5:t.kind==5 with
  | true=>rw [if_pos rfl,if_pos rfl,if_pos rfl];rfl
  | false=>
    rw [Bo rfl,Bo rfl,Bo rfl]
    have hH:evH t.kids=(t.kids.take 1).flatMap O2:=by
      cases t.kids with
      | nil=>rw [evH];rfl
      | cons x r=>rw [evH];simp
    cases h10:t.kind==10 with
    | true=>rw [if_pos rfl,if_pos rfl,hH];rfl
    | false=>
      rw [Bo rfl,Bo rfl];cases h12:t.kind==12 with
      | true=>rw [if_pos rfl,hH];rfl
      | false=>rw [Bo rfl];rfl
end
section
variable {T:List e8Sc} {V:List Va}
end
section
variable {T:List e8Sc} {V:List Va} {t:Syn}
end
section
variable {T:List e8Sc} {qs:List Qy} {l:List Syn} {k:Nat} {a:Syn}
end
structure medQ (q:Qy):Prop where
 v:q.vars.length<=1048576
 k:q.key.length<=1048576
 r:q.returns.length<=1048576
 p:medP q.pattern
 e:∀e∈q.returns,B3 e<=1048576
theorem tI {T:List e8Sc}{n:Ag}:∀(l:List Va) (out:List Int),(Vj T n l out).1.length<=out.length
  | [],out=>Br _
  | v::r,out=>by
    rw [Vj];split
    . exact A9 _
    . have:=tI (T:=T) (n:=n) r (out.set v.type.toNat (Js ((T[v.type.toNat]?).getD lQ) n))
      rw [List.length_set] at this;exact this
structure medG (p:Pg):Prop where
 t:p.types.length<=1048576
 f:∀s∈p.types,s.fields.length<=1048576
 q:p.queries.length<=1048576
 m:∀q∈p.queries,medQ q

section
variable {T:List e8Sc} {V:List Va} {t:Syn}
end


section
variable (T:List e8Sc) (V:List Va)
def Ym (v:Int):Ag:=((V[v.toNat]?).getD va0).name
def pD (v f:Int):Ag:=(((X1 T V v).fields[f.toNat]?).getD fi0).name
def Uz (v f:Int):Bool:=((decide (v<0)||decide ((V.length:Int)<=v))||decide (f<0))||decide (((X1 T V v).fields.length:Int)<=f)
def aE (v f:Int):Ag×Bool:=if Uz T V v f then ([],false) else (pD T V v f,true)
def Y6 (e:Ex):Bool:=if (e.op==1)||(e.op==4) then Uz T V e.var e.field else if (e.op==2)||(e.op==3) then decide ((V.length:Int)<=e.var) else false
def aM (e:Ex):Bool:=if (e.op==1)||(e.op==4) then X7 (pD T V e.var e.field) else true
mutual
def U4:Ex->Int×Bool
 | ⟨o,xs,v,f,k,x⟩=>if Y6 T V ⟨o,xs,v,f,k,x⟩ then (6,false) else Sm xs (aM T V ⟨o,xs,v,f,k,x⟩)
def Sm:List Ex->Bool->Int×Bool
 | [],b=>(0,b)
 | x::r,b=>if ((U4 x).1 != 0) then ((U4 x).1,false) else Sm r (b&&(U4 x).2)
end
theorem qV (e:Ex):U4 T V e=if Y6 T V e then (6,false) else Sm T V e.args (aM T V e):=by cases e;rw [U4]
def yE (e:Ex):Bool:=if decide (1<=e.op)&&decide (e.op<=4) then if decide ((V.length:Int)<=e.var) then false else !(((e.op==1)||(e.op==4))&&decide (((X1 T V e.var).fields.length:Int)<=e.field)) else true
mutual
def U0:Ex->Bool
 | ⟨o,xs,v,f,k,x⟩=>yE T V ⟨o,xs,v,f,k,x⟩&&knoL xs
def knoL:List Ex->Bool
 | []=>true
 | x::r=>U0 x&&knoL r
end
mutual
def Zi:Ex->Bool
 | ⟨o,xs,v,f,k,x⟩=>aM T V ⟨o,xs,v,f,k,x⟩&&namL xs
def namL:List Ex->Bool
 | []=>true
 | x::r=>Zi x&&namL r
end
theorem tO:∀l:List Ex,knoL T V l=l.all (U0 T V)
 | []=>by rw [knoL];rfl
 | x::r=>by rw [knoL,tO r,Jp]
theorem uE:∀l:List Ex,namL T V l=l.all (Zi T V)
 | []=>by rw [namL];rfl
 | x::r=>by rw [namL,uE r,Jp]
theorem gH (e:Ex):U0 T V e=(yE T V e&&e.args.all (U0 T V)):=by cases e;rw [U0,tO]
theorem pW (e:Ex):Zi T V e=(aM T V e&&e.args.all (Zi T V)):=by cases e;rw [Zi,uE]

def knm (k:Int):Ag:=if (k==0) then G0 else if (k==1) then Ho else Ha
def fQ (v:Vl):Syn:=⟨13,v.text,knm v.kind,v.num,[],0⟩
def shN (e:Ex)(ks:List Syn):Syn:=
 if (e.op==0) then fQ e.val
 else if (e.op==1) then ⟨14,Ym V e.var,pD T V e.var e.field,0,[],0⟩
 else if (e.op==2) then ⟨14,Ym V e.var,F6,0,[],0⟩
 else if (e.op==3) then ⟨15,Ym V e.var,[],0,[],0⟩
 else if (e.op==4) then ⟨16,Ym V e.var,pD T V e.var e.field,e.kind,if (e.kind != 1) then [fQ e.val] else [],0⟩
 else if (e.op==12) then ⟨18,[],[],0,ks,0⟩ else ⟨17,[],[],e.op,ks,0⟩
mutual
def Ny:Ex->Syn
 | ⟨o,xs,v,f,k,x⟩=>shN T V ⟨o,xs,v,f,k,x⟩ (shL xs)
def shL:List Ex->List Syn
 | []=>[]
 | x::r=>Ny x::shL r
end
theorem shL_map:∀l:List Ex,shL T V l=l.map (Ny T V)
 | []=>by rw [shL,A5]
 | x::r=>by rw [shL,shL_map r,Ao]
theorem Ui (e:Ex):Ny T V e=shN T V e (e.args.map (Ny T V)):=by cases e;rw [Ny,shL_map]

def Uv (p:Pt):Syn:=⟨5,((T[p.type.toNat]?).getD lQ).name,Ym V p.var,0,if !(Ge p.cond Mc) then [Ny T V p.cond] else [],0⟩
def lR (p:Pt)(ks:List Syn):Syn:=
 if (p.op==0) then Uv T V p
 else ⟨p.op+5,[],[],if (p.op==6) then p.span else 0,ks++(if (p.op==5) then [Uv T V p] else if (p.op==7) then [Ny T V p.cond] else []),0⟩
mutual
def Nf:Pt->Syn
 | ⟨o,xs,t,v,s,n,c⟩=>lR T V ⟨o,xs,t,v,s,n,c⟩ (shPs xs)
def shPs:List Pt->List Syn
 | []=>[]
 | a::r=>Nf a::shPs r
end
theorem vV:∀l:List Pt,shPs T V l=l.map (Nf T V)
 | []=>by rw [shPs,A5]
 | x::r=>by rw [shPs,vV r,Ao]
theorem N6 (p:Pt):Nf T V p=lR T V p (p.args.map (Nf T V)):=by cases p;rw [Nf,vV]
end
def M5 (q:Pt):Bool:=(q.op==0)||(q.op==5)
def Tu (q:Pt):Bool:=((q.op==0)||(q.op==5))||(q.op==7)
def Ls (p:Pt):List (Int×Int):=((F2 p).filter M5).map fun q=>(q.var,q.type)
def Tv (p:Pt):List Ex:=((F2 p).filter Tu).map (·.cond)
theorem tyP_eq (p:Pt):Ls p=(if M5 p then [(p.var,p.type)] else [])++p.args.flatMap Ls:=by
 unfold Ls;rw [Mx,Us]
 have:((p.args.flatMap F2).filter M5).map (fun q=>(q.var,q.type))=p.args.flatMap Ls:=by
  rw [List.filter_flatMap,List.map_flatMap];rfl
 split
 . rw [Ao,this];rfl
 rw [this];rfl
theorem coP_eq (p:Pt):Tv p=(if Tu p then [p.cond] else [])++p.args.flatMap Tv:=by
 unfold Tv;rw [Mx,Us]
 have:((p.args.flatMap F2).filter Tu).map (·.cond)=p.args.flatMap Tv:=by
  rw [List.filter_flatMap,List.map_flatMap];rfl
 split
 . rw [Ao,this];rfl
 rw [this];rfl
def vrE (T:List e8Sc)(L:List Int)(seen:List Ag)(i:Nat)(v:Va):Int:=
 if !(X7 v.name) then 8 else if seen.contains v.name then 7 else if decide (v.type<0)||decide ((T.length:Int)<=v.type) then 6 else if ((L[i]?).getD 0 != v.type) then 9 else 0
def vrG (T:List e8Sc)(L:List Int):List Ag->Nat->List Va->Int
 | _,_,[]=>0
 | seen,i,v::r=>if (vrE T L seen i v != 0) then vrE T L seen i v else vrG T L (seen ++ [v.name]) (i+1) r
def VrE (T:List e8Sc)(q:Qy):Int:=if (((Ls q.pattern).length:Int) != (q.vars.length:Int)) then 15 else vrG T ((Ls q.pattern).map (·.2)) [] 0 q.vars

def cN (q:Qy):Int:=((q.vars[0]?).getD va0).type
def kyF (T:List e8Sc)(q:Qy):List Fi:=((T[(cN q).toNat]?).getD lQ).fields
def tP (q:Qy):Int:=ixI q.key (cN q)
def cQ (T:List e8Sc)(q:Qy):Ag:=(((kyF T q)[(tP q).toNat]?).getD fi0).name
def kyO (T:List e8Sc)(q:Qy):Bool:=((Uy T q.vars (cQ T q)).2&&((Uy T q.vars (cQ T q)).1==q.key))&&X7 (cQ T q)
def eV (T:List e8Sc)(q:Qy):Ag×Bool:=
 if ((q.key.length:Int)==0) then ([],true)
 else if ((q.key.length:Int) != (T.length:Int)) then ([],false)
 else if decide (tP q<0)||decide (((kyF T q).length:Int)<=tP q) then ([],false)
 else (cQ T q,kyO T q)

section
variable (T:List e8Sc) (q:Qy)
def rtE:Int:=Da Gk q.returns
def tnB:Bool:=q.vars.all fun v=>X7 ((T[v.type.toNat]?).getD lQ).name
def usR:Int×Bool:=Sm T q.vars (Tv q.pattern++q.returns) (tnB T q)
def sh3:Ag×Int:=if ((usR T q).1 != 0) then ([],(usR T q).1) else if !(usR T q).2 then ([],8) else ((eV T q).1,0)
def sh2:Ag×Int:=if (rtE q != 0) then ([],rtE q) else sh3 T q
def sh1:Ag×Int:=if !(eV T q).2 then ([],16) else if ((q.returns.length:Int)==0) then ([],15) else sh2 T q
def Yk:Ag×Int:=if !(X7 q.name) then ([],8) else if (Jr q.pattern != 0) then ([],Jr q.pattern) else if (VrE T q != 0) then ([],VrE T q) else sh1 T q
def qT:Syn:=⟨3,q.name,[],0,⟨4,(Yk T q).1,[],0,[],0⟩::Nf T q.vars q.pattern::q.returns.map (Ny T q.vars),0⟩
def Li:Syn×Int:=if (Ef T != 0) then (Gz,Ef T) else if ((Yk T q).2 != 0) then (Gz,(Yk T q).2) else if ((Bg (qT T q) (.only 3)).2 != 0) then (Gz,(Bg (qT T q) (.only 3)).2) else (qT T q,0)
end

section
variable {T:List e8Sc} {V:List Va}
theorem Vq {e:Ex}(h:Hg e=0):0<=e.var/\0<=e.field:=⟨(node_var (Gl h).1).1,yN (Gl h).1⟩
theorem kno_own {e:Ex}(h:Hg e=0):yE T V e = !(Y6 T V e):=by
 obtain ⟨h1,h2⟩:=Vq h;have d1:decide (e.var<0)=false:=I8 (by omega);have d2:decide (e.field<0)=false:=I8 (by omega);obtain ⟨o1,o2,_⟩:=T9 (Gl h).1;unfold yE Y6 Uz;rw [d1,d2,Kb,Sp];have hc:e.op=0\/e.op=1\/e.op=2\/e.op=3\/e.op=4\/5<=e.op:=by omega
 rcases hc with hc | hc | hc | hc | hc | hc
 . rw [hc];rfl
 .
  rw [hc];cases decide ((V.length:Int)<=e.var) <;> cases decide (((X1 T V e.var).fields.length:Int)<=e.field) <;> rfl
 .
  rw [hc];cases decide ((V.length:Int)<=e.var) <;> rfl
 .
  rw [hc];cases decide ((V.length:Int)<=e.var) <;> rfl
 .
  rw [hc];cases decide ((V.length:Int)<=e.var) <;> cases decide (((X1 T V e.var).fields.length:Int)<=e.field) <;> rfl
 rw [if_neg (by simp;omega),if_neg (by simp;omega),if_neg (by simp;omega)];rfl
theorem use_ref:∀e:Ex,Hg e=0->U4 T V e=if U0 T V e then (0,Zi T V e) else (6,false):=by
  intro e
  induction e using Ex.ind with
  | h e ih=>
    intro h;have hk:=kno_own (T:=T) (V:=V) h;have hz:=(Gl h).2
    have key:∀l:List Ex,(∀a∈l,a∈e.args)->∀b,Sm T V l b=if l.all (U0 T V) then (0,b&&l.all (Zi T V)) else (6,false):=by
      intro l
      induction l with
      | nil=>intro _ b;rw [Sm];simp
      | cons x r ih2=>
        intro hl b;have hx:=ih x (hl x (by simp)) (hz x (hl x (by simp)));rw [Sm,hx,Jp,Jp];cases hq:U0 T V x with
        | false=>rfl
        | true=>
          rw [if_pos rfl];rw [if_neg (show ¬((0:Int) != 0)=true by decide),ih2 (fun a ha=>hl a (by simp [ha]))];rw [Gq,Bool.and_assoc]
    rw [qV,gH,pW,hk];cases Y6 T V e with
    | true=>rfl
    | false=>
      rw [if_neg (by decide),key e.args (fun a ha=>ha)];rfl
theorem wI {l:List Ex}(h:∀e∈l,Hg e=0):∀b,Sm T V l b=if l.all (U0 T V) then (0,b&&l.all (Zi T V)) else (6,false):=by
  induction l with
  | nil=>intro b;rw [Sm];simp
  | cons x r ih=>
    intro b;rw [Sm,use_ref x (h x (by simp)),Jp,Jp];cases hq:U0 T V x with
    | false=>rfl
    | true=>
      rw [if_pos rfl];rw [if_neg (show ¬((0:Int) != 0)=true by decide),ih (fun a ha=>h a (by simp [ha]))];rw [Gq,Bool.and_assoc]
end

theorem fail_stay {e:Int}{a:PS}(h:a.bad≠0):Hc e a=a:=by
 unfold Hc;have:(a.bad==0)=false:=by simpa using h
 rw [this];rfl
theorem Xu (read:Syn->PS->Syn×PS)(z:Syn)(st:PS):Np read z st=if ((H4 st).bad != 0) then (z,H4 st) else ((read z (adv (La st))).1,Km (read z (adv (La st))).2):=rfl


def erT (t:Tok):Tok:=⟨t.kind,t.text,0⟩
def er (st:PS):PS:={ st with toks:=st.toks.map erT,fin:=0,whr:=0 }
mutual
def Dy:Syn->Syn
 | ⟨kind,text,name,num,kids,pos⟩=>⟨kind,text,name,num,erSs kids,0⟩
def erSs:List Syn->List Syn
 | []=>[]
 | e::r=>Dy e::erSs r
end
theorem sO:∀l:List Syn,erSs l=l.map Dy
 | []=>by simp [erSs]
 | e::r=>by simp [erSs,sO r]
theorem L3 (k:Int)(t n:Ag)(m:Int)(l:List Syn)(p:Int):Dy ⟨k,t,n,m,l,p⟩=⟨k,t,n,m,l.map Dy,0⟩:=by rw [Dy,sO]
theorem Fc (e:Syn):Dy e=⟨e.kind,e.text,e.name,e.num,e.kids.map Dy,0⟩:=by cases e;exact L3 ..
theorem oQ (e:Syn):(Dy e).pos=0:=by rw [Fc]
theorem Ik (e:Syn):(Dy e).kids=e.kids.map Dy:=by rw [Fc]
theorem erS_z:Dy Gz=Gz:=by rw [Fc];rfl
theorem Z7 (z:Syn)(l:List Syn):Dy { z with kids:=l } = { Dy z with kids:=l.map Dy }:=by rw [Fc,Fc]
theorem erS_num (z:Syn)(n:Int):Dy { z with num:=n } = { Dy z with num:=n }:=by rw [Fc,Fc]
theorem kV (st:PS):rF (er st)=erT (rF st):=by
 unfold rF er;simp only [Ez,List.getElem?_map];cases st.toks[st.pos]? <;> rfl
theorem L9 (st:PS):Fs (er st)=0:=by
 unfold Fs;rw [kV];split <;> rfl
theorem iA (st:PS):(er st).bad=st.bad:=rfl
theorem depth_er (st:PS):(er st).depth=st.depth:=rfl
theorem pos_er (st:PS):(er st).pos=st.pos:=rfl
theorem yG (st:PS):(er st).toks.length=st.toks.length:=by simp [er]
theorem endP_er (st:PS):endP (er st)=endP st:=by unfold endP;rw [iA,pos_er,yG]
theorem L6 (w:Ag)(st:PS):Ea w (er st)=Ea w st:=by unfold Ea;rw [endP_er,kV];rfl
theorem aR (k:Int)(st:PS):Ps k (er st)=Ps k st:=by unfold Ps;rw [endP_er,kV];rfl
theorem Ry (k:Int)(st:PS):Ib k (er st)=Ib k st:=by unfold Ib;rw [aR,kV];rfl
theorem numP_er (st:PS):Tg (er st)=Tg st:=by unfold Tg;rw [aR,kV];rfl
theorem aA (e:Int)(st:PS):Hc e (er st)=er (Hc e st):=by
 unfold Hc;rw [iA,L9];split <;> rfl
theorem Pc (st:PS):adv (er st)=er (adv st):=rfl
theorem deep_er (st:PS):La (er st)=er (La st):=rfl
theorem gF (st:PS):A3 (er st)=A3 st:=by unfold A3;rw [yG];rfl
theorem accP_er (w:Ag)(st:PS):Pb w (er st)=er (Pb w st):=by unfold Pb;rw [L6,Pc];split <;> rfl
theorem Nc (w:Ag)(st:PS):Ce w (er st)=er (Ce w st):=by unfold Ce;rw [L6,iA,aA,accP_er];split <;> rfl
theorem Ox (k:Int)(st:PS):Ed k (er st)=er (Ed k st):=by unfold Ed;rw [aR,Pc,aA];split <;> rfl
theorem nestF_er (st:PS):H4 (er st)=er (H4 st):=by unfold H4;rw [depth_er,aA];split <;> rfl

abbrev lM (p:Syn×PS):Syn×PS:=(Dy p.1,er p.2)
def Er (F:PS->Syn×PS):Prop:=∀st,F (er st)=lM (F st)
theorem oR {read:Syn->PS->Syn×PS}(h:∀z s,read (Dy z) (er s)=lM (read z s))(z:Syn)(st:PS):Np read (Dy z) (er st)=lM (Np read z st):=by
 rw [Xu,Xu,nestF_er,iA];split
 . rfl
 rw [deep_er,Pc,h];rfl
theorem er_field:Er J3:=fun st=>by
 unfold J3;simp only [Ox,Nc,L6,Ry,L9,Pc,aA]
 repeat' split
 all_goals simp only [lM,L3,A5]
theorem bX {F:PS->Syn×PS}(h:Er F):∀(n:Nat) (st:PS) (out:List Syn),Ht F n (er st) (out.map Dy)=((Ht F n st out).1.map Dy,er (Ht F n st out).2)
  | 0,st,out=>rfl
  | n+1,st,out=>by
    unfold Ht;rw [L6,Pc,h];split
    . have:=bX h n (F (adv st)).2 (out ++ [(F (adv st)).1])
      rw [Dt,Ao,A5] at this;exact this
    rfl
theorem er_list {F:PS->Syn×PS}(h:Er F)(st:PS):Po F (er st)=((Po F st).1.map Dy,er (Po F st).2):=by
 unfold Po;rw [h];show Ht F (A3 (er (F st).2)) (er (F st).2) [Dy (F st).1]=_;rw [gF];exact bX h _ _ [_]
theorem er_kind:Er Jc:=fun st=>by
 unfold Jc;simp only [Ox,Nc,L6,Ry,L9,er_list er_field,iA];split
 all_goals simp only [lM,L3,A5]
theorem sP:Er Eo:=fun st=>by
 unfold Eo;simp only [Ox,L6,Ry,L9,aR,Pc,numP_er]
 repeat' split
 all_goals simp only [lM,L3,A5]
theorem er_ins (st:PS):cM (er st)=((cM st).1,er (cM st).2):=by
 unfold cM;simp only [Ox,Nc,Ry]
theorem er_unit {E:PS->Syn×PS}(hE:Er E):Er (D3 E):=fun st=>by
 unfold D3;simp only [L6,aR,Ry,L9,Pc,Ox,Nc,er_ins];split
 .
  have:=oR (read:=fun _ s=>((E s).1,Ce Jo (E s).2)) (fun z s=>by simp only [hE s,Nc]) Gz st;rw [erS_z] at this;exact this
 split
 . simp only [sP _,Nc,lM,L3,Ao,A5]
 repeat' split
 all_goals first | exact sP st | simp only [lM,L3,A5]
theorem er_bin (op:Int)(a b:Syn)(p:Int):Dy (Mr op a b p)=Mr op (Dy a) (Dy b) 0:=by unfold Mr;rw [L3];rfl
theorem iP {F:PS->Syn×PS}(h:Er F)(sg:List (Ag×Int)):∀(n:Nat) (st:PS) (out:Syn),I0 F sg n (er st) (Dy out)=lM (I0 F sg n st out)
  | 0,st,out=>rfl
  | n+1,st,out=>by
    unfold I0;simp only [L6,Pc];split
    . rename_i s hs
      have:=iP h sg n (F (adv st)).2 (Mr s.2 out (F (adv st)).1 out.pos);rw [h,oQ,lM,<-er_bin _ _ _ out.pos];exact this
    rfl
theorem iO {F:PS->Syn×PS}(h:Er F)(sg:List (Ag×Int)):Er (J2 F sg):=fun st=>by
 unfold J2;rw [h];show I0 F sg (A3 (er (F st).2)) (er (F st).2) (Dy (F st).1)=_;rw [gF];exact iP h sg _ _ _
theorem er_sum {E:PS->Syn×PS}(hE:Er E):Er (Kn E):=iO (er_unit hE) zQ
theorem er_cmp {E:PS->Syn×PS}(hE:Er E):Er (Ms E):=fun st=>by
 unfold Ms;simp only [er_sum hE _,L6,Pc,oQ]
 repeat' split
 all_goals simp only [lM,er_bin,L3,Ao,A5]
theorem xQ {E N:PS->Syn×PS}(hE:Er E)(hN:Er N):Er (N3 E N):=fun st=>by
 unfold N3;rw [L6,L9];split
 . exact er_cmp hE st
 have:=oR (read:=fun z s=>({ z with kids:=[(N s).1] },(N s).2)) (fun z s=>by simp only [hN s,lM,Z7,Ao,A5]) ⟨18,[],[],0,[],Fs st⟩ st;rw [L3] at this;exact this
theorem er_or {E N:PS->Syn×PS}(hE:Er E)(hN:Er N):Er (orP E N):=iO (iO (xQ hE hN) rX) orL
theorem Z8:Er Gd:=fun st=>by unfold Gd;rw [lM,erS_z]
theorem iQ:∀n,Er (My n).1/\Er (My n).2
 | 0=>⟨xQ Z8 Z8,er_or Z8 Z8⟩
 | n+1=>⟨xQ (iQ n).2 (iQ n).1,er_or (iQ n).2 (iQ n).1⟩
theorem sQ {E:PS->Syn×PS}(hE:Er E):Er (I5 E):=fun st=>by
 unfold I5;simp only [Ox,L6,Ry,L9,Pc,hE _];split
 all_goals simp only [lM,L3,Ao,A5]
theorem er_sev {T:PS->Syn×PS}(hT:Er T)(z:Syn)(st:PS):fV T (Dy z) (er st)=lM (fV T z st):=by
 unfold fV;simp only [Nc,hT _,gF,Ik];have:=bX hT (A3 (T (Ce D1 st)).2) (T (Ce D1 st)).2 (z.kids ++ [(T (Ce D1 st)).1]);rw [Dt,Ao,A5] at this;rw [this,lM,Z7]
theorem er_rest {E T:PS->Syn×PS}(hE:Er E)(hT:Er T)(k:Int)(z:Syn)(st:PS):Gs E T k (Dy z) (er st)=lM (Gs E T k z st):=by
 unfold Gs;simp only [Nc,Ox,numP_er,sQ hE _,hE _,Ik,er_sev hT]
 repeat' split
 all_goals first | rfl | simp only [lM,Z7,erS_num,Ik,Dt,Ao,A5]
theorem er_pat {E T:PS->Syn×PS}(hE:Er E)(hT:Er T):Er (U2 E T):=fun st=>by
 unfold U2;simp only [L6,L9];split
 .
  rename_i f hf
  have:=oR (read:=fun z s=>((Gs E T f.2 { z with kids:=[(T (Ce Ee s)).1] } (T (Ce Ee s)).2).1,Ce Jo (Gs E T f.2 { z with kids:=[(T (Ce Ee s)).1] } (T (Ce Ee s)).2).2)) (fun z s=>by
   have e:=er_rest hE hT f.2 { z with kids:=[(T (Ce Ee s)).1] } (T (Ce Ee s)).2;rw [Z7,Ao,A5] at e;simp only [Nc,hT _,e]) ⟨f.2,[],[],0,[],Fs st⟩ st
  rw [L3] at this;exact this
 exact sQ hE st
theorem er_patN {E:PS->Syn×PS}(hE:Er E):∀n,Er (kD E n)
 | 0=>er_pat hE Z8
 | n+1=>er_pat hE (er_patN hE n)
theorem er_key (st:PS)(k:Int):Y9 (er st) 0=lM (Y9 st k):=by
 unfold Y9;simp only [L6,Pc,Ox,Ry,L9];split
 all_goals simp only [lM,L3,A5]
theorem er_query {E T:PS->Syn×PS}(hE:Er E)(hT:Er T):Er (Fe E T):=fun st=>by
 unfold Fe;simp only [Nc,Ox,L9,Ry,er_key _ (Fs st),hT _,er_list hE];simp only [lM,L3,Dt,Ao,A5]
theorem bY {F:PS->Syn×PS}(h:Er F)(w:Ag):∀(n:Nat) (st:PS) (out:List Syn),Hh w F n (er st) (out.map Dy)=((Hh w F n st out).1.map Dy,er (Hh w F n st out).2)
  | 0,st,out=>rfl
  | n+1,st,out=>by
    unfold Hh;rw [L6,h];split
    . have:=bY h w n (F st).2 (out ++ [(F st).1])
      rw [Dt,Ao,A5] at this;exact this
    rfl
theorem er_prog {E T:PS->Syn×PS}(hE:Er E)(hT:Er T):Er (Kz E T):=fun st=>by
 unfold Kz;have h1:=bY er_kind Dj (A3 st) st [];have h2:=bY (er_query hE hT) C0 (A3 (Hh Dj Jc (A3 st) st []).2) (Hh Dj Jc (A3 st) st []).2 (Hh Dj Jc (A3 st) st []).1;rw [A5] at h1;simp only [gF,h1,h2,lM,L3]
theorem er_EE:Er EE:=(iQ 64).2
theorem er_TT:Er TT:=er_patN er_EE 64

structure Cx where
 pre:List Tok
 post:List Tok
 k:Int
 hk:0<=k
 hc:∀c r,post=c::r->c.kind=3
 hpre:pre.map erT=pre
 hpost:post.map erT=post
def Cx.no (x:Cx)(w:Ag):Prop:=∀c r,x.post=c::r->(c.text==w)=false
structure Ok (d:Int) (st:PS):Prop where
 era:er st=st
 dep:st.depth=d
 inn:st.pos<=st.toks.length
 good:st.bad=0
variable {x:Cx} {d:Int} {st:PS}
theorem Ok.off (h:Ok d st):Fs st=0:=by rw [<-h.era];exact L9 st
theorem exp_yes (h:st.bad=0){w:Ag}(hi:Ea w st=true):Ce w st=adv st:=by
 unfold Ce;rw [h,hi,Fv hi];rfl
def Cx.Ex (x:Cx):Prop:=∀c r,x.post=c::r->c.text=Jo\/c.text=D1
section
variable {E E' N N':PS->Syn×PS}
def cmpK (E:PS->Syn×PS)(a:Syn)(s:PS):Syn×PS:=
 if Ea w_lt s then (Mr 7 a (Kn E (adv s)).1 a.pos,(Kn E (adv s)).2)
 else if Ea w_le s then (Mr 8 a (Kn E (adv s)).1 a.pos,(Kn E (adv s)).2)
 else if Ea w_gt s then (Mr 7 (Kn E (adv s)).1 a a.pos,(Kn E (adv s)).2)
 else if Ea w_ge s then (Mr 8 (Kn E (adv s)).1 a a.pos,(Kn E (adv s)).2)
 else if Ea nY s then (Mr 9 a (Kn E (adv s)).1 a.pos,(Kn E (adv s)).2)
 else if Ea wN s then (⟨18,[],[],0,[Mr 9 a (Kn E (adv s)).1 a.pos],a.pos⟩,(Kn E (adv s)).2)
 else (a,s)
theorem cmpP_K (E:PS->Syn×PS)(st:PS):Ms E st=cmpK E (Kn E st).1 (Kn E st).2:=rfl
end
section
variable {E E' T T':PS->Syn×PS}
def kC (E T:PS->Syn×PS)(k:Int)(z:Syn)(s:PS):Syn×PS:=
 ((Gs E T k { z with kids:=[(T (Ce Ee s)).1] } (T (Ce Ee s)).2).1,Ce Jo (Gs E T k { z with kids:=[(T (Ce Ee s)).1] } (T (Ce Ee s)).2).2)
end

theorem Wl {p:UInt8->Bool}(h:(List.range 256).all (fun n=>p (UInt8.ofNat n))=true)(c:UInt8):p c=true:=by
 rw [Fu] at h;have:=h c.toNat (Ks.2 c.toNat_lt)
 rwa [UInt8.ofNat_toNat] at this
theorem T6 {s:Ag}{n i:Nat}{b:Ag}:Hr s (n+1) i b =
 if decide ((i:Int)<(s.length:Int)) then
  if (((bt s i).toNat:Int)==34) then
   if decide (64<(b.length:Int)) then Nw 0 13 else Y4 2 b ((i:Int)+1)
  else if (((bt s i).toNat:Int)==92) then
   if ((Kw (s.drop i)).2==0) then Nw i 4 else Hr s n (i+(Kw (s.drop i)).2.toNat) (b ++ [(Kw (s.drop i)).1])
  else if (decide (((bt s i).toNat:Int)<32)||decide (126<((bt s i).toNat:Int))) then Nw i 4
  else Hr s n (i+1) (b ++ [bt s i])
 else Nw s.length 4:=rfl

def okSign:Ag->Bool
 | [_]=>true
 | [_,b]=>b==61
 | _=>false
def X3 (c:UInt8)(two:Bool):Ag->Bool
 | [a]=>a==c
 | [a,_]=>a==c&&two
 | _=>false
theorem kR (c:UInt8)(r:Ag):∀l:List Ag,l.all okSign=true->Ia (c::r) l=match l.find? (X3 c (Lib.hasPrefix r [61])) with | none=>Nw 0 4 | some x=>Y4 3 x x.length
  | [],_=>rfl
  | x::l,h=>by
    simp only [Jp,Cd] at h
    have e:Lib.hasPrefix (c::r) x=X3 c (Lib.hasPrefix r [61]) x:=by
      match x,h.1 with
      | [a],_=>simp [Lib.hasPrefix,X3,List.isPrefixOf]
      | [a,b],h=>
        have:b=61:=by simpa [okSign] using h
        subst this;simp [Lib.hasPrefix,X3,List.isPrefixOf]
    rw [Ia,e,List.find?_cons];cases X3 c (Lib.hasPrefix r [61]) x with
    | true=>rfl
    | false=>simpa using kR c r l h.2
def signV (c:UInt8)(two:Bool):Option Ag:=nT.find? (X3 c two)
theorem pJ {pos e:Int}(h:e≠0):Mv (Nw pos e)=true:=by
 unfold Mv Nw;simp [h]
theorem pK {k:Int}{t:Ag}{n:Int}(h:0<n):Mv (Y4 k t n)=true:=by
 unfold Mv Y4;simp [h]
theorem yX {c:UInt8}:((c.toNat:Int)==34)=true->Di c=false/\Bn c=false:=by
 have:=Wl (p:=fun c=>decide (((c.toNat:Int)==34)=true->Di c=false/\Bn c=false)) (by kernel_rfl) c;exact Ey this

theorem Rx {s:Ag}{n i:Nat}{out:List Tok}:J8 s (n+1) i out =
 if decide ((i:Int)<(s.length:Int)) then
  if decide (0<Kl (s.drop i)) then J8 s n (i+(Kl (s.drop i)).toNat) out
  else if ((Ca (s.drop i)).err != 0) then (([],(i:Int)+(Ca (s.drop i)).pos,(Ca (s.drop i)).err):List Tok×Int×Int)
  else J8 s n (i+(Ca (s.drop i)).bytes.toNat) (out ++ [⟨(Ca (s.drop i)).tok.kind,(Ca (s.drop i)).tok.text,i⟩])
 else (out,0,0):=rfl
theorem pO {s:Ag}{i:Nat}(h:i<s.length):decide ((i:Int)<(s.length:Int))=true:=by simp only [Ck];omega

theorem Z3 (s sub:Ag):Lib.contains s sub=true↔∃j,j<=s.length/\Lib.occAt s sub j=true:=by
 unfold Lib.contains;rw [Ck];rcases Lib.index_spec s sub with ⟨h1,h2⟩ | ⟨i,h1,h2,h3,_⟩
 .
  rw [h1]
  constructor
  . intro h;omega
  rintro ⟨j,hj,ho⟩;rw [h2 j hj] at ho;cases ho
 rw [h1];exact ⟨fun _=>⟨i,h2,h3⟩,fun _=>by omega⟩
theorem Z4 (s:Ag)(c:UInt8):Lib.contains s [c]=true↔c∈s:=by
 rw [Z3]
 constructor
 .
  rintro ⟨j,_,ho⟩;unfold Lib.occAt at ho;rw [List.isPrefixOf_iff_prefix] at ho;obtain ⟨t,ht⟩:=ho;exact eD (i:=j) (by rw [<-ht];simp)
 intro h;obtain ⟨u,v,rfl⟩:=List.append_of_mem h;refine ⟨u.length,by simp,?_⟩;unfold Lib.occAt;rw [List.drop_left,List.isPrefixOf_iff_prefix];exact ⟨v,rfl⟩
def kwL:List Ag:=[[97,108,108],[97,108,116],[97,110,100],[98,111,111,108],[98,121],[99,111,117,110,116],[102,97,108,115,101],[102,105,114,115,116],[105,102],[105,110,116],[108,97,99,107,115],[108,97,115,116],[109,97,116,99,104],[109,97,120],[109,105,110],[110,111,116],[111,114],[112,108,117,115],[113,117,101,114,121],[114,101,116,117,114,110],[115,101,113],[115,116,114,105,110,103],[115,117,109],[116,105,109,101],[116,114,117,101],[116,121,112,101],[119,104,101,114,101],[119,105,116,104,105,110]]
theorem keyR_any (s:Ag):keyR s=kwL.any (fun w=>s==w):=by
 unfold keyR kwL;simp only [Rh,List.any_nil,Sp,Bool.or_assoc]
theorem keyR_mem (s:Ag):keyR s=true↔s∈kwL:=by
 rw [keyR_any,List.any_eq_true]
 constructor
 .
  rintro ⟨w,hw,he⟩;rw [beq_iff_eq] at he;exact he▸hw
 intro h;exact ⟨s,h,beq_self_eq_true _⟩
theorem uT:∀(s l:Ag),32∉s->(s ++ [32]).isPrefixOf l=true->s=l.takeWhile (fun c=>c != 32)/\32∈l
  | [],l,_,h=>by
    cases l with
    | nil=>cases h
    | cons b t=>
      have:(32:UInt8)=b:=by simpa [List.isPrefixOf] using h
      subst this;exact ⟨rfl,by simp⟩
  | c::r,l,hn,h=>by
    cases l with
    | nil=>cases h
    | cons b t=>
      simp only [Co,List.isPrefixOf,Cd,beq_iff_eq] at h;obtain ⟨rfl,h⟩:=h;have hc:(32:UInt8)≠c:=fun e=>hn (by simp [e])
      obtain ⟨i1,i2⟩:=uT r t (fun e=>hn (F9 _ e)) h;have e:(c != 32)=true:=by simpa [bne] using fun e=>hc e.symm
      refine ⟨?_,F9 _ i2⟩;rw [List.takeWhile_cons_of_pos (p:=fun c=>c != 32) e,<-i1]
def kwAt (l:Ag):Bool:=match l with
 | []=>true
 | c::r=>if c==32&&r.contains 32 then kwL.contains (r.takeWhile (fun c=>c != 32))||((r.takeWhile (fun c=>c != 32)) == []) else true
theorem kw_all:(List.range 200).all (fun j=>kwAt (jJ.drop j))=true:=by kernel_rfl
theorem kw_len:jJ.length<=199:=Ey (by kernel_rfl)
theorem kw_back:kwL.all (fun w=>Lib.contains jJ ([32]++w ++ [32]) && !(w == []) && !(w.contains 32))=true:=by kernel_rfl
theorem key_eq (s:Ag):Pk s=keyR s:=by
  rw [Bool.eq_iff_iff,keyR_mem];unfold Pk;simp only [Cd,A4]
  constructor
  . rintro ⟨⟨h1,h2⟩,h3⟩
    have hn:32∉s:=fun h=>by rw [(Z4 s 32).2 h] at h2;cases h2
    obtain ⟨j,hj,ho⟩:=(Z3 _ _).1 h3;have hk:=Fu.1 kw_all j (Ks.2 (by have:=kw_len;omega));unfold Lib.occAt at ho;generalize jJ.drop j=l at ho hk;cases l with
    | nil=>cases ho
    | cons b t=>
      simp only [Co,C5,List.isPrefixOf,Cd,beq_iff_eq] at ho;obtain ⟨rfl,ho⟩:=ho;obtain ⟨i1,i2⟩:=uT s t hn ho;unfold kwAt at hk;have e:t.contains 32=true:=by simpa using i2
      simp only [e,<-i1] at hk;have e0:((32:UInt8)==32&&true)=true:=rfl;rw [e0,if_pos rfl,h1,Sp] at hk;simpa using hk
  . intro h
    have:=Fu.1 kw_back s h;simp only [Cd,A4] at this;obtain ⟨⟨k1,k2⟩,k3⟩:=this;refine ⟨⟨k2,?_⟩,k1⟩;rw [rA];intro h;rw [Z4] at h;have:s.contains 32=true:=by simpa using h
    rw [this] at k3;cases k3

theorem idx_any (p:UInt8->Bool):∀s:Ag,decide (0<=Lb p s)=s.any p
  | []=>rfl
  | c :: r => by
    have ih:=idx_any p r;rw [Rh,<-ih,Lb];cases p c with
    | true=>rfl
    | false=>
      by_cases h:Lb p r = -1
      . rw [if_neg (by decide),if_pos h,h];rfl
      . rw [if_neg (by decide),if_neg h,Kb]
        refine decide_eq_decide.2 ?_
        have:∀s:Ag,-1<=Lb p s:=by
          intro s
          induction s with
          | nil=>exact Ic _
          | cons c r ih=>
            unfold Lb;split
            . decide
            . split
              . decide
              omega
        have:=this r;omega
theorem kU (p:UInt8->Bool):∀s:Ag,decide (B4 p s=s.length)=s.all p
  | []=>rfl
  | c::r=>by
    have ih:=kU p r;rw [Jp,<-ih,B4];cases p c with
    | true=>rw [if_pos rfl,Gq,Bb];exact decide_eq_decide.2 (by omega)
    | false=>rw [if_neg (by decide),Oc,Bb];exact I8 (by omega)
theorem pS (c:UInt8):(Di c&&Bn c)=false:=by
 have:=Wl (p:=fun c=>(Di c&&Bn c)==false) (by kernel_rfl) c;exact eq_of_beq this
theorem name_eq (s:Ag):Hf s=nameR s:=by
  unfold Hf nameR;rw [key_eq,idx_any];cases s with
  | nil=>rfl
  | cons c r=>
    have hb:bt (c::r) 0=c:=rfl
    have hs:((B4 G5 (c::r):Int) != ((c::r).length:Int))=(c::r).any pY:=by
      have h:=kU G5 (c::r)
      have h2:(c::r).any pY = !((c::r).all G5):=by
        have:pY=fun c=>!(G5 c):=by funext c;unfold pY G5;rw [Bool.not_or]
        rw [this,<-List.not_all_eq_any_not]
      rw [h2,<-h,Bool.eq_iff_iff,bne_iff_ne,A4,It];omega
    rw [hs,hb,Rh];have ho:pY c=(!Di c && !Bn c):=rfl;rw [ho];have hld:=pS c;generalize keyR (c::r)=K;generalize decide (24<((c::r).length:Int))=A;have e0:(c::r == [])=false:=rfl;rw [e0];generalize r.any pY=O;generalize Di c=L at *;generalize Bn c=D at *
    revert hld
    cases K <;> cases A <;> cases O <;> cases L <;> cases D <;> decide

theorem kI (c:UInt8):1<=(Gy c).length/\(Gy c).length<=4:=by
 have:=Wl (p:=fun c=>decide (1<=(Gy c).length/\(Gy c).length<=4)) (by kernel_rfl) c;exact Ey this
theorem aW:∀s:Ag,s.length<=(B0 s).length/\(B0 s).length<=4*s.length
  | []=>⟨Br _,Br _⟩
  | c::r=>by
    have h1:=kI c;have h2:=aW r;rw [B0,Au,Bb];omega
def backB (c:UInt8)(w:Ag):Bool:=
 if ((bt w 0).toNat:Int)==92 then (Kw w).2==(w.length:Int)&&(Kw w).1==c else w == [c] && !(((c.toNat:Int)==34)) && !(decide ((c.toNat:Int)<32)||decide (126<(c.toNat:Int)))
theorem back_ok (c:UInt8):backB c (Gy c)=true:=Wl (p:=fun c=>backB c (Gy c)) (by kernel_rfl) c
theorem Xg {u v:Ag}{i:Nat}(h:i<u.length):bt (u++v) i=bt u i:=by
 simp only [bt,Ez];rw [List.getElem?_append_left h]
theorem mQ {u v:Ag}(h:(Kw u).2≠0):Kw (u++v)=Kw u:=by
  have hl:((u++v).length:Int)=(u.length:Int)+(v.length:Int):=by rw [Au];omega
  unfold Kw at h ⊢;by_cases h2:(2:Int)<=(u.length:Int)
  . have e1:decide ((2:Int)<=(u.length:Int))=true:=Iu h2
    have e2:decide ((2:Int)<=((u++v).length:Int))=true:=Iu (by omega);rw [e1] at h ⊢;rw [e2,Xg (show 1<u.length by omega)];cases hB:(((bt u 1).toNat:Int)==34||((bt u 1).toNat:Int)==92) with
    | true=>rfl
    | false=>
      rw [hB] at h;simp only [Gq,Ak,↓reduceIte] at h ⊢;by_cases h4:(4:Int)<=(u.length:Int)
      . have e3:decide ((4:Int)<=(u.length:Int))=true:=Iu h4
        have e4:decide ((4:Int)<=((u++v).length:Int))=true:=Iu (by omega);rw [e3,e4,Xg (show 2<u.length by omega),Xg (show 3<u.length by omega)]
      . have e3:decide ((4:Int)<=(u.length:Int))=false:=I8 h4
        rw [e3] at h;exact absurd rfl h
  . have e1:decide ((2:Int)<=(u.length:Int))=false:=I8 h2
    have e3:decide ((4:Int)<=(u.length:Int))=false:=I8 (by omega);rw [e1,e3] at h;exact absurd rfl h
theorem bt_mid (p:Ag)(c:UInt8)(v:Ag):bt (p++c::v) p.length=c:=by
 simp [bt,Ez]
theorem eY (rest:Ag):∀(r p b:Ag) (n:Nat),r.length<n->(b++r).length<=64->
    Hr (p++(B0 r++34::rest)) n p.length b=Y4 2 (b++r) ((p.length:Int)+((B0 r).length:Int)+1)
  | [],p,b,n,hn,hb=>by
    obtain ⟨m,rfl⟩:∃m,n=m+1:=⟨n-1,by simp at hn;omega⟩;rw [T6,B0,C5,bt_mid];have e1:decide ((p.length:Int)<((p++34::rest).length:Int))=true:=Iu (by rw [Au,Bb];omega);have e2:(((34:UInt8).toNat:Int)==34)=true:=rfl;have e3:decide (64<(b.length:Int))=false:=I8 (by simp at hb;omega);rw [e1,e2,e3,A8];simp
  | c::r,p,b,n,hn,hb=>by
    obtain ⟨m,rfl⟩:∃m,n=m+1:=⟨n-1,by simp at hn;omega⟩;have hk:=back_ok c;have hlen:=kI c;have hlr:(Gy c++B0 r).length=(Gy c).length+(B0 r).length:=Au ..
    have ih:∀b',b'=b ++ [c]->Hr ((p++Gy c)++(B0 r++34::rest)) m (p++Gy c).length b'=Y4 2 (b'++r) (((p++Gy c).length:Int)+((B0 r).length:Int)+1):=fun b' e=>
      eY rest r (p++Gy c) b' m (by simp at hn;omega) (by subst e;simpa [Qq,Nat.add_comm 1] using hb)
    have ih:=ih _ rfl;have eb:(b ++ [c])++r=b++c::r:=by simp
    rw [eb] at ih;rw [B0,C1,<-C1 p]
    have ep:((p++Gy c).length:Int)+((B0 r).length:Int)+1=(p.length:Int)+((Gy c++B0 r).length:Int)+1:=by
      rw [hlr,Au];omega
    rw [ep] at ih;rw [<-ih,T6];generalize hq:Gy c=q at *
    obtain ⟨x,q',rfl⟩:∃x q',q=x::q':=by
      cases q with
      | nil=>simp at hlen
      | cons x q'=>exact ⟨x,q',rfl⟩
    have e0:bt ((p++x::q')++(B0 r++34::rest)) p.length=x:=by
      rw [C1,Co,bt_mid]
    have e1:decide ((p.length:Int)<(((p++x::q')++(B0 r++34::rest)).length:Int))=true:=Iu (by simp only [Au,Bb];omega)
    have ed:((p++x::q')++(B0 r++34::rest)).drop p.length=(x::q')++(B0 r++34::rest):=by
      rw [C1,List.drop_left]
    rw [e0,e1,ed];simp only [↓reduceIte];unfold backB at hk;have hx0:bt (x::q') 0=x:=rfl;rw [hx0] at hk;cases h92:((x.toNat:Int)==92) with
    | true=>
      rw [h92] at hk;simp only [↓reduceIte,Cd,beq_iff_eq] at hk;obtain ⟨k1,k2⟩:=hk
      have h34:((x.toNat:Int)==34)=false:=by
        rw [Hm];rw [beq_iff_eq] at h92;omega
      have hne:(Kw (x::q')).2≠0:=by rw [k1,Bb];omega
      rw [mQ hne,h34,k1,k2];have e5:(((x::q').length:Int)==0)=false:=by rw [Hm,Bb];omega
      rw [e5];simp only [Ak,↓reduceIte];have e6:((x::q').length:Int).toNat=(x::q').length:=So _;rw [e6,<-Au]
    | false=>
      rw [h92] at hk;simp only [Ak,↓reduceIte,Cd,beq_iff_eq,A4] at hk;obtain ⟨⟨k1,k2⟩,k3⟩:=hk;have kx:x=c:=(List.cons.inj k1).1;have kq:q' = []:=(List.cons.inj k1).2;subst kx kq;rw [k2,k3];simp only [Ak,↓reduceIte];rw [Au,Hl]
theorem yM (s rest:Ag)(hs:s.length<=64):Ca (34::(B0 s++34::rest))=Y4 2 s (((B0 s).length:Int)+2):=by
 have hb:bt (34::(B0 s++34::rest)) 0=34:=rfl;have hn:Kx (34::(B0 s++34::rest))=xW:=by unfold Kx;rw [hb];rfl
 have hm:F4 (34::(B0 s++34::rest))=xW:=by
  unfold F4;have:B4 Bn (34::(B0 s++34::rest))=0:=by rw [B4];rfl
  rw [this];rfl
 have hl:Lq (34::(B0 s++34::rest))=Y4 2 s (((B0 s).length:Int)+2):=by
  unfold Lq;rw [hb];have e:(((34:UInt8).toNat:Int) != 34)=false:=rfl;rw [e];have h:=eY rest s [34] [] ((34::(B0 s++34::rest)).length+1) (by have:=(aW s).1;simp only [Au,Bb];omega) (by simpa using hs)
  have e2:(((([34]:Ag)).length:Int)+((B0 s).length:Int)+1)=((B0 s).length:Int)+2:=by
   have:((([34]:Ag)).length:Int)=1:=rfl;rw [this];omega
  rw [e2] at h;exact h
 unfold Ca;have hz:Mv xW=false:=rfl;rw [hn,hm,hl,hz];simp only [Ak,↓reduceIte];rw [if_pos (pK (by omega))]
end Go.Proofs.YtckhoadldibflaaGreatDoor
