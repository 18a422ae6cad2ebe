/-
  Several texts in one: S12, S11b. No condition.
-/
import Derived.Test.YtjedflcpjlgokaaGreatDoorK03
import Derived.Test.YtjedflcpjlgokaaGreatDoorK02
set_option linter.unusedVariables false
set_option linter.unusedSimpArgs false
namespace Go.Proofs.YtjedflcpjlgokaaGreatDoor
open Go Go.Aw

structure Bd where
 x:Int
 y:Int
 most:Int
deriving DecidableEq
def bd0:Bd:=⟨0,0,0⟩
def Q7 (b:Bd):List AV:=[.int .i64 b.x,.int .i64 b.y,.int .i64 b.most]
structure Zn where
 n:Int
 bs:List Bd
def zn0:Zn:=⟨0,[]⟩
def Xz (z:Zn):List AV:=[.int .i64 z.n,.sl 3 (z.bs.map Q7)]
def bdE (n:Int)(b:Bd):Int:=if decide (b.x<0)||decide (n≤b.x)||decide (b.y<0)||decide (n≤b.y)||decide (b.most < -1125899906842624)||decide (1125899906842624<b.most) then 2 else 0
def Gt (z:Zn):Int:=if decide (z.n<1)||decide (64<z.n) then 2 else if decide (256<(z.bs.length:Int)) then 5 else Ao (bdE z.n) z.bs

structure Ds where
 sums:List Int
 last:List Int
def Du (l:List Int)(k:Int):Int:=(l[k.toNat]?).getD 0
def Ul (i:Nat)(b:Bd)(s:Ds×Int):Ds×Int:=
 if decide (Du s.1.sums b.y+b.most<Du s.1.sums b.x) then (⟨s.1.sums.set b.x.toNat (Du s.1.sums b.y+b.most),s.1.last.set b.x.toNat (i:Int)⟩,b.x) else s
def Hm:Nat→List Bd→Ds×Int→Ds×Int
 | _,[],s=>s
 | i,b::r,s=>Hm (i+1) r (Ul i b s)
def Ka (bs:List Bd)(d:Ds):Ds×Int:=Hm 0 bs (d,-1)
def Ea (bs:List Bd):Nat→Ds×Int→Ds×Int
 | 0,s=>s
 | n+1,s=>if decide ((Ka bs s.1).2<0) then Ka bs s.1 else Ea bs n (Ka bs s.1)
def F3 (bs:List Bd)(d:Ds)(at_:Int):Int:=((bs[(Du d.last at_).toNat]?).getD bd0).y
def Ii (bs:List Bd)(d:Ds):Nat→Int→Int
 | 0,a=>a
 | n+1,a=>Ii bs d n (F3 bs d a)
def Ib (bs:List Bd)(d:Ds)(from_:Int):Nat→Int→List Int
 | 0,_=>[]
 | n+1,a=>Du d.last a::if F3 bs d a==from_ then [] else Ib bs d from_ n (F3 bs d a)
def start (z:Zn):Ds:=⟨List.replicate z.n.toNat 0,List.replicate z.n.toNat (-1)⟩
def Di (z:Zn):Ds×Int:=Ea z.bs (z.n.toNat+1) (start z,-1)
def Nv (z:Zn):List Int×List Int:=
 if decide ((Di z).2<0) then ((Di z).1.sums,[])
 else ([],Ib z.bs (Di z).1 (Ii z.bs (Di z).1 z.n.toNat (Di z).2) (z.n.toNat+1) (Ii z.bs (Di z).1 z.n.toNat (Di z).2))
structure So where
 ok:Bool
 values:List Int
 cycle:List Int
 err:Int
def Bs (z:Zn):So:=
 if Gt z != 0 then ⟨false,[],[],Gt z⟩
 else if decide ((Di z).2<0) then ⟨true,(Di z).1.sums.map (fun v=>v-Du (Di z).1.sums 0),[],0⟩
 else ⟨false,[],(Nv z).2,0⟩

section
variable (T:List Sc) (V:List Va)
def Fu (l:List Lit):Int:=
 if (Cn T V (Fy true)).2 != 0 then (Cn T V (Fy true)).2
 else if decide (256<(l.length:Int)) then 5
 else Ao (fun c=>if D1 T V c.cond != 0 then D1 T V c.cond else if C6 T V c.cond||(c.neg&&(c.cond.op==9&&An T V (Av c.cond)==0)) then 3 else 0) l
def Aa (l:Lit):Gp×Bool:=
 if l.cond.op==1 then (⟨[Dv l.cond],[],0⟩,true)
 else if !Cb l.cond||Dl T V l.cond then (nV,false)
 else B7 (Av l.cond) (Cc l.cond)
def A3 (ts:List Tm)(l:List Tm):List Tm:=match l with | []=>ts | t::_=>if ts.contains t then ts else ts ++ [t]
def B9 (ts:List Tm)(l:List Tm):Int:=match l with | []=>0 | t::_=>((ts.idxOf t:Nat):Int)+1
def Dh (t:Tm):Int×Int:=if t.op==2 then (0,1099511627776) else if An T V (Fx t)==1 then (0,1) else (-1099511627776,1099511627776)
def D5 (c:Lit)(x z rest:Int):List Bd:=
 if (c.cond.op==1&&c.neg)||(c.cond.op==8 && !c.neg) then [⟨x,z,0-rest⟩]
 else if c.cond.op==1||c.cond.op==8 then [⟨z,x,rest-1⟩]
 else if c.cond.op==7 && !c.neg then [⟨x,z,0-rest-1⟩]
 else if c.cond.op==7 then [⟨z,x,rest⟩]
 else [⟨x,z,0-rest⟩,⟨z,x,rest⟩]
structure Sy where
 ts:List Tm
 bs:List Bd
def C7 (s:Sy)(c:Lit):Sy:=
 if !(Aa T V c).2 then s
 else ⟨A3 (A3 s.ts (Aa T V c).1.plus) (Aa T V c).1.minus,
  s.bs++D5 c (B9 (A3 s.ts (Aa T V c).1.plus) (Aa T V c).1.plus) (B9 (A3 (A3 s.ts (Aa T V c).1.plus) (Aa T V c).1.minus) (Aa T V c).1.minus) (Aa T V c).1.rest⟩
def B1 (l:List Lit):Sy:=l.foldl (C7 T V) ⟨[],[]⟩
def Ho:Nat→List Tm→List Bd
 | _,[]=>[]
 | i,t::r=>⟨(i:Int)+1,0,(Dh T V t).2⟩::⟨0,(i:Int)+1,0-(Dh T V t).1⟩::Ho (i+1) r
def zoneOf (s:Sy):Zn:=⟨(s.ts.length:Int)+1,Ho T V 0 s.ts++s.bs⟩
def Bf (l:List Lit):Zn:=zoneOf T V (B1 T V l)
def Ic (z:Zn):Bool:=decide (z.n≤64)&&decide ((z.bs.length:Int)≤256)
structure Zr where
 zone:Zn
 terms:List Ex
 err:Int
def N3 (l:List Lit):Zr:=
 if Fu T V l != 0 then ⟨zn0,[],Fu T V l⟩
 else if !Ic (Bf T V l) then ⟨zn0,[],17⟩ else ⟨Bf T V l,(B1 T V l).ts.map Fx,0⟩

structure Wd where
 const:Bool
 text:List UInt8
 field:Tm
deriving DecidableEq
end
def tm0:Tm:=⟨0,0,0⟩
def K8 (w:Wd):List AV:=[.bool w.const,.str w.text,.int .i64 w.field.op,.int .i64 w.field.v,.int .i64 w.field.field]
def Ga (e:Ex):Wd:=if e.op==0 then ⟨true,e.val.text,tm0⟩ else ⟨false,[],Dv e⟩
abbrev Wm:=List (Wd×Wd)
def Jf (w:Wm)(x:Wd):Option Wd:=(w.find? fun p=>p.1=x).map (·.2)
def bK (w:Wm):Nat→Wd→Wd
 | 0,x=>x
 | n+1,x=>match Jf w x with | some y=>bK w n y | none=>x
def D4 (w:Wm)(x:Wd):Wd:=bK w w.length x
section
variable (T:List Sc) (V:List Va)
def En (sign:Bool)(c:Lit):Bool:=c.neg != sign&&(Dl T V c.cond&&Ck T V c.cond)
def Jc (w:Wm)(c:Lit):Wm×Bool:=
 let a:=D4 w (Ga (Av c.cond));let b:=D4 w (Ga (Cc c.cond))
 if a=b then (w,true) else if a.const&&b.const then (w,false) else if a.const then (w ++ [(b,a)],true) else (w ++ [(a,b)],true)
def Kw:List Lit→Wm→Wm×Bool
 | [],w=>(w,true)
 | c::r,w=>if !En T V true c then Kw r w else if !(Jc w c).2 then ((Jc w c).1,false) else Kw r (Jc w c).1
def Sl (w:Wm):List Lit→Bool
 | []=>true
 | c::r=>if !En T V false c then Sl w r else if D4 w (Ga (Av c.cond))=D4 w (Ga (Cc c.cond)) then false else Sl w r
def Le (l:List Lit):Wm×Bool:=((Kw T V l []).1,(Kw T V l []).2&&Sl T V (Kw T V l []).1 l)
end

theorem C8 {α:Type}{b:Bool}{x y:α}(h:b=false):(if b=true then x else y)=y:=if_neg (by rw [h];decide)
theorem Jx {α:Type}(f:Ex→α)(d:α){e:Ex}(h:0<e.args.length):Q8 d (e.args.map f)=f (Av e):=by
 unfold Q8 Av
 cases ha:e.args with
 | nil=>rw [ha] at h;cases h
 | cons a r=>rfl
theorem K1 {α:Type}(f:Ex→α)(d:α){e:Ex}(h:1<e.args.length):Ys d (e.args.map f)=f (Cc e):=by
 unfold Ys Cc
 rw [List.getElem?_map,List.getElem?_eq_getElem h];rfl
theorem Ei {e:Ex}(h:B3 e=0)(ho:5≤e.op∧e.op≤11):1<e.args.length:=by
 obtain ⟨_,_,h3⟩:=F6 h
 have:D8 e.op=2:=by
  unfold D8
  rw [if_neg (by omega),if_neg (by omega),if_neg (by omega)]
 omega
theorem W7 {e:Ex}(h:B3 e=0)(ho:e.op<5):e.args = []:=by
 obtain ⟨h1,_,h3⟩:=F6 h
 have:D8 e.op=0:=by
  unfold D8
  rw [if_neg (by omega),if_pos (by omega)]
 exact List.length_eq_zero_iff.1 (by omega)
theorem nB (op:Int)(x y:Ex):cE (two op x y) = [.int .i64 op,.sl 8 [cE x,cE y],.int .i64 0,.int .i64 0,.int .i64 0,.int .i64 0,.int .i64 0,.str []]:=by
 show [AV.int .i64 op,.sl 8 [G8 x,G8 y],.int .i64 0,.int .i64 0,.int .i64 0,.int .i64 0,.int .i64 0,.str []]=_
 rw [Lr,Lr]
theorem oO {vars:List (List Ev)}{v:Int}{l:List Ev}(h0:0≤v)(h:vars[v.toNat]? = some l):Bx vars v=l:=by
 have:=(List.getElem?_eq_some_iff.1 h).1
 unfold Bx
 rw [if_neg (by simp;omega),h];rfl
def rreadE (e:Ex)(ev:Ev):Ex×Int:=if e.op==1&&decide ((ev.values.length:Int)≤e.field) then (e,6) else (Ny (Lw e ev).1,(Lw e ev).2)
def yD (vars:List (List Ev))(e:Ex)(ks:List (Ex×Int)):Ex×Int:=
 if e.op==1||e.op==2 then
  (if ((Bx vars e.var).length:Int)==0 then (e,0) else rreadE e ((Bx vars e.var).getLast?.getD L3))
 else match (okL ks).2 with
  | some p=>(e,p.2)
  | none=>(⟨e.op,(okL ks).1,e.var,e.field,e.kind,e.val⟩,0)
def rknownE (vars:List (List Ev)):Ex→Ex×Int:=P3 (yD vars)
theorem bM {vars:List (List Ev)}{v:Int}(h:0<(Bx vars v).length):Bx vars v∈vars:=by
 unfold Bx at h ⊢
 split
 · rename_i h1;rw [if_pos h1] at h;simp at h
 ·
  rename_i h1
  rw [if_neg h1] at h
  cases hl:vars[v.toNat]? with
  | none=>rw [hl] at h;simp at h
  | some l=>exact List.mem_of_getElem? hl
theorem size0 {e:Ex}(h:0<e.args.length):Ar (Av e)<Ar e:=Fe (A0 h)
theorem aJ {e:Ex}(h:(B4 e != 0)=false):Ca e=0:=by
 have h0:B4 e=0:=by simpa using h
 unfold B4 at h0
 split at h0
 · cases h0
 ·
  split at h0
  · cases h0
  · exact h0
end Go.Proofs.YtjedflcpjlgokaaGreatDoor
