/-
  Several texts in one: S12, S11b. No condition.
-/
import Derived.Test.YtjedflcpjlgokaaGreatDoorK03
import Derived.Test.YtjedflcpjlgokaaGreatDoorK02
set_option linter.unusedVariables false
set_option linter.unusedSimpArgs false
namespace Go.Proofs.YtjedflcpjlgokaaGreatDoor
open Go Go.Aw

structure Bd where
 x:Int
 y:Int
 most:Int
deriving DecidableEq
def bd0:Bd:=⟨0,0,0⟩
def Qu (b:Bd):List AV:=[.int .i64 b.x,.int .i64 b.y,.int .i64 b.most]
structure Zn where
 n:Int
 bs:List Bd
def zn0:Zn:=⟨0,[]⟩
def gS (z:Zn):List AV:=[.int .i64 z.n,.sl 3 (z.bs.map Qu)]
def bdE (n:Int)(b:Bd):Int:=if decide (b.x<0)||decide (n≤b.x)||decide (b.y<0)||decide (n≤b.y)||decide (b.most < -1125899906842624)||decide (1125899906842624<b.most) then 2 else 0
def He (z:Zn):Int:=if decide (z.n<1)||decide (64<z.n) then 2 else if decide (256<(z.bs.length:Int)) then 5 else Aq (bdE z.n) z.bs

structure Ds where
 sums:List Int
 last:List Int
def D7 (l:List Int)(k:Int):Int:=(l[k.toNat]?).getD 0
def Nf (i:Nat)(b:Bd)(s:Ds×Int):Ds×Int:=
 if decide (D7 s.1.sums b.y+b.most<D7 s.1.sums b.x) then (⟨s.1.sums.set b.x.toNat (D7 s.1.sums b.y+b.most),s.1.last.set b.x.toNat (i:Int)⟩,b.x) else s
def Fo:Nat→List Bd→Ds×Int→Ds×Int
 | _,[],s=>s
 | i,b::r,s=>Fo (i+1) r (Nf i b s)
def I7 (bs:List Bd)(d:Ds):Ds×Int:=Fo 0 bs (d,-1)
def Dw (bs:List Bd):Nat→Ds×Int→Ds×Int
 | 0,s=>s
 | n+1,s=>if decide ((I7 bs s.1).2<0) then I7 bs s.1 else Dw bs n (I7 bs s.1)
def H6 (bs:List Bd)(d:Ds)(at_:Int):Int:=((bs[(D7 d.last at_).toNat]?).getD bd0).y
def Js (bs:List Bd)(d:Ds):Nat→Int→Int
 | 0,a=>a
 | n+1,a=>Js bs d n (H6 bs d a)
def Ka (bs:List Bd)(d:Ds)(from_:Int):Nat→Int→List Int
 | 0,_=>[]
 | n+1,a=>D7 d.last a::if H6 bs d a==from_ then [] else Ka bs d from_ n (H6 bs d a)
def start (z:Zn):Ds:=⟨List.replicate z.n.toNat 0,List.replicate z.n.toNat (-1)⟩
def D1 (z:Zn):Ds×Int:=Dw z.bs (z.n.toNat+1) (start z,-1)
def Sk (z:Zn):List Int×List Int:=
 if decide ((D1 z).2<0) then ((D1 z).1.sums,[])
 else ([],Ka z.bs (D1 z).1 (Js z.bs (D1 z).1 z.n.toNat (D1 z).2) (z.n.toNat+1) (Js z.bs (D1 z).1 z.n.toNat (D1 z).2))
structure So where
 ok:Bool
 values:List Int
 cycle:List Int
 err:Int
def Dr (z:Zn):So:=
 if He z != 0 then ⟨false,[],[],He z⟩
 else if decide ((D1 z).2<0) then ⟨true,(D1 z).1.sums.map (fun v=>v-D7 (D1 z).1.sums 0),[],0⟩
 else ⟨false,[],(Sk z).2,0⟩

section
variable (T:List Sc) (V:List Va)
def kW (l:List Lit):Int:=
 if (C7 T V (Hq true)).2 != 0 then (C7 T V (Hq true)).2
 else if decide (256<(l.length:Int)) then 5
 else Aq (fun c=>if Fg T V c.cond != 0 then Fg T V c.cond else if Sg T V c.cond||(c.neg&&(c.cond.op==9&&Ak T V (Ap c.cond)==0)) then 3 else 0) l
def Aa (l:Lit):Gp×Bool:=
 if l.cond.op==1 then (⟨[Dp l.cond],[],0⟩,true)
 else if !Cm l.cond||Ch T V l.cond then (qN,false)
 else Cd (Ap l.cond) (Bj l.cond)
def Av (ts:List Tm)(l:List Tm):List Tm:=match l with | []=>ts | t::_=>if ts.contains t then ts else ts ++ [t]
def B1 (ts:List Tm)(l:List Tm):Int:=match l with | []=>0 | t::_=>((ts.idxOf t:Nat):Int)+1
def Ct (t:Tm):Int×Int:=if t.op==2 then (0,1099511627776) else if Ak T V (Hr t)==1 then (0,1) else (-1099511627776,1099511627776)
def Dx (c:Lit)(x z rest:Int):List Bd:=
 if (c.cond.op==1&&c.neg)||(c.cond.op==8 && !c.neg) then [⟨x,z,0-rest⟩]
 else if c.cond.op==1||c.cond.op==8 then [⟨z,x,rest-1⟩]
 else if c.cond.op==7 && !c.neg then [⟨x,z,0-rest-1⟩]
 else if c.cond.op==7 then [⟨z,x,rest⟩]
 else [⟨x,z,0-rest⟩,⟨z,x,rest⟩]
structure Sy where
 ts:List Tm
 bs:List Bd
def C1 (s:Sy)(c:Lit):Sy:=
 if !(Aa T V c).2 then s
 else ⟨Av (Av s.ts (Aa T V c).1.plus) (Aa T V c).1.minus,
  s.bs++Dx c (B1 (Av s.ts (Aa T V c).1.plus) (Aa T V c).1.plus) (B1 (Av (Av s.ts (Aa T V c).1.plus) (Aa T V c).1.minus) (Aa T V c).1.minus) (Aa T V c).1.rest⟩
def Cp (l:List Lit):Sy:=l.foldl (C1 T V) ⟨[],[]⟩
def G2:Nat→List Tm→List Bd
 | _,[]=>[]
 | i,t::r=>⟨(i:Int)+1,0,(Ct T V t).2⟩::⟨0,(i:Int)+1,0-(Ct T V t).1⟩::G2 (i+1) r
def zoneOf (s:Sy):Zn:=⟨(s.ts.length:Int)+1,G2 T V 0 s.ts++s.bs⟩
def Cy (l:List Lit):Zn:=zoneOf T V (Cp T V l)
def Ja (z:Zn):Bool:=decide (z.n≤64)&&decide ((z.bs.length:Int)≤256)
structure Zr where
 zone:Zn
 terms:List Ex
 err:Int
def ZoneS (l:List Lit):Zr:=
 if kW T V l != 0 then ⟨zn0,[],kW T V l⟩
 else if !Ja (Cy T V l) then ⟨zn0,[],17⟩ else ⟨Cy T V l,(Cp T V l).ts.map Hr,0⟩

structure Wd where
 const:Bool
 text:List UInt8
 field:Tm
deriving DecidableEq
end
def tm0:Tm:=⟨0,0,0⟩
def Kr (w:Wd):List AV:=[.bool w.const,.str w.text,.int .i64 w.field.op,.int .i64 w.field.v,.int .i64 w.field.field]
def B5 (e:Ex):Wd:=if e.op==0 then ⟨true,e.val.text,tm0⟩ else ⟨false,[],Dp e⟩
abbrev Wm:=List (Wd×Wd)
def Fs (w:Wm)(x:Wd):Option Wd:=(w.find? fun p=>p.1=x).map (·.2)
def Pf (w:Wm):Nat→Wd→Wd
 | 0,x=>x
 | n+1,x=>match Fs w x with | some y=>Pf w n y | none=>x
def Cc (w:Wm)(x:Wd):Wd:=Pf w w.length x
section
variable (T:List Sc) (V:List Va)
def Cb (sign:Bool)(c:Lit):Bool:=c.neg != sign&&(Ch T V c.cond&&B0 T V c.cond)
def Et (w:Wm)(c:Lit):Wm×Bool:=
 let a:=Cc w (B5 (Ap c.cond));let b:=Cc w (B5 (Bj c.cond))
 if a=b then (w,true) else if a.const&&b.const then (w,false) else if a.const then (w ++ [(b,a)],true) else (w ++ [(a,b)],true)
def Ir:List Lit→Wm→Wm×Bool
 | [],w=>(w,true)
 | c::r,w=>if !Cb T V true c then Ir r w else if !(Et w c).2 then ((Et w c).1,false) else Ir r (Et w c).1
def Nh (w:Wm):List Lit→Bool
 | []=>true
 | c::r=>if !Cb T V false c then Nh w r else if Cc w (B5 (Ap c.cond))=Cc w (B5 (Bj c.cond)) then false else Nh w r
def D5 (l:List Lit):Wm×Bool:=((Ir T V l []).1,(Ir T V l []).2&&Nh T V (Ir T V l []).1 l)
end

theorem C3 {α:Type}{b:Bool}{x y:α}(h:b=false):(if b=true then x else y)=y:=if_neg (by rw [h];decide)
theorem Lc {α:Type}(f:Ex→α)(d:α){e:Ex}(h:0<e.args.length):Qq d (e.args.map f)=f (Ap e):=by
 unfold Qq Ap
 cases ha:e.args with
 | nil=>rw [ha] at h;cases h
 | cons a r=>rfl
theorem Mp {α:Type}(f:Ex→α)(d:α){e:Ex}(h:1<e.args.length):Zf d (e.args.map f)=f (Bj e):=by
 unfold Zf Bj
 rw [List.getElem?_map,List.getElem?_eq_getElem h];rfl
theorem Fh {e:Ex}(h:Bt e=0)(ho:5≤e.op∧e.op≤11):1<e.args.length:=by
 obtain ⟨_,_,h3⟩:=Gu h
 have:D6 e.op=2:=by
  unfold D6
  rw [if_neg (by omega),if_neg (by omega),if_neg (by omega)]
 omega
theorem Xh {e:Ex}(h:Bt e=0)(ho:e.op<5):e.args = []:=by
 obtain ⟨h1,_,h3⟩:=Gu h
 have:D6 e.op=0:=by
  unfold D6
  rw [if_neg (by omega),if_pos (by omega)]
 exact List.length_eq_zero_iff.1 (by omega)
theorem oI (op:Int)(x y:Ex):cE (two op x y) = [.int .i64 op,.sl 8 [cE x,cE y],.int .i64 0,.int .i64 0,.int .i64 0,.int .i64 0,.int .i64 0,.str []]:=by
 show [AV.int .i64 op,.sl 8 [G7 x,G7 y],.int .i64 0,.int .i64 0,.int .i64 0,.int .i64 0,.int .i64 0,.str []]=_
 rw [Lh,Lh]
theorem oW {vars:List (List Ev)}{v:Int}{l:List Ev}(h0:0≤v)(h:vars[v.toNat]? = some l):Bn vars v=l:=by
 have:=(List.getElem?_eq_some_iff.1 h).1
 unfold Bn
 rw [if_neg (by simp;omega),h];rfl
def rreadE (e:Ex)(ev:Ev):Ex×Int:=if e.op==1&&decide ((ev.values.length:Int)≤e.field) then (e,6) else (My (Lg e ev).1,(Lg e ev).2)
def yF (vars:List (List Ev))(e:Ex)(ks:List (Ex×Int)):Ex×Int:=
 if e.op==1||e.op==2 then
  (if ((Bn vars e.var).length:Int)==0 then (e,0) else rreadE e ((Bn vars e.var).getLast?.getD Ke))
 else match (okL ks).2 with
  | some p=>(e,p.2)
  | none=>(⟨e.op,(okL ks).1,e.var,e.field,e.kind,e.val⟩,0)
def rknownE (vars:List (List Ev)):Ex→Ex×Int:=Pg (yF vars)
theorem aH {vars:List (List Ev)}{v:Int}(h:0<(Bn vars v).length):Bn vars v∈vars:=by
 unfold Bn at h ⊢
 split
 · rename_i h1;rw [if_pos h1] at h;simp at h
 ·
  rename_i h1
  rw [if_neg h1] at h
  cases hl:vars[v.toNat]? with
  | none=>rw [hl] at h;simp at h
  | some l=>exact List.mem_of_getElem? hl
theorem size0 {e:Ex}(h:0<e.args.length):At (Ap e)<At e:=G0 (Ba h)
theorem aZ {e:Ex}(h:(B4 e != 0)=false):Dc e=0:=by
 have h0:B4 e=0:=by simpa using h
 unfold B4 at h0
 split at h0
 · cases h0
 ·
  split at h0
  · cases h0
  · exact h0
end Go.Proofs.YtjedflcpjlgokaaGreatDoor
