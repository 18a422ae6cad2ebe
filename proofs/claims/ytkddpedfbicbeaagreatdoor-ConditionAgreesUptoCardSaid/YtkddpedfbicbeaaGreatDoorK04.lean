/-
  Several texts in one: S12, S11b. No condition.
-/
import Derived.Test.YtkddpedfbicbeaaGreatDoorK03
import Derived.Test.YtkddpedfbicbeaaGreatDoorK02
set_option linter.unusedVariables false
set_option linter.unusedSimpArgs false
namespace Go.Proofs.YtkddpedfbicbeaaGreatDoor
open Go Go.Aw

structure Bd where
 x:Int
 y:Int
 most:Int
deriving DecidableEq
def bd0:Bd:=⟨0,0,0⟩
def Rp (b:Bd):List AV:=[.int .i64 b.x,.int .i64 b.y,.int .i64 b.most]
structure Zn where
 n:Int
 bs:List Bd
def zn0:Zn:=⟨0,[]⟩
def Th (z:Zn):List AV:=[.int .i64 z.n,.sl 3 (z.bs.map Rp)]
def bdE (n:Int)(b:Bd):Int:=if decide (b.x<0)||decide (n≤b.x)||decide (b.y<0)||decide (n≤b.y)||decide (b.most < -1125899906842624)||decide (1125899906842624<b.most) then 2 else 0
def I1 (z:Zn):Int:=if decide (z.n<1)||decide (64<z.n) then 2 else if decide (256<(z.bs.length:Int)) then 5 else Aq (bdE z.n) z.bs

structure Ds where
 sums:List Int
 last:List Int
def Eu (l:List Int)(k:Int):Int:=(l[k.toNat]?).getD 0
def Og (i:Nat)(b:Bd)(s:Ds×Int):Ds×Int:=
 if decide (Eu s.1.sums b.y+b.most<Eu s.1.sums b.x) then (⟨s.1.sums.set b.x.toNat (Eu s.1.sums b.y+b.most),s.1.last.set b.x.toNat (i:Int)⟩,b.x) else s
def F7:Nat→List Bd→Ds×Int→Ds×Int
 | _,[],s=>s
 | i,b::r,s=>F7 (i+1) r (Og i b s)
def Jn (bs:List Bd)(d:Ds):Ds×Int:=F7 0 bs (d,-1)
def D2 (bs:List Bd):Nat→Ds×Int→Ds×Int
 | 0,s=>s
 | n+1,s=>if decide ((Jn bs s.1).2<0) then Jn bs s.1 else D2 bs n (Jn bs s.1)
def Jg (bs:List Bd)(d:Ds)(at_:Int):Int:=((bs[(Eu d.last at_).toNat]?).getD bd0).y
def Kv (bs:List Bd)(d:Ds):Nat→Int→Int
 | 0,a=>a
 | n+1,a=>Kv bs d n (Jg bs d a)
def cycGo (bs:List Bd)(d:Ds)(from_:Int):Nat→Int→List Int
 | 0,_=>[]
 | n+1,a=>Eu d.last a::if Jg bs d a==from_ then [] else cycGo bs d from_ n (Jg bs d a)
def start (z:Zn):Ds:=⟨List.replicate z.n.toNat 0,List.replicate z.n.toNat (-1)⟩
def Ed (z:Zn):Ds×Int:=D2 z.bs (z.n.toNat+1) (start z,-1)
def wG (z:Zn):List Int×List Int:=
 if decide ((Ed z).2<0) then ((Ed z).1.sums,[])
 else ([],cycGo z.bs (Ed z).1 (Kv z.bs (Ed z).1 z.n.toNat (Ed z).2) (z.n.toNat+1) (Kv z.bs (Ed z).1 z.n.toNat (Ed z).2))
structure So where
 ok:Bool
 values:List Int
 cycle:List Int
 err:Int
def Er (z:Zn):So:=
 if I1 z != 0 then ⟨false,[],[],I1 z⟩
 else if decide ((Ed z).2<0) then ⟨true,(Ed z).1.sums.map (fun v=>v-Eu (Ed z).1.sums 0),[],0⟩
 else ⟨false,[],(wG z).2,0⟩

section
variable (T:List Sc) (V:List Va)
def Gg (l:List Lit):Int:=
 if (C9 T V (Fw true)).2 != 0 then (C9 T V (Fw true)).2
 else if decide (256<(l.length:Int)) then 5
 else Aq (fun c=>if Dx T V c.cond != 0 then Dx T V c.cond else if Cg T V c.cond||(c.neg&&(c.cond.op==9&&Am T V (Ao c.cond)==0)) then 3 else 0) l
def Aa (l:Lit):Gp×Bool:=
 if l.cond.op==1 then (⟨[Dy l.cond],[],0⟩,true)
 else if !Cr l.cond||Cl T V l.cond then (tL,false)
 else B2 (Ao l.cond) (Bj l.cond)
def A1 (ts:List Tm)(l:List Tm):List Tm:=match l with | []=>ts | t::_=>if ts.contains t then ts else ts ++ [t]
def B3 (ts:List Tm)(l:List Tm):Int:=match l with | []=>0 | t::_=>((ts.idxOf t:Nat):Int)+1
def C3 (t:Tm):Int×Int:=if t.op==2 then (0,1099511627776) else if Am T V (Hf t)==1 then (0,1) else (-1099511627776,1099511627776)
def D1 (c:Lit)(x z rest:Int):List Bd:=
 if (c.cond.op==1&&c.neg)||(c.cond.op==8 && !c.neg) then [⟨x,z,0-rest⟩]
 else if c.cond.op==1||c.cond.op==8 then [⟨z,x,rest-1⟩]
 else if c.cond.op==7 && !c.neg then [⟨x,z,0-rest-1⟩]
 else if c.cond.op==7 then [⟨z,x,rest⟩]
 else [⟨x,z,0-rest⟩,⟨z,x,rest⟩]
structure Sy where
 ts:List Tm
 bs:List Bd
def Dc (s:Sy)(c:Lit):Sy:=
 if !(Aa T V c).2 then s
 else ⟨A1 (A1 s.ts (Aa T V c).1.plus) (Aa T V c).1.minus,
  s.bs++D1 c (B3 (A1 s.ts (Aa T V c).1.plus) (Aa T V c).1.plus) (B3 (A1 (A1 s.ts (Aa T V c).1.plus) (Aa T V c).1.minus) (Aa T V c).1.minus) (Aa T V c).1.rest⟩
def B6 (l:List Lit):Sy:=l.foldl (Dc T V) ⟨[],[]⟩
def G0:Nat→List Tm→List Bd
 | _,[]=>[]
 | i,t::r=>⟨(i:Int)+1,0,(C3 T V t).2⟩::⟨0,(i:Int)+1,0-(C3 T V t).1⟩::G0 (i+1) r
def zoneOf (s:Sy):Zn:=⟨(s.ts.length:Int)+1,G0 T V 0 s.ts++s.bs⟩
def C2 (l:List Lit):Zn:=zoneOf T V (B6 T V l)
def In (z:Zn):Bool:=decide (z.n≤64)&&decide ((z.bs.length:Int)≤256)
structure Zr where
 zone:Zn
 terms:List Ex
 err:Int
def Qx (l:List Lit):Zr:=
 if Gg T V l != 0 then ⟨zn0,[],Gg T V l⟩
 else if !In (C2 T V l) then ⟨zn0,[],17⟩ else ⟨C2 T V l,(B6 T V l).ts.map Hf,0⟩

structure Wd where
 const:Bool
 text:List UInt8
 field:Tm
deriving DecidableEq
end
def tm0:Tm:=⟨0,0,0⟩
def Ld (w:Wd):List AV:=[.bool w.const,.str w.text,.int .i64 w.field.op,.int .i64 w.field.v,.int .i64 w.field.field]
def B8 (e:Ex):Wd:=if e.op==0 then ⟨true,e.val.text,tm0⟩ else ⟨false,[],Dy e⟩
abbrev Wm:=List (Wd×Wd)
def Ga (w:Wm)(x:Wd):Option Wd:=(w.find? fun p=>p.1=x).map (·.2)
def Qd (w:Wm):Nat→Wd→Wd
 | 0,x=>x
 | n+1,x=>match Ga w x with | some y=>Qd w n y | none=>x
def Cb (w:Wm)(x:Wd):Wd:=Qd w w.length x
section
variable (T:List Sc) (V:List Va)
def B9 (sign:Bool)(c:Lit):Bool:=c.neg != sign&&(Cl T V c.cond&&Bt T V c.cond)
def E3 (w:Wm)(c:Lit):Wm×Bool:=
 let a:=Cb w (B8 (Ao c.cond));let b:=Cb w (B8 (Bj c.cond))
 if a=b then (w,true) else if a.const&&b.const then (w,false) else if a.const then (w ++ [(b,a)],true) else (w ++ [(a,b)],true)
def Jb:List Lit→Wm→Wm×Bool
 | [],w=>(w,true)
 | c::r,w=>if !B9 T V true c then Jb r w else if !(E3 w c).2 then ((E3 w c).1,false) else Jb r (E3 w c).1
def Oe (w:Wm):List Lit→Bool
 | []=>true
 | c::r=>if !B9 T V false c then Oe w r else if Cb w (B8 (Ao c.cond))=Cb w (B8 (Bj c.cond)) then false else Oe w r
def Eg (l:List Lit):Wm×Bool:=((Jb T V l []).1,(Jb T V l []).2&&Oe T V (Jb T V l []).1 l)
end

theorem Cz {α:Type}{b:Bool}{x y:α}(h:b=false):(if b=true then x else y)=y:=if_neg (by rw [h];decide)
theorem K7 {α:Type}(f:Ex→α)(d:α){e:Ex}(h:0<e.args.length):Ro d (e.args.map f)=f (Ao e):=by
 unfold Ro Ao
 cases ha:e.args with
 | nil=>rw [ha] at h;cases h
 | cons a r=>rfl
theorem L1 {α:Type}(f:Ex→α)(d:α){e:Ex}(h:1<e.args.length):aY d (e.args.map f)=f (Bj e):=by
 unfold aY Bj
 rw [List.getElem?_map,List.getElem?_eq_getElem h];rfl
theorem E1 {e:Ex}(h:Bx e=0)(ho:5≤e.op∧e.op≤11):1<e.args.length:=by
 obtain ⟨_,_,h3⟩:=G5 h
 have:D6 e.op=2:=by
  unfold D6
  rw [if_neg (by omega),if_neg (by omega),if_neg (by omega)]
 omega
theorem Y4 {e:Ex}(h:Bx e=0)(ho:e.op<5):e.args = []:=by
 obtain ⟨h1,_,h3⟩:=G5 h
 have:D6 e.op=0:=by
  unfold D6
  rw [if_neg (by omega),if_pos (by omega)]
 exact List.length_eq_zero_iff.1 (by omega)
theorem aP (op:Int)(x y:Ex):cE (two op x y) = [.int .i64 op,.sl 8 [cE x,cE y],.int .i64 0,.int .i64 0,.int .i64 0,.int .i64 0,.int .i64 0,.str []]:=by
 show [AV.int .i64 op,.sl 8 [Gs x,Gs y],.int .i64 0,.int .i64 0,.int .i64 0,.int .i64 0,.int .i64 0,.str []]=_
 rw [K5,K5]
theorem sC (x:Ex):cE (sP x) = [.int .i64 12,.sl 8 [cE x],.int .i64 0,.int .i64 0,.int .i64 0,.int .i64 0,.int .i64 0,.str []]:=by
 show [AV.int .i64 12,.sl 8 [Gs x],.int .i64 0,.int .i64 0,.int .i64 0,.int .i64 0,.int .i64 0,.str []]=_
 rw [K5]
theorem tD {vars:List (List Ev)}{v:Int}{l:List Ev}(h0:0≤v)(h:vars[v.toNat]? = some l):Bu vars v=l:=by
 have:=(List.getElem?_eq_some_iff.1 h).1
 unfold Bu
 rw [if_neg (by simp;omega),h];rfl
def rreadE (e:Ex)(ev:Ev):Ex×Int:=if e.op==1&&decide ((ev.values.length:Int)≤e.field) then (e,6) else (Ou (L4 e ev).1,(L4 e ev).2)
def rknownN (vars:List (List Ev))(e:Ex)(ks:List (Ex×Int)):Ex×Int:=
 if e.op==1||e.op==2 then
  (if ((Bu vars e.var).length:Int)==0 then (e,0) else rreadE e ((Bu vars e.var).getLast?.getD Kn))
 else match (okL ks).2 with
  | some p=>(e,p.2)
  | none=>(⟨e.op,(okL ks).1,e.var,e.field,e.kind,e.val⟩,0)
def rknownE (vars:List (List Ev)):Ex→Ex×Int:=Re (rknownN vars)
theorem bU {vars:List (List Ev)}{v:Int}(h:0<(Bu vars v).length):Bu vars v∈vars:=by
 unfold Bu at h ⊢
 split
 · rename_i h1;rw [if_pos h1] at h;simp at h
 ·
  rename_i h1
  rw [if_neg h1] at h
  cases hl:vars[v.toNat]? with
  | none=>rw [hl] at h;simp at h
  | some l=>exact List.mem_of_getElem? hl
theorem uY {e:Ex}(h:0<e.args.length):Av (Ao e)<Av e:=F0 (A4 h)
theorem cM {e:Ex}(h:(B5 e != 0)=false):C0 e=0:=by
 have h0:B5 e=0:=by simpa using h
 unfold B5 at h0
 split at h0
 · cases h0
 ·
  split at h0
  · cases h0
  · exact h0
end Go.Proofs.YtkddpedfbicbeaaGreatDoor
