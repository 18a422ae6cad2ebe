/-
  Several texts in one: S12, S11b. No condition.
-/
import Derived.Test.YtkddpedfbicbeaaGreatDoorK03
import Derived.Test.YtkddpedfbicbeaaGreatDoorK02
set_option linter.unusedVariables false
set_option linter.unusedSimpArgs false
namespace Go.Proofs.YtkddpedfbicbeaaGreatDoor
open Go Go.Aw

/-! ### Zones -/
structure Bd where
 x:Int
 y:Int
 most:Int
deriving DecidableEq
def bd0:Bd:=⟨0,0,0⟩
def Rt (b:Bd):List AV:=[.int .i64 b.x,.int .i64 b.y,.int .i64 b.most]
structure Zn where
 n:Int
 bs:List Bd
def zn0:Zn:=⟨0,[]⟩
def Tw (z:Zn):List AV:=[.int .i64 z.n,.sl 3 (z.bs.map Rt)]
def bdE (n:Int)(b:Bd):Int:=if decide (b.x<0)||decide (n≤b.x)||decide (b.y<0)||decide (n≤b.y)||decide (b.most < -1125899906842624)||decide (1125899906842624<b.most) then 2 else 0
def I4 (z:Zn):Int:=if decide (z.n<1)||decide (64<z.n) then 2 else if decide (256<(z.bs.length:Int)) then 5 else Aq (bdE z.n) z.bs

/-! ### Least sums -/
/-- the sums, the last bounds, what was improved last -/
structure Ds where
 sums:List Int
 last:List Int
def E0 (l:List Int)(k:Int):Int:=(l[k.toNat]?).getD 0
def N5 (i:Nat)(b:Bd)(s:Ds×Int):Ds×Int:=
 if decide (E0 s.1.sums b.y+b.most<E0 s.1.sums b.x) then (⟨s.1.sums.set b.x.toNat (E0 s.1.sums b.y+b.most),s.1.last.set b.x.toNat (i:Int)⟩,b.x) else s
def F8:Nat→List Bd→Ds×Int→Ds×Int
 | _,[],s=>s
 | i,b::r,s=>F8 (i+1) r (N5 i b s)
def Jr (bs:List Bd)(d:Ds):Ds×Int:=F8 0 bs (d,-1)
/-- so many rounds, or until nothing is improved: the state, and what was improved last or -1 -/
def D7 (bs:List Bd):Nat→Ds×Int→Ds×Int
 | 0,s=>s
 | n+1,s=>if decide ((Jr bs s.1).2<0) then Jr bs s.1 else D7 bs n (Jr bs s.1)
def Jd (bs:List Bd)(d:Ds)(at_:Int):Int:=((bs[(E0 d.last at_).toNat]?).getD bd0).y
def Kt (bs:List Bd)(d:Ds):Nat→Int→Int
 | 0,a=>a
 | n+1,a=>Kt bs d n (Jd bs d a)
/-- the last bounds from an unknown backwards, until it comes again (at most so many) -/
def cycGo (bs:List Bd)(d:Ds)(from_:Int):Nat→Int→List Int
 | 0,_=>[]
 | n+1,a=>E0 d.last a::if Jd bs d a==from_ then [] else cycGo bs d from_ n (Jd bs d a)
def start (z:Zn):Ds:=⟨List.replicate z.n.toNat 0,List.replicate z.n.toNat (-1)⟩
def Ek (z:Zn):Ds×Int:=D7 z.bs (z.n.toNat+1) (start z,-1)
def yG (z:Zn):List Int×List Int:=
 if decide ((Ek z).2<0) then ((Ek z).1.sums,[])
 else ([],cycGo z.bs (Ek z).1 (Kt z.bs (Ek z).1 z.n.toNat (Ek z).2) (z.n.toNat+1) (Kt z.bs (Ek z).1 z.n.toNat (Ek z).2))
/-- Solve: whether there is a model, the model, the contradiction, the error -/
structure So where
 ok:Bool
 values:List Int
 cycle:List Int
 err:Int
def Ew (z:Zn):So:=
 if I4 z != 0 then ⟨false,[],[],I4 z⟩
 else if decide ((Ek z).2<0) then ⟨true,(Ek z).1.sums.map (fun v=>v-E0 (Ek z).1.sums 0),[],0⟩
 else ⟨false,[],(yG z).2,0⟩

/-! ### The zone of a clause -/
section
variable (T:List Sc) (V:List Va)
def Gf (l:List Lit):Int:=
 if (Db T V (Em true)).2 != 0 then (Db T V (Em true)).2
 else if decide (256<(l.length:Int)) then 5
 else Aq (fun c=>if Eb T V c.cond != 0 then Eb T V c.cond else if Eo T V c.cond||(c.neg&&(c.cond.op==9&&Am T V (Ao c.cond)==0)) then 3 else 0) l
def Aa (l:Lit):Gp×Bool:=
 if l.cond.op==1 then (⟨[D1 l.cond],[],0⟩,true)
 else if !Cu l.cond||Cp T V l.cond then (tO,false)
 else Ch (Ao l.cond) (Bg l.cond)
/-- the number of a term: 0 for none -/
def A2 (ts:List Tm)(l:List Tm):List Tm:=match l with | []=>ts | t::_=>if ts.contains t then ts else ts ++ [t]
def B4 (ts:List Tm)(l:List Tm):Int:=match l with | []=>0 | t::_=>((ts.idxOf t:Nat):Int)+1
def C0 (t:Tm):Int×Int:=if t.op==2 then (0,1099511627776) else if Am T V (Hn t)==1 then (0,1) else (-1099511627776,1099511627776)
def D6 (c:Lit)(x z rest:Int):List Bd:=
 if (c.cond.op==1&&c.neg)||(c.cond.op==8 && !c.neg) then [⟨x,z,0-rest⟩]
 else if c.cond.op==1||c.cond.op==8 then [⟨z,x,rest-1⟩]
 else if c.cond.op==7 && !c.neg then [⟨x,z,0-rest-1⟩]
 else if c.cond.op==7 then [⟨z,x,rest⟩]
 else [⟨x,z,0-rest⟩,⟨z,x,rest⟩]
/-- the unknowns and the bounds so far -/
structure Sy where
 ts:List Tm
 bs:List Bd
def Dd (s:Sy)(c:Lit):Sy:=
 if !(Aa T V c).2 then s
 else ⟨A2 (A2 s.ts (Aa T V c).1.plus) (Aa T V c).1.minus,
  s.bs++D6 c (B4 (A2 s.ts (Aa T V c).1.plus) (Aa T V c).1.plus) (B4 (A2 (A2 s.ts (Aa T V c).1.plus) (Aa T V c).1.minus) (Aa T V c).1.minus) (Aa T V c).1.rest⟩
def Cg (l:List Lit):Sy:=l.foldl (Dd T V) ⟨[],[]⟩
def Hl:Nat→List Tm→List Bd
 | _,[]=>[]
 | i,t::r=>⟨(i:Int)+1,0,(C0 T V t).2⟩::⟨0,(i:Int)+1,0-(C0 T V t).1⟩::Hl (i+1) r
def zoneOf (s:Sy):Zn:=⟨(s.ts.length:Int)+1,Hl T V 0 s.ts++s.bs⟩
def C5 (l:List Lit):Zn:=zoneOf T V (Cg T V l)
def I8 (z:Zn):Bool:=decide (z.n≤64)&&decide ((z.bs.length:Int)≤256)
structure Zr where
 zone:Zn
 terms:List Ex
 err:Int
def Qq (l:List Lit):Zr:=
 if Gf T V l != 0 then ⟨zn0,[],Gf T V l⟩
 else if !I8 (C5 T V l) then ⟨zn0,[],17⟩ else ⟨C5 T V l,(Cg T V l).ts.map Hn,0⟩

/-! ### Strings -/
structure Wd where
 const:Bool
 text:List UInt8
 field:Tm
deriving DecidableEq
end
def tm0:Tm:=⟨0,0,0⟩
def Lb (w:Wd):List AV:=[.bool w.const,.str w.text,.int .i64 w.field.op,.int .i64 w.field.v,.int .i64 w.field.field]
def B9 (e:Ex):Wd:=if e.op==0 then ⟨true,e.val.text,tm0⟩ else ⟨false,[],D1 e⟩
abbrev Wm:=List (Wd×Wd)
def F9 (w:Wm)(x:Wd):Option Wd:=(w.find? fun p=>p.1=x).map (·.2)
def Qj (w:Wm):Nat→Wd→Wd
 | 0,x=>x
 | n+1,x=>match F9 w x with | some y=>Qj w n y | none=>x
def Cc (w:Wm)(x:Wd):Wd:=Qj w w.length x
section
variable (T:List Sc) (V:List Va)
def Cd (sign:Bool)(c:Lit):Bool:=c.neg != sign&&(Cp T V c.cond&&B5 T V c.cond)
def E8 (w:Wm)(c:Lit):Wm×Bool:=
 let a:=Cc w (B9 (Ao c.cond));let b:=Cc w (B9 (Bg c.cond))
 if a=b then (w,true) else if a.const&&b.const then (w,false) else if a.const then (w ++ [(b,a)],true) else (w ++ [(a,b)],true)
def I9:List Lit→Wm→Wm×Bool
 | [],w=>(w,true)
 | c::r,w=>if !Cd T V true c then I9 r w else if !(E8 w c).2 then ((E8 w c).1,false) else I9 r (E8 w c).1
def N6 (w:Wm):List Lit→Bool
 | []=>true
 | c::r=>if !Cd T V false c then N6 w r else if Cc w (B9 (Ao c.cond))=Cc w (B9 (Bg c.cond)) then false else N6 w r
def Ef (l:List Lit):Wm×Bool:=((I9 T V l []).1,(I9 T V l []).2&&N6 T V (I9 T V l []).1 l)
end

theorem Ci {α:Type}{b:Bool}{x y:α}(h:b=false):(if b=true then x else y)=y:=if_neg (by rw [h];decide)
theorem Ii {α:Type}(f:Ex→α)(d:α){e:Ex}(h:0<e.args.length):Ql d (e.args.map f)=f (Ao e):=by
 unfold Ql Ao
 cases ha:e.args with
 | nil=>rw [ha] at h;cases h
 | cons a r=>rfl
theorem Iv {α:Type}(f:Ex→α)(d:α){e:Ex}(h:1<e.args.length):Wn d (e.args.map f)=f (Bg e):=by
 unfold Wn Bg
 rw [List.getElem?_map,List.getElem?_eq_getElem h];rfl
theorem Dg {e:Ex}(h:Bw e=0)(ho:5≤e.op∧e.op≤11):1<e.args.length:=by
 obtain ⟨_,_,h3⟩:=Hb h
 have:D4 e.op=2:=by
  unfold D4
  rw [if_neg (by omega),if_neg (by omega),if_neg (by omega)]
 omega
theorem Xw {e:Ex}(h:Bw e=0)(ho:e.op<5):e.args = []:=by
 obtain ⟨h1,_,h3⟩:=Hb h
 have:D4 e.op=0:=by
  unfold D4
  rw [if_neg (by omega),if_pos (by omega)]
 exact List.length_eq_zero_iff.1 (by omega)
theorem Zg (op:Int)(x y:Ex):cE (two op x y) = [.int .i64 op,.sl 8 [cE x,cE y],.int .i64 0,.int .i64 0,.int .i64 0,.int .i64 0,.int .i64 0,.str []]:=by
 show [AV.int .i64 op,.sl 8 [Fu x,Fu y],.int .i64 0,.int .i64 0,.int .i64 0,.int .i64 0,.int .i64 0,.str []]=_
 rw [Jg,Jg]
theorem aJ (x:Ex):cE (Ov x) = [.int .i64 12,.sl 8 [cE x],.int .i64 0,.int .i64 0,.int .i64 0,.int .i64 0,.int .i64 0,.str []]:=by
 show [AV.int .i64 12,.sl 8 [Fu x],.int .i64 0,.int .i64 0,.int .i64 0,.int .i64 0,.int .i64 0,.str []]=_
 rw [Jg]
theorem xB {e:Ex}(h:(e.op==10)=true)(hl:1<e.args.length):Fh e=two 11 (Fh (Ao e)) (Fh (Bg e)):=by
 rw [K7,Vp,if_pos h,Ii Fh _ (by omega),Iv Fh _ hl]
theorem negS_or {e:Ex}(h1:(e.op==10)=false)(h:(e.op==11)=true)(hl:1<e.args.length):Fh e=two 10 (Fh (Ao e)) (Fh (Bg e)):=by
 rw [K7,Vp,Ci h1,if_pos h,Ii Fh _ (by omega),Iv Fh _ hl]
theorem fA {e:Ex}(h1:(e.op==10)=false)(h2:(e.op==11)=false)(h3:(e.op==12)=false)(h4:(e.op==7)=false)(h5:(e.op==8)=false)(h6:(e.op==0&&e.val.kind==1)=false):AV.agg (cE (Fh e)) = .agg [.int .i64 12,.sl 8 [cE e],.int .i64 0,.int .i64 0,.int .i64 0,.int .i64 0,.int .i64 0,.str []]:=by
 rw [K7,Vp,Ci h1,Ci h2,Ci h3,Ci h4,Ci h5,Ci h6,aJ]
theorem pY {vars:List (List Ev)}{v:Int}{l:List Ev}(h0:0≤v)(h:vars[v.toNat]? = some l):Bt vars v=l:=by
 have:=(List.getElem?_eq_some_iff.1 h).1
 unfold Bt
 rw [if_neg (by simp;omega),h];rfl
/-! the reference's -/
def rreadE (e:Ex)(ev:Ev):Ex×Int:=if e.op==1&&decide ((ev.values.length:Int)≤e.field) then (e,6) else (Ol (Lz e ev).1,(Lz e ev).2)
def rknownN (vars:List (List Ev))(e:Ex)(ks:List (Ex×Int)):Ex×Int:=
 if e.op==1||e.op==2 then
  (if ((Bt vars e.var).length:Int)==0 then (e,0) else rreadE e ((Bt vars e.var).getLast?.getD Kl))
 else match (okL ks).2 with
  | some p=>(e,p.2)
  | none=>(⟨e.op,(okL ks).1,e.var,e.field,e.kind,e.val⟩,0)
def rknownE (vars:List (List Ev)):Ex→Ex×Int:=Rh (rknownN vars)
theorem dP {vars:List (List Ev)}{v:Int}(h:0<(Bt vars v).length):Bt vars v∈vars:=by
 unfold Bt at h ⊢
 split
 · rename_i h1;rw [if_pos h1] at h;simp at h
 ·
  rename_i h1
  rw [if_neg h1] at h
  cases hl:vars[v.toNat]? with
  | none=>rw [hl] at h;simp at h
  | some l=>exact List.mem_of_getElem? hl
theorem vM {e:Ex}(h:0<e.args.length):Ar (Ao e)<Ar e:=Gv (A4 h)
theorem R6 {e:Ex}(h:(Bu e != 0)=false):C1 e=0:=by
 have h0:Bu e=0:=by simpa using h
 unfold Bu at h0
 split at h0
 · cases h0
 ·
  split at h0
  · cases h0
  · exact h0
theorem Yp {e:Ex}(h:(Bu e != 0)=false):Ar e≤64:=by
 have h0:Bu e=0:=by simpa using h
 unfold Bu at h0
 split at h0
 · cases h0
 ·
  rename_i h1
  simp at h1
  omega
theorem Ss (op:Int)(a b:Ex):Ar (two op a b)=Ar a+Ar b+1:=by
 rw [D5];simp [two];omega
theorem wQ (e:Ex):C1 e=0→Ar (Fh e)≤2*Ar e:=by
  refine Ex.Aak (P:=fun e=>C1 e=0→Ar (Fh e)≤2*Ar e) (fun e ih hn=>?_) e
  have hz:=Bb hn
  have hp:=D5 e
  rw [K7]
  unfold Vp
  have hsum2:∀h:1<e.args.length,Ar (Ao e)+Ar (Bg e)+1≤Ar e:=fun h=>by
    have h0:=get0 (show 0<e.args.length by omega)
    have h1:=get1 h
    cases ha:e.args with
    | nil=>rw [ha] at h;simp at h
    | cons a r=>
      cases r with
      | nil=>rw [ha] at h;simp at h
      | cons b r=>
        have e0:Ao e=a:=by unfold Ao;rw [ha];rfl
        have e1:Bg e=b:=by unfold Bg;rw [ha];rfl
        rw [e0,e1,hp,ha];simp;omega
  split
  · rename_i h
    have hl:=Dg hz.1 (by simp at h;omega)
    rw [Ii Fh _ (by omega),Iv Fh _ hl,Ss]
    have:=ih _ (A4 (by omega)) (hz.2 _ (A4 (by omega)))
    have:=ih _ (Bi hl) (hz.2 _ (Bi hl))
    have:=hsum2 hl
    omega
  · split
    · rename_i h
      have hl:=Dg hz.1 (by simp at h;omega)
      rw [Ii Fh _ (by omega),Iv Fh _ hl,Ss]
      have:=ih _ (A4 (by omega)) (hz.2 _ (A4 (by omega)))
      have:=ih _ (Bi hl) (hz.2 _ (Bi hl))
      have:=hsum2 hl
      omega
    · split
      · rename_i h
        have:=vM (V7 hz.1 (by simpa using h));omega
      · split
        · rename_i h
          have hl:=Dg hz.1 (by simp at h;omega)
          rw [Ss];have:=hsum2 hl;omega
        · split
          · rename_i h
            have hl:=Dg hz.1 (by simp at h;omega)
            rw [Ss];have:=hsum2 hl;omega
          · split
            · have:Ar (Em (e.val.num==0))=1:=by rw [D5];rfl
              omega
            · have:Ar (Ov e)=Ar e+1:=by rw [D5];simp [Ov];omega
              have h1:1≤Ar e:=by omega
              omega
end Go.Proofs.YtkddpedfbicbeaaGreatDoor
