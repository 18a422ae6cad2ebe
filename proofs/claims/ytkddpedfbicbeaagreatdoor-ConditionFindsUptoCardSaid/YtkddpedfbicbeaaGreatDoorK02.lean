/-
  Several texts in one: M10, M11, S11, S12, S11b. No condition.
-/
import Derived.Test.YtkddpedfbicbeaaGreatDoorK01
set_option linter.unusedVariables false
set_option linter.unusedSimpArgs false
namespace Go.Proofs.YtkddpedfbicbeaaGreatDoor
open Go Go.Aw

structure Fi where
 name:List UInt8
 kind:Int
structure Sc where
 name:List UInt8
 fields:List Fi
structure Va where
 name:List UInt8
 type:Int
def cFi (f:Fi):List AV:=[.str f.name,.int .i64 f.kind]
def Nx (s:Sc):List AV:=[.str s.name,.sl 2 (s.fields.map cFi)]
def Uw (v:Va):List AV:=[.str v.name,.int .i64 v.type]
def sc0:Sc:=⟨[],[]⟩
def fi0:Fi:=⟨[],0⟩
def va0:Va:=⟨[],0⟩

def T5 (n:Int):Bool:=n==95||(decide (97≤n)&&decide (n≤122))||(decide (65≤n)&&decide (n≤90))
def Vq (n:Int):Bool:=decide (48≤n)&&decide (n≤57)
def dN (b:UInt8):Bool:=T5 b.toNat||Vq b.toNat
def N2 (s:List UInt8):Bool:=!(s.length==0)&&decide (s.length≤24) && !digS ((s.headD 0).toNat)&&s.all dN
def vW:List UInt8:=[116,105,109,101]
def xV (s:List UInt8):Bool:=N2 s && !(s==vW)

def D8 (seen:List (List UInt8))(f:Fi):Int:=
 if !fnameS f.name then 8 else if seen.contains f.name then 7 else if decide (f.kind<0)||decide (3≤f.kind) then 1 else 0
def If:List (List UInt8)→List Fi→Int
 | _,[]=>0
 | seen,f::r=>if D8 seen f != 0 then D8 seen f else If (seen ++ [f.name]) r
def Ik (s:Sc):Int:=if !nameS s.name then 8 else if decide (8<(s.fields.length:Int)) then 5 else If [] s.fields
def Hu (seen:List (List UInt8))(s:Sc):Int:=if Ik s != 0 then Ik s else if seen.contains s.name then 7 else 0
def J0:List (List UInt8)→List Sc→Int
 | _,[]=>0
 | seen,s::r=>if Hu seen s != 0 then Hu seen s else J0 (seen ++ [s.name]) r
def Ea (l:List Sc):Int:=if decide (16<(l.length:Int)) then 5 else J0 [] l

/-- the first place of a name -/
def Oc (ns:List (List UInt8))(n:List UInt8):Int:=if ns.contains n then ((ns.idxOf n:Nat):Int) else -1
theorem O8 {ns:List (List UInt8)}{k:Nat}{n:List UInt8}(h:ns[k]? = some n):decide (Oc ns n<(k:Int))=(ns.take k).contains n:=by
 have hm:n∈ns:=List.mem_of_getElem? h
 have hc:ns.contains n=true:=by simpa using hm
 unfold Oc
 rw [if_pos hc]
 have key:ns.idxOf n<k↔n∈ns.take k:=by
  constructor
  ·
   intro hlt
   have h1:ns.idxOf n<ns.length:=List.idxOf_lt_length_of_mem hm
   have h2:ns[ns.idxOf n]=n:=List.getElem_idxOf h1
   rw [List.mem_take_iff_getElem]
   exact ⟨ns.idxOf n,by omega,h2⟩
  ·
   intro hmem
   obtain ⟨i,hi,he⟩:=List.mem_take_iff_getElem.1 hmem
   have:ns.idxOf n≤i:=by
    refine Nat.le_of_not_lt fun hlt=>?_
    have h4:=List.not_of_lt_findIdx (p:=fun x=>x==n) (xs:=ns) (i:=i) hlt
    simp only [he] at h4
    simp at h4
   omega
 by_cases hk:ns.idxOf n<k
 ·
  have h2:=key.1 hk
  have e1:decide (((ns.idxOf n:Nat):Int)<(k:Int))=true:=by simp;omega
  rw [e1];symm;simpa using h2
 ·
  have h2:¬n∈ns.take k:=fun h=>hk (key.2 h)
  have e1:decide (((ns.idxOf n:Nat):Int)<(k:Int))=false:=by simp;omega
  rw [e1];symm;simpa using h2
/-! ### Kinds -/
def Oj (n:Int)(v:Va):Int:=if decide (v.type<0)||decide (n≤v.type) then 6 else 0
def Hz (types:List Sc)(vars:List Va):Int:=if decide (16<(vars.length:Int)) then 5 else Aq (Oj types.length) vars

def Fs (types:List Sc)(vars:List Va)(v:Int):List Fi:=((types[((vars[v.toNat]?).getD va0).type.toNat]?).getD sc0).fields
def Hr (l:List Fi)(k:Int):Int:=((l[k.toNat]?).getD fi0).kind
def F1 (types:List Sc)(vars:List Va)(e:Ex):Int×Int:=
 if e.op==0 then (e.val.kind,0)
 else if decide ((vars.length:Int)≤e.var) then (0,6)
 else if e.op==2||e.op==3 then (0,0)
 else if decide (((Fs types vars e.var).length:Int)≤e.field) then (0,6)
 else if e.op==4&&(Hr (Fs types vars e.var) e.field != e.val.kind || !esuitsS e.kind ⟨Hr (Fs types vars e.var) e.field,0,[]⟩) then (0,9)
 else (Hr (Fs types vars e.var) e.field,0)
def Yf (op:Int):Int:=if op==5||op==6 then 0 else 1

mutual
def Cb (types:List Sc)(vars:List Va):Ex→Int×Int
  | ⟨op,args,var,field,kind,val⟩=>
    if args.isEmpty then F1 types vars ⟨op,args,var,field,kind,val⟩
    else if (Kj types vars args).2 != 0 then (0,(Kj types vars args).2)
    else if Dj op (Kj types vars args).1 != 0 then (0,Dj op (Kj types vars args).1) else (Yf op,0)
def Kj (types:List Sc)(vars:List Va):List Ex→List Int×Int
 | []=>([],0)
 | e::r=>if (Cb types vars e).2 != 0 then ([],(Cb types vars e).2) else if (Kj types vars r).2 != 0 then ([],(Kj types vars r).2) else ((Cb types vars e).1::(Kj types vars r).1,0)
end
theorem Ti (types:List Sc)(vars:List Va):∀l,(Kj types vars l).2=Aq (fun a=>(Cb types vars a).2) l
  | []=>by simp [Kj,Aq]
  | e::r=>by
    have:=Ti types vars r
    by_cases h:((Cb types vars e).2 != 0)=true
    · rw [Kj,Aq,if_pos h,if_pos h]
    · rw [Kj,Aq,if_neg h,if_neg h,←this]
      by_cases h2:((Kj types vars r).2 != 0)=true
      · rw [if_pos h2]
      · rw [if_neg h2]
        have h3:(Kj types vars r).2=0:=by simpa using h2
        exact h3.symm
theorem iH (types:List Sc)(vars:List Va):∀l,Aq (fun a=>(Cb types vars a).2) l=0→(Kj types vars l).1=l.map fun a=>(Cb types vars a).1
  | [],_=>by simp [Kj]
  | e::r,h=>by
    simp only [Aq] at h
    by_cases h1:((Cb types vars e).2 != 0)=true
    · rw [if_pos h1] at h;simp [h] at h1
    · rw [if_neg h1] at h
      have h2:¬((Kj types vars r).2 != 0)=true:=by rw [Ti,h];simp
      rw [Kj,if_neg h1,if_neg h2]
      simp [iH types vars r h]
theorem Ee (types:List Sc)(vars:List Va)(e:Ex):Cb types vars e=if e.args.isEmpty then F1 types vars e else if Aq (fun a=>(Cb types vars a).2) e.args != 0 then (0,Aq (fun a=>(Cb types vars a).2) e.args)
  else if Dj e.op (e.args.map fun a=>(Cb types vars a).1) != 0 then (0,Dj e.op (e.args.map fun a=>(Cb types vars a).1)) else (Yf e.op,0):=by
 cases e with | mk op args var field kind val=>
 rw [Cb]
 simp only [Ti]
 by_cases h:Aq (fun a=>(Cb types vars a).2) args=0
 · simp [h,iH types vars args h]
 · simp [h]
def Db (types:List Sc)(vars:List Va)(e:Ex):Int×Int:=
 if Ea types != 0 then (0,Ea types) else if Hz types vars != 0 then (0,Hz types vars) else if Bx e != 0 then (0,Bx e) else Cb types vars e

/-- what the bound of the law says -/
def shortS (types:List Sc)(vars:List Va):Bool:=!((types.take 30).any fun s=>decide (12<(s.fields.length:Int)))&&(decide ((types.length:Int)≤20)&&decide ((vars.length:Int)≤20))


def kE (v:Vl)(k:Int):Prop:=v.kind=k∧Ap v=0
def Wo (s:Sc)(ev:Ev):Prop:=ev.values.length=s.fields.length∧∀(k:Nat) (f:Fi),s.fields[k]? = some f→∃w,ev.values[k]? = some w∧kE w f.kind
def E6 (types:List Sc)(vars:List Va)(env:List (List Ev)):Prop:=
 env.length=vars.length∧∀(i:Nat) (v:Va),vars[i]? = some v→∃s ev,types[v.type.toNat]? = some s∧env[i]? = some [ev]∧Wo s ev

theorem bZ {types:List Sc}{vars:List Va}{i:Int}{v:Va}{s:Sc}(hv:vars[i.toNat]? = some v)(hs:types[v.type.toNat]? = some s):Fs types vars i=s.fields:=by simp [Fs,hv,hs]

theorem jT {k:Int}{w:Vl}(h:Ap w=0)(hs:Fx k w=true):Dl k w=0:=by
 have:E4 k w=true:=by
  unfold Fx at hs;unfold E4
  simp only [Bool.or_eq_true,beq_iff_eq,Bool.and_eq_true,bne_iff_ne] at hs ⊢
  omega
 unfold Dl
 simp [h,this]

theorem aJ {k:Int}{w o:Vl}(hk:1≤k∧k≤5)(hw:Ap w=0)(hs:Fx k w=true)(ho:Dl k o=0):eL k [w] o=(w,0):=by
 have hkn:D3 k=true:=by simp [D3];omega
 have h1:=jT hw hs
 have h2:Aq (Dl k) [w]=0:=by simp [Aq,h1]
 have h0:Bq ⟨k,0,v0⟩=0:=by
  unfold Bq
  simp [hkn,isV0,v0]
 have hst:aY k [w]=⟨k,1,w⟩:=by
  have:(k==0)=false:=by simp;omega
  simp [aY,Jt,E0,E1,this]
 have ha:Bq (aY k [w])=0:=oN [w] ⟨k,0,v0⟩ h0 rfl h2 (by simp)
 unfold eL
 rw [if_neg (by simp [hkn]),if_neg (by simp),if_neg (by rw [h2];decide)]
 rw [hst] at ha ⊢
 unfold Dq
 rw [if_neg (by rw [ha];decide),if_neg (by simp only [ho];decide)]
 have hk0:(k==0)=false:=by simp;omega
 simp [hk0]

theorem U5 {e:Ex}(h:By e=0)(h4:e.op=4):Dl e.kind e.val=0∧1≤e.kind∧e.kind≤5:=by
 unfold By at h
 split at h
 · cases h
 split at h
 · cases h
 split at h
 · cases h
 split at h
 · cases h
 rename_i h5
 have hk:1≤e.kind∧e.kind≤5:=by
  simp [h4] at h5;omega
 rw [if_pos (by simp [h4])] at h
 by_cases hc:Fk e=0
 ·
  refine ⟨?_,hk⟩
  unfold Fk at hc
  by_cases hv:Ap e.val=0
  ·
   rw [if_neg (by simp [hv])] at hc
   by_cases hs:Fx e.kind e.val=true
   · exact jT hv hs
   ·
    exfalso
    rw [if_pos (by simp [h4];left;simpa using hs)] at hc
    cases hc
  · rw [if_pos (by simp [hv])] at hc;exact absurd hc hv
 · rw [if_pos (by simp [hc])] at h;exact absurd h hc

theorem Py (b:Bool):(D2 b).kind=1:=by cases b <;> rfl
theorem kW (op a b:Int)(h9:op≠9):(Gx op a b).kind=Yf op:=by
 unfold Gx Yf
 repeat' split
 all_goals first | rfl | exact Py _ | skip
 all_goals simp_all

theorem Mi {env:List (List Ev)}{ev:Ev}{e:Ex}(hevs:Bv env e.var = [ev])(hown:(e.var != -1)=true)(h0:¬(e.op==0)=true)(h3:¬e.op=3)(h4:¬e.op=4):Fb ⟨env,-1,Km⟩ e=G5 ev e:=by
 unfold Fb
 rw [if_neg h0,if_neg (by simp [h3]),if_neg (by simp [h4]),if_pos hown]
 simp only [hevs]
 rfl

theorem Sr {types:List Sc}{vars:List Va}{env:List (List Ev)}(hS:E6 types vars env)(e:Ex)(hn:C3 e=0)(hk:(Cb types vars e).2=0) :
    (B0 ⟨env,-1,Km⟩ e).2=0∧(B0 ⟨env,-1,Km⟩ e).1.kind=(Cb types vars e).1:=by
  induction e using Ex.Abu with
  | h e ih=>
    have hz:=Be hn
    have hvr:=Mm hz.1
    have hfr:=J4 hz.1
    by_cases ha:e.args = []
    · rw [Ee types vars e,if_pos (by simp [ha])] at hk ⊢
      rw [Mj ha]
      unfold F1 at hk ⊢
      by_cases h0:(e.op==0)=true
      · rw [if_pos h0] at hk ⊢
        unfold Fb;rw [if_pos h0];exact ⟨rfl,rfl⟩
      rw [if_neg h0] at hk ⊢
      by_cases h1:decide ((vars.length:Int)≤e.var)=true
      · rw [if_pos h1] at hk;cases hk
      rw [if_neg h1] at hk ⊢
      have hlt:e.var<(vars.length:Int):=by simp at h1;omega
      obtain ⟨v,hv⟩:=Hw (l:=vars) hvr.1 hlt
      obtain ⟨s,ev,hs,hev,hse⟩:=hS.2 _ v hv
      have hel:e.var<(env.length:Int):=by rw [hS.1];exact hlt
      have hevs:Bv env e.var = [ev]:=by
        unfold Bv
        rw [if_neg (by simp;omega),hev];rfl
      have hown:(e.var != -1)=true:=by simp;omega
      have hfl:Fs types vars e.var=s.fields:=bZ hv hs
      rw [hfl] at hk ⊢
      by_cases h3:e.op=3
      · unfold Fb
        rw [if_neg h0,if_pos (by simp [h3])]
        rw [if_pos (by simp [h3])]
        exact ⟨rfl,rfl⟩
      by_cases h2:e.op=2
      · rw [Mi hevs hown h0 h3 (by omega),if_pos (by simp [h2])]
        unfold G5
        rw [if_pos (by simp [h2])]
        exact ⟨rfl,rfl⟩
      rw [if_neg (by simp [h2,h3])] at hk ⊢
      by_cases h4:decide ((s.fields.length:Int)≤e.field)=true
      · rw [if_pos h4] at hk;cases hk
      rw [if_neg h4] at hk ⊢
      obtain ⟨f,hf⟩:=Hw (l:=s.fields) hfr (by simp at h4;omega)
      obtain ⟨w,hw,hgw⟩:=hse.2 _ f hf
      have hka:Hr s.fields e.field=f.kind:=by simp [Hr,hf]
      have hfs:Do ev e.field=(w,0):=by
        unfold Do
        rw [if_neg (by rw [hse.1];exact h4),hw];rfl
      rw [hka] at hk ⊢
      by_cases h5:e.op=4
      · by_cases h6:(e.op==4&&(f.kind != e.val.kind || !esuitsS e.kind ⟨f.kind,0,[]⟩))=true
        · rw [if_pos h6] at hk;cases hk
        rw [if_neg h6]
        have htw:=U5 hz.1 h5
        have hes:Fx e.kind w=true:=by
          simp [h5] at h6
          have:=h6.2
          unfold Fx at this ⊢
          rw [hgw.1];exact this
        unfold Fb Oz
        rw [if_neg h0,if_neg (by simp [h3]),if_pos (by simp [h5]),hevs]
        have e1:Aq (fun v=>(Do v e.field).2) [ev]=0:=by simp [Aq,hfs]
        rw [if_neg (by rw [e1];decide)]
        have e2:([ev].map fun v=>(Do v e.field).1) = [w]:=by simp [hfs]
        rw [e2,aJ ⟨htw.2.1,htw.2.2⟩ hgw.2 hes htw.1]
        exact ⟨rfl,hgw.1⟩
      · have h6:¬(e.op==4&&(f.kind != e.val.kind || !esuitsS e.kind ⟨f.kind,0,[]⟩))=true:=by simp [h5]
        rw [if_neg h6]
        rw [Mi hevs hown h0 h3 h5]
        unfold G5
        rw [if_neg (by simp [h2]),hfs,if_pos (by rfl),if_neg (by rw [hgw.2];decide)]
        exact ⟨rfl,hgw.1⟩
    · have hne:¬e.args.isEmpty=true:=by simpa using ha
      rw [Ee types vars e,if_neg hne] at hk ⊢
      by_cases h1:(Aq (fun a=>(Cb types vars a).2) e.args != 0)=true
      · rw [if_pos h1] at hk;simp at h1 hk;exact absurd hk h1
      rw [if_neg h1] at hk ⊢
      have hka:=Ha (f:=fun a=>(Cb types vars a).2) (l:=e.args) (by simpa using h1)
      have hih:∀a∈e.args,_:=fun a hm=>ih a hm (hz.2 a hm) (hka a hm)
      by_cases h2:(Dj e.op (e.args.map fun a=>(Cb types vars a).1) != 0)=true
      · rw [if_pos h2] at hk;simp at h2 hk;exact absurd hk h2
      rw [if_neg h2]
      have hkinds:(e.args.map fun a=>(B0 ⟨env,-1,Km⟩ a).1).map (·.kind)=e.args.map fun a=>(Cb types vars a).1:=by
        rw [List.map_map]
        exact List.map_congr_left fun a hm=>(hih a hm).2
      rw [Yc ha fun a hm=>(hih a hm).1]
      unfold Kw
      rw [hkinds,if_neg h2]
      by_cases h9:(e.op==9)=true
      · rw [if_pos h9]
        refine ⟨rfl,?_⟩
        rw [Py]
        simp only [beq_iff_eq] at h9
        rw [h9];rfl
      · rw [if_neg h9]
        exact ⟨rfl,kW _ _ _ (by simpa using h9)⟩


/-! ### Recursion over expressions -/
section
variable {α:Type} (f:Ex→List α→α)
mutual
def Q2:Ex→α
 | ⟨op,args,var,field,kind,val⟩=>f ⟨op,args,var,field,kind,val⟩ (zH args)
def zH:List Ex→List α
 | []=>[]
 | e::r=>Q2 e::zH r
end
theorem gS:∀l:List Ex,zH f l=l.map (Q2 f)
 | []=>by simp [zH]
 | e::r=>by simp [zH,gS r]
theorem dH (e:Ex):Q2 f e=f e (e.args.map (Q2 f)):=by cases e;rw [Q2,gS]
end
def Qd {α:Type}(d:α)(l:List α):α:=l.headD d
def Yb {α:Type}(d:α)(l:List α):α:=(l[1]?).getD d

/-! ### Nodes -/
def two (op:Int)(a b:Ex):Ex:=⟨op,[a,b],0,0,0,v0⟩
def Oq (a:Ex):Ex:=⟨12,[a],0,0,0,v0⟩
def Em (b:Bool):Ex:=Ov (D2 b)

/-! ### Negation -/
def Vo (e:Ex)(ns:List Ex):Ex:=
 if e.op==10 then two 11 (Qd V7 ns) (Yb V7 ns)
 else if e.op==11 then two 10 (Qd V7 ns) (Yb V7 ns)
 else if e.op==12 then Ao e
 else if e.op==7 then two 8 (Bi e) (Ao e)
 else if e.op==8 then two 7 (Bi e) (Ao e)
 else if e.op==0&&e.val.kind==1 then Em (e.val.num==0)
 else Oq e
def Fc:Ex→Ex:=Q2 Vo
theorem K4 (e:Ex):Fc e=Vo e (e.args.map Fc):=dH Vo e
def Cy (e:Ex):Ex×Int:=if Bx e != 0 then (V7,Bx e) else if Bx (Fc e) != 0 then (V7,Bx (Fc e)) else (Fc e,0)

/-! ### What is known -/
def Lx (e:Ex)(ev:Ev):Vl×Int:=
 if e.op==1 then (if decide ((ev.values.length:Int)≤e.field) then (⟨0,ev.time,[]⟩,6) else ((ev.values[e.field.toNat]?).getD v0,Ap ((ev.values[e.field.toNat]?).getD v0)))
 else (⟨0,ev.time,[]⟩,Ap ⟨0,ev.time,[]⟩)
/-- the expressions, or the first error with what stands there -/
def okL:List (Ex×Int)→List Ex×Option (Ex×Int)
 | []=>([],none)
 | p::r=>if p.2 != 0 then ([],some p) else ((p.1::(okL r).1),(okL r).2)
def knownN (vars:List (List Ev))(e:Ex)(ks:List (Ex×Int)):Ex×Int:=
  if e.op==1||e.op==2 then
    (if ((Bv vars e.var).length:Int)==0 then (e,0)
     else (Ov (Lx e ((Bv vars e.var).getLast?.getD Km)).1,(Lx e ((Bv vars e.var).getLast?.getD Km)).2))
  else match (okL ks).2 with
    | some p=>p
    | none=>(⟨e.op,(okL ks).1,e.var,e.field,e.kind,e.val⟩,0)
def mL (vars:List (List Ev)):Ex→Ex×Int:=Q2 (knownN vars)
def KnownS (vars:List (List Ev))(e:Ex):Ex×Int:=if Bx e != 0 then (V7,Bx e) else if (mL vars e).2 != 0 then (V7,(mL vars e).2) else ((mL vars e).1,0)

/-! ### Terms and differences -/
structure Tm where
 op:Int
 v:Int
 field:Int
deriving DecidableEq
def Ia (t:Tm):List AV:=[.int .i64 t.op,.int .i64 t.v,.int .i64 t.field]
def Ho (t:Tm):Ex:=⟨t.op,[],t.v,t.field,0,v0⟩
def D0 (e:Ex):Tm:=⟨e.op,e.var,e.field⟩
structure Gp where
 plus:List Tm
 minus:List Tm
 rest:Int
def tV:Gp:=⟨[],[],0⟩
def cGp (g:Gp):List AV:=[.sl 3 (g.plus.map Ia),.sl 3 (g.minus.map Ia),.int .i64 g.rest]
/-- a sum: terms with their coefficients, in order of their first occurrence; the constant -/
structure Su where
 ts:List (Tm×Int)
 rest:Int
def Ks:Su:=⟨[],0⟩
def Io (t:Tm)(b:Int):List (Tm×Int)→List (Tm×Int)
 | []=>[(t,b)]
 | p::r=>if t=p.1 then (p.1,p.2+b)::r else p::Io t b r
abbrev M1:=Int→Su→Su×Bool
def cM (e:Ex)(fs:List M1):M1:=fun b s=>
 if e.op==0 then (⟨s.ts,s.rest+b*e.val.num⟩,true)
 else if e.op==1||e.op==2 then (⟨Io (D0 e) b s.ts,s.rest⟩,true)
 else if e.op==5 then
  (if !((Qd (fun _ s=>(s,false)) fs:M1) b s).2 then (((Qd (fun _ s=>(s,false)) fs:M1) b s).1,false) else (Yb (fun _ s=>(s,false)) fs:M1) b ((Qd (fun _ s=>(s,false)) fs:M1) b s).1)
 else if e.op==6 then
  (if !((Qd (fun _ s=>(s,false)) fs:M1) b s).2 then (((Qd (fun _ s=>(s,false)) fs:M1) b s).1,false) else (Yb (fun _ s=>(s,false)) fs:M1) (0-b) ((Qd (fun _ s=>(s,false)) fs:M1) b s).1)
 else (s,false)
def Bp:Ex→M1:=Q2 cM
theorem Pq (e:Ex):Bp e=cM e (e.args.map Bp):=dH cM e
/-- the terms with coefficient 1, with -1; none if there is another coefficient -/
def Dt:List (Tm×Int)→List Tm→List Tm→Option (List Tm×List Tm)
 | [],p,m=>some (p,m)
 | t::r,p,m=>if t.2==0 then Dt r p m else if t.2==1 then Dt r (p ++ [t.1]) m else if t.2 == -1 then Dt r p (m ++ [t.1]) else none
def S5 (s:Su):Gp×Bool:=match Dt s.ts [] [] with
 | some (p,m)=>(⟨p,m,s.rest⟩,decide ((p.length:Int)≤1)&&decide ((m.length:Int)≤1))
 | none=>(tV,false)
def Ch (a b:Ex):Gp×Bool:=
 if !(Bp a 1 Ks).2 then (tV,false) else if !(Bp b (-1) (Bp a 1 Ks).1).2 then (tV,false) else S5 (Bp b (-1) (Bp a 1 Ks).1).1

/-! ### Conditions -/
section
variable (T:List Sc) (V:List Va)
abbrev kd (e:Ex):Int:=(Cb T V e).1
/-- the kind, as it is read off an expression that has one -/
def Am (e:Ex):Int:=
 if e.op==0||e.op==4 then e.val.kind
 else if e.op==1 then Hr (Fs T V e.var) e.field
 else if e.op==2||e.op==3||e.op==5||e.op==6 then 0 else 1
def Eb (e:Ex):Int:=if (Db T V e).2 != 0 then (Db T V e).2 else if (Db T V e).1 != 1 then 9 else 0
def Hn (e:Ex):Bool:=e.op==7||e.op==8||e.op==9
def Dp (e:Ex):Bool:=e.op==9&&Am T V (Ao e)==2
def R9 (a:Ex):Bool:=a.op==0||a.op==1
def Cz (e:Ex):Bool:=
 if e.op==1 then true else if !comparesS e then false else if Dp T V e then R9 (Ao e)&&R9 (Bi e) else (Ch (Ao e) (Bi e)).2
def E3 (e:Ex):Bool:=if e.op==9 then Am T V (Ao e)==1 else e.op==10||e.op==11||e.op==12||e.op==0
def plainN (e:Ex)(ps:List Bool):Bool:=if !composedS T V e then Cz T V e else ps.all id
def plainS:Ex→Bool:=Q2 (plainN T V)
def PlainS (e:Ex):Bool×Int:=if Eb T V e != 0 then (false,Eb T V e) else (plainS T V e,0)
end

/-! ### Clauses -/
structure Lit where
 cond:Ex
 neg:Bool
def G2 (l:Lit):List AV:=[.int .i64 l.cond.op,.sl 8 (l.cond.args.map Fu),.int .i64 l.cond.var,.int .i64 l.cond.field,.int .i64 l.cond.kind,.int .i64 l.cond.val.kind,.int .i64 l.cond.val.num,.str l.cond.val.text,.bool l.neg]
def Pp (c:List Lit):List AV:=[.sl 9 (c.map G2)]
/-- clauses; whether there are not too many -/
abbrev Cs:=List (List Lit)×Bool
def Ei (c:Cs):List AV:=[.sl 1 (c.1.map Pp),.bool c.2]
def Mo {α:Type}(a b:List (List α)):List (List α)×Bool:=if decide ((256:Int)<(a.length:Int)*(b.length:Int)) then ([],false) else (a.flatMap fun x=>b.map fun y=>x++y,true)
def Ek (a b:Cs):Cs:=if !a.2 || !b.2 then ([],false) else Mo a.1 b.1
def Jf (a b:Cs):Cs:=if (!a.2 || !b.2)||decide ((256:Int)<(a.1.length:Int)+(b.1.length:Int)) then ([],false) else (a.1++b.1,true)
def Eg (l:List Lit):Cs:=(l.map fun x=>[x],true)
section
variable (T:List Sc) (V:List Va)
abbrev Hh:=Bool→Cs
def Ol (e:Ex)(fs:List Hh):Hh:=fun sign=>
  if e.op==0 then (if (e.val.num==1)==sign then ([[]],true) else ([],true))
  else if e.op==12 then (Qd (fun _=>([],false)) fs:Hh) (!sign)
  else if e.op==10||e.op==11 then
    (if (e.op==10)==sign then Ek ((Qd (fun _=>([],false)) fs:Hh) sign) ((Yb (fun _=>([],false)) fs:Hh) sign)
     else Jf ((Qd (fun _=>([],false)) fs:Hh) sign) ((Yb (fun _=>([],false)) fs:Hh) sign))
  else if e.op==9&&Am T V (Ao e)==1 then
    Jf (Ek ((Qd (fun _=>([],false)) fs:Hh) true) ((Yb (fun _=>([],false)) fs:Hh) sign)) (Ek ((Qd (fun _=>([],false)) fs:Hh) false) ((Yb (fun _=>([],false)) fs:Hh) (!sign)))
  else if e.op==9&&(Am T V (Ao e)==0 && !sign) then Eg [⟨two 7 (Ao e) (Bi e),false⟩,⟨two 7 (Bi e) (Ao e),false⟩]
  else Eg [⟨e,!sign⟩]
def Da:Ex→Hh:=Q2 (Ol T V)
theorem Jg (e:Ex):Da T V e=Ol T V e (e.args.map (Da T V)):=dH _ e
def Jb (e:Ex):List (List Lit)×Int:=if Eb T V e != 0 then ([],Eb T V e) else if !(Da T V e true).2 then ([],17) else ((Da T V e true).1,0)
end

/-! ### Zones -/
structure Bd where
 x:Int
 y:Int
 most:Int
deriving DecidableEq
def bd0:Bd:=⟨0,0,0⟩
def Rq (b:Bd):List AV:=[.int .i64 b.x,.int .i64 b.y,.int .i64 b.most]
structure Zn where
 n:Int
 bs:List Bd
def zn0:Zn:=⟨0,[]⟩
def Tv (z:Zn):List AV:=[.int .i64 z.n,.sl 3 (z.bs.map Rq)]
def bdE (n:Int)(b:Bd):Int:=if decide (b.x<0)||decide (n≤b.x)||decide (b.y<0)||decide (n≤b.y)||decide (b.most < -1125899906842624)||decide (1125899906842624<b.most) then 2 else 0
def I6 (z:Zn):Int:=if decide (z.n<1)||decide (64<z.n) then 2 else if decide (256<(z.bs.length:Int)) then 5 else Aq (bdE z.n) z.bs

/-! ### Least sums -/
/-- the sums, the last bounds, what was improved last -/
structure Ds where
 sums:List Int
 last:List Int
def Ey (l:List Int)(k:Int):Int:=(l[k.toNat]?).getD 0
def N8 (i:Nat)(b:Bd)(s:Ds×Int):Ds×Int:=
 if decide (Ey s.1.sums b.y+b.most<Ey s.1.sums b.x) then (⟨s.1.sums.set b.x.toNat (Ey s.1.sums b.y+b.most),s.1.last.set b.x.toNat (i:Int)⟩,b.x) else s
def F7:Nat→List Bd→Ds×Int→Ds×Int
 | _,[],s=>s
 | i,b::r,s=>F7 (i+1) r (N8 i b s)
def Jq (bs:List Bd)(d:Ds):Ds×Int:=F7 0 bs (d,-1)
/-- so many rounds, or until nothing is improved: the state, and what was improved last or -1 -/
def D7 (bs:List Bd):Nat→Ds×Int→Ds×Int
 | 0,s=>s
 | n+1,s=>if decide ((Jq bs s.1).2<0) then Jq bs s.1 else D7 bs n (Jq bs s.1)
def I9 (bs:List Bd)(d:Ds)(at_:Int):Int:=((bs[(Ey d.last at_).toNat]?).getD bd0).y
def Kv (bs:List Bd)(d:Ds):Nat→Int→Int
 | 0,a=>a
 | n+1,a=>Kv bs d n (I9 bs d a)
/-- the last bounds from an unknown backwards, until it comes again (at most so many) -/
def cycGo (bs:List Bd)(d:Ds)(from_:Int):Nat→Int→List Int
 | 0,_=>[]
 | n+1,a=>Ey d.last a::if I9 bs d a==from_ then [] else cycGo bs d from_ n (I9 bs d a)
def start (z:Zn):Ds:=⟨List.replicate z.n.toNat 0,List.replicate z.n.toNat (-1)⟩
def El (z:Zn):Ds×Int:=D7 z.bs (z.n.toNat+1) (start z,-1)
def xJ (z:Zn):List Int×List Int:=
 if decide ((El z).2<0) then ((El z).1.sums,[])
 else ([],cycGo z.bs (El z).1 (Kv z.bs (El z).1 z.n.toNat (El z).2) (z.n.toNat+1) (Kv z.bs (El z).1 z.n.toNat (El z).2))
/-- Solve: whether there is a model, the model, the contradiction, the error -/
structure So where
 ok:Bool
 values:List Int
 cycle:List Int
 err:Int
def Ew (z:Zn):So:=
 if I6 z != 0 then ⟨false,[],[],I6 z⟩
 else if decide ((El z).2<0) then ⟨true,(El z).1.sums.map (fun v=>v-Ey (El z).1.sums 0),[],0⟩
 else ⟨false,[],(xJ z).2,0⟩

/-! ### The zone of a clause -/
section
variable (T:List Sc) (V:List Va)
def Gd (l:List Lit):Int:=
 if (Db T V (Em true)).2 != 0 then (Db T V (Em true)).2
 else if decide (256<(l.length:Int)) then 5
 else Aq (fun c=>if Eb T V c.cond != 0 then Eb T V c.cond else if E3 T V c.cond||(c.neg&&(c.cond.op==9&&Am T V (Ao c.cond)==0)) then 3 else 0) l
def Aa (l:Lit):Gp×Bool:=
 if l.cond.op==1 then (⟨[D0 l.cond],[],0⟩,true)
 else if !comparesS l.cond||Dp T V l.cond then (tV,false)
 else Ch (Ao l.cond) (Bi l.cond)
/-- the number of a term: 0 for none -/
def A4 (ts:List Tm)(l:List Tm):List Tm:=match l with | []=>ts | t::_=>if ts.contains t then ts else ts ++ [t]
def B6 (ts:List Tm)(l:List Tm):Int:=match l with | []=>0 | t::_=>((ts.idxOf t:Nat):Int)+1
def C0 (t:Tm):Int×Int:=if t.op==2 then (0,1099511627776) else if Am T V (Ho t)==1 then (0,1) else (-1099511627776,1099511627776)
def D6 (c:Lit)(x z rest:Int):List Bd:=
 if (c.cond.op==1&&c.neg)||(c.cond.op==8 && !c.neg) then [⟨x,z,0-rest⟩]
 else if c.cond.op==1||c.cond.op==8 then [⟨z,x,rest-1⟩]
 else if c.cond.op==7 && !c.neg then [⟨x,z,0-rest-1⟩]
 else if c.cond.op==7 then [⟨z,x,rest⟩]
 else [⟨x,z,0-rest⟩,⟨z,x,rest⟩]
/-- the unknowns and the bounds so far -/
structure Sy where
 ts:List Tm
 bs:List Bd
def Dd (s:Sy)(c:Lit):Sy:=
 if !(Aa T V c).2 then s
 else ⟨A4 (A4 s.ts (Aa T V c).1.plus) (Aa T V c).1.minus,
  s.bs++D6 c (B6 (A4 s.ts (Aa T V c).1.plus) (Aa T V c).1.plus) (B6 (A4 (A4 s.ts (Aa T V c).1.plus) (Aa T V c).1.minus) (Aa T V c).1.minus) (Aa T V c).1.rest⟩
def Cg (l:List Lit):Sy:=l.foldl (Dd T V) ⟨[],[]⟩
def Hj:Nat→List Tm→List Bd
 | _,[]=>[]
 | i,t::r=>⟨(i:Int)+1,0,(C0 T V t).2⟩::⟨0,(i:Int)+1,0-(C0 T V t).1⟩::Hj (i+1) r
def zoneOf (s:Sy):Zn:=⟨(s.ts.length:Int)+1,Hj T V 0 s.ts++s.bs⟩
def C7 (l:List Lit):Zn:=zoneOf T V (Cg T V l)
def Rt (z:Zn):Bool:=decide (z.n≤64)&&decide ((z.bs.length:Int)≤256)
structure Zr where
 zone:Zn
 terms:List Ex
 err:Int
def Qk (l:List Lit):Zr:=
 if Gd T V l != 0 then ⟨zn0,[],Gd T V l⟩
 else if !fitsS (C7 T V l) then ⟨zn0,[],17⟩ else ⟨C7 T V l,(Cg T V l).ts.map Ho,0⟩

/-! ### Strings -/
structure Wd where
 const:Bool
 text:List UInt8
 field:Tm
deriving DecidableEq
end
def tm0:Tm:=⟨0,0,0⟩
def Ld (w:Wd):List AV:=[.bool w.const,.str w.text,.int .i64 w.field.op,.int .i64 w.field.v,.int .i64 w.field.field]
def Ca (e:Ex):Wd:=if e.op==0 then ⟨true,e.val.text,tm0⟩ else ⟨false,[],D0 e⟩
abbrev Wm:=List (Wd×Wd)
def F9 (w:Wm)(x:Wd):Option Wd:=(w.find? fun p=>p.1=x).map (·.2)
def Qi (w:Wm):Nat→Wd→Wd
 | 0,x=>x
 | n+1,x=>match F9 w x with | some y=>Qi w n y | none=>x
def Ce (w:Wm)(x:Wd):Wd:=Qi w w.length x
section
variable (T:List Sc) (V:List Va)
def Cl (sign:Bool)(c:Lit):Bool:=c.neg != sign&&(Dp T V c.cond&&Cz T V c.cond)
def E8 (w:Wm)(c:Lit):Wm×Bool:=
 let a:=Ce w (Ca (Ao c.cond));let b:=Ce w (Ca (Bi c.cond))
 if a=b then (w,true) else if a.const&&b.const then (w,false) else if a.const then (w ++ [(b,a)],true) else (w ++ [(a,b)],true)
def I8:List Lit→Wm→Wm×Bool
 | [],w=>(w,true)
 | c::r,w=>if !stringy T V true c then I8 r w else if !(E8 w c).2 then ((E8 w c).1,false) else I8 r (E8 w c).1
def Oa (w:Wm):List Lit→Bool
 | []=>true
 | c::r=>if !stringy T V false c then Oa w r else if Ce w (Ca (Ao c.cond))=Ce w (Ca (Bi c.cond)) then false else Oa w r
def Eh (l:List Lit):Wm×Bool:=((I8 T V l []).1,(I8 T V l []).2&&Oa T V (I8 T V l []).1 l)
end

theorem Ci {α:Type}{b:Bool}{x y:α}(h:b=false):(if b=true then x else y)=y:=if_neg (by rw [h];decide)
theorem Ig {α:Type}(f:Ex→α)(d:α){e:Ex}(h:0<e.args.length):Qd d (e.args.map f)=f (Ao e):=by
 unfold Qd Ao
 cases ha:e.args with
 | nil=>rw [ha] at h;cases h
 | cons a r=>rfl
theorem Iv {α:Type}(f:Ex→α)(d:α){e:Ex}(h:1<e.args.length):Yb d (e.args.map f)=f (Bi e):=by
 unfold Yb Bi
 rw [List.getElem?_map,List.getElem?_eq_getElem h];rfl
theorem Dg {e:Ex}(h:By e=0)(ho:5≤e.op∧e.op≤11):1<e.args.length:=by
 obtain ⟨_,_,h3⟩:=G8 h
 have:D4 e.op=2:=by
  unfold D4
  rw [if_neg (by omega),if_neg (by omega),if_neg (by omega)]
 omega
theorem Xl {e:Ex}(h:By e=0)(ho:e.op<5):e.args = []:=by
 obtain ⟨h1,_,h3⟩:=G8 h
 have:D4 e.op=0:=by
  unfold D4
  rw [if_neg (by omega),if_pos (by omega)]
 exact List.length_eq_zero_iff.1 (by omega)
theorem Zk (op:Int)(x y:Ex):cE (two op x y) = [.int .i64 op,.sl 8 [cE x,cE y],.int .i64 0,.int .i64 0,.int .i64 0,.int .i64 0,.int .i64 0,.str []]:=by
 show [AV.int .i64 op,.sl 8 [Fu x,Fu y],.int .i64 0,.int .i64 0,.int .i64 0,.int .i64 0,.int .i64 0,.str []]=_
 rw [Jh,Jh]
theorem aE (x:Ex):cE (Oq x) = [.int .i64 12,.sl 8 [cE x],.int .i64 0,.int .i64 0,.int .i64 0,.int .i64 0,.int .i64 0,.str []]:=by
 show [AV.int .i64 12,.sl 8 [Fu x],.int .i64 0,.int .i64 0,.int .i64 0,.int .i64 0,.int .i64 0,.str []]=_
 rw [Jh]
theorem wX {e:Ex}(h:(e.op==10)=true)(hl:1<e.args.length):Fc e=two 11 (Fc (Ao e)) (Fc (Bi e)):=by
 rw [K4,Vo,if_pos h,Ig Fc _ (by omega),Iv Fc _ hl]
theorem Aat {e:Ex}(h1:(e.op==10)=false)(h:(e.op==11)=true)(hl:1<e.args.length):Fc e=two 10 (Fc (Ao e)) (Fc (Bi e)):=by
 rw [K4,Vo,Ci h1,if_pos h,Ig Fc _ (by omega),Iv Fc _ hl]
theorem eR {e:Ex}(h1:(e.op==10)=false)(h2:(e.op==11)=false)(h3:(e.op==12)=false)(h4:(e.op==7)=false)(h5:(e.op==8)=false)(h6:(e.op==0&&e.val.kind==1)=false):AV.agg (cE (Fc e)) = .agg [.int .i64 12,.sl 8 [cE e],.int .i64 0,.int .i64 0,.int .i64 0,.int .i64 0,.int .i64 0,.str []]:=by
 rw [K4,Vo,Ci h1,Ci h2,Ci h3,Ci h4,Ci h5,Ci h6,aE]
theorem rU {vars:List (List Ev)}{v:Int}{l:List Ev}(h0:0≤v)(h:vars[v.toNat]? = some l):Bv vars v=l:=by
 have:=(List.getElem?_eq_some_iff.1 h).1
 unfold Bv
 rw [if_neg (by simp;omega),h];rfl
/-! the reference's -/
def rreadE (e:Ex)(ev:Ev):Ex×Int:=if e.op==1&&decide ((ev.values.length:Int)≤e.field) then (e,6) else (Ov (Lx e ev).1,(Lx e ev).2)
def Aa6 (vars:List (List Ev))(e:Ex)(ks:List (Ex×Int)):Ex×Int:=
 if e.op==1||e.op==2 then
  (if ((Bv vars e.var).length:Int)==0 then (e,0) else rreadE e ((Bv vars e.var).getLast?.getD Km))
 else match (okL ks).2 with
  | some p=>(e,p.2)
  | none=>(⟨e.op,(okL ks).1,e.var,e.field,e.kind,e.val⟩,0)
def rknownE (vars:List (List Ev)):Ex→Ex×Int:=Q2 (Aa6 vars)
theorem cJ {vars:List (List Ev)}{v:Int}(h:0<(Bv vars v).length):Bv vars v∈vars:=by
 unfold Bv at h ⊢
 split
 · rename_i h1;rw [if_pos h1] at h;simp at h
 ·
  rename_i h1
  rw [if_neg h1] at h
  cases hl:vars[v.toNat]? with
  | none=>rw [hl] at h;simp at h
  | some l=>exact List.mem_of_getElem? hl
theorem wJ {e:Ex}(h:0<e.args.length):At (Ao e)<At e:=G0 (A6 h)
theorem Sn {e:Ex}(h:(Bx e != 0)=false):C3 e=0:=by
 have h0:Bx e=0:=by simpa using h
 unfold Bx at h0
 split at h0
 · cases h0
 ·
  split at h0
  · cases h0
  · exact h0
theorem Xd {e:Ex}(h:(Bx e != 0)=false):At e≤64:=by
 have h0:Bx e=0:=by simpa using h
 unfold Bx at h0
 split at h0
 · cases h0
 ·
  rename_i h1
  simp at h1
  omega
theorem S1 (op:Int)(a b:Ex):At (two op a b)=At a+At b+1:=by
 rw [D5];simp [two];omega
theorem yS (e:Ex):C3 e=0→At (Fc e)≤2*At e:=by
  refine Ex.Abu (P:=fun e=>C3 e=0→At (Fc e)≤2*At e) (fun e ih hn=>?_) e
  have hz:=Be hn
  have hp:=D5 e
  rw [K4]
  unfold Vo
  have hsum2:∀h:1<e.args.length,At (Ao e)+At (Bi e)+1≤At e:=fun h=>by
    have h0:=get0 (show 0<e.args.length by omega)
    have h1:=get1 h
    cases ha:e.args with
    | nil=>rw [ha] at h;simp at h
    | cons a r=>
      cases r with
      | nil=>rw [ha] at h;simp at h
      | cons b r=>
        have e0:Ao e=a:=by unfold Ao;rw [ha];rfl
        have e1:Bi e=b:=by unfold Bi;rw [ha];rfl
        rw [e0,e1,hp,ha];simp;omega
  split
  · rename_i h
    have hl:=Dg hz.1 (by simp at h;omega)
    rw [Ig Fc _ (by omega),Iv Fc _ hl,S1]
    have:=ih _ (A6 (by omega)) (hz.2 _ (A6 (by omega)))
    have:=ih _ (Bl hl) (hz.2 _ (Bl hl))
    have:=hsum2 hl
    omega
  · split
    · rename_i h
      have hl:=Dg hz.1 (by simp at h;omega)
      rw [Ig Fc _ (by omega),Iv Fc _ hl,S1]
      have:=ih _ (A6 (by omega)) (hz.2 _ (A6 (by omega)))
      have:=ih _ (Bl hl) (hz.2 _ (Bl hl))
      have:=hsum2 hl
      omega
    · split
      · rename_i h
        have:=wJ (Wa hz.1 (by simpa using h));omega
      · split
        · rename_i h
          have hl:=Dg hz.1 (by simp at h;omega)
          rw [S1];have:=hsum2 hl;omega
        · split
          · rename_i h
            have hl:=Dg hz.1 (by simp at h;omega)
            rw [S1];have:=hsum2 hl;omega
          · split
            · have:At (Em (e.val.num==0))=1:=by rw [D5];rfl
              omega
            · have:At (Oq e)=At e+1:=by rw [D5];simp [Oq];omega
              have h1:1≤At e:=by omega
              omega
end Go.Proofs.YtkddpedfbicbeaaGreatDoor
