/-
  Several texts in one: M10, M11, S11, S12, S11b. No condition.
-/
import Derived.Test.YtkddpedfbicbeaaGreatDoorK01
set_option linter.unusedVariables false
set_option linter.unusedSimpArgs false
namespace Go.Proofs.YtkddpedfbicbeaaGreatDoor
open Go Go.Aw

structure Fi where
 name:List UInt8
 kind:Int
structure Sc where
 name:List UInt8
 fields:List Fi
structure Va where
 name:List UInt8
 type:Int
def cFi (f:Fi):List AV:=[.str f.name,.int .i64 f.kind]
def N1 (s:Sc):List AV:=[.str s.name,.sl 2 (s.fields.map cFi)]
def U8 (v:Va):List AV:=[.str v.name,.int .i64 v.type]
def sc0:Sc:=⟨[],[]⟩
def fi0:Fi:=⟨[],0⟩
def va0:Va:=⟨[],0⟩

def Th (n:Int):Bool:=n==95||(decide (97≤n)&&decide (n≤122))||(decide (65≤n)&&decide (n≤90))
def Ty (n:Int):Bool:=decide (48≤n)&&decide (n≤57)
def dU (b:UInt8):Bool:=Th b.toNat||Ty b.toNat
def L3 (s:List UInt8):Bool:=!(s.length==0)&&decide (s.length≤24) && !Ty ((s.headD 0).toNat)&&s.all dU
def xX:List UInt8:=[116,105,109,101]
def Og (s:List UInt8):Bool:=L3 s && !(s==xX)

def Eb (seen:List (List UInt8))(f:Fi):Int:=
 if !Og f.name then 8 else if seen.contains f.name then 7 else if decide (f.kind<0)||decide (3≤f.kind) then 1 else 0
def Ij:List (List UInt8)→List Fi→Int
 | _,[]=>0
 | seen,f::r=>if Eb seen f != 0 then Eb seen f else Ij (seen ++ [f.name]) r
def Il (s:Sc):Int:=if !L3 s.name then 8 else if decide (8<(s.fields.length:Int)) then 5 else Ij [] s.fields
def H1 (seen:List (List UInt8))(s:Sc):Int:=if Il s != 0 then Il s else if seen.contains s.name then 7 else 0
def J0:List (List UInt8)→List Sc→Int
 | _,[]=>0
 | seen,s::r=>if H1 seen s != 0 then H1 seen s else J0 (seen ++ [s.name]) r
def Ed (l:List Sc):Int:=if decide (16<(l.length:Int)) then 5 else J0 [] l

/-- the first place of a name -/
def O9 (ns:List (List UInt8))(n:List UInt8):Int:=if ns.contains n then ((ns.idxOf n:Nat):Int) else -1
theorem Oh {ns:List (List UInt8)}{k:Nat}{n:List UInt8}(h:ns[k]? = some n):decide (O9 ns n<(k:Int))=(ns.take k).contains n:=by
 have hm:n∈ns:=List.mem_of_getElem? h
 have hc:ns.contains n=true:=by simpa using hm
 unfold O9
 rw [if_pos hc]
 have key:ns.idxOf n<k↔n∈ns.take k:=by
  constructor
  ·
   intro hlt
   have h1:ns.idxOf n<ns.length:=List.idxOf_lt_length_of_mem hm
   have h2:ns[ns.idxOf n]=n:=List.getElem_idxOf h1
   rw [List.mem_take_iff_getElem]
   exact ⟨ns.idxOf n,by omega,h2⟩
  ·
   intro hmem
   obtain ⟨i,hi,he⟩:=List.mem_take_iff_getElem.1 hmem
   have:ns.idxOf n≤i:=by
    refine Nat.le_of_not_lt fun hlt=>?_
    have h4:=List.not_of_lt_findIdx (p:=fun x=>x==n) (xs:=ns) (i:=i) hlt
    simp only [he] at h4
    simp at h4
   omega
 by_cases hk:ns.idxOf n<k
 ·
  have h2:=key.1 hk
  have e1:decide (((ns.idxOf n:Nat):Int)<(k:Int))=true:=by simp;omega
  rw [e1];symm;simpa using h2
 ·
  have h2:¬n∈ns.take k:=fun h=>hk (key.2 h)
  have e1:decide (((ns.idxOf n:Nat):Int)<(k:Int))=false:=by simp;omega
  rw [e1];symm;simpa using h2
/-! ### Kinds -/
def Pl (n:Int)(v:Va):Int:=if decide (v.type<0)||decide (n≤v.type) then 6 else 0
def Hy (types:List Sc)(vars:List Va):Int:=if decide (16<(vars.length:Int)) then 5 else Aq (Pl types.length) vars

def Fu (types:List Sc)(vars:List Va)(v:Int):List Fi:=((types[((vars[v.toNat]?).getD va0).type.toNat]?).getD sc0).fields
def Hs (l:List Fi)(k:Int):Int:=((l[k.toNat]?).getD fi0).kind
def F0 (types:List Sc)(vars:List Va)(e:Ex):Int×Int:=
 if e.op==0 then (e.val.kind,0)
 else if decide ((vars.length:Int)≤e.var) then (0,6)
 else if e.op==2||e.op==3 then (0,0)
 else if decide (((Fu types vars e.var).length:Int)≤e.field) then (0,6)
 else if e.op==4&&(Hs (Fu types vars e.var) e.field != e.val.kind || !Dw e.kind ⟨Hs (Fu types vars e.var) e.field,0,[]⟩) then (0,9)
 else (Hs (Fu types vars e.var) e.field,0)
def Xd (op:Int):Int:=if op==5||op==6 then 0 else 1

mutual
def Cc (types:List Sc)(vars:List Va):Ex→Int×Int
  | ⟨op,args,var,field,kind,val⟩=>
    if args.isEmpty then F0 types vars ⟨op,args,var,field,kind,val⟩
    else if (Kj types vars args).2 != 0 then (0,(Kj types vars args).2)
    else if Dk op (Kj types vars args).1 != 0 then (0,Dk op (Kj types vars args).1) else (Xd op,0)
def Kj (types:List Sc)(vars:List Va):List Ex→List Int×Int
 | []=>([],0)
 | e::r=>if (Cc types vars e).2 != 0 then ([],(Cc types vars e).2) else if (Kj types vars r).2 != 0 then ([],(Kj types vars r).2) else ((Cc types vars e).1::(Kj types vars r).1,0)
end
theorem Tw (types:List Sc)(vars:List Va):∀l,(Kj types vars l).2=Aq (fun a=>(Cc types vars a).2) l
  | []=>by simp [Kj,Aq]
  | e::r=>by
    have:=Tw types vars r
    by_cases h:((Cc types vars e).2 != 0)=true
    · rw [Kj,Aq,if_pos h,if_pos h]
    · rw [Kj,Aq,if_neg h,if_neg h,←this]
      by_cases h2:((Kj types vars r).2 != 0)=true
      · rw [if_pos h2]
      · rw [if_neg h2]
        have h3:(Kj types vars r).2=0:=by simpa using h2
        exact h3.symm
theorem fL (types:List Sc)(vars:List Va):∀l,Aq (fun a=>(Cc types vars a).2) l=0→(Kj types vars l).1=l.map fun a=>(Cc types vars a).1
  | [],_=>by simp [Kj]
  | e::r,h=>by
    simp only [Aq] at h
    by_cases h1:((Cc types vars e).2 != 0)=true
    · rw [if_pos h1] at h;simp [h] at h1
    · rw [if_neg h1] at h
      have h2:¬((Kj types vars r).2 != 0)=true:=by rw [Tw,h];simp
      rw [Kj,if_neg h1,if_neg h2]
      simp [fL types vars r h]
theorem Ei (types:List Sc)(vars:List Va)(e:Ex):Cc types vars e=if e.args.isEmpty then F0 types vars e else if Aq (fun a=>(Cc types vars a).2) e.args != 0 then (0,Aq (fun a=>(Cc types vars a).2) e.args)
  else if Dk e.op (e.args.map fun a=>(Cc types vars a).1) != 0 then (0,Dk e.op (e.args.map fun a=>(Cc types vars a).1)) else (Xd e.op,0):=by
 cases e with | mk op args var field kind val=>
 rw [Cc]
 simp only [Tw]
 by_cases h:Aq (fun a=>(Cc types vars a).2) args=0
 · simp [h,fL types vars args h]
 · simp [h]
def Dd (types:List Sc)(vars:List Va)(e:Ex):Int×Int:=
 if Ed types != 0 then (0,Ed types) else if Hy types vars != 0 then (0,Hy types vars) else if Bx e != 0 then (0,Bx e) else Cc types vars e

/-- what the bound of the law says -/
def shortS (types:List Sc)(vars:List Va):Bool:=!((types.take 30).any fun s=>decide (12<(s.fields.length:Int)))&&(decide ((types.length:Int)≤20)&&decide ((vars.length:Int)≤20))


def mG (v:Vl)(k:Int):Prop:=v.kind=k∧Ap v=0
def X6 (s:Sc)(ev:Ev):Prop:=ev.values.length=s.fields.length∧∀(k:Nat) (f:Fi),s.fields[k]? = some f→∃w,ev.values[k]? = some w∧mG w f.kind
def E8 (types:List Sc)(vars:List Va)(env:List (List Ev)):Prop:=
 env.length=vars.length∧∀(i:Nat) (v:Va),vars[i]? = some v→∃s ev,types[v.type.toNat]? = some s∧env[i]? = some [ev]∧X6 s ev

theorem cM {types:List Sc}{vars:List Va}{i:Int}{v:Va}{s:Sc}(hv:vars[i.toNat]? = some v)(hs:types[v.type.toNat]? = some s):Fu types vars i=s.fields:=by simp [Fu,hv,hs]

theorem gY {k:Int}{w:Vl}(h:Ap w=0)(hs:Dw k w=true):Do k w=0:=by
 have:Eu k w=true:=by
  unfold Dw at hs;unfold Eu
  simp only [Bool.or_eq_true,beq_iff_eq,Bool.and_eq_true,bne_iff_ne] at hs ⊢
  omega
 unfold Do
 simp [h,this]

theorem bB {k:Int}{w o:Vl}(hk:1≤k∧k≤5)(hw:Ap w=0)(hs:Dw k w=true)(ho:Do k o=0):eL k [w] o=(w,0):=by
 have hkn:Dt k=true:=by simp [Dt];omega
 have h1:=gY hw hs
 have h2:Aq (Do k) [w]=0:=by simp [Aq,h1]
 have h0:Bq ⟨k,0,v0⟩=0:=by
  unfold Bq
  simp [hkn,isV0,v0]
 have hst:Zv k [w]=⟨k,1,w⟩:=by
  have:(k==0)=false:=by simp;omega
  simp [Zv,Ju,E4,E7,this]
 have ha:Bq (Zv k [w])=0:=pZ [w] ⟨k,0,v0⟩ h0 rfl h2 (by simp)
 unfold eL
 rw [if_neg (by simp [hkn]),if_neg (by simp),if_neg (by rw [h2];decide)]
 rw [hst] at ha ⊢
 unfold Dr
 rw [if_neg (by rw [ha];decide),if_neg (by simp only [ho];decide)]
 have hk0:(k==0)=false:=by simp;omega
 simp [hk0]

theorem Vn {e:Ex}(h:By e=0)(h4:e.op=4):Do e.kind e.val=0∧1≤e.kind∧e.kind≤5:=by
 unfold By at h
 split at h
 · cases h
 split at h
 · cases h
 split at h
 · cases h
 split at h
 · cases h
 rename_i h5
 have hk:1≤e.kind∧e.kind≤5:=by
  simp [h4] at h5;omega
 rw [if_pos (by simp [h4])] at h
 by_cases hc:Fm e=0
 ·
  refine ⟨?_,hk⟩
  unfold Fm at hc
  by_cases hv:Ap e.val=0
  ·
   rw [if_neg (by simp [hv])] at hc
   by_cases hs:Dw e.kind e.val=true
   · exact gY hv hs
   ·
    exfalso
    rw [if_pos (by simp [h4];left;simpa using hs)] at hc
    cases hc
  · rw [if_pos (by simp [hv])] at hc;exact absurd hc hv
 · rw [if_pos (by simp [hc])] at h;exact absurd h hc

theorem P1 (b:Bool):(D5 b).kind=1:=by cases b <;> rfl
theorem lW (op a b:Int)(h9:op≠9):(Gw op a b).kind=Xd op:=by
 unfold Gw Xd
 repeat' split
 all_goals first | rfl | exact P1 _ | skip
 all_goals simp_all

theorem Ml {env:List (List Ev)}{ev:Ev}{e:Ex}(hevs:Bv env e.var = [ev])(hown:(e.var != -1)=true)(h0:¬(e.op==0)=true)(h3:¬e.op=3)(h4:¬e.op=4):Fc ⟨env,-1,Kn⟩ e=G8 ev e:=by
 unfold Fc
 rw [if_neg h0,if_neg (by simp [h3]),if_neg (by simp [h4]),if_pos hown]
 simp only [hevs]
 rfl

theorem S1 {types:List Sc}{vars:List Va}{env:List (List Ev)}(hS:E8 types vars env)(e:Ex)(hn:C4 e=0)(hk:(Cc types vars e).2=0) :
    (B0 ⟨env,-1,Kn⟩ e).2=0∧(B0 ⟨env,-1,Kn⟩ e).1.kind=(Cc types vars e).1:=by
  induction e using Ex.Abb with
  | h e ih=>
    have hz:=Be hn
    have hvr:=L8 hz.1
    have hfr:=Jz hz.1
    by_cases ha:e.args = []
    · rw [Ei types vars e,if_pos (by simp [ha])] at hk ⊢
      rw [Mw ha]
      unfold F0 at hk ⊢
      by_cases h0:(e.op==0)=true
      · rw [if_pos h0] at hk ⊢
        unfold Fc;rw [if_pos h0];exact ⟨rfl,rfl⟩
      rw [if_neg h0] at hk ⊢
      by_cases h1:decide ((vars.length:Int)≤e.var)=true
      · rw [if_pos h1] at hk;cases hk
      rw [if_neg h1] at hk ⊢
      have hlt:e.var<(vars.length:Int):=by simp at h1;omega
      obtain ⟨v,hv⟩:=Hv (l:=vars) hvr.1 hlt
      obtain ⟨s,ev,hs,hev,hse⟩:=hS.2 _ v hv
      have hel:e.var<(env.length:Int):=by rw [hS.1];exact hlt
      have hevs:Bv env e.var = [ev]:=by
        unfold Bv
        rw [if_neg (by simp;omega),hev];rfl
      have hown:(e.var != -1)=true:=by simp;omega
      have hfl:Fu types vars e.var=s.fields:=cM hv hs
      rw [hfl] at hk ⊢
      by_cases h3:e.op=3
      · unfold Fc
        rw [if_neg h0,if_pos (by simp [h3])]
        rw [if_pos (by simp [h3])]
        exact ⟨rfl,rfl⟩
      by_cases h2:e.op=2
      · rw [Ml hevs hown h0 h3 (by omega),if_pos (by simp [h2])]
        unfold G8
        rw [if_pos (by simp [h2])]
        exact ⟨rfl,rfl⟩
      rw [if_neg (by simp [h2,h3])] at hk ⊢
      by_cases h4:decide ((s.fields.length:Int)≤e.field)=true
      · rw [if_pos h4] at hk;cases hk
      rw [if_neg h4] at hk ⊢
      obtain ⟨f,hf⟩:=Hv (l:=s.fields) hfr (by simp at h4;omega)
      obtain ⟨w,hw,hgw⟩:=hse.2 _ f hf
      have hka:Hs s.fields e.field=f.kind:=by simp [Hs,hf]
      have hfs:Dq ev e.field=(w,0):=by
        unfold Dq
        rw [if_neg (by rw [hse.1];exact h4),hw];rfl
      rw [hka] at hk ⊢
      by_cases h5:e.op=4
      · by_cases h6:(e.op==4&&(f.kind != e.val.kind || !Dw e.kind ⟨f.kind,0,[]⟩))=true
        · rw [if_pos h6] at hk;cases hk
        rw [if_neg h6]
        have htw:=Vn hz.1 h5
        have hes:Dw e.kind w=true:=by
          simp [h5] at h6
          have:=h6.2
          unfold Dw at this ⊢
          rw [hgw.1];exact this
        unfold Fc O3
        rw [if_neg h0,if_neg (by simp [h3]),if_pos (by simp [h5]),hevs]
        have e1:Aq (fun v=>(Dq v e.field).2) [ev]=0:=by simp [Aq,hfs]
        rw [if_neg (by rw [e1];decide)]
        have e2:([ev].map fun v=>(Dq v e.field).1) = [w]:=by simp [hfs]
        rw [e2,bB ⟨htw.2.1,htw.2.2⟩ hgw.2 hes htw.1]
        exact ⟨rfl,hgw.1⟩
      · have h6:¬(e.op==4&&(f.kind != e.val.kind || !Dw e.kind ⟨f.kind,0,[]⟩))=true:=by simp [h5]
        rw [if_neg h6]
        rw [Ml hevs hown h0 h3 h5]
        unfold G8
        rw [if_neg (by simp [h2]),hfs,if_pos (by rfl),if_neg (by rw [hgw.2];decide)]
        exact ⟨rfl,hgw.1⟩
    · have hne:¬e.args.isEmpty=true:=by simpa using ha
      rw [Ei types vars e,if_neg hne] at hk ⊢
      by_cases h1:(Aq (fun a=>(Cc types vars a).2) e.args != 0)=true
      · rw [if_pos h1] at hk;simp at h1 hk;exact absurd hk h1
      rw [if_neg h1] at hk ⊢
      have hka:=Hf (f:=fun a=>(Cc types vars a).2) (l:=e.args) (by simpa using h1)
      have hih:∀a∈e.args,_:=fun a hm=>ih a hm (hz.2 a hm) (hka a hm)
      by_cases h2:(Dk e.op (e.args.map fun a=>(Cc types vars a).1) != 0)=true
      · rw [if_pos h2] at hk;simp at h2 hk;exact absurd hk h2
      rw [if_neg h2]
      have hkinds:(e.args.map fun a=>(B0 ⟨env,-1,Kn⟩ a).1).map (·.kind)=e.args.map fun a=>(Cc types vars a).1:=by
        rw [List.map_map]
        exact List.map_congr_left fun a hm=>(hih a hm).2
      rw [Ws ha fun a hm=>(hih a hm).1]
      unfold Ky
      rw [hkinds,if_neg h2]
      by_cases h9:(e.op==9)=true
      · rw [if_pos h9]
        refine ⟨rfl,?_⟩
        rw [P1]
        simp only [beq_iff_eq] at h9
        rw [h9];rfl
      · rw [if_neg h9]
        exact ⟨rfl,lW _ _ _ (by simpa using h9)⟩


/-! ### Recursion over expressions -/
section
variable {α:Type} (f:Ex→List α→α)
mutual
def Rs:Ex→α
 | ⟨op,args,var,field,kind,val⟩=>f ⟨op,args,var,field,kind,val⟩ (vQ args)
def vQ:List Ex→List α
 | []=>[]
 | e::r=>Rs e::vQ r
end
theorem jM:∀l:List Ex,vQ f l=l.map (Rs f)
 | []=>by simp [vQ]
 | e::r=>by simp [vQ,jM r]
theorem dZ (e:Ex):Rs f e=f e (e.args.map (Rs f)):=by cases e;rw [Rs,jM]
end
def Qm {α:Type}(d:α)(l:List α):α:=l.headD d
def Yo {α:Type}(d:α)(l:List α):α:=(l[1]?).getD d

/-! ### Nodes -/
def two (op:Int)(a b:Ex):Ex:=⟨op,[a,b],0,0,0,v0⟩
def Ow (a:Ex):Ex:=⟨12,[a],0,0,0,v0⟩
def Er (b:Bool):Ex:=Oz (D5 b)

/-! ### Negation -/
def Vt (e:Ex)(ns:List Ex):Ex:=
 if e.op==10 then two 11 (Qm Wc ns) (Yo Wc ns)
 else if e.op==11 then two 10 (Qm Wc ns) (Yo Wc ns)
 else if e.op==12 then Ao e
 else if e.op==7 then two 8 (Bi e) (Ao e)
 else if e.op==8 then two 7 (Bi e) (Ao e)
 else if e.op==0&&e.val.kind==1 then Er (e.val.num==0)
 else Ow e
def Fk:Ex→Ex:=Rs Vt
theorem Kz (e:Ex):Fk e=Vt e (e.args.map Fk):=dZ Vt e
def C2 (e:Ex):Ex×Int:=if Bx e != 0 then (Wc,Bx e) else if Bx (Fk e) != 0 then (Wc,Bx (Fk e)) else (Fk e,0)

/-! ### What is known -/
def L2 (e:Ex)(ev:Ev):Vl×Int:=
 if e.op==1 then (if decide ((ev.values.length:Int)≤e.field) then (⟨0,ev.time,[]⟩,6) else ((ev.values[e.field.toNat]?).getD v0,Ap ((ev.values[e.field.toNat]?).getD v0)))
 else (⟨0,ev.time,[]⟩,Ap ⟨0,ev.time,[]⟩)
/-- the expressions, or the first error with what stands there -/
def okL:List (Ex×Int)→List Ex×Option (Ex×Int)
 | []=>([],none)
 | p::r=>if p.2 != 0 then ([],some p) else ((p.1::(okL r).1),(okL r).2)
def knownN (vars:List (List Ev))(e:Ex)(ks:List (Ex×Int)):Ex×Int:=
  if e.op==1||e.op==2 then
    (if ((Bv vars e.var).length:Int)==0 then (e,0)
     else (Oz (L2 e ((Bv vars e.var).getLast?.getD Kn)).1,(L2 e ((Bv vars e.var).getLast?.getD Kn)).2))
  else match (okL ks).2 with
    | some p=>p
    | none=>(⟨e.op,(okL ks).1,e.var,e.field,e.kind,e.val⟩,0)
def lK (vars:List (List Ev)):Ex→Ex×Int:=Rs (knownN vars)
def KnownS (vars:List (List Ev))(e:Ex):Ex×Int:=if Bx e != 0 then (Wc,Bx e) else if (lK vars e).2 != 0 then (Wc,(lK vars e).2) else ((lK vars e).1,0)

/-! ### Terms and differences -/
structure Tm where
 op:Int
 v:Int
 field:Int
deriving DecidableEq
def Ib (t:Tm):List AV:=[.int .i64 t.op,.int .i64 t.v,.int .i64 t.field]
def Hq (t:Tm):Ex:=⟨t.op,[],t.v,t.field,0,v0⟩
def D3 (e:Ex):Tm:=⟨e.op,e.var,e.field⟩
structure Gp where
 plus:List Tm
 minus:List Tm
 rest:Int
def tY:Gp:=⟨[],[],0⟩
def cGp (g:Gp):List AV:=[.sl 3 (g.plus.map Ib),.sl 3 (g.minus.map Ib),.int .i64 g.rest]
/-- a sum: terms with their coefficients, in order of their first occurrence; the constant -/
structure Su where
 ts:List (Tm×Int)
 rest:Int
def Kx:Su:=⟨[],0⟩
def Io (t:Tm)(b:Int):List (Tm×Int)→List (Tm×Int)
 | []=>[(t,b)]
 | p::r=>if t=p.1 then (p.1,p.2+b)::r else p::Io t b r
abbrev Nb:=Int→Su→Su×Bool
def cB (e:Ex)(fs:List Nb):Nb:=fun b s=>
 if e.op==0 then (⟨s.ts,s.rest+b*e.val.num⟩,true)
 else if e.op==1||e.op==2 then (⟨Io (D3 e) b s.ts,s.rest⟩,true)
 else if e.op==5 then
  (if !((Qm (fun _ s=>(s,false)) fs:Nb) b s).2 then (((Qm (fun _ s=>(s,false)) fs:Nb) b s).1,false) else (Yo (fun _ s=>(s,false)) fs:Nb) b ((Qm (fun _ s=>(s,false)) fs:Nb) b s).1)
 else if e.op==6 then
  (if !((Qm (fun _ s=>(s,false)) fs:Nb) b s).2 then (((Qm (fun _ s=>(s,false)) fs:Nb) b s).1,false) else (Yo (fun _ s=>(s,false)) fs:Nb) (0-b) ((Qm (fun _ s=>(s,false)) fs:Nb) b s).1)
 else (s,false)
def Bp:Ex→Nb:=Rs cB
theorem P4 (e:Ex):Bp e=cB e (e.args.map Bp):=dZ cB e
/-- the terms with coefficient 1, with -1; none if there is another coefficient -/
def Dv:List (Tm×Int)→List Tm→List Tm→Option (List Tm×List Tm)
 | [],p,m=>some (p,m)
 | t::r,p,m=>if t.2==0 then Dv r p m else if t.2==1 then Dv r (p ++ [t.1]) m else if t.2 == -1 then Dv r p (m ++ [t.1]) else none
def Rx (s:Su):Gp×Bool:=match Dv s.ts [] [] with
 | some (p,m)=>(⟨p,m,s.rest⟩,decide ((p.length:Int)≤1)&&decide ((m.length:Int)≤1))
 | none=>(tY,false)
def Cj (a b:Ex):Gp×Bool:=
 if !(Bp a 1 Kx).2 then (tY,false) else if !(Bp b (-1) (Bp a 1 Kx).1).2 then (tY,false) else Rx (Bp b (-1) (Bp a 1 Kx).1).1

/-! ### Conditions -/
section
variable (T:List Sc) (V:List Va)
abbrev kd (e:Ex):Int:=(Cc T V e).1
/-- the kind, as it is read off an expression that has one -/
def Am (e:Ex):Int:=
 if e.op==0||e.op==4 then e.val.kind
 else if e.op==1 then Hs (Fu T V e.var) e.field
 else if e.op==2||e.op==3||e.op==5||e.op==6 then 0 else 1
def Ec (e:Ex):Int:=if (Dd T V e).2 != 0 then (Dd T V e).2 else if (Dd T V e).1 != 1 then 9 else 0
def Cv (e:Ex):Bool:=e.op==7||e.op==8||e.op==9
def Cr (e:Ex):Bool:=e.op==9&&Am T V (Ao e)==2
def Sg (a:Ex):Bool:=a.op==0||a.op==1
def B7 (e:Ex):Bool:=
 if e.op==1 then true else if !Cv e then false else if Cr T V e then Sg (Ao e)&&Sg (Bi e) else (Cj (Ao e) (Bi e)).2
def Ep (e:Ex):Bool:=if e.op==9 then Am T V (Ao e)==1 else e.op==10||e.op==11||e.op==12||e.op==0
def plainN (e:Ex)(ps:List Bool):Bool:=if !Ep T V e then B7 T V e else ps.all id
def plainS:Ex→Bool:=Rs (plainN T V)
def PlainS (e:Ex):Bool×Int:=if Ec T V e != 0 then (false,Ec T V e) else (plainS T V e,0)
end

/-! ### Clauses -/
structure Lit where
 cond:Ex
 neg:Bool
def G5 (l:Lit):List AV:=[.int .i64 l.cond.op,.sl 8 (l.cond.args.map Fv),.int .i64 l.cond.var,.int .i64 l.cond.field,.int .i64 l.cond.kind,.int .i64 l.cond.val.kind,.int .i64 l.cond.val.num,.str l.cond.val.text,.bool l.neg]
def Po (c:List Lit):List AV:=[.sl 9 (c.map G5)]
/-- clauses; whether there are not too many -/
abbrev Cs:=List (List Lit)×Bool
def Ek (c:Cs):List AV:=[.sl 1 (c.1.map Po),.bool c.2]
def Ma {α:Type}(a b:List (List α)):List (List α)×Bool:=if decide ((256:Int)<(a.length:Int)*(b.length:Int)) then ([],false) else (a.flatMap fun x=>b.map fun y=>x++y,true)
def En (a b:Cs):Cs:=if !a.2 || !b.2 then ([],false) else Ma a.1 b.1
def Jh (a b:Cs):Cs:=if (!a.2 || !b.2)||decide ((256:Int)<(a.1.length:Int)+(b.1.length:Int)) then ([],false) else (a.1++b.1,true)
def Eg (l:List Lit):Cs:=(l.map fun x=>[x],true)
section
variable (T:List Sc) (V:List Va)
abbrev Hm:=Bool→Cs
def Pb (e:Ex)(fs:List Hm):Hm:=fun sign=>
  if e.op==0 then (if (e.val.num==1)==sign then ([[]],true) else ([],true))
  else if e.op==12 then (Qm (fun _=>([],false)) fs:Hm) (!sign)
  else if e.op==10||e.op==11 then
    (if (e.op==10)==sign then En ((Qm (fun _=>([],false)) fs:Hm) sign) ((Yo (fun _=>([],false)) fs:Hm) sign)
     else Jh ((Qm (fun _=>([],false)) fs:Hm) sign) ((Yo (fun _=>([],false)) fs:Hm) sign))
  else if e.op==9&&Am T V (Ao e)==1 then
    Jh (En ((Qm (fun _=>([],false)) fs:Hm) true) ((Yo (fun _=>([],false)) fs:Hm) sign)) (En ((Qm (fun _=>([],false)) fs:Hm) false) ((Yo (fun _=>([],false)) fs:Hm) (!sign)))
  else if e.op==9&&(Am T V (Ao e)==0 && !sign) then Eg [⟨two 7 (Ao e) (Bi e),false⟩,⟨two 7 (Bi e) (Ao e),false⟩]
  else Eg [⟨e,!sign⟩]
def Dc:Ex→Hm:=Rs (Pb T V)
theorem Jc (e:Ex):Dc T V e=Pb T V e (e.args.map (Dc T V)):=dZ _ e
def Jo (e:Ex):List (List Lit)×Int:=if Ec T V e != 0 then ([],Ec T V e) else if !(Dc T V e true).2 then ([],17) else ((Dc T V e true).1,0)
end

/-! ### Zones -/
structure Bd where
 x:Int
 y:Int
 most:Int
deriving DecidableEq
def bd0:Bd:=⟨0,0,0⟩
def Rw (b:Bd):List AV:=[.int .i64 b.x,.int .i64 b.y,.int .i64 b.most]
structure Zn where
 n:Int
 bs:List Bd
def zn0:Zn:=⟨0,[]⟩
def T6 (z:Zn):List AV:=[.int .i64 z.n,.sl 3 (z.bs.map Rw)]
def bdE (n:Int)(b:Bd):Int:=if decide (b.x<0)||decide (n≤b.x)||decide (b.y<0)||decide (n≤b.y)||decide (b.most < -1125899906842624)||decide (1125899906842624<b.most) then 2 else 0
def I6 (z:Zn):Int:=if decide (z.n<1)||decide (64<z.n) then 2 else if decide (256<(z.bs.length:Int)) then 5 else Aq (bdE z.n) z.bs

/-! ### Least sums -/
/-- the sums, the last bounds, what was improved last -/
structure Ds where
 sums:List Int
 last:List Int
def E2 (l:List Int)(k:Int):Int:=(l[k.toNat]?).getD 0
def Oc (i:Nat)(b:Bd)(s:Ds×Int):Ds×Int:=
 if decide (E2 s.1.sums b.y+b.most<E2 s.1.sums b.x) then (⟨s.1.sums.set b.x.toNat (E2 s.1.sums b.y+b.most),s.1.last.set b.x.toNat (i:Int)⟩,b.x) else s
def F8:Nat→List Bd→Ds×Int→Ds×Int
 | _,[],s=>s
 | i,b::r,s=>F8 (i+1) r (Oc i b s)
def Js (bs:List Bd)(d:Ds):Ds×Int:=F8 0 bs (d,-1)
/-- so many rounds, or until nothing is improved: the state, and what was improved last or -1 -/
def D9 (bs:List Bd):Nat→Ds×Int→Ds×Int
 | 0,s=>s
 | n+1,s=>if decide ((Js bs s.1).2<0) then Js bs s.1 else D9 bs n (Js bs s.1)
def Jf (bs:List Bd)(d:Ds)(at_:Int):Int:=((bs[(E2 d.last at_).toNat]?).getD bd0).y
def Kt (bs:List Bd)(d:Ds):Nat→Int→Int
 | 0,a=>a
 | n+1,a=>Kt bs d n (Jf bs d a)
/-- the last bounds from an unknown backwards, until it comes again (at most so many) -/
def cycGo (bs:List Bd)(d:Ds)(from_:Int):Nat→Int→List Int
 | 0,_=>[]
 | n+1,a=>E2 d.last a::if Jf bs d a==from_ then [] else cycGo bs d from_ n (Jf bs d a)
def start (z:Zn):Ds:=⟨List.replicate z.n.toNat 0,List.replicate z.n.toNat (-1)⟩
def Em (z:Zn):Ds×Int:=D9 z.bs (z.n.toNat+1) (start z,-1)
def vK (z:Zn):List Int×List Int:=
 if decide ((Em z).2<0) then ((Em z).1.sums,[])
 else ([],cycGo z.bs (Em z).1 (Kt z.bs (Em z).1 z.n.toNat (Em z).2) (z.n.toNat+1) (Kt z.bs (Em z).1 z.n.toNat (Em z).2))
/-- Solve: whether there is a model, the model, the contradiction, the error -/
structure So where
 ok:Bool
 values:List Int
 cycle:List Int
 err:Int
def Ew (z:Zn):So:=
 if I6 z != 0 then ⟨false,[],[],I6 z⟩
 else if decide ((Em z).2<0) then ⟨true,(Em z).1.sums.map (fun v=>v-E2 (Em z).1.sums 0),[],0⟩
 else ⟨false,[],(vK z).2,0⟩

/-! ### The zone of a clause -/
section
variable (T:List Sc) (V:List Va)
def Gs (l:List Lit):Int:=
 if (Dd T V (Er true)).2 != 0 then (Dd T V (Er true)).2
 else if decide (256<(l.length:Int)) then 5
 else Aq (fun c=>if Ec T V c.cond != 0 then Ec T V c.cond else if Ep T V c.cond||(c.neg&&(c.cond.op==9&&Am T V (Ao c.cond)==0)) then 3 else 0) l
def Aa (l:Lit):Gp×Bool:=
 if l.cond.op==1 then (⟨[D3 l.cond],[],0⟩,true)
 else if !Cv l.cond||Cr T V l.cond then (tY,false)
 else Cj (Ao l.cond) (Bi l.cond)
/-- the number of a term: 0 for none -/
def A4 (ts:List Tm)(l:List Tm):List Tm:=match l with | []=>ts | t::_=>if ts.contains t then ts else ts ++ [t]
def B6 (ts:List Tm)(l:List Tm):Int:=match l with | []=>0 | t::_=>((ts.idxOf t:Nat):Int)+1
def C1 (t:Tm):Int×Int:=if t.op==2 then (0,1099511627776) else if Am T V (Hq t)==1 then (0,1) else (-1099511627776,1099511627776)
def D8 (c:Lit)(x z rest:Int):List Bd:=
 if (c.cond.op==1&&c.neg)||(c.cond.op==8 && !c.neg) then [⟨x,z,0-rest⟩]
 else if c.cond.op==1||c.cond.op==8 then [⟨z,x,rest-1⟩]
 else if c.cond.op==7 && !c.neg then [⟨x,z,0-rest-1⟩]
 else if c.cond.op==7 then [⟨z,x,rest⟩]
 else [⟨x,z,0-rest⟩,⟨z,x,rest⟩]
/-- the unknowns and the bounds so far -/
structure Sy where
 ts:List Tm
 bs:List Bd
def Df (s:Sy)(c:Lit):Sy:=
 if !(Aa T V c).2 then s
 else ⟨A4 (A4 s.ts (Aa T V c).1.plus) (Aa T V c).1.minus,
  s.bs++D8 c (B6 (A4 s.ts (Aa T V c).1.plus) (Aa T V c).1.plus) (B6 (A4 (A4 s.ts (Aa T V c).1.plus) (Aa T V c).1.minus) (Aa T V c).1.minus) (Aa T V c).1.rest⟩
def Ci (l:List Lit):Sy:=l.foldl (Df T V) ⟨[],[]⟩
def Hn:Nat→List Tm→List Bd
 | _,[]=>[]
 | i,t::r=>⟨(i:Int)+1,0,(C1 T V t).2⟩::⟨0,(i:Int)+1,0-(C1 T V t).1⟩::Hn (i+1) r
def zoneOf (s:Sy):Zn:=⟨(s.ts.length:Int)+1,Hn T V 0 s.ts++s.bs⟩
def C9 (l:List Lit):Zn:=zoneOf T V (Ci T V l)
def Ja (z:Zn):Bool:=decide (z.n≤64)&&decide ((z.bs.length:Int)≤256)
structure Zr where
 zone:Zn
 terms:List Ex
 err:Int
def Q3 (l:List Lit):Zr:=
 if Gs T V l != 0 then ⟨zn0,[],Gs T V l⟩
 else if !Ja (C9 T V l) then ⟨zn0,[],17⟩ else ⟨C9 T V l,(Ci T V l).ts.map Hq,0⟩

/-! ### Strings -/
structure Wd where
 const:Bool
 text:List UInt8
 field:Tm
deriving DecidableEq
end
def tm0:Tm:=⟨0,0,0⟩
def Ld (w:Wd):List AV:=[.bool w.const,.str w.text,.int .i64 w.field.op,.int .i64 w.field.v,.int .i64 w.field.field]
def Cb (e:Ex):Wd:=if e.op==0 then ⟨true,e.val.text,tm0⟩ else ⟨false,[],D3 e⟩
abbrev Wm:=List (Wd×Wd)
def Gb (w:Wm)(x:Wd):Option Wd:=(w.find? fun p=>p.1=x).map (·.2)
def Qk (w:Wm):Nat→Wd→Wd
 | 0,x=>x
 | n+1,x=>match Gb w x with | some y=>Qk w n y | none=>x
def Cf (w:Wm)(x:Wd):Wd:=Qk w w.length x
section
variable (T:List Sc) (V:List Va)
def Ce (sign:Bool)(c:Lit):Bool:=c.neg != sign&&(Cr T V c.cond&&B7 T V c.cond)
def E9 (w:Wm)(c:Lit):Wm×Bool:=
 let a:=Cf w (Cb (Ao c.cond));let b:=Cf w (Cb (Bi c.cond))
 if a=b then (w,true) else if a.const&&b.const then (w,false) else if a.const then (w ++ [(b,a)],true) else (w ++ [(a,b)],true)
def Jb:List Lit→Wm→Wm×Bool
 | [],w=>(w,true)
 | c::r,w=>if !Ce T V true c then Jb r w else if !(E9 w c).2 then ((E9 w c).1,false) else Jb r (E9 w c).1
def N6 (w:Wm):List Lit→Bool
 | []=>true
 | c::r=>if !Ce T V false c then N6 w r else if Cf w (Cb (Ao c.cond))=Cf w (Cb (Bi c.cond)) then false else N6 w r
def Ej (l:List Lit):Wm×Bool:=((Jb T V l []).1,(Jb T V l []).2&&N6 T V (Jb T V l []).1 l)
end

theorem Ck {α:Type}{b:Bool}{x y:α}(h:b=false):(if b=true then x else y)=y:=if_neg (by rw [h];decide)
theorem Ik {α:Type}(f:Ex→α)(d:α){e:Ex}(h:0<e.args.length):Qm d (e.args.map f)=f (Ao e):=by
 unfold Qm Ao
 cases ha:e.args with
 | nil=>rw [ha] at h;cases h
 | cons a r=>rfl
theorem Ix {α:Type}(f:Ex→α)(d:α){e:Ex}(h:1<e.args.length):Yo d (e.args.map f)=f (Bi e):=by
 unfold Yo Bi
 rw [List.getElem?_map,List.getElem?_eq_getElem h];rfl
theorem Dj {e:Ex}(h:By e=0)(ho:5≤e.op∧e.op≤11):1<e.args.length:=by
 obtain ⟨_,_,h3⟩:=Hc h
 have:D6 e.op=2:=by
  unfold D6
  rw [if_neg (by omega),if_neg (by omega),if_neg (by omega)]
 omega
theorem Wq {e:Ex}(h:By e=0)(ho:e.op<5):e.args = []:=by
 obtain ⟨h1,_,h3⟩:=Hc h
 have:D6 e.op=0:=by
  unfold D6
  rw [if_neg (by omega),if_pos (by omega)]
 exact List.length_eq_zero_iff.1 (by omega)
theorem aX (op:Int)(x y:Ex):cE (two op x y) = [.int .i64 op,.sl 8 [cE x,cE y],.int .i64 0,.int .i64 0,.int .i64 0,.int .i64 0,.int .i64 0,.str []]:=by
 show [AV.int .i64 op,.sl 8 [Fv x,Fv y],.int .i64 0,.int .i64 0,.int .i64 0,.int .i64 0,.int .i64 0,.str []]=_
 rw [Jd,Jd]
theorem aK (x:Ex):cE (Ow x) = [.int .i64 12,.sl 8 [cE x],.int .i64 0,.int .i64 0,.int .i64 0,.int .i64 0,.int .i64 0,.str []]:=by
 show [AV.int .i64 12,.sl 8 [Fv x],.int .i64 0,.int .i64 0,.int .i64 0,.int .i64 0,.int .i64 0,.str []]=_
 rw [Jd]
theorem vG {e:Ex}(h:(e.op==10)=true)(hl:1<e.args.length):Fk e=two 11 (Fk (Ao e)) (Fk (Bi e)):=by
 rw [Kz,Vt,if_pos h,Ik Fk _ (by omega),Ix Fk _ hl]
theorem Aau {e:Ex}(h1:(e.op==10)=false)(h:(e.op==11)=true)(hl:1<e.args.length):Fk e=two 10 (Fk (Ao e)) (Fk (Bi e)):=by
 rw [Kz,Vt,Ck h1,if_pos h,Ik Fk _ (by omega),Ix Fk _ hl]
theorem fV {e:Ex}(h1:(e.op==10)=false)(h2:(e.op==11)=false)(h3:(e.op==12)=false)(h4:(e.op==7)=false)(h5:(e.op==8)=false)(h6:(e.op==0&&e.val.kind==1)=false):AV.agg (cE (Fk e)) = .agg [.int .i64 12,.sl 8 [cE e],.int .i64 0,.int .i64 0,.int .i64 0,.int .i64 0,.int .i64 0,.str []]:=by
 rw [Kz,Vt,Ck h1,Ck h2,Ck h3,Ck h4,Ck h5,Ck h6,aK]
theorem sI {vars:List (List Ev)}{v:Int}{l:List Ev}(h0:0≤v)(h:vars[v.toNat]? = some l):Bv vars v=l:=by
 have:=(List.getElem?_eq_some_iff.1 h).1
 unfold Bv
 rw [if_neg (by simp;omega),h];rfl
/-! the reference's -/
def rreadE (e:Ex)(ev:Ev):Ex×Int:=if e.op==1&&decide ((ev.values.length:Int)≤e.field) then (e,6) else (Oz (L2 e ev).1,(L2 e ev).2)
def rknownN (vars:List (List Ev))(e:Ex)(ks:List (Ex×Int)):Ex×Int:=
 if e.op==1||e.op==2 then
  (if ((Bv vars e.var).length:Int)==0 then (e,0) else rreadE e ((Bv vars e.var).getLast?.getD Kn))
 else match (okL ks).2 with
  | some p=>(e,p.2)
  | none=>(⟨e.op,(okL ks).1,e.var,e.field,e.kind,e.val⟩,0)
def rknownE (vars:List (List Ev)):Ex→Ex×Int:=Rs (rknownN vars)
theorem eK {vars:List (List Ev)}{v:Int}(h:0<(Bv vars v).length):Bv vars v∈vars:=by
 unfold Bv at h ⊢
 split
 · rename_i h1;rw [if_pos h1] at h;simp at h
 ·
  rename_i h1
  rw [if_neg h1] at h
  cases hl:vars[v.toNat]? with
  | none=>rw [hl] at h;simp at h
  | some l=>exact List.mem_of_getElem? hl
theorem uY {e:Ex}(h:0<e.args.length):At (Ao e)<At e:=Gu (A6 h)
theorem Sl {e:Ex}(h:(Bx e != 0)=false):C4 e=0:=by
 have h0:Bx e=0:=by simpa using h
 unfold Bx at h0
 split at h0
 · cases h0
 ·
  split at h0
  · cases h0
  · exact h0
theorem Xu {e:Ex}(h:(Bx e != 0)=false):At e≤64:=by
 have h0:Bx e=0:=by simpa using h
 unfold Bx at h0
 split at h0
 · cases h0
 ·
  rename_i h1
  simp at h1
  omega
theorem S6 (op:Int)(a b:Ex):At (two op a b)=At a+At b+1:=by
 rw [D7];simp [two];omega
theorem yT (e:Ex):C4 e=0→At (Fk e)≤2*At e:=by
  refine Ex.Abb (P:=fun e=>C4 e=0→At (Fk e)≤2*At e) (fun e ih hn=>?_) e
  have hz:=Be hn
  have hp:=D7 e
  rw [Kz]
  unfold Vt
  have hsum2:∀h:1<e.args.length,At (Ao e)+At (Bi e)+1≤At e:=fun h=>by
    have h0:=get0 (show 0<e.args.length by omega)
    have h1:=get1 h
    cases ha:e.args with
    | nil=>rw [ha] at h;simp at h
    | cons a r=>
      cases r with
      | nil=>rw [ha] at h;simp at h
      | cons b r=>
        have e0:Ao e=a:=by unfold Ao;rw [ha];rfl
        have e1:Bi e=b:=by unfold Bi;rw [ha];rfl
        rw [e0,e1,hp,ha];simp;omega
  split
  · rename_i h
    have hl:=Dj hz.1 (by simp at h;omega)
    rw [Ik Fk _ (by omega),Ix Fk _ hl,S6]
    have:=ih _ (A6 (by omega)) (hz.2 _ (A6 (by omega)))
    have:=ih _ (Bk hl) (hz.2 _ (Bk hl))
    have:=hsum2 hl
    omega
  · split
    · rename_i h
      have hl:=Dj hz.1 (by simp at h;omega)
      rw [Ik Fk _ (by omega),Ix Fk _ hl,S6]
      have:=ih _ (A6 (by omega)) (hz.2 _ (A6 (by omega)))
      have:=ih _ (Bk hl) (hz.2 _ (Bk hl))
      have:=hsum2 hl
      omega
    · split
      · rename_i h
        have:=uY (Wh hz.1 (by simpa using h));omega
      · split
        · rename_i h
          have hl:=Dj hz.1 (by simp at h;omega)
          rw [S6];have:=hsum2 hl;omega
        · split
          · rename_i h
            have hl:=Dj hz.1 (by simp at h;omega)
            rw [S6];have:=hsum2 hl;omega
          · split
            · have:At (Er (e.val.num==0))=1:=by rw [D7];rfl
              omega
            · have:At (Ow e)=At e+1:=by rw [D7];simp [Ow];omega
              have h1:1≤At e:=by omega
              omega
end Go.Proofs.YtkddpedfbicbeaaGreatDoor
