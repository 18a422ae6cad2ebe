/-
  Several texts in one: M7, M6, M8, M9, M10, M11, S11. No condition.
-/
import Derived.Test.YtjedflcpjlgokaaGreatDoorK02
set_option linter.unusedVariables false
set_option linter.unusedSimpArgs false
namespace Go.Proofs.YtjedflcpjlgokaaGreatDoor
open Go Go.Aw


inductive Fd (f:Ex→Ex):Ex→Prop where
 | mk (e:Ex) (ha:∀a∈e.args,Fd f a) (h:f e=e):Fd f e
theorem nL {e a:Ex}(h:a∈e.args):Ct a<Ct e:=by
  rw [K5 e]
  have:∀l:List Ex,a∈l→Ct a≤(l.map Ct).foldr max 0:=by
    intro l
    induction l with
    | nil=>intro h;cases h
    | cons x r ih=>
      intro h
      simp only [List.map_cons,List.foldr_cons]
      rcases List.mem_cons.1 h with rfl | h
      · omega
      · have:=ih h;omega
  have:=this _ h
  omega
theorem dU {e:Ex}(h:B4 e=0):Ar e≤64∧Ct e≤12∧Ca e=0:=by
 unfold B4 at h
 split at h
 · cases h
 rename_i h1
 split at h
 · cases h
 rename_i h2
 simp at h1 h2
 exact ⟨by omega,by omega,h⟩
theorem rM {e:Ex}(h1:Ar e≤64)(h2:Ct e≤12)(h3:Ca e=0):B4 e=0:=by
 unfold B4
 rw [if_neg (by simp;omega),if_neg (by simp;omega)];exact h3

def wB (v:Vl):Prop:=v.kind=1→v=Eh (v.num==1)
theorem G2 {v:Vl}(h:Aq v=0):wB v:=by
 intro hk
 obtain ⟨k,n,t⟩:=v
 simp only at hk;subst hk
 unfold Aq Ef at h
 by_cases ht:t = []
 ·
  subst ht
  simp at h
  by_cases h1:n=1
  · subst h1;rfl
  ·
   have h0:n=0:=by omega
   subst h0;rfl
 · simp [ht] at h
theorem J0 {v:Vl}(h:v.kind=0):wB v:=fun hk=>by rw [h] at hk;cases hk
theorem dT (b:Bool):wB (Eh b):=G2 (yJ b)

theorem jB {a:Ac}{o:Vl}(h:(Dr a o).2=0):wB (Dr a o).1:=by
 unfold Dr at h ⊢
 split at h
 · rename_i h1;simp at h1 h;exact absurd h h1
 split at h
 · rename_i _ h1;simp at h1 h;exact absurd h h1
 rename_i ha hw
 rw [if_neg ha,if_neg hw]
 simp at ha hw
 split
 · exact J0 rfl
 rename_i hk
 split
 ·
  refine G2 ?_
  unfold Do at hw
  by_cases e:Aq o=0
  · exact e
  · simp [e] at hw
 ·
  rename_i hc
  have hkn:=Mv ha
  unfold Bt at ha
  simp only [hkn,Bool.not_true,Bool.false_eq_true,if_false] at ha
  split at ha
  · cases ha
  have hx:(if a.count==0||a.kind==0 then isV0 a.val
   else if a.kind==1 then a.val.kind==0&&a.val.text == []&&decide (0-a.count*1099511627776≤a.val.num)&&decide (a.val.num≤a.count*1099511627776)
   else Aq a.val==0&&Em a.kind a.val)=true:=Decidable.byContradiction fun hX=>by
    rw [if_neg hX] at ha;cases ha
  by_cases h0:(a.count==0||a.kind==0)=true
  ·
   rw [if_pos h0] at hx
   exact J0 (by rw [(gE _).1 hx];rfl)
  ·
   rw [if_neg h0] at hx
   by_cases h1:(a.kind==1)=true
   ·
    rw [if_pos h1] at hx
    simp only [Bool.and_eq_true,beq_iff_eq] at hx
    exact J0 hx.1.1.1
   ·
    rw [if_neg h1] at hx
    simp only [Bool.and_eq_true,beq_iff_eq] at hx
    exact G2 hx.1

theorem of_okB {k:Int}{l:List Vl}{o:Vl}(h:(cQ k l o).2=0):wB (cQ k l o).1:=by
 unfold cQ at h ⊢
 split at h
 · cases h
 split at h
 · cases h
 split at h
 · rename_i h1;simp at h1 h;exact absurd h h1
 rename_i h1 h2 h3
 rw [if_neg h1,if_neg h2,if_neg h3]
 exact jB h

theorem Lu {e:Ex}(h:B3 e=0)(ho:e.op=0):Aq e.val=0∧e.args = []:=by
 obtain ⟨_,_,h3⟩:=F6 h
 have ha:D8 0=0:=by decide
 rw [ho,ha] at h3
 refine ⟨?_,List.eq_nil_of_length_eq_zero (by omega)⟩
 unfold B3 at h
 split at h
 · cases h
 split at h
 · cases h
 split at h
 · cases h
 split at h
 · cases h
 rw [if_pos (by simp [ho])] at h
 split at h
 · rename_i h4;simp at h4;exact absurd h h4
 rename_i h4
 simp at h4
 unfold Fb at h4
 by_cases e':Aq e.val=0
 · exact e'
 · simp [e'] at h4

theorem tI {x:Evr}{e:Ex}(hn:B3 e=0)(h:(E7 x e).2=0):wB (E7 x e).1:=by
 unfold E7 at h ⊢
 split
 · rename_i h0;exact G2 (Lu hn (by simpa using h0)).1
 ·
  rename_i h0
  rw [if_neg h0] at h
  split
  · exact J0 rfl
  ·
   rename_i h1
   rw [if_neg h1] at h
   split
   ·
    rename_i h2
    rw [if_pos h2] at h
    simp only [Ot] at h ⊢
    by_cases h3:(Ao (fun v=>(Dq v e.field).2) (Bx x.vars e.var) != 0)=true
    · rw [if_pos h3];exact J0 rfl
    ·
     rw [if_neg h3] at h ⊢
     exact of_okB h
   ·
    rename_i h2
    rw [if_neg h2] at h
    have hr:∀ev:Ev,(Gs ev e).2=0→wB (Gs ev e).1:=by
     intro ev h
     unfold Gs at h ⊢
     by_cases h4:(e.op==2)=true
     · rw [if_pos h4];exact J0 rfl
     rw [if_neg h4] at h ⊢
     by_cases h5:((Dq ev e.field).2==0)=true
     ·
      rw [if_pos h5] at h ⊢
      by_cases h6:(Aq (Dq ev e.field).1 != 0)=true
      · rw [if_pos h6];exact J0 rfl
      · rw [if_neg h6];exact G2 (by simpa using h6)
     · rw [if_neg h5];exact J0 rfl
    split
    ·
     rename_i h4
     rw [if_pos h4] at h
     split
     · exact J0 rfl
     ·
      rename_i h5
      rw [if_neg h5] at h
      exact hr _ h
    ·
     rename_i h4
     rw [if_neg h4] at h
     exact hr _ h

theorem oG (op a b:Int):wB (G3 op a b):=by
 unfold G3
 repeat' split
 all_goals first | exact J0 rfl | exact dT _

theorem qW {op:Int}{l:List Vl}(h:(Ko op l).2=0):(∀v∈l,Nu op v.kind ((l.map (·.kind)).headD 0)=true)∧
  Ko op l=(if op==9 then Eh (eqV (l.headD v0) ((l[1]?).getD v0)) else G3 op (l.headD v0).num (l.getLastD v0).num,0):=by
 unfold Ko at h ⊢
 by_cases h1:(D0 op (l.map (·.kind)) != 0)=true
 · rw [if_pos h1] at h;simp at h1 h;exact absurd h h1
 ·
  rw [if_neg h1]
  refine ⟨fun v hv=>?_,?_⟩
  ·
   have h2:D0 op (l.map (·.kind))=0:=by simpa using h1
   have:=Gy h2 v.kind (List.mem_map.2 ⟨v,hv,rfl⟩)
   split at this
   · assumption
   · cases this
  ·
   by_cases h9:(op==9)=true
   · rw [if_pos h9,if_pos h9]
   · rw [if_neg h9,if_neg h9]
theorem pR {op:Int}{l:List Vl}(h:(Ko op l).2=0):wB (Ko op l).1:=by
 rw [(qW h).2]
 split
 · exact dT _
 · exact oG _ _ _

theorem L8 {x:Evr}{e:Ex}(h:e.args = []):B6 x e=E7 x e:=by rw [Kd,if_pos (by simp [h])]
theorem nO {x:Evr}{e:Ex}(hne:e.args≠[])(h:(B6 x e).2=0) :
  (∀a∈e.args,(B6 x a).2=0)∧B6 x e=Ko e.op (e.args.map fun a=>(B6 x a).1):=by
 have h0:¬e.args.isEmpty=true:=by simpa using hne
 rw [Kd,if_neg h0] at h ⊢
 by_cases h1:(Ao (fun a=>(B6 x a).2) e.args != 0)=true
 · rw [if_pos h1] at h;simp at h1 h;exact absurd h h1
 ·
  rw [if_neg h1]
  exact ⟨Gy (by simpa using h1),rfl⟩
theorem Vg {x:Evr}{e:Ex}(hne:e.args≠[])(h:∀a∈e.args,(B6 x a).2=0):B6 x e=Ko e.op (e.args.map fun a=>(B6 x a).1):=by
  have h0:¬e.args.isEmpty=true:=by simpa using hne
  have h1:Ao (fun a=>(B6 x a).2) e.args=0:=by
    have:∀l:List Ex,(∀a∈l,(B6 x a).2=0)→Ao (fun a=>(B6 x a).2) l=0:=by
      intro l
      induction l with
      | nil=>intro _;rfl
      | cons y r ih=>
        intro hl
        rw [Ao,if_neg (by simp [hl y (by simp)])]
        exact ih fun a ha=>hl a (by simp [ha])
    exact this _ h
  rw [Kd,if_neg h0,if_neg (by simp [h1])]

theorem sR {x:Evr}{e:Ex}(hn:Ca e=0)(h:(B6 x e).2=0):wB (B6 x e).1:=by
 have hz:=Bc hn
 by_cases he:e.args = []
 · rw [L8 he] at h ⊢;exact tI hz.1 h
 ·
  have h1:=nO he h
  rw [h1.2] at h ⊢
  exact pR h

theorem vT {x:Evr}{a:Ex}(hn:B3 a=0)(h:a.op=0):B6 x a=(a.val,0):=by
 rw [L8 (Lu hn h).2];unfold E7;rw [if_pos (by simp [h])]


def atS (to:List Int)(v:Int):Int:=(to[v.toNat]?).getD 0
def mK (to:List Int)(e:Ex):Int:=
 if !(D2 e.op).1 then 0 else if decide ((to.length:Int)≤e.var) then 6 else if decide (atS to e.var<0)||decide (16≤atS to e.var) then 2 else 0
def sG (to:List Int)(e:Ex):Ex:=if (D2 e.op).1 then ⟨e.op,e.args,atS to e.var,e.field,e.kind,e.val⟩ else e
def renS (to:List Int)(e:Ex):Ex×Int:=if I4 (mK to) e != 0 then (kP,I4 (mK to) e) else (zA (sG to) e,0)
def RenameS (e:Ex)(to:List Int):Ex×Int:=if B4 e != 0 then (kP,B4 e) else renS to e

theorem Mm {e:Ex}(h:B3 e=0):0≤e.var∧e.var<16:=by
  have hf:Br e=0→(D2 e.op).1=false→e.var=0:=by
    intro h1 h2
    unfold Br at h1
    split at h1
    · cases h1
    · rename_i h3
      simp [h2] at h3
      exact h3.1.1.1
  unfold B3 at h
  split at h
  · cases h
  split at h
  · cases h
  split at h
  · cases h
  rename_i h1 h2 h3
  cases hu:(D2 e.op).1 with
  | true=>
    simp [hu] at h3
    omega
  | false=>
    have:Br e=0:=by
      split at h
      · cases h
      split at h
      · split at h
        · rename_i h4
          exact absurd h (by simpa using h4)
        · exact h
      · exact h
    rw [hf this hu];omega


def ownS (e:Ex):List Nat:=if (D2 e.op).1&&decide (0≤e.var)&&decide (e.var<16) then [e.var.toNat] else []
mutual
def usedS:Ex→List Nat
 | ⟨op,args,var,field,kind,val⟩=>ownS ⟨op,args,var,field,kind,val⟩++usedL args
def usedL:List Ex→List Nat
 | []=>[]
 | e::r=>usedS e++usedL r
end
def cSeen (S:List Nat):List AV:=(List.range 16).map fun v=>.bool (S.contains v)
theorem seen_len (S:List Nat):(cSeen S).length=16:=rfl
def uptoS (S:List Nat)(k:Nat):List Int:=((List.range k).filter fun v=>S.contains v).map fun (v:Nat)=>(v:Int)
theorem upto_zero (S:List Nat):uptoS S 0 = []:=rfl
def varsS (e:Ex):List Int:=uptoS (usedS e) 16


def tvS (n b v:Nat):Int:=((v:Int)+(b:Int)).tmod (n:Int)
def toS (n b:Nat):List Int:=(List.range n).map (tvS n b)

structure Fi where
 name:List UInt8
 kind:Int
structure Sc where
 name:List UInt8
 fields:List Fi
structure Va where
 name:List UInt8
 type:Int
def cFi (f:Fi):List AV:=[.str f.name,.int .i64 f.kind]
def Ob (s:Sc):List AV:=[.str s.name,.sl 2 (s.fields.map cFi)]
def S4 (v:Va):List AV:=[.str v.name,.int .i64 v.type]
def sc0:Sc:=⟨[],[]⟩
def fi0:Fi:=⟨[],0⟩
def va0:Va:=⟨[],0⟩

def S0 (n:Int):Bool:=n==95||(decide (97≤n)&&decide (n≤122))||(decide (65≤n)&&decide (n≤90))
def S3 (n:Int):Bool:=decide (48≤n)&&decide (n≤57)
def bV (b:UInt8):Bool:=S0 b.toNat||S3 b.toNat
def Lz (s:List UInt8):Bool:=!(s.length==0)&&decide (s.length≤24) && !S3 ((s.headD 0).toNat)&&s.all bV
def tS:List UInt8:=[116,105,109,101]
def O2 (s:List UInt8):Bool:=Lz s && !(s==tS)

def D6 (seen:List (List UInt8))(f:Fi):Int:=
 if !O2 f.name then 8 else if seen.contains f.name then 7 else if decide (f.kind<0)||decide (3≤f.kind) then 1 else 0
def H4:List (List UInt8)→List Fi→Int
 | _,[]=>0
 | seen,f::r=>if D6 seen f != 0 then D6 seen f else H4 (seen ++ [f.name]) r
def Id (s:Sc):Int:=if !Lz s.name then 8 else if decide (8<(s.fields.length:Int)) then 5 else H4 [] s.fields
def Hk (seen:List (List UInt8))(s:Sc):Int:=if Id s != 0 then Id s else if seen.contains s.name then 7 else 0
def Jt:List (List UInt8)→List Sc→Int
 | _,[]=>0
 | seen,s::r=>if Hk seen s != 0 then Hk seen s else Jt (seen ++ [s.name]) r
def Ep (l:List Sc):Int:=if decide (16<(l.length:Int)) then 5 else Jt [] l

def Od (ns:List (List UInt8))(n:List UInt8):Int:=if ns.contains n then ((ns.idxOf n:Nat):Int) else -1
theorem Oy {ns:List (List UInt8)}{k:Nat}{n:List UInt8}(h:ns[k]? = some n):decide (Od ns n<(k:Int))=(ns.take k).contains n:=by
 have hm:n∈ns:=List.mem_of_getElem? h
 have hc:ns.contains n=true:=by simpa using hm
 unfold Od
 rw [if_pos hc]
 have key:ns.idxOf n<k↔n∈ns.take k:=by
  constructor
  ·
   intro hlt
   have h1:ns.idxOf n<ns.length:=List.idxOf_lt_length_of_mem hm
   have h2:ns[ns.idxOf n]=n:=List.getElem_idxOf h1
   rw [List.mem_take_iff_getElem]
   exact ⟨ns.idxOf n,by omega,h2⟩
  ·
   intro hmem
   obtain ⟨i,hi,he⟩:=List.mem_take_iff_getElem.1 hmem
   have:ns.idxOf n≤i:=by
    refine Nat.le_of_not_lt fun hlt=>?_
    have h4:=List.not_of_lt_findIdx (p:=fun x=>x==n) (xs:=ns) (i:=i) hlt
    simp only [he] at h4
    simp at h4
   omega
 by_cases hk:ns.idxOf n<k
 ·
  have h2:=key.1 hk
  have e1:decide (((ns.idxOf n:Nat):Int)<(k:Int))=true:=by simp;omega
  rw [e1];symm;simpa using h2
 ·
  have h2:¬n∈ns.take k:=fun h=>hk (key.2 h)
  have e1:decide (((ns.idxOf n:Nat):Int)<(k:Int))=false:=by simp;omega
  rw [e1];symm;simpa using h2
def Oc (n:Int)(v:Va):Int:=if decide (v.type<0)||decide (n≤v.type) then 6 else 0
def Iv (types:List Sc)(vars:List Va):Int:=if decide (16<(vars.length:Int)) then 5 else Ao (Oc types.length) vars

def Ez (types:List Sc)(vars:List Va)(v:Int):List Fi:=((types[((vars[v.toNat]?).getD va0).type.toNat]?).getD sc0).fields
def Hg (l:List Fi)(k:Int):Int:=((l[k.toNat]?).getD fi0).kind
def F2 (types:List Sc)(vars:List Va)(e:Ex):Int×Int:=
 if e.op==0 then (e.val.kind,0)
 else if decide ((vars.length:Int)≤e.var) then (0,6)
 else if e.op==2||e.op==3 then (0,0)
 else if decide (((Ez types vars e.var).length:Int)≤e.field) then (0,6)
 else if e.op==4&&(Hg (Ez types vars e.var) e.field != e.val.kind || !Dz e.kind ⟨Hg (Ez types vars e.var) e.field,0,[]⟩) then (0,9)
 else (Hg (Ez types vars e.var) e.field,0)
def Vk (op:Int):Int:=if op==5||op==6 then 0 else 1

mutual
def Cj (types:List Sc)(vars:List Va):Ex→Int×Int
  | ⟨op,args,var,field,kind,val⟩=>
    if args.isEmpty then F2 types vars ⟨op,args,var,field,kind,val⟩
    else if (J6 types vars args).2 != 0 then (0,(J6 types vars args).2)
    else if D0 op (J6 types vars args).1 != 0 then (0,D0 op (J6 types vars args).1) else (Vk op,0)
def J6 (types:List Sc)(vars:List Va):List Ex→List Int×Int
 | []=>([],0)
 | e::r=>if (Cj types vars e).2 != 0 then ([],(Cj types vars e).2) else if (J6 types vars r).2 != 0 then ([],(J6 types vars r).2) else ((Cj types vars e).1::(J6 types vars r).1,0)
end
theorem Sv (types:List Sc)(vars:List Va):∀l,(J6 types vars l).2=Ao (fun a=>(Cj types vars a).2) l
  | []=>by simp [J6,Ao]
  | e::r=>by
    have:=Sv types vars r
    by_cases h:((Cj types vars e).2 != 0)=true
    · rw [J6,Ao,if_pos h,if_pos h]
    · rw [J6,Ao,if_neg h,if_neg h,←this]
      by_cases h2:((J6 types vars r).2 != 0)=true
      · rw [if_pos h2]
      · rw [if_neg h2]
        have h3:(J6 types vars r).2=0:=by simpa using h2
        exact h3.symm
theorem cY (types:List Sc)(vars:List Va):∀l,Ao (fun a=>(Cj types vars a).2) l=0→(J6 types vars l).1=l.map fun a=>(Cj types vars a).1
  | [],_=>by simp [J6]
  | e::r,h=>by
    simp only [Ao] at h
    by_cases h1:((Cj types vars e).2 != 0)=true
    · rw [if_pos h1] at h;simp [h] at h1
    · rw [if_neg h1] at h
      have h2:¬((J6 types vars r).2 != 0)=true:=by rw [Sv,h];simp
      rw [J6,if_neg h1,if_neg h2]
      simp [cY types vars r h]
theorem E0 (types:List Sc)(vars:List Va)(e:Ex):Cj types vars e=if e.args.isEmpty then F2 types vars e else if Ao (fun a=>(Cj types vars a).2) e.args != 0 then (0,Ao (fun a=>(Cj types vars a).2) e.args)
  else if D0 e.op (e.args.map fun a=>(Cj types vars a).1) != 0 then (0,D0 e.op (e.args.map fun a=>(Cj types vars a).1)) else (Vk e.op,0):=by
 cases e with | mk op args var field kind val=>
 rw [Cj]
 simp only [Sv]
 by_cases h:Ao (fun a=>(Cj types vars a).2) args=0
 · simp [h,cY types vars args h]
 · simp [h]
def Cn (types:List Sc)(vars:List Va)(e:Ex):Int×Int:=
 if Ep types != 0 then (0,Ep types) else if Iv types vars != 0 then (0,Iv types vars) else if B4 e != 0 then (0,B4 e) else Cj types vars e

def shortS (types:List Sc)(vars:List Va):Bool:=!((types.take 30).any fun s=>decide (12<(s.fields.length:Int)))&&(decide ((types.length:Int)≤20)&&decide ((vars.length:Int)≤20))


def pK (v:Vl)(k:Int):Prop:=v.kind=k∧Aq v=0
def cK (s:Sc)(ev:Ev):Prop:=ev.values.length=s.fields.length∧∀(k:Nat) (f:Fi),s.fields[k]? = some f→∃w,ev.values[k]? = some w∧pK w f.kind
def J4 (types:List Sc)(vars:List Va)(env:List (List Ev)):Prop:=
 env.length=vars.length∧∀(i:Nat) (v:Va),vars[i]? = some v→∃s ev,types[v.type.toNat]? = some s∧env[i]? = some [ev]∧cK s ev

theorem bD {types:List Sc}{vars:List Va}{i:Int}{v:Va}{s:Sc}(hv:vars[i.toNat]? = some v)(hs:types[v.type.toNat]? = some s):Ez types vars i=s.fields:=by simp [Ez,hv,hs]

theorem fO {k:Int}{w:Vl}(h:Aq w=0)(hs:Dz k w=true):Do k w=0:=by
 have:Em k w=true:=by
  unfold Dz at hs;unfold Em
  simp only [Bool.or_eq_true,beq_iff_eq,Bool.and_eq_true,bne_iff_ne] at hs ⊢
  omega
 unfold Do
 simp [h,this]

theorem Ye {k:Int}{w o:Vl}(hk:1≤k∧k≤5)(hw:Aq w=0)(hs:Dz k w=true)(ho:Do k o=0):cQ k [w] o=(w,0):=by
 have hkn:Dt k=true:=by simp [Dt];omega
 have h1:=fO hw hs
 have h2:Ao (Do k) [w]=0:=by simp [Ao,h1]
 have h0:Bt ⟨k,0,v0⟩=0:=by
  unfold Bt
  simp [hkn,isV0,v0]
 have hst:Yn k [w]=⟨k,1,w⟩:=by
  have:(k==0)=false:=by simp;omega
  simp [Yn,Jo,Eu,Et,this]
 have ha:Bt (Yn k [w])=0:=kQ [w] ⟨k,0,v0⟩ h0 rfl h2 (by simp)
 unfold cQ
 rw [if_neg (by simp [hkn]),if_neg (by simp),if_neg (by rw [h2];decide)]
 rw [hst] at ha ⊢
 unfold Dr
 rw [if_neg (by rw [ha];decide),if_neg (by simp only [ho];decide)]
 have hk0:(k==0)=false:=by simp;omega
 simp [hk0]

theorem T9 {e:Ex}(h:B3 e=0)(h4:e.op=4):Do e.kind e.val=0∧1≤e.kind∧e.kind≤5:=by
 unfold B3 at h
 split at h
 · cases h
 split at h
 · cases h
 split at h
 · cases h
 split at h
 · cases h
 rename_i h5
 have hk:1≤e.kind∧e.kind≤5:=by
  simp [h4] at h5;omega
 rw [if_pos (by simp [h4])] at h
 by_cases hc:Fb e=0
 ·
  refine ⟨?_,hk⟩
  unfold Fb at hc
  by_cases hv:Aq e.val=0
  ·
   rw [if_neg (by simp [hv])] at hc
   by_cases hs:Dz e.kind e.val=true
   · exact fO hv hs
   ·
    exfalso
    rw [if_pos (by simp [h4];left;simpa using hs)] at hc
    cases hc
  · rw [if_pos (by simp [hv])] at hc;exact absurd hc hv
 · rw [if_pos (by simp [hc])] at h;exact absurd h hc

theorem Pg (b:Bool):(Eh b).kind=1:=by cases b <;> rfl
theorem jP (op a b:Int)(h9:op≠9):(G3 op a b).kind=Vk op:=by
 unfold G3 Vk
 repeat' split
 all_goals first | rfl | exact Pg _ | skip
 all_goals simp_all

theorem Mc {env:List (List Ev)}{ev:Ev}{e:Ex}(hevs:Bx env e.var = [ev])(hown:(e.var != -1)=true)(h0:¬(e.op==0)=true)(h3:¬e.op=3)(h4:¬e.op=4):E7 ⟨env,-1,L3⟩ e=Gs ev e:=by
 unfold E7
 rw [if_neg h0,if_neg (by simp [h3]),if_neg (by simp [h4]),if_pos hown]
 simp only [hevs]
 rfl

theorem Rn {types:List Sc}{vars:List Va}{env:List (List Ev)}(hS:J4 types vars env)(e:Ex)(hn:Ca e=0)(hk:(Cj types vars e).2=0) :
    (B6 ⟨env,-1,L3⟩ e).2=0∧(B6 ⟨env,-1,L3⟩ e).1.kind=(Cj types vars e).1:=by
  induction e using Ex.Aav with
  | h e ih=>
    have hz:=Bc hn
    have hvr:=Mm hz.1
    have hfr:=Jr hz.1
    by_cases ha:e.args = []
    · rw [E0 types vars e,if_pos (by simp [ha])] at hk ⊢
      rw [L8 ha]
      unfold F2 at hk ⊢
      by_cases h0:(e.op==0)=true
      · rw [if_pos h0] at hk ⊢
        unfold E7;rw [if_pos h0];exact ⟨rfl,rfl⟩
      rw [if_neg h0] at hk ⊢
      by_cases h1:decide ((vars.length:Int)≤e.var)=true
      · rw [if_pos h1] at hk;cases hk
      rw [if_neg h1] at hk ⊢
      have hlt:e.var<(vars.length:Int):=by simp at h1;omega
      obtain ⟨v,hv⟩:=Hi (l:=vars) hvr.1 hlt
      obtain ⟨s,ev,hs,hev,hse⟩:=hS.2 _ v hv
      have hel:e.var<(env.length:Int):=by rw [hS.1];exact hlt
      have hevs:Bx env e.var = [ev]:=by
        unfold Bx
        rw [if_neg (by simp;omega),hev];rfl
      have hown:(e.var != -1)=true:=by simp;omega
      have hfl:Ez types vars e.var=s.fields:=bD hv hs
      rw [hfl] at hk ⊢
      by_cases h3:e.op=3
      · unfold E7
        rw [if_neg h0,if_pos (by simp [h3])]
        rw [if_pos (by simp [h3])]
        exact ⟨rfl,rfl⟩
      by_cases h2:e.op=2
      · rw [Mc hevs hown h0 h3 (by omega),if_pos (by simp [h2])]
        unfold Gs
        rw [if_pos (by simp [h2])]
        exact ⟨rfl,rfl⟩
      rw [if_neg (by simp [h2,h3])] at hk ⊢
      by_cases h4:decide ((s.fields.length:Int)≤e.field)=true
      · rw [if_pos h4] at hk;cases hk
      rw [if_neg h4] at hk ⊢
      obtain ⟨f,hf⟩:=Hi (l:=s.fields) hfr (by simp at h4;omega)
      obtain ⟨w,hw,hgw⟩:=hse.2 _ f hf
      have hka:Hg s.fields e.field=f.kind:=by simp [Hg,hf]
      have hfs:Dq ev e.field=(w,0):=by
        unfold Dq
        rw [if_neg (by rw [hse.1];exact h4),hw];rfl
      rw [hka] at hk ⊢
      by_cases h5:e.op=4
      · by_cases h6:(e.op==4&&(f.kind != e.val.kind || !Dz e.kind ⟨f.kind,0,[]⟩))=true
        · rw [if_pos h6] at hk;cases hk
        rw [if_neg h6]
        have htw:=T9 hz.1 h5
        have hes:Dz e.kind w=true:=by
          simp [h5] at h6
          have:=h6.2
          unfold Dz at this ⊢
          rw [hgw.1];exact this
        unfold E7 Ot
        rw [if_neg h0,if_neg (by simp [h3]),if_pos (by simp [h5]),hevs]
        have e1:Ao (fun v=>(Dq v e.field).2) [ev]=0:=by simp [Ao,hfs]
        rw [if_neg (by rw [e1];decide)]
        have e2:([ev].map fun v=>(Dq v e.field).1) = [w]:=by simp [hfs]
        rw [e2,Ye ⟨htw.2.1,htw.2.2⟩ hgw.2 hes htw.1]
        exact ⟨rfl,hgw.1⟩
      · have h6:¬(e.op==4&&(f.kind != e.val.kind || !Dz e.kind ⟨f.kind,0,[]⟩))=true:=by simp [h5]
        rw [if_neg h6]
        rw [Mc hevs hown h0 h3 h5]
        unfold Gs
        rw [if_neg (by simp [h2]),hfs,if_pos (by rfl),if_neg (by rw [hgw.2];decide)]
        exact ⟨rfl,hgw.1⟩
    · have hne:¬e.args.isEmpty=true:=by simpa using ha
      rw [E0 types vars e,if_neg hne] at hk ⊢
      by_cases h1:(Ao (fun a=>(Cj types vars a).2) e.args != 0)=true
      · rw [if_pos h1] at hk;simp at h1 hk;exact absurd hk h1
      rw [if_neg h1] at hk ⊢
      have hka:=Gy (f:=fun a=>(Cj types vars a).2) (l:=e.args) (by simpa using h1)
      have hih:∀a∈e.args,_:=fun a hm=>ih a hm (hz.2 a hm) (hka a hm)
      by_cases h2:(D0 e.op (e.args.map fun a=>(Cj types vars a).1) != 0)=true
      · rw [if_pos h2] at hk;simp at h2 hk;exact absurd hk h2
      rw [if_neg h2]
      have hkinds:(e.args.map fun a=>(B6 ⟨env,-1,L3⟩ a).1).map (·.kind)=e.args.map fun a=>(Cj types vars a).1:=by
        rw [List.map_map]
        exact List.map_congr_left fun a hm=>(hih a hm).2
      rw [Vg ha fun a hm=>(hih a hm).1]
      unfold Ko
      rw [hkinds,if_neg h2]
      by_cases h9:(e.op==9)=true
      · rw [if_pos h9]
        refine ⟨rfl,?_⟩
        rw [Pg]
        simp only [beq_iff_eq] at h9
        rw [h9];rfl
      · rw [if_neg h9]
        exact ⟨rfl,jP _ _ _ (by simpa using h9)⟩


section
variable {α:Type} (f:Ex→List α→α)
mutual
def P3:Ex→α
 | ⟨op,args,var,field,kind,val⟩=>f ⟨op,args,var,field,kind,val⟩ (uE args)
def uE:List Ex→List α
 | []=>[]
 | e::r=>P3 e::uE r
end
theorem eJ:∀l:List Ex,uE f l=l.map (P3 f)
 | []=>by simp [uE]
 | e::r=>by simp [uE,eJ r]
theorem U5 (e:Ex):P3 f e=f e (e.args.map (P3 f)):=by cases e;rw [P3,eJ]
end
def Q8 {α:Type}(d:α)(l:List α):α:=l.headD d
def Ys {α:Type}(d:α)(l:List α):α:=(l[1]?).getD d

def two (op:Int)(a b:Ex):Ex:=⟨op,[a,b],0,0,0,v0⟩
def notE (a:Ex):Ex:=⟨12,[a],0,0,0,v0⟩
def Fy (b:Bool):Ex:=Ny (Eh b)

def negN (e:Ex)(ns:List Ex):Ex:=
 if e.op==10 then two 11 (Q8 kP ns) (Ys kP ns)
 else if e.op==11 then two 10 (Q8 kP ns) (Ys kP ns)
 else if e.op==12 then Av e
 else if e.op==7 then two 8 (Cc e) (Av e)
 else if e.op==8 then two 7 (Cc e) (Av e)
 else if e.op==0&&e.val.kind==1 then Fy (e.val.num==0)
 else notE e
def negS:Ex→Ex:=P3 negN
def NegateS (e:Ex):Ex×Int:=if B4 e != 0 then (kP,B4 e) else if B4 (negS e) != 0 then (kP,B4 (negS e)) else (negS e,0)

def Lw (e:Ex)(ev:Ev):Vl×Int:=
 if e.op==1 then (if decide ((ev.values.length:Int)≤e.field) then (⟨0,ev.time,[]⟩,6) else ((ev.values[e.field.toNat]?).getD v0,Aq ((ev.values[e.field.toNat]?).getD v0)))
 else (⟨0,ev.time,[]⟩,Aq ⟨0,ev.time,[]⟩)
def okL:List (Ex×Int)→List Ex×Option (Ex×Int)
 | []=>([],none)
 | p::r=>if p.2 != 0 then ([],some p) else ((p.1::(okL r).1),(okL r).2)
def knownN (vars:List (List Ev))(e:Ex)(ks:List (Ex×Int)):Ex×Int:=
  if e.op==1||e.op==2 then
    (if ((Bx vars e.var).length:Int)==0 then (e,0)
     else (Ny (Lw e ((Bx vars e.var).getLast?.getD L3)).1,(Lw e ((Bx vars e.var).getLast?.getD L3)).2))
  else match (okL ks).2 with
    | some p=>p
    | none=>(⟨e.op,(okL ks).1,e.var,e.field,e.kind,e.val⟩,0)
def jM (vars:List (List Ev)):Ex→Ex×Int:=P3 (knownN vars)
def KnownS (vars:List (List Ev))(e:Ex):Ex×Int:=if B4 e != 0 then (kP,B4 e) else if (jM vars e).2 != 0 then (kP,(jM vars e).2) else ((jM vars e).1,0)

structure Tm where
 op:Int
 v:Int
 field:Int
deriving DecidableEq
def Hw (t:Tm):List AV:=[.int .i64 t.op,.int .i64 t.v,.int .i64 t.field]
def Fx (t:Tm):Ex:=⟨t.op,[],t.v,t.field,0,v0⟩
def Dv (e:Ex):Tm:=⟨e.op,e.var,e.field⟩
structure Gp where
 plus:List Tm
 minus:List Tm
 rest:Int
def nV:Gp:=⟨[],[],0⟩
def cGp (g:Gp):List AV:=[.sl 3 (g.plus.map Hw),.sl 3 (g.minus.map Hw),.int .i64 g.rest]
structure Su where
 ts:List (Tm×Int)
 rest:Int
def Ir:Su:=⟨[],0⟩
def Fv (t:Tm)(b:Int):List (Tm×Int)→List (Tm×Int)
 | []=>[(t,b)]
 | p::r=>if t=p.1 then (p.1,p.2+b)::r else p::Fv t b r
abbrev Nz:=Int→Su→Su×Bool
def aL (e:Ex)(fs:List Nz):Nz:=fun b s=>
 if e.op==0 then (⟨s.ts,s.rest+b*e.val.num⟩,true)
 else if e.op==1||e.op==2 then (⟨Fv (Dv e) b s.ts,s.rest⟩,true)
 else if e.op==5 then
  (if !((Q8 (fun _ s=>(s,false)) fs:Nz) b s).2 then (((Q8 (fun _ s=>(s,false)) fs:Nz) b s).1,false) else (Ys (fun _ s=>(s,false)) fs:Nz) b ((Q8 (fun _ s=>(s,false)) fs:Nz) b s).1)
 else if e.op==6 then
  (if !((Q8 (fun _ s=>(s,false)) fs:Nz) b s).2 then (((Q8 (fun _ s=>(s,false)) fs:Nz) b s).1,false) else (Ys (fun _ s=>(s,false)) fs:Nz) (0-b) ((Q8 (fun _ s=>(s,false)) fs:Nz) b s).1)
 else (s,false)
def Bg:Ex→Nz:=P3 aL
theorem Po (e:Ex):Bg e=aL e (e.args.map Bg):=U5 aL e
def C5:List (Tm×Int)→List Tm→List Tm→Option (List Tm×List Tm)
 | [],p,m=>some (p,m)
 | t::r,p,m=>if t.2==0 then C5 r p m else if t.2==1 then C5 r (p ++ [t.1]) m else if t.2 == -1 then C5 r p (m ++ [t.1]) else none
def Or (s:Su):Gp×Bool:=match C5 s.ts [] [] with
 | some (p,m)=>(⟨p,m,s.rest⟩,decide ((p.length:Int)≤1)&&decide ((m.length:Int)≤1))
 | none=>(nV,false)
def B7 (a b:Ex):Gp×Bool:=
 if !(Bg a 1 Ir).2 then (nV,false) else if !(Bg b (-1) (Bg a 1 Ir).1).2 then (nV,false) else Or (Bg b (-1) (Bg a 1 Ir).1).1

section
variable (T:List Sc) (V:List Va)
abbrev kd (e:Ex):Int:=(Cj T V e).1
def An (e:Ex):Int:=
 if e.op==0||e.op==4 then e.val.kind
 else if e.op==1 then Hg (Ez T V e.var) e.field
 else if e.op==2||e.op==3||e.op==5||e.op==6 then 0 else 1
def D1 (e:Ex):Int:=if (Cn T V e).2 != 0 then (Cn T V e).2 else if (Cn T V e).1 != 1 then 9 else 0
def Cb (e:Ex):Bool:=e.op==7||e.op==8||e.op==9
def Dl (e:Ex):Bool:=e.op==9&&An T V (Av e)==2
def Lq (a:Ex):Bool:=a.op==0||a.op==1
def Ck (e:Ex):Bool:=
 if e.op==1 then true else if !Cb e then false else if Dl T V e then Lq (Av e)&&Lq (Cc e) else (B7 (Av e) (Cc e)).2
def C6 (e:Ex):Bool:=if e.op==9 then An T V (Av e)==1 else e.op==10||e.op==11||e.op==12||e.op==0
def plainN (e:Ex)(ps:List Bool):Bool:=if !C6 T V e then Ck T V e else ps.all id
def plainS:Ex→Bool:=P3 (plainN T V)
def PlainS (e:Ex):Bool×Int:=if D1 T V e != 0 then (false,D1 T V e) else (plainS T V e,0)
end

structure Lit where
 cond:Ex
 neg:Bool
def F0 (l:Lit):List AV:=[.int .i64 l.cond.op,.sl 8 (l.cond.args.map G8),.int .i64 l.cond.var,.int .i64 l.cond.field,.int .i64 l.cond.kind,.int .i64 l.cond.val.kind,.int .i64 l.cond.val.num,.str l.cond.val.text,.bool l.neg]
def P1 (c:List Lit):List AV:=[.sl 9 (c.map F0)]
abbrev Cs:=List (List Lit)×Bool
def Ec (c:Cs):List AV:=[.sl 1 (c.1.map P1),.bool c.2]
def Lh {α:Type}(a b:List (List α)):List (List α)×Bool:=if decide ((256:Int)<(a.length:Int)*(b.length:Int)) then ([],false) else (a.flatMap fun x=>b.map fun y=>x++y,true)
def Ek (a b:Cs):Cs:=if !a.2 || !b.2 then ([],false) else Lh a.1 b.1
def Ie (a b:Cs):Cs:=if (!a.2 || !b.2)||decide ((256:Int)<(a.1.length:Int)+(b.1.length:Int)) then ([],false) else (a.1++b.1,true)
def D9 (l:List Lit):Cs:=(l.map fun x=>[x],true)
section
variable (T:List Sc) (V:List Va)
abbrev G9:=Bool→Cs
def Oh (e:Ex)(fs:List G9):G9:=fun sign=>
  if e.op==0 then (if (e.val.num==1)==sign then ([[]],true) else ([],true))
  else if e.op==12 then (Q8 (fun _=>([],false)) fs:G9) (!sign)
  else if e.op==10||e.op==11 then
    (if (e.op==10)==sign then Ek ((Q8 (fun _=>([],false)) fs:G9) sign) ((Ys (fun _=>([],false)) fs:G9) sign)
     else Ie ((Q8 (fun _=>([],false)) fs:G9) sign) ((Ys (fun _=>([],false)) fs:G9) sign))
  else if e.op==9&&An T V (Av e)==1 then
    Ie (Ek ((Q8 (fun _=>([],false)) fs:G9) true) ((Ys (fun _=>([],false)) fs:G9) sign)) (Ek ((Q8 (fun _=>([],false)) fs:G9) false) ((Ys (fun _=>([],false)) fs:G9) (!sign)))
  else if e.op==9&&(An T V (Av e)==0 && !sign) then D9 [⟨two 7 (Av e) (Cc e),false⟩,⟨two 7 (Cc e) (Av e),false⟩]
  else D9 [⟨e,!sign⟩]
def Cl:Ex→G9:=P3 (Oh T V)
theorem I3 (e:Ex):Cl T V e=Oh T V e (e.args.map (Cl T V)):=U5 _ e
def Ce (e:Ex):List (List Lit)×Int:=if D1 T V e != 0 then ([],D1 T V e) else if !(Cl T V e true).2 then ([],17) else ((Cl T V e true).1,0)
end
end Go.Proofs.YtjedflcpjlgokaaGreatDoor
