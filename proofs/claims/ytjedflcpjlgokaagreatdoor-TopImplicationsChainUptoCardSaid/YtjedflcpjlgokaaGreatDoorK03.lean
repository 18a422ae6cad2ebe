/-
  Several texts in one: M7, M6, M8, M9, M10, M11, S11. No condition.
-/
import Derived.Test.YtjedflcpjlgokaaGreatDoorK02
set_option linter.unusedVariables false
set_option linter.unusedSimpArgs false
namespace Go.Proofs.YtjedflcpjlgokaaGreatDoor
open Go Go.Aw


inductive Fd (f:Ex→Ex):Ex→Prop where
 | mk (e:Ex) (ha:∀a∈e.args,Fd f a) (h:f e=e):Fd f e
def vV (v:Vl):Prop:=v.kind=1→v=Dv (v.num==1)
theorem Fk {v:Vl}(h:An v=0):vV v:=by
 intro hk
 obtain ⟨k,n,t⟩:=v
 simp only at hk;subst hk
 unfold An Dy at h
 by_cases ht:t = []
 ·
  subst ht
  simp at h
  by_cases h1:n=1
  · subst h1;rfl
  ·
   have h0:n=0:=by omega
   subst h0;rfl
 · simp [ht] at h
theorem Jo {v:Vl}(h:v.kind=0):vV v:=fun hk=>by rw [h] at hk;cases hk
theorem dA (b:Bool):vV (Dv b):=Fk (yP b)

theorem gU {a:Ac}{o:Vl}(h:(De a o).2=0):vV (De a o).1:=by
 unfold De at h ⊢
 split at h
 · rename_i h1;simp at h1 h;exact absurd h h1
 split at h
 · rename_i _ h1;simp at h1 h;exact absurd h h1
 rename_i ha hw
 rw [if_neg ha,if_neg hw]
 simp at ha hw
 split
 · exact Jo rfl
 rename_i hk
 split
 ·
  refine Fk ?_
  unfold Db at hw
  by_cases e:An o=0
  · exact e
  · simp [e] at hw
 ·
  rename_i hc
  have hkn:=Mw ha
  unfold Bi at ha
  simp only [hkn,Bool.not_true,Bool.false_eq_true,if_false] at ha
  split at ha
  · cases ha
  have hx:(if a.count==0||a.kind==0 then isV0 a.val
   else if a.kind==1 then a.val.kind==0&&a.val.text == []&&decide (0-a.count*1099511627776≤a.val.num)&&decide (a.val.num≤a.count*1099511627776)
   else An a.val==0&&Eh a.kind a.val)=true:=Decidable.byContradiction fun hX=>by
    rw [if_neg hX] at ha;cases ha
  by_cases h0:(a.count==0||a.kind==0)=true
  ·
   rw [if_pos h0] at hx
   exact Jo (by rw [(fA _).1 hx];rfl)
  ·
   rw [if_neg h0] at hx
   by_cases h1:(a.kind==1)=true
   ·
    rw [if_pos h1] at hx
    simp only [Bool.and_eq_true,beq_iff_eq] at hx
    exact Jo hx.1.1.1
   ·
    rw [if_neg h1] at hx
    simp only [Bool.and_eq_true,beq_iff_eq] at hx
    exact Fk hx.1

theorem of_okB {k:Int}{l:List Vl}{o:Vl}(h:(cK k l o).2=0):vV (cK k l o).1:=by
 unfold cK at h ⊢
 split at h
 · cases h
 split at h
 · cases h
 split at h
 · rename_i h1;simp at h1 h;exact absurd h h1
 rename_i h1 h2 h3
 rw [if_neg h1,if_neg h2,if_neg h3]
 exact gU h

theorem Im {e:Ex}(h:Bt e=0)(ho:e.op=0):An e.val=0∧e.args = []:=by
 obtain ⟨_,_,h3⟩:=Gu h
 have ha:D6 0=0:=by decide
 rw [ho,ha] at h3
 refine ⟨?_,List.eq_nil_of_length_eq_zero (by omega)⟩
 unfold Bt at h
 split at h
 · cases h
 split at h
 · cases h
 split at h
 · cases h
 split at h
 · cases h
 rw [if_pos (by simp [ho])] at h
 split at h
 · rename_i h4;simp at h4;exact absurd h h4
 rename_i h4
 simp at h4
 unfold E3 at h4
 by_cases e':An e.val=0
 · exact e'
 · simp [e'] at h4

theorem vJ {x:Evr}{e:Ex}(hn:Bt e=0)(h:(Ey x e).2=0):vV (Ey x e).1:=by
 unfold Ey at h ⊢
 split
 · rename_i h0;exact Fk (Im hn (by simpa using h0)).1
 ·
  rename_i h0
  rw [if_neg h0] at h
  split
  · exact Jo rfl
  ·
   rename_i h1
   rw [if_neg h1] at h
   split
   ·
    rename_i h2
    rw [if_pos h2] at h
    simp only [Nx] at h ⊢
    by_cases h3:(Aq (fun v=>(Dg v e.field).2) (Bn x.vars e.var) != 0)=true
    · rw [if_pos h3];exact Jo rfl
    ·
     rw [if_neg h3] at h ⊢
     exact of_okB h
   ·
    rename_i h2
    rw [if_neg h2] at h
    have hr:∀ev:Ev,(Gk ev e).2=0→vV (Gk ev e).1:=by
     intro ev h
     unfold Gk at h ⊢
     by_cases h4:(e.op==2)=true
     · rw [if_pos h4];exact Jo rfl
     rw [if_neg h4] at h ⊢
     by_cases h5:((Dg ev e.field).2==0)=true
     ·
      rw [if_pos h5] at h ⊢
      by_cases h6:(An (Dg ev e.field).1 != 0)=true
      · rw [if_pos h6];exact Jo rfl
      · rw [if_neg h6];exact Fk (by simpa using h6)
     · rw [if_neg h5];exact Jo rfl
    split
    ·
     rename_i h4
     rw [if_pos h4] at h
     split
     · exact Jo rfl
     ·
      rename_i h5
      rw [if_neg h5] at h
      exact hr _ h
    ·
     rename_i h4
     rw [if_neg h4] at h
     exact hr _ h

theorem nM (op a b:Int):vV (Gb op a b):=by
 unfold Gb
 repeat' split
 all_goals first | exact Jo rfl | exact dA _

theorem rL {op:Int}{l:List Vl}(h:(J7 op l).2=0):(∀v∈l,Na op v.kind ((l.map (·.kind)).headD 0)=true)∧
  J7 op l=(if op==9 then Dv (eqV (l.headD v0) ((l[1]?).getD v0)) else Gb op (l.headD v0).num (l.getLastD v0).num,0):=by
 unfold J7 at h ⊢
 by_cases h1:(Dm op (l.map (·.kind)) != 0)=true
 · rw [if_pos h1] at h;simp at h1 h;exact absurd h h1
 ·
  rw [if_neg h1]
  refine ⟨fun v hv=>?_,?_⟩
  ·
   have h2:Dm op (l.map (·.kind))=0:=by simpa using h1
   have:=Hj h2 v.kind (List.mem_map.2 ⟨v,hv,rfl⟩)
   split at this
   · assumption
   · cases this
  ·
   by_cases h9:(op==9)=true
   · rw [if_pos h9,if_pos h9]
   · rw [if_neg h9,if_neg h9]
theorem nK {op:Int}{l:List Vl}(h:(J7 op l).2=0):vV (J7 op l).1:=by
 rw [(rL h).2]
 split
 · exact dA _
 · exact nM _ _ _

theorem L3 {x:Evr}{e:Ex}(h:e.args = []):Bq x e=Ey x e:=by rw [Jx,if_pos (by simp [h])]
theorem pM {x:Evr}{e:Ex}(hne:e.args≠[])(h:(Bq x e).2=0) :
  (∀a∈e.args,(Bq x a).2=0)∧Bq x e=J7 e.op (e.args.map fun a=>(Bq x a).1):=by
 have h0:¬e.args.isEmpty=true:=by simpa using hne
 rw [Jx,if_neg h0] at h ⊢
 by_cases h1:(Aq (fun a=>(Bq x a).2) e.args != 0)=true
 · rw [if_pos h1] at h;simp at h1 h;exact absurd h h1
 ·
  rw [if_neg h1]
  exact ⟨Hj (by simpa using h1),rfl⟩
theorem Wq {x:Evr}{e:Ex}(hne:e.args≠[])(h:∀a∈e.args,(Bq x a).2=0):Bq x e=J7 e.op (e.args.map fun a=>(Bq x a).1):=by
  have h0:¬e.args.isEmpty=true:=by simpa using hne
  have h1:Aq (fun a=>(Bq x a).2) e.args=0:=by
    have:∀l:List Ex,(∀a∈l,(Bq x a).2=0)→Aq (fun a=>(Bq x a).2) l=0:=by
      intro l
      induction l with
      | nil=>intro _;rfl
      | cons y r ih=>
        intro hl
        rw [Aq,if_neg (by simp [hl y (by simp)])]
        exact ih fun a ha=>hl a (by simp [ha])
    exact this _ h
  rw [Jx,if_neg h0,if_neg (by simp [h1])]

theorem vF {x:Evr}{e:Ex}(hn:Dc e=0)(h:(Bq x e).2=0):vV (Bq x e).1:=by
 have hz:=A8 hn
 by_cases he:e.args = []
 · rw [L3 he] at h ⊢;exact vJ hz.1 h
 ·
  have h1:=pM he h
  rw [h1.2] at h ⊢
  exact nK h

theorem R0 {x:Evr}{a:Ex}(hn:Bt a=0)(h:a.op=0):Bq x a=(a.val,0):=by
 rw [L3 (Im hn h).2];unfold Ey;rw [if_pos (by simp [h])]


def atS (to:List Int)(v:Int):Int:=(to[v.toNat]?).getD 0
def mV (to:List Int)(e:Ex):Int:=
 if !(Dq e.op).1 then 0 else if decide ((to.length:Int)≤e.var) then 6 else if decide (atS to e.var<0)||decide (16≤atS to e.var) then 2 else 0
def uD (to:List Int)(e:Ex):Ex:=if (Dq e.op).1 then ⟨e.op,e.args,atS to e.var,e.field,e.kind,e.val⟩ else e
def renS (to:List Int)(e:Ex):Ex×Int:=if Iy (mV to) e != 0 then (kH,Iy (mV to) e) else (yM (uD to) e,0)
def RenameS (e:Ex)(to:List Int):Ex×Int:=if B4 e != 0 then (kH,B4 e) else renS to e

theorem L7 {e:Ex}(h:Bt e=0):0≤e.var∧e.var<16:=by
  have hf:Bg e=0→(Dq e.op).1=false→e.var=0:=by
    intro h1 h2
    unfold Bg at h1
    split at h1
    · cases h1
    · rename_i h3
      simp [h2] at h3
      exact h3.1.1.1
  unfold Bt at h
  split at h
  · cases h
  split at h
  · cases h
  split at h
  · cases h
  rename_i h1 h2 h3
  cases hu:(Dq e.op).1 with
  | true=>
    simp [hu] at h3
    omega
  | false=>
    have:Bg e=0:=by
      split at h
      · cases h
      split at h
      · split at h
        · rename_i h4
          exact absurd h (by simpa using h4)
        · exact h
      · exact h
    rw [hf this hu];omega


def ownS (e:Ex):List Nat:=if (Dq e.op).1&&decide (0≤e.var)&&decide (e.var<16) then [e.var.toNat] else []
mutual
def usedS:Ex→List Nat
 | ⟨op,args,var,field,kind,val⟩=>ownS ⟨op,args,var,field,kind,val⟩++zW args
def zW:List Ex→List Nat
 | []=>[]
 | e::r=>usedS e++zW r
end
def cSeen (S:List Nat):List AV:=(List.range 16).map fun v=>.bool (S.contains v)
theorem seen_len (S:List Nat):(cSeen S).length=16:=rfl
def zK (S:List Nat)(k:Nat):List Int:=((List.range k).filter fun v=>S.contains v).map fun (v:Nat)=>(v:Int)
theorem upto_zero (S:List Nat):zK S 0 = []:=rfl
def varsS (e:Ex):List Int:=zK (usedS e) 16


def tvS (n b v:Nat):Int:=((v:Int)+(b:Int)).tmod (n:Int)
def toS (n b:Nat):List Int:=(List.range n).map (tvS n b)

structure Fi where
 name:List UInt8
 kind:Int
structure Sc where
 name:List UInt8
 fields:List Fi
structure Va where
 name:List UInt8
 type:Int
def cFi (f:Fi):List AV:=[.str f.name,.int .i64 f.kind]
def O2 (s:Sc):List AV:=[.str s.name,.sl 2 (s.fields.map cFi)]
def Xr (v:Va):List AV:=[.str v.name,.int .i64 v.type]
def sc0:Sc:=⟨[],[]⟩
def fi0:Fi:=⟨[],0⟩
def va0:Va:=⟨[],0⟩

def Sh (n:Int):Bool:=n==95||(decide (97≤n)&&decide (n≤122))||(decide (65≤n)&&decide (n≤90))
def Tg (n:Int):Bool:=decide (48≤n)&&decide (n≤57)
def Z7 (b:UInt8):Bool:=Sh b.toNat||Tg b.toNat
def Ld (s:List UInt8):Bool:=!(s.length==0)&&decide (s.length≤24) && !Tg ((s.headD 0).toNat)&&s.all Z7
def sN:List UInt8:=[116,105,109,101]
def Ob (s:List UInt8):Bool:=Ld s && !(s==sN)

def D0 (seen:List (List UInt8))(f:Fi):Int:=
 if !Ob f.name then 8 else if seen.contains f.name then 7 else if decide (f.kind<0)||decide (3≤f.kind) then 1 else 0
def Hw:List (List UInt8)→List Fi→Int
 | _,[]=>0
 | seen,f::r=>if D0 seen f != 0 then D0 seen f else Hw (seen ++ [f.name]) r
def H1 (s:Sc):Int:=if !Ld s.name then 8 else if decide (8<(s.fields.length:Int)) then 5 else Hw [] s.fields
def G9 (seen:List (List UInt8))(s:Sc):Int:=if H1 s != 0 then H1 s else if seen.contains s.name then 7 else 0
def Jh:List (List UInt8)→List Sc→Int
 | _,[]=>0
 | seen,s::r=>if G9 seen s != 0 then G9 seen s else Jh (seen ++ [s.name]) r
def D8 (l:List Sc):Int:=if decide (16<(l.length:Int)) then 5 else Jh [] l

def Nv (ns:List (List UInt8))(n:List UInt8):Int:=if ns.contains n then ((ns.idxOf n:Nat):Int) else -1
theorem Oa {ns:List (List UInt8)}{k:Nat}{n:List UInt8}(h:ns[k]? = some n):decide (Nv ns n<(k:Int))=(ns.take k).contains n:=by
 have hm:n∈ns:=List.mem_of_getElem? h
 have hc:ns.contains n=true:=by simpa using hm
 unfold Nv
 rw [if_pos hc]
 have key:ns.idxOf n<k↔n∈ns.take k:=by
  constructor
  ·
   intro hlt
   have h1:ns.idxOf n<ns.length:=List.idxOf_lt_length_of_mem hm
   have h2:ns[ns.idxOf n]=n:=List.getElem_idxOf h1
   rw [List.mem_take_iff_getElem]
   exact ⟨ns.idxOf n,by omega,h2⟩
  ·
   intro hmem
   obtain ⟨i,hi,he⟩:=List.mem_take_iff_getElem.1 hmem
   have:ns.idxOf n≤i:=by
    refine Nat.le_of_not_lt fun hlt=>?_
    have h4:=List.not_of_lt_findIdx (p:=fun x=>x==n) (xs:=ns) (i:=i) hlt
    simp only [he] at h4
    simp at h4
   omega
 by_cases hk:ns.idxOf n<k
 ·
  have h2:=key.1 hk
  have e1:decide (((ns.idxOf n:Nat):Int)<(k:Int))=true:=by simp;omega
  rw [e1];symm;simpa using h2
 ·
  have h2:¬n∈ns.take k:=fun h=>hk (key.2 h)
  have e1:decide (((ns.idxOf n:Nat):Int)<(k:Int))=false:=by simp;omega
  rw [e1];symm;simpa using h2
def N6 (n:Int)(v:Va):Int:=if decide (v.type<0)||decide (n≤v.type) then 6 else 0
def Hb (types:List Sc)(vars:List Va):Int:=if decide (16<(vars.length:Int)) then 5 else Aq (N6 types.length) vars

def Fa (types:List Sc)(vars:List Va)(v:Int):List Fi:=((types[((vars[v.toNat]?).getD va0).type.toNat]?).getD sc0).fields
def G8 (l:List Fi)(k:Int):Int:=((l[k.toNat]?).getD fi0).kind
def Fm (types:List Sc)(vars:List Va)(e:Ex):Int×Int:=
 if e.op==0 then (e.val.kind,0)
 else if decide ((vars.length:Int)≤e.var) then (0,6)
 else if e.op==2||e.op==3 then (0,0)
 else if decide (((Fa types vars e.var).length:Int)≤e.field) then (0,6)
 else if e.op==4&&(G8 (Fa types vars e.var) e.field != e.val.kind || !Dk e.kind ⟨G8 (Fa types vars e.var) e.field,0,[]⟩) then (0,9)
 else (G8 (Fa types vars e.var) e.field,0)
def Wv (op:Int):Int:=if op==5||op==6 then 0 else 1

mutual
def Ce (types:List Sc)(vars:List Va):Ex→Int×Int
  | ⟨op,args,var,field,kind,val⟩=>
    if args.isEmpty then Fm types vars ⟨op,args,var,field,kind,val⟩
    else if (Jz types vars args).2 != 0 then (0,(Jz types vars args).2)
    else if Dm op (Jz types vars args).1 != 0 then (0,Dm op (Jz types vars args).1) else (Wv op,0)
def Jz (types:List Sc)(vars:List Va):List Ex→List Int×Int
 | []=>([],0)
 | e::r=>if (Ce types vars e).2 != 0 then ([],(Ce types vars e).2) else if (Jz types vars r).2 != 0 then ([],(Jz types vars r).2) else ((Ce types vars e).1::(Jz types vars r).1,0)
end
theorem Ta (types:List Sc)(vars:List Va):∀l,(Jz types vars l).2=Aq (fun a=>(Ce types vars a).2) l
  | []=>by simp [Jz,Aq]
  | e::r=>by
    have:=Ta types vars r
    by_cases h:((Ce types vars e).2 != 0)=true
    · rw [Jz,Aq,if_pos h,if_pos h]
    · rw [Jz,Aq,if_neg h,if_neg h,←this]
      by_cases h2:((Jz types vars r).2 != 0)=true
      · rw [if_pos h2]
      · rw [if_neg h2]
        have h3:(Jz types vars r).2=0:=by simpa using h2
        exact h3.symm
theorem eO (types:List Sc)(vars:List Va):∀l,Aq (fun a=>(Ce types vars a).2) l=0→(Jz types vars l).1=l.map fun a=>(Ce types vars a).1
  | [],_=>by simp [Jz]
  | e::r,h=>by
    simp only [Aq] at h
    by_cases h1:((Ce types vars e).2 != 0)=true
    · rw [if_pos h1] at h;simp [h] at h1
    · rw [if_neg h1] at h
      have h2:¬((Jz types vars r).2 != 0)=true:=by rw [Ta,h];simp
      rw [Jz,if_neg h1,if_neg h2]
      simp [eO types vars r h]
theorem Ep (types:List Sc)(vars:List Va)(e:Ex):Ce types vars e=if e.args.isEmpty then Fm types vars e else if Aq (fun a=>(Ce types vars a).2) e.args != 0 then (0,Aq (fun a=>(Ce types vars a).2) e.args)
  else if Dm e.op (e.args.map fun a=>(Ce types vars a).1) != 0 then (0,Dm e.op (e.args.map fun a=>(Ce types vars a).1)) else (Wv e.op,0):=by
 cases e with | mk op args var field kind val=>
 rw [Ce]
 simp only [Ta]
 by_cases h:Aq (fun a=>(Ce types vars a).2) args=0
 · simp [h,eO types vars args h]
 · simp [h]
def C7 (types:List Sc)(vars:List Va)(e:Ex):Int×Int:=
 if D8 types != 0 then (0,D8 types) else if Hb types vars != 0 then (0,Hb types vars) else if B4 e != 0 then (0,B4 e) else Ce types vars e

def shortS (types:List Sc)(vars:List Va):Bool:=!((types.take 30).any fun s=>decide (12<(s.fields.length:Int)))&&(decide ((types.length:Int)≤20)&&decide ((vars.length:Int)≤20))


def qA (v:Vl)(k:Int):Prop:=v.kind=k∧An v=0
def aW (s:Sc)(ev:Ev):Prop:=ev.values.length=s.fields.length∧∀(k:Nat) (f:Fi),s.fields[k]? = some f→∃w,ev.values[k]? = some w∧qA w f.kind
def Gj (types:List Sc)(vars:List Va)(env:List (List Ev)):Prop:=
 env.length=vars.length∧∀(i:Nat) (v:Va),vars[i]? = some v→∃s ev,types[v.type.toNat]? = some s∧env[i]? = some [ev]∧aW s ev

theorem aD {types:List Sc}{vars:List Va}{i:Int}{v:Va}{s:Sc}(hv:vars[i.toNat]? = some v)(hs:types[v.type.toNat]? = some s):Fa types vars i=s.fields:=by simp [Fa,hv,hs]

theorem fV {k:Int}{w:Vl}(h:An w=0)(hs:Dk k w=true):Db k w=0:=by
 have:Eh k w=true:=by
  unfold Dk at hs;unfold Eh
  simp only [Bool.or_eq_true,beq_iff_eq,Bool.and_eq_true,bne_iff_ne] at hs ⊢
  omega
 unfold Db
 simp [h,this]

theorem X4 {k:Int}{w o:Vl}(hk:1≤k∧k≤5)(hw:An w=0)(hs:Dk k w=true)(ho:Db k o=0):cK k [w] o=(w,0):=by
 have hkn:Dd k=true:=by simp [Dd];omega
 have h1:=fV hw hs
 have h2:Aq (Db k) [w]=0:=by simp [Aq,h1]
 have h0:Bi ⟨k,0,v0⟩=0:=by
  unfold Bi
  simp [hkn,isV0,v0]
 have hst:Zp k [w]=⟨k,1,w⟩:=by
  have:(k==0)=false:=by simp;omega
  simp [Zp,I8,Em,En,this]
 have ha:Bi (Zp k [w])=0:=lY [w] ⟨k,0,v0⟩ h0 rfl h2 (by simp)
 unfold cK
 rw [if_neg (by simp [hkn]),if_neg (by simp),if_neg (by rw [h2];decide)]
 rw [hst] at ha ⊢
 unfold De
 rw [if_neg (by rw [ha];decide),if_neg (by simp only [ho];decide)]
 have hk0:(k==0)=false:=by simp;omega
 simp [hk0]

theorem Tl {e:Ex}(h:Bt e=0)(h4:e.op=4):Db e.kind e.val=0∧1≤e.kind∧e.kind≤5:=by
 unfold Bt at h
 split at h
 · cases h
 split at h
 · cases h
 split at h
 · cases h
 split at h
 · cases h
 rename_i h5
 have hk:1≤e.kind∧e.kind≤5:=by
  simp [h4] at h5;omega
 rw [if_pos (by simp [h4])] at h
 by_cases hc:E3 e=0
 ·
  refine ⟨?_,hk⟩
  unfold E3 at hc
  by_cases hv:An e.val=0
  ·
   rw [if_neg (by simp [hv])] at hc
   by_cases hs:Dk e.kind e.val=true
   · exact fV hv hs
   ·
    exfalso
    rw [if_pos (by simp [h4];left;simpa using hs)] at hc
    cases hc
  · rw [if_pos (by simp [hv])] at hc;exact absurd hc hv
 · rw [if_pos (by simp [hc])] at h;exact absurd h hc

theorem Ol (b:Bool):(Dv b).kind=1:=by cases b <;> rfl
theorem iB (op a b:Int)(h9:op≠9):(Gb op a b).kind=Wv op:=by
 unfold Gb Wv
 repeat' split
 all_goals first | rfl | exact Ol _ | skip
 all_goals simp_all

theorem Lo {env:List (List Ev)}{ev:Ev}{e:Ex}(hevs:Bn env e.var = [ev])(hown:(e.var != -1)=true)(h0:¬(e.op==0)=true)(h3:¬e.op=3)(h4:¬e.op=4):Ey ⟨env,-1,Ke⟩ e=Gk ev e:=by
 unfold Ey
 rw [if_neg h0,if_neg (by simp [h3]),if_neg (by simp [h4]),if_pos hown]
 simp only [hevs]
 rfl

theorem Qz {types:List Sc}{vars:List Va}{env:List (List Ev)}(hS:Gj types vars env)(e:Ex)(hn:Dc e=0)(hk:(Ce types vars e).2=0) :
    (Bq ⟨env,-1,Ke⟩ e).2=0∧(Bq ⟨env,-1,Ke⟩ e).1.kind=(Ce types vars e).1:=by
  induction e using Ex.Aaj with
  | h e ih=>
    have hz:=A8 hn
    have hvr:=L7 hz.1
    have hfr:=Jd hz.1
    by_cases ha:e.args = []
    · rw [Ep types vars e,if_pos (by simp [ha])] at hk ⊢
      rw [L3 ha]
      unfold Fm at hk ⊢
      by_cases h0:(e.op==0)=true
      · rw [if_pos h0] at hk ⊢
        unfold Ey;rw [if_pos h0];exact ⟨rfl,rfl⟩
      rw [if_neg h0] at hk ⊢
      by_cases h1:decide ((vars.length:Int)≤e.var)=true
      · rw [if_pos h1] at hk;cases hk
      rw [if_neg h1] at hk ⊢
      have hlt:e.var<(vars.length:Int):=by simp at h1;omega
      obtain ⟨v,hv⟩:=Hc (l:=vars) hvr.1 hlt
      obtain ⟨s,ev,hs,hev,hse⟩:=hS.2 _ v hv
      have hel:e.var<(env.length:Int):=by rw [hS.1];exact hlt
      have hevs:Bn env e.var = [ev]:=by
        unfold Bn
        rw [if_neg (by simp;omega),hev];rfl
      have hown:(e.var != -1)=true:=by simp;omega
      have hfl:Fa types vars e.var=s.fields:=aD hv hs
      rw [hfl] at hk ⊢
      by_cases h3:e.op=3
      · unfold Ey
        rw [if_neg h0,if_pos (by simp [h3])]
        rw [if_pos (by simp [h3])]
        exact ⟨rfl,rfl⟩
      by_cases h2:e.op=2
      · rw [Lo hevs hown h0 h3 (by omega),if_pos (by simp [h2])]
        unfold Gk
        rw [if_pos (by simp [h2])]
        exact ⟨rfl,rfl⟩
      rw [if_neg (by simp [h2,h3])] at hk ⊢
      by_cases h4:decide ((s.fields.length:Int)≤e.field)=true
      · rw [if_pos h4] at hk;cases hk
      rw [if_neg h4] at hk ⊢
      obtain ⟨f,hf⟩:=Hc (l:=s.fields) hfr (by simp at h4;omega)
      obtain ⟨w,hw,hgw⟩:=hse.2 _ f hf
      have hka:G8 s.fields e.field=f.kind:=by simp [G8,hf]
      have hfs:Dg ev e.field=(w,0):=by
        unfold Dg
        rw [if_neg (by rw [hse.1];exact h4),hw];rfl
      rw [hka] at hk ⊢
      by_cases h5:e.op=4
      · by_cases h6:(e.op==4&&(f.kind != e.val.kind || !Dk e.kind ⟨f.kind,0,[]⟩))=true
        · rw [if_pos h6] at hk;cases hk
        rw [if_neg h6]
        have htw:=Tl hz.1 h5
        have hes:Dk e.kind w=true:=by
          simp [h5] at h6
          have:=h6.2
          unfold Dk at this ⊢
          rw [hgw.1];exact this
        unfold Ey Nx
        rw [if_neg h0,if_neg (by simp [h3]),if_pos (by simp [h5]),hevs]
        have e1:Aq (fun v=>(Dg v e.field).2) [ev]=0:=by simp [Aq,hfs]
        rw [if_neg (by rw [e1];decide)]
        have e2:([ev].map fun v=>(Dg v e.field).1) = [w]:=by simp [hfs]
        rw [e2,X4 ⟨htw.2.1,htw.2.2⟩ hgw.2 hes htw.1]
        exact ⟨rfl,hgw.1⟩
      · have h6:¬(e.op==4&&(f.kind != e.val.kind || !Dk e.kind ⟨f.kind,0,[]⟩))=true:=by simp [h5]
        rw [if_neg h6]
        rw [Lo hevs hown h0 h3 h5]
        unfold Gk
        rw [if_neg (by simp [h2]),hfs,if_pos (by rfl),if_neg (by rw [hgw.2];decide)]
        exact ⟨rfl,hgw.1⟩
    · have hne:¬e.args.isEmpty=true:=by simpa using ha
      rw [Ep types vars e,if_neg hne] at hk ⊢
      by_cases h1:(Aq (fun a=>(Ce types vars a).2) e.args != 0)=true
      · rw [if_pos h1] at hk;simp at h1 hk;exact absurd hk h1
      rw [if_neg h1] at hk ⊢
      have hka:=Hj (f:=fun a=>(Ce types vars a).2) (l:=e.args) (by simpa using h1)
      have hih:∀a∈e.args,_:=fun a hm=>ih a hm (hz.2 a hm) (hka a hm)
      by_cases h2:(Dm e.op (e.args.map fun a=>(Ce types vars a).1) != 0)=true
      · rw [if_pos h2] at hk;simp at h2 hk;exact absurd hk h2
      rw [if_neg h2]
      have hkinds:(e.args.map fun a=>(Bq ⟨env,-1,Ke⟩ a).1).map (·.kind)=e.args.map fun a=>(Ce types vars a).1:=by
        rw [List.map_map]
        exact List.map_congr_left fun a hm=>(hih a hm).2
      rw [Wq ha fun a hm=>(hih a hm).1]
      unfold J7
      rw [hkinds,if_neg h2]
      by_cases h9:(e.op==9)=true
      · rw [if_pos h9]
        refine ⟨rfl,?_⟩
        rw [Ol]
        simp only [beq_iff_eq] at h9
        rw [h9];rfl
      · rw [if_neg h9]
        exact ⟨rfl,iB _ _ _ (by simpa using h9)⟩


section
variable {α:Type} (f:Ex→List α→α)
mutual
def Pg:Ex→α
 | ⟨op,args,var,field,kind,val⟩=>f ⟨op,args,var,field,kind,val⟩ (sZ args)
def sZ:List Ex→List α
 | []=>[]
 | e::r=>Pg e::sZ r
end
theorem dU:∀l:List Ex,sZ f l=l.map (Pg f)
 | []=>by simp [sZ]
 | e::r=>by simp [sZ,dU r]
theorem lA (e:Ex):Pg f e=f e (e.args.map (Pg f)):=by cases e;rw [Pg,dU]
end
def Qq {α:Type}(d:α)(l:List α):α:=l.headD d
def Zf {α:Type}(d:α)(l:List α):α:=(l[1]?).getD d

def two (op:Int)(a b:Ex):Ex:=⟨op,[a,b],0,0,0,v0⟩
def notE (a:Ex):Ex:=⟨12,[a],0,0,0,v0⟩
def Hq (b:Bool):Ex:=My (Dv b)

def negN (e:Ex)(ns:List Ex):Ex:=
 if e.op==10 then two 11 (Qq kH ns) (Zf kH ns)
 else if e.op==11 then two 10 (Qq kH ns) (Zf kH ns)
 else if e.op==12 then Ap e
 else if e.op==7 then two 8 (Bj e) (Ap e)
 else if e.op==8 then two 7 (Bj e) (Ap e)
 else if e.op==0&&e.val.kind==1 then Hq (e.val.num==0)
 else notE e
def negS:Ex→Ex:=Pg negN
def NegateS (e:Ex):Ex×Int:=if B4 e != 0 then (kH,B4 e) else if B4 (negS e) != 0 then (kH,B4 (negS e)) else (negS e,0)

def Lg (e:Ex)(ev:Ev):Vl×Int:=
 if e.op==1 then (if decide ((ev.values.length:Int)≤e.field) then (⟨0,ev.time,[]⟩,6) else ((ev.values[e.field.toNat]?).getD v0,An ((ev.values[e.field.toNat]?).getD v0)))
 else (⟨0,ev.time,[]⟩,An ⟨0,ev.time,[]⟩)
def okL:List (Ex×Int)→List Ex×Option (Ex×Int)
 | []=>([],none)
 | p::r=>if p.2 != 0 then ([],some p) else ((p.1::(okL r).1),(okL r).2)
def knownN (vars:List (List Ev))(e:Ex)(ks:List (Ex×Int)):Ex×Int:=
  if e.op==1||e.op==2 then
    (if ((Bn vars e.var).length:Int)==0 then (e,0)
     else (My (Lg e ((Bn vars e.var).getLast?.getD Ke)).1,(Lg e ((Bn vars e.var).getLast?.getD Ke)).2))
  else match (okL ks).2 with
    | some p=>p
    | none=>(⟨e.op,(okL ks).1,e.var,e.field,e.kind,e.val⟩,0)
def iA (vars:List (List Ev)):Ex→Ex×Int:=Pg (knownN vars)
def KnownS (vars:List (List Ev))(e:Ex):Ex×Int:=if B4 e != 0 then (kH,B4 e) else if (iA vars e).2 != 0 then (kH,(iA vars e).2) else ((iA vars e).1,0)

structure Tm where
 op:Int
 v:Int
 field:Int
deriving DecidableEq
def Hz (t:Tm):List AV:=[.int .i64 t.op,.int .i64 t.v,.int .i64 t.field]
def Hr (t:Tm):Ex:=⟨t.op,[],t.v,t.field,0,v0⟩
def Dp (e:Ex):Tm:=⟨e.op,e.var,e.field⟩
structure Gp where
 plus:List Tm
 minus:List Tm
 rest:Int
def qN:Gp:=⟨[],[],0⟩
def cGp (g:Gp):List AV:=[.sl 3 (g.plus.map Hz),.sl 3 (g.minus.map Hz),.int .i64 g.rest]
structure Su where
 ts:List (Tm×Int)
 rest:Int
def Kb:Su:=⟨[],0⟩
def H5 (t:Tm)(b:Int):List (Tm×Int)→List (Tm×Int)
 | []=>[(t,b)]
 | p::r=>if t=p.1 then (p.1,p.2+b)::r else p::H5 t b r
abbrev Mu:=Int→Su→Su×Bool
def aY (e:Ex)(fs:List Mu):Mu:=fun b s=>
 if e.op==0 then (⟨s.ts,s.rest+b*e.val.num⟩,true)
 else if e.op==1||e.op==2 then (⟨H5 (Dp e) b s.ts,s.rest⟩,true)
 else if e.op==5 then
  (if !((Qq (fun _ s=>(s,false)) fs:Mu) b s).2 then (((Qq (fun _ s=>(s,false)) fs:Mu) b s).1,false) else (Zf (fun _ s=>(s,false)) fs:Mu) b ((Qq (fun _ s=>(s,false)) fs:Mu) b s).1)
 else if e.op==6 then
  (if !((Qq (fun _ s=>(s,false)) fs:Mu) b s).2 then (((Qq (fun _ s=>(s,false)) fs:Mu) b s).1,false) else (Zf (fun _ s=>(s,false)) fs:Mu) (0-b) ((Qq (fun _ s=>(s,false)) fs:Mu) b s).1)
 else (s,false)
def Bh:Ex→Mu:=Pg aY
theorem O0 (e:Ex):Bh e=aY e (e.args.map Bh):=lA aY e
def Di:List (Tm×Int)→List Tm→List Tm→Option (List Tm×List Tm)
 | [],p,m=>some (p,m)
 | t::r,p,m=>if t.2==0 then Di r p m else if t.2==1 then Di r (p ++ [t.1]) m else if t.2 == -1 then Di r p (m ++ [t.1]) else none
def Q5 (s:Su):Gp×Bool:=match Di s.ts [] [] with
 | some (p,m)=>(⟨p,m,s.rest⟩,decide ((p.length:Int)≤1)&&decide ((m.length:Int)≤1))
 | none=>(qN,false)
def Cd (a b:Ex):Gp×Bool:=
 if !(Bh a 1 Kb).2 then (qN,false) else if !(Bh b (-1) (Bh a 1 Kb).1).2 then (qN,false) else Q5 (Bh b (-1) (Bh a 1 Kb).1).1

section
variable (T:List Sc) (V:List Va)
abbrev kd (e:Ex):Int:=(Ce T V e).1
def Ak (e:Ex):Int:=
 if e.op==0||e.op==4 then e.val.kind
 else if e.op==1 then G8 (Fa T V e.var) e.field
 else if e.op==2||e.op==3||e.op==5||e.op==6 then 0 else 1
def Fg (e:Ex):Int:=if (C7 T V e).2 != 0 then (C7 T V e).2 else if (C7 T V e).1 != 1 then 9 else 0
def Cm (e:Ex):Bool:=e.op==7||e.op==8||e.op==9
def Ch (e:Ex):Bool:=e.op==9&&Ak T V (Ap e)==2
def Ru (a:Ex):Bool:=a.op==0||a.op==1
def B0 (e:Ex):Bool:=
 if e.op==1 then true else if !Cm e then false else if Ch T V e then Ru (Ap e)&&Ru (Bj e) else (Cd (Ap e) (Bj e)).2
def Sg (e:Ex):Bool:=if e.op==9 then Ak T V (Ap e)==1 else e.op==10||e.op==11||e.op==12||e.op==0
def plainN (e:Ex)(ps:List Bool):Bool:=if !Sg T V e then B0 T V e else ps.all id
def plainS:Ex→Bool:=Pg (plainN T V)
def PlainS (e:Ex):Bool×Int:=if Fg T V e != 0 then (false,Fg T V e) else (plainS T V e,0)
end

structure Lit where
 cond:Ex
 neg:Bool
def H7 (l:Lit):List AV:=[.int .i64 l.cond.op,.sl 8 (l.cond.args.map G7),.int .i64 l.cond.var,.int .i64 l.cond.field,.int .i64 l.cond.kind,.int .i64 l.cond.val.kind,.int .i64 l.cond.val.num,.str l.cond.val.text,.bool l.neg]
def W0 (c:List Lit):List AV:=[.sl 9 (c.map H7)]
abbrev Cs:=List (List Lit)×Bool
def Ea (c:Cs):List AV:=[.sl 1 (c.1.map W0),.bool c.2]
def Lx {α:Type}(a b:List (List α)):List (List α)×Bool:=if decide ((256:Int)<(a.length:Int)*(b.length:Int)) then ([],false) else (a.flatMap fun x=>b.map fun y=>x++y,true)
def Eb (a b:Cs):Cs:=if !a.2 || !b.2 then ([],false) else Lx a.1 b.1
def Iu (a b:Cs):Cs:=if (!a.2 || !b.2)||decide ((256:Int)<(a.1.length:Int)+(b.1.length:Int)) then ([],false) else (a.1++b.1,true)
def D4 (l:List Lit):Cs:=(l.map fun x=>[x],true)
section
variable (T:List Sc) (V:List Va)
abbrev Gz:=Bool→Cs
def Nw (e:Ex)(fs:List Gz):Gz:=fun sign=>
  if e.op==0 then (if (e.val.num==1)==sign then ([[]],true) else ([],true))
  else if e.op==12 then (Qq (fun _=>([],false)) fs:Gz) (!sign)
  else if e.op==10||e.op==11 then
    (if (e.op==10)==sign then Eb ((Qq (fun _=>([],false)) fs:Gz) sign) ((Zf (fun _=>([],false)) fs:Gz) sign)
     else Iu ((Qq (fun _=>([],false)) fs:Gz) sign) ((Zf (fun _=>([],false)) fs:Gz) sign))
  else if e.op==9&&Ak T V (Ap e)==1 then
    Iu (Eb ((Qq (fun _=>([],false)) fs:Gz) true) ((Zf (fun _=>([],false)) fs:Gz) sign)) (Eb ((Qq (fun _=>([],false)) fs:Gz) false) ((Zf (fun _=>([],false)) fs:Gz) (!sign)))
  else if e.op==9&&(Ak T V (Ap e)==0 && !sign) then D4 [⟨two 7 (Ap e) (Bj e),false⟩,⟨two 7 (Bj e) (Ap e),false⟩]
  else D4 [⟨e,!sign⟩]
def C4:Ex→Gz:=Pg (Nw T V)
theorem It (e:Ex):C4 T V e=Nw T V e (e.args.map (C4 T V)):=lA _ e
def ClausesS (e:Ex):List (List Lit)×Int:=if Fg T V e != 0 then ([],Fg T V e) else if !(C4 T V e true).2 then ([],17) else ((C4 T V e true).1,0)
end
end Go.Proofs.YtjedflcpjlgokaaGreatDoor
