/-
  Several texts in one: M7, M6, M8, M9, M10, M11, S11. No condition.
-/
import Derived.Test.YtkddpedfbicbeaaGreatDoorK02
set_option linter.unusedVariables false
set_option linter.unusedSimpArgs false
namespace Go.Proofs.YtkddpedfbicbeaaGreatDoor
open Go Go.Aw


inductive Fd (f:Ex→Ex):Ex→Prop where
 | mk (e:Ex) (ha:∀a∈e.args,Fd f a) (h:f e=e):Fd f e
def zF (v:Vl):Prop:=v.kind=1→v=D0 (v.num==1)
theorem Fz {v:Vl}(h:An v=0):zF v:=by
 intro hk
 obtain ⟨k,n,t⟩:=v
 simp only at hk;subst hk
 unfold An D5 at h
 by_cases ht:t = []
 ·
  subst ht
  simp at h
  by_cases h1:n=1
  · subst h1;rfl
  ·
   have h0:n=0:=by omega
   subst h0;rfl
 · simp [ht] at h
theorem Ka {v:Vl}(h:v.kind=0):zF v:=fun hk=>by rw [h] at hk;cases hk
theorem fB (b:Bool):zF (D0 b):=Fz (Aac b)

theorem jW {a:Ac}{o:Vl}(h:(Dm a o).2=0):zF (Dm a o).1:=by
 unfold Dm at h ⊢
 split at h
 · rename_i h1;simp at h1 h;exact absurd h h1
 split at h
 · rename_i _ h1;simp at h1 h;exact absurd h h1
 rename_i ha hw
 rw [if_neg ha,if_neg hw]
 simp at ha hw
 split
 · exact Ka rfl
 rename_i hk
 split
 ·
  refine Fz ?_
  unfold Dk at hw
  by_cases e:An o=0
  · exact e
  · simp [e] at hw
 ·
  rename_i hc
  have hkn:=Nn ha
  unfold Bo at ha
  simp only [hkn,Bool.not_true,Bool.false_eq_true,if_false] at ha
  split at ha
  · cases ha
  have hx:(if a.count==0||a.kind==0 then isV0 a.val
   else if a.kind==1 then a.val.kind==0&&a.val.text == []&&decide (0-a.count*1099511627776≤a.val.num)&&decide (a.val.num≤a.count*1099511627776)
   else An a.val==0&&Ej a.kind a.val)=true:=Decidable.byContradiction fun hX=>by
    rw [if_neg hX] at ha;cases ha
  by_cases h0:(a.count==0||a.kind==0)=true
  ·
   rw [if_pos h0] at hx
   exact Ka (by rw [(fE _).1 hx];rfl)
  ·
   rw [if_neg h0] at hx
   by_cases h1:(a.kind==1)=true
   ·
    rw [if_pos h1] at hx
    simp only [Bool.and_eq_true,beq_iff_eq] at hx
    exact Ka hx.1.1.1
   ·
    rw [if_neg h1] at hx
    simp only [Bool.and_eq_true,beq_iff_eq] at hx
    exact Fz hx.1

theorem of_okB {k:Int}{l:List Vl}{o:Vl}(h:(eC k l o).2=0):zF (eC k l o).1:=by
 unfold eC at h ⊢
 split at h
 · cases h
 split at h
 · cases h
 split at h
 · rename_i h1;simp at h1 h;exact absurd h h1
 rename_i h1 h2 h3
 rw [if_neg h1,if_neg h2,if_neg h3]
 exact jW h

theorem I6 {e:Ex}(h:Bx e=0)(ho:e.op=0):An e.val=0∧e.args = []:=by
 obtain ⟨_,_,h3⟩:=G5 h
 have ha:D6 0=0:=by decide
 rw [ho,ha] at h3
 refine ⟨?_,List.eq_nil_of_length_eq_zero (by omega)⟩
 unfold Bx at h
 split at h
 · cases h
 split at h
 · cases h
 split at h
 · cases h
 split at h
 · cases h
 rw [if_pos (by simp [ho])] at h
 split at h
 · rename_i h4;simp at h4;exact absurd h h4
 rename_i h4
 simp at h4
 unfold Fb at h4
 by_cases e':An e.val=0
 · exact e'
 · simp [e'] at h4

theorem xP {x:Evr}{e:Ex}(hn:Bx e=0)(h:(E6 x e).2=0):zF (E6 x e).1:=by
 unfold E6 at h ⊢
 split
 · rename_i h0;exact Fz (I6 hn (by simpa using h0)).1
 ·
  rename_i h0
  rw [if_neg h0] at h
  split
  · exact Ka rfl
  ·
   rename_i h1
   rw [if_neg h1] at h
   split
   ·
    rename_i h2
    rw [if_pos h2] at h
    simp only [O8] at h ⊢
    by_cases h3:(Aq (fun v=>(Do v e.field).2) (Bu x.vars e.var) != 0)=true
    · rw [if_pos h3];exact Ka rfl
    ·
     rw [if_neg h3] at h ⊢
     exact of_okB h
   ·
    rename_i h2
    rw [if_neg h2] at h
    have hr:∀ev:Ev,(Gy ev e).2=0→zF (Gy ev e).1:=by
     intro ev h
     unfold Gy at h ⊢
     by_cases h4:(e.op==2)=true
     · rw [if_pos h4];exact Ka rfl
     rw [if_neg h4] at h ⊢
     by_cases h5:((Do ev e.field).2==0)=true
     ·
      rw [if_pos h5] at h ⊢
      by_cases h6:(An (Do ev e.field).1 != 0)=true
      · rw [if_pos h6];exact Ka rfl
      · rw [if_neg h6];exact Fz (by simpa using h6)
     · rw [if_neg h5];exact Ka rfl
    split
    ·
     rename_i h4
     rw [if_pos h4] at h
     split
     · exact Ka rfl
     ·
      rename_i h5
      rw [if_neg h5] at h
      exact hr _ h
    ·
     rename_i h4
     rw [if_neg h4] at h
     exact hr _ h

theorem pU (op a b:Int):zF (Gv op a b):=by
 unfold Gv
 repeat' split
 all_goals first | exact Ka rfl | exact fB _

theorem wP {op:Int}{l:List Vl}(h:(Ku op l).2=0):(∀v∈l,N6 op v.kind ((l.map (·.kind)).headD 0)=true)∧
  Ku op l=(if op==9 then D0 (eqV (l.headD v0) ((l[1]?).getD v0)) else Gv op (l.headD v0).num (l.getLastD v0).num,0):=by
 unfold Ku at h ⊢
 by_cases h1:(Dp op (l.map (·.kind)) != 0)=true
 · rw [if_pos h1] at h;simp at h1 h;exact absurd h h1
 ·
  rw [if_neg h1]
  refine ⟨fun v hv=>?_,?_⟩
  ·
   have h2:Dp op (l.map (·.kind))=0:=by simpa using h1
   have:=G3 h2 v.kind (List.mem_map.2 ⟨v,hv,rfl⟩)
   split at this
   · assumption
   · cases this
  ·
   by_cases h9:(op==9)=true
   · rw [if_pos h9,if_pos h9]
   · rw [if_neg h9,if_neg h9]
theorem sU {op:Int}{l:List Vl}(h:(Ku op l).2=0):zF (Ku op l).1:=by
 rw [(wP h).2]
 split
 · exact fB _
 · exact pU _ _ _

theorem Ma {x:Evr}{e:Ex}(h:e.args = []):Bw x e=E6 x e:=by rw [Ki,if_pos (by simp [h])]
theorem tF {x:Evr}{e:Ex}(hne:e.args≠[])(h:(Bw x e).2=0) :
  (∀a∈e.args,(Bw x a).2=0)∧Bw x e=Ku e.op (e.args.map fun a=>(Bw x a).1):=by
 have h0:¬e.args.isEmpty=true:=by simpa using hne
 rw [Ki,if_neg h0] at h ⊢
 by_cases h1:(Aq (fun a=>(Bw x a).2) e.args != 0)=true
 · rw [if_pos h1] at h;simp at h1 h;exact absurd h h1
 ·
  rw [if_neg h1]
  exact ⟨G3 (by simpa using h1),rfl⟩
theorem Xc {x:Evr}{e:Ex}(hne:e.args≠[])(h:∀a∈e.args,(Bw x a).2=0):Bw x e=Ku e.op (e.args.map fun a=>(Bw x a).1):=by
  have h0:¬e.args.isEmpty=true:=by simpa using hne
  have h1:Aq (fun a=>(Bw x a).2) e.args=0:=by
    have:∀l:List Ex,(∀a∈l,(Bw x a).2=0)→Aq (fun a=>(Bw x a).2) l=0:=by
      intro l
      induction l with
      | nil=>intro _;rfl
      | cons y r ih=>
        intro hl
        rw [Aq,if_neg (by simp [hl y (by simp)])]
        exact ih fun a ha=>hl a (by simp [ha])
    exact this _ h
  rw [Ki,if_neg h0,if_neg (by simp [h1])]

theorem xZ {x:Evr}{e:Ex}(hn:C0 e=0)(h:(Bw x e).2=0):zF (Bw x e).1:=by
 have hz:=Ba hn
 by_cases he:e.args = []
 · rw [Ma he] at h ⊢;exact xP hz.1 h
 ·
  have h1:=tF he h
  rw [h1.2] at h ⊢
  exact sU h

theorem Ta {x:Evr}{a:Ex}(hn:Bx a=0)(h:a.op=0):Bw x a=(a.val,0):=by
 rw [Ma (I6 hn h).2];unfold E6;rw [if_pos (by simp [h])]


def atS (to:List Int)(v:Int):Int:=(to[v.toNat]?).getD 0
def nS (to:List Int)(e:Ex):Int:=
 if !(Dt e.op).1 then 0 else if decide ((to.length:Int)≤e.var) then 6 else if decide (atS to e.var<0)||decide (16≤atS to e.var) then 2 else 0
def tZ (to:List Int)(e:Ex):Ex:=if (Dt e.op).1 then ⟨e.op,e.args,atS to e.var,e.field,e.kind,e.val⟩ else e
def renS (to:List Int)(e:Ex):Ex×Int:=if Jd (nS to) e != 0 then (nU,Jd (nS to) e) else (rebS (tZ to) e,0)
def RenameS (e:Ex)(to:List Int):Ex×Int:=if B5 e != 0 then (nU,B5 e) else renS to e

theorem Ml {e:Ex}(h:Bx e=0):0≤e.var∧e.var<16:=by
  have hf:Bl e=0→(Dt e.op).1=false→e.var=0:=by
    intro h1 h2
    unfold Bl at h1
    split at h1
    · cases h1
    · rename_i h3
      simp [h2] at h3
      exact h3.1.1.1
  unfold Bx at h
  split at h
  · cases h
  split at h
  · cases h
  split at h
  · cases h
  rename_i h1 h2 h3
  cases hu:(Dt e.op).1 with
  | true=>
    simp [hu] at h3
    omega
  | false=>
    have:Bl e=0:=by
      split at h
      · cases h
      split at h
      · split at h
        · rename_i h4
          exact absurd h (by simpa using h4)
        · exact h
      · exact h
    rw [hf this hu];omega


def ownS (e:Ex):List Nat:=if (Dt e.op).1&&decide (0≤e.var)&&decide (e.var<16) then [e.var.toNat] else []
mutual
def usedS:Ex→List Nat
 | ⟨op,args,var,field,kind,val⟩=>ownS ⟨op,args,var,field,kind,val⟩++usedL args
def usedL:List Ex→List Nat
 | []=>[]
 | e::r=>usedS e++usedL r
end
def cSeen (S:List Nat):List AV:=(List.range 16).map fun v=>.bool (S.contains v)
theorem seen_len (S:List Nat):(cSeen S).length=16:=rfl
def uptoS (S:List Nat)(k:Nat):List Int:=((List.range k).filter fun v=>S.contains v).map fun (v:Nat)=>(v:Int)
theorem upto_zero (S:List Nat):uptoS S 0 = []:=rfl
def varsS (e:Ex):List Int:=uptoS (usedS e) 16


def tvS (n b v:Nat):Int:=((v:Int)+(b:Int)).tmod (n:Int)
def toS (n b:Nat):List Int:=(List.range n).map (tvS n b)

structure Fi where
 name:List UInt8
 kind:Int
structure Sc where
 name:List UInt8
 fields:List Fi
structure Va where
 name:List UInt8
 type:Int
def cFi (f:Fi):List AV:=[.str f.name,.int .i64 f.kind]
def Nf (s:Sc):List AV:=[.str s.name,.sl 2 (s.fields.map cFi)]
def Ub (v:Va):List AV:=[.str v.name,.int .i64 v.type]
def sc0:Sc:=⟨[],[]⟩
def fi0:Fi:=⟨[],0⟩
def va0:Va:=⟨[],0⟩

def Tn (n:Int):Bool:=n==95||(decide (97≤n)&&decide (n≤122))||(decide (65≤n)&&decide (n≤90))
def Te (n:Int):Bool:=decide (48≤n)&&decide (n≤57)
def bS (b:UInt8):Bool:=Tn b.toNat||Te b.toNat
def Ly (s:List UInt8):Bool:=!(s.length==0)&&decide (s.length≤24) && !Te ((s.headD 0).toNat)&&s.all bS
def xV:List UInt8:=[116,105,109,101]
def Pe (s:List UInt8):Bool:=Ly s && !(s==xV)

def D3 (seen:List (List UInt8))(f:Fi):Int:=
 if !Pe f.name then 8 else if seen.contains f.name then 7 else if decide (f.kind<0)||decide (3≤f.kind) then 1 else 0
def H0:List (List UInt8)→List Fi→Int
 | _,[]=>0
 | seen,f::r=>if D3 seen f != 0 then D3 seen f else H0 (seen ++ [f.name]) r
def If (s:Sc):Int:=if !Ly s.name then 8 else if decide (8<(s.fields.length:Int)) then 5 else H0 [] s.fields
def Hm (seen:List (List UInt8))(s:Sc):Int:=if If s != 0 then If s else if seen.contains s.name then 7 else 0
def Jt:List (List UInt8)→List Sc→Int
 | _,[]=>0
 | seen,s::r=>if Hm seen s != 0 then Hm seen s else Jt (seen ++ [s.name]) r
def Eb (l:List Sc):Int:=if decide (16<(l.length:Int)) then 5 else Jt [] l

def O9 (ns:List (List UInt8))(n:List UInt8):Int:=if ns.contains n then ((ns.idxOf n:Nat):Int) else -1
theorem Pb {ns:List (List UInt8)}{k:Nat}{n:List UInt8}(h:ns[k]? = some n):decide (O9 ns n<(k:Int))=(ns.take k).contains n:=by
 have hm:n∈ns:=List.mem_of_getElem? h
 have hc:ns.contains n=true:=by simpa using hm
 unfold O9
 rw [if_pos hc]
 have key:ns.idxOf n<k↔n∈ns.take k:=by
  constructor
  ·
   intro hlt
   have h1:ns.idxOf n<ns.length:=List.idxOf_lt_length_of_mem hm
   have h2:ns[ns.idxOf n]=n:=List.getElem_idxOf h1
   rw [List.mem_take_iff_getElem]
   exact ⟨ns.idxOf n,by omega,h2⟩
  ·
   intro hmem
   obtain ⟨i,hi,he⟩:=List.mem_take_iff_getElem.1 hmem
   have:ns.idxOf n≤i:=by
    refine Nat.le_of_not_lt fun hlt=>?_
    have h4:=List.not_of_lt_findIdx (p:=fun x=>x==n) (xs:=ns) (i:=i) hlt
    simp only [he] at h4
    simp at h4
   omega
 by_cases hk:ns.idxOf n<k
 ·
  have h2:=key.1 hk
  have e1:decide (((ns.idxOf n:Nat):Int)<(k:Int))=true:=by simp;omega
  rw [e1];symm;simpa using h2
 ·
  have h2:¬n∈ns.take k:=fun h=>hk (key.2 h)
  have e1:decide (((ns.idxOf n:Nat):Int)<(k:Int))=false:=by simp;omega
  rw [e1];symm;simpa using h2
def Oo (n:Int)(v:Va):Int:=if decide (v.type<0)||decide (n≤v.type) then 6 else 0
def Ie (types:List Sc)(vars:List Va):Int:=if decide (16<(vars.length:Int)) then 5 else Aq (Oo types.length) vars

def Fs (types:List Sc)(vars:List Va)(v:Int):List Fi:=((types[((vars[v.toNat]?).getD va0).type.toNat]?).getD sc0).fields
def Hh (l:List Fi)(k:Int):Int:=((l[k.toNat]?).getD fi0).kind
def F3 (types:List Sc)(vars:List Va)(e:Ex):Int×Int:=
 if e.op==0 then (e.val.kind,0)
 else if decide ((vars.length:Int)≤e.var) then (0,6)
 else if e.op==2||e.op==3 then (0,0)
 else if decide (((Fs types vars e.var).length:Int)≤e.field) then (0,6)
 else if e.op==4&&(Hh (Fs types vars e.var) e.field != e.val.kind || !Du e.kind ⟨Hh (Fs types vars e.var) e.field,0,[]⟩) then (0,9)
 else (Hh (Fs types vars e.var) e.field,0)
def Yj (op:Int):Int:=if op==5||op==6 then 0 else 1

mutual
def Ce (types:List Sc)(vars:List Va):Ex→Int×Int
  | ⟨op,args,var,field,kind,val⟩=>
    if args.isEmpty then F3 types vars ⟨op,args,var,field,kind,val⟩
    else if (Kc types vars args).2 != 0 then (0,(Kc types vars args).2)
    else if Dp op (Kc types vars args).1 != 0 then (0,Dp op (Kc types vars args).1) else (Yj op,0)
def Kc (types:List Sc)(vars:List Va):List Ex→List Int×Int
 | []=>([],0)
 | e::r=>if (Ce types vars e).2 != 0 then ([],(Ce types vars e).2) else if (Kc types vars r).2 != 0 then ([],(Kc types vars r).2) else ((Ce types vars e).1::(Kc types vars r).1,0)
end
theorem Tl (types:List Sc)(vars:List Va):∀l,(Kc types vars l).2=Aq (fun a=>(Ce types vars a).2) l
  | []=>by simp [Kc,Aq]
  | e::r=>by
    have:=Tl types vars r
    by_cases h:((Ce types vars e).2 != 0)=true
    · rw [Kc,Aq,if_pos h,if_pos h]
    · rw [Kc,Aq,if_neg h,if_neg h,←this]
      by_cases h2:((Kc types vars r).2 != 0)=true
      · rw [if_pos h2]
      · rw [if_neg h2]
        have h3:(Kc types vars r).2=0:=by simpa using h2
        exact h3.symm
theorem eM (types:List Sc)(vars:List Va):∀l,Aq (fun a=>(Ce types vars a).2) l=0→(Kc types vars l).1=l.map fun a=>(Ce types vars a).1
  | [],_=>by simp [Kc]
  | e::r,h=>by
    simp only [Aq] at h
    by_cases h1:((Ce types vars e).2 != 0)=true
    · rw [if_pos h1] at h;simp [h] at h1
    · rw [if_neg h1] at h
      have h2:¬((Kc types vars r).2 != 0)=true:=by rw [Tl,h];simp
      rw [Kc,if_neg h1,if_neg h2]
      simp [eM types vars r h]
theorem Eo (types:List Sc)(vars:List Va)(e:Ex):Ce types vars e=if e.args.isEmpty then F3 types vars e else if Aq (fun a=>(Ce types vars a).2) e.args != 0 then (0,Aq (fun a=>(Ce types vars a).2) e.args)
  else if Dp e.op (e.args.map fun a=>(Ce types vars a).1) != 0 then (0,Dp e.op (e.args.map fun a=>(Ce types vars a).1)) else (Yj e.op,0):=by
 cases e with | mk op args var field kind val=>
 rw [Ce]
 simp only [Tl]
 by_cases h:Aq (fun a=>(Ce types vars a).2) args=0
 · simp [h,eM types vars args h]
 · simp [h]
def C9 (types:List Sc)(vars:List Va)(e:Ex):Int×Int:=
 if Eb types != 0 then (0,Eb types) else if Ie types vars != 0 then (0,Ie types vars) else if B5 e != 0 then (0,B5 e) else Ce types vars e

def shortS (types:List Sc)(vars:List Va):Bool:=!((types.take 30).any fun s=>decide (12<(s.fields.length:Int)))&&(decide ((types.length:Int)≤20)&&decide ((vars.length:Int)≤20))


def rJ (v:Vl)(k:Int):Prop:=v.kind=k∧An v=0
def Yd (s:Sc)(ev:Ev):Prop:=ev.values.length=s.fields.length∧∀(k:Nat) (f:Fi),s.fields[k]? = some f→∃w,ev.values[k]? = some w∧rJ w f.kind
def Gq (types:List Sc)(vars:List Va)(env:List (List Ev)):Prop:=
 env.length=vars.length∧∀(i:Nat) (v:Va),vars[i]? = some v→∃s ev,types[v.type.toNat]? = some s∧env[i]? = some [ev]∧Yd s ev

theorem bW {types:List Sc}{vars:List Va}{i:Int}{v:Va}{s:Sc}(hv:vars[i.toNat]? = some v)(hs:types[v.type.toNat]? = some s):Fs types vars i=s.fields:=by simp [Fs,hv,hs]

theorem eO {k:Int}{w:Vl}(h:An w=0)(hs:Du k w=true):Dk k w=0:=by
 have:Ej k w=true:=by
  unfold Du at hs;unfold Ej
  simp only [Bool.or_eq_true,beq_iff_eq,Bool.and_eq_true,bne_iff_ne] at hs ⊢
  omega
 unfold Dk
 simp [h,this]

theorem Z4 {k:Int}{w o:Vl}(hk:1≤k∧k≤5)(hw:An w=0)(hs:Du k w=true)(ho:Dk k o=0):eC k [w] o=(w,0):=by
 have hkn:Dn k=true:=by simp [Dn];omega
 have h1:=eO hw hs
 have h2:Aq (Dk k) [w]=0:=by simp [Aq,h1]
 have h0:Bo ⟨k,0,v0⟩=0:=by
  unfold Bo
  simp [hkn,isV0,v0]
 have hst:Z8 k [w]=⟨k,1,w⟩:=by
  have:(k==0)=false:=by simp;omega
  simp [Z8,Jp,Ey,Ez,this]
 have ha:Bo (Z8 k [w])=0:=nP [w] ⟨k,0,v0⟩ h0 rfl h2 (by simp)
 unfold eC
 rw [if_neg (by simp [hkn]),if_neg (by simp),if_neg (by rw [h2];decide)]
 rw [hst] at ha ⊢
 unfold Dm
 rw [if_neg (by rw [ha];decide),if_neg (by simp only [ho];decide)]
 have hk0:(k==0)=false:=by simp;omega
 simp [hk0]

theorem Vj {e:Ex}(h:Bx e=0)(h4:e.op=4):Dk e.kind e.val=0∧1≤e.kind∧e.kind≤5:=by
 unfold Bx at h
 split at h
 · cases h
 split at h
 · cases h
 split at h
 · cases h
 split at h
 · cases h
 rename_i h5
 have hk:1≤e.kind∧e.kind≤5:=by
  simp [h4] at h5;omega
 rw [if_pos (by simp [h4])] at h
 by_cases hc:Fb e=0
 ·
  refine ⟨?_,hk⟩
  unfold Fb at hc
  by_cases hv:An e.val=0
  ·
   rw [if_neg (by simp [hv])] at hc
   by_cases hs:Du e.kind e.val=true
   · exact eO hv hs
   ·
    exfalso
    rw [if_pos (by simp [h4];left;simpa using hs)] at hc
    cases hc
  · rw [if_pos (by simp [hv])] at hc;exact absurd hc hv
 · rw [if_pos (by simp [hc])] at h;exact absurd h hc

theorem P3 (b:Bool):(D0 b).kind=1:=by cases b <;> rfl
theorem kC (op a b:Int)(h9:op≠9):(Gv op a b).kind=Yj op:=by
 unfold Gv Yj
 repeat' split
 all_goals first | rfl | exact P3 _ | skip
 all_goals simp_all

theorem Mj {env:List (List Ev)}{ev:Ev}{e:Ex}(hevs:Bu env e.var = [ev])(hown:(e.var != -1)=true)(h0:¬(e.op==0)=true)(h3:¬e.op=3)(h4:¬e.op=4):E6 ⟨env,-1,Kn⟩ e=Gy ev e:=by
 unfold E6
 rw [if_neg h0,if_neg (by simp [h3]),if_neg (by simp [h4]),if_pos hown]
 simp only [hevs]
 rfl

theorem Td {types:List Sc}{vars:List Va}{env:List (List Ev)}(hS:Gq types vars env)(e:Ex)(hn:C0 e=0)(hk:(Ce types vars e).2=0) :
    (Bw ⟨env,-1,Kn⟩ e).2=0∧(Bw ⟨env,-1,Kn⟩ e).1.kind=(Ce types vars e).1:=by
  induction e using Ex.Aa0 with
  | h e ih=>
    have hz:=Ba hn
    have hvr:=Ml hz.1
    have hfr:=Jx hz.1
    by_cases ha:e.args = []
    · rw [Eo types vars e,if_pos (by simp [ha])] at hk ⊢
      rw [Ma ha]
      unfold F3 at hk ⊢
      by_cases h0:(e.op==0)=true
      · rw [if_pos h0] at hk ⊢
        unfold E6;rw [if_pos h0];exact ⟨rfl,rfl⟩
      rw [if_neg h0] at hk ⊢
      by_cases h1:decide ((vars.length:Int)≤e.var)=true
      · rw [if_pos h1] at hk;cases hk
      rw [if_neg h1] at hk ⊢
      have hlt:e.var<(vars.length:Int):=by simp at h1;omega
      obtain ⟨v,hv⟩:=Hq (l:=vars) hvr.1 hlt
      obtain ⟨s,ev,hs,hev,hse⟩:=hS.2 _ v hv
      have hel:e.var<(env.length:Int):=by rw [hS.1];exact hlt
      have hevs:Bu env e.var = [ev]:=by
        unfold Bu
        rw [if_neg (by simp;omega),hev];rfl
      have hown:(e.var != -1)=true:=by simp;omega
      have hfl:Fs types vars e.var=s.fields:=bW hv hs
      rw [hfl] at hk ⊢
      by_cases h3:e.op=3
      · unfold E6
        rw [if_neg h0,if_pos (by simp [h3])]
        rw [if_pos (by simp [h3])]
        exact ⟨rfl,rfl⟩
      by_cases h2:e.op=2
      · rw [Mj hevs hown h0 h3 (by omega),if_pos (by simp [h2])]
        unfold Gy
        rw [if_pos (by simp [h2])]
        exact ⟨rfl,rfl⟩
      rw [if_neg (by simp [h2,h3])] at hk ⊢
      by_cases h4:decide ((s.fields.length:Int)≤e.field)=true
      · rw [if_pos h4] at hk;cases hk
      rw [if_neg h4] at hk ⊢
      obtain ⟨f,hf⟩:=Hq (l:=s.fields) hfr (by simp at h4;omega)
      obtain ⟨w,hw,hgw⟩:=hse.2 _ f hf
      have hka:Hh s.fields e.field=f.kind:=by simp [Hh,hf]
      have hfs:Do ev e.field=(w,0):=by
        unfold Do
        rw [if_neg (by rw [hse.1];exact h4),hw];rfl
      rw [hka] at hk ⊢
      by_cases h5:e.op=4
      · by_cases h6:(e.op==4&&(f.kind != e.val.kind || !Du e.kind ⟨f.kind,0,[]⟩))=true
        · rw [if_pos h6] at hk;cases hk
        rw [if_neg h6]
        have htw:=Vj hz.1 h5
        have hes:Du e.kind w=true:=by
          simp [h5] at h6
          have:=h6.2
          unfold Du at this ⊢
          rw [hgw.1];exact this
        unfold E6 O8
        rw [if_neg h0,if_neg (by simp [h3]),if_pos (by simp [h5]),hevs]
        have e1:Aq (fun v=>(Do v e.field).2) [ev]=0:=by simp [Aq,hfs]
        rw [if_neg (by rw [e1];decide)]
        have e2:([ev].map fun v=>(Do v e.field).1) = [w]:=by simp [hfs]
        rw [e2,Z4 ⟨htw.2.1,htw.2.2⟩ hgw.2 hes htw.1]
        exact ⟨rfl,hgw.1⟩
      · have h6:¬(e.op==4&&(f.kind != e.val.kind || !Du e.kind ⟨f.kind,0,[]⟩))=true:=by simp [h5]
        rw [if_neg h6]
        rw [Mj hevs hown h0 h3 h5]
        unfold Gy
        rw [if_neg (by simp [h2]),hfs,if_pos (by rfl),if_neg (by rw [hgw.2];decide)]
        exact ⟨rfl,hgw.1⟩
    · have hne:¬e.args.isEmpty=true:=by simpa using ha
      rw [Eo types vars e,if_neg hne] at hk ⊢
      by_cases h1:(Aq (fun a=>(Ce types vars a).2) e.args != 0)=true
      · rw [if_pos h1] at hk;simp at h1 hk;exact absurd hk h1
      rw [if_neg h1] at hk ⊢
      have hka:=G3 (f:=fun a=>(Ce types vars a).2) (l:=e.args) (by simpa using h1)
      have hih:∀a∈e.args,_:=fun a hm=>ih a hm (hz.2 a hm) (hka a hm)
      by_cases h2:(Dp e.op (e.args.map fun a=>(Ce types vars a).1) != 0)=true
      · rw [if_pos h2] at hk;simp at h2 hk;exact absurd hk h2
      rw [if_neg h2]
      have hkinds:(e.args.map fun a=>(Bw ⟨env,-1,Kn⟩ a).1).map (·.kind)=e.args.map fun a=>(Ce types vars a).1:=by
        rw [List.map_map]
        exact List.map_congr_left fun a hm=>(hih a hm).2
      rw [Xc ha fun a hm=>(hih a hm).1]
      unfold Ku
      rw [hkinds,if_neg h2]
      by_cases h9:(e.op==9)=true
      · rw [if_pos h9]
        refine ⟨rfl,?_⟩
        rw [P3]
        simp only [beq_iff_eq] at h9
        rw [h9];rfl
      · rw [if_neg h9]
        exact ⟨rfl,kC _ _ _ (by simpa using h9)⟩


section
variable {α:Type} (f:Ex→List α→α)
mutual
def Re:Ex→α
 | ⟨op,args,var,field,kind,val⟩=>f ⟨op,args,var,field,kind,val⟩ (vR args)
def vR:List Ex→List α
 | []=>[]
 | e::r=>Re e::vR r
end
theorem iS:∀l:List Ex,vR f l=l.map (Re f)
 | []=>by simp [vR]
 | e::r=>by simp [vR,iS r]
theorem Wa (e:Ex):Re f e=f e (e.args.map (Re f)):=by cases e;rw [Re,iS]
end
def Ro {α:Type}(d:α)(l:List α):α:=l.headD d
def aY {α:Type}(d:α)(l:List α):α:=(l[1]?).getD d

def two (op:Int)(a b:Ex):Ex:=⟨op,[a,b],0,0,0,v0⟩
def sP (a:Ex):Ex:=⟨12,[a],0,0,0,v0⟩
def Fw (b:Bool):Ex:=Ou (D0 b)

def negN (e:Ex)(ns:List Ex):Ex:=
 if e.op==10 then two 11 (Ro nU ns) (aY nU ns)
 else if e.op==11 then two 10 (Ro nU ns) (aY nU ns)
 else if e.op==12 then Ao e
 else if e.op==7 then two 8 (Bj e) (Ao e)
 else if e.op==8 then two 7 (Bj e) (Ao e)
 else if e.op==0&&e.val.kind==1 then Fw (e.val.num==0)
 else sP e
def negS:Ex→Ex:=Re negN
def NegateS (e:Ex):Ex×Int:=if B5 e != 0 then (nU,B5 e) else if B5 (negS e) != 0 then (nU,B5 (negS e)) else (negS e,0)

def L4 (e:Ex)(ev:Ev):Vl×Int:=
 if e.op==1 then (if decide ((ev.values.length:Int)≤e.field) then (⟨0,ev.time,[]⟩,6) else ((ev.values[e.field.toNat]?).getD v0,An ((ev.values[e.field.toNat]?).getD v0)))
 else (⟨0,ev.time,[]⟩,An ⟨0,ev.time,[]⟩)
def okL:List (Ex×Int)→List Ex×Option (Ex×Int)
 | []=>([],none)
 | p::r=>if p.2 != 0 then ([],some p) else ((p.1::(okL r).1),(okL r).2)
def knownN (vars:List (List Ev))(e:Ex)(ks:List (Ex×Int)):Ex×Int:=
  if e.op==1||e.op==2 then
    (if ((Bu vars e.var).length:Int)==0 then (e,0)
     else (Ou (L4 e ((Bu vars e.var).getLast?.getD Kn)).1,(L4 e ((Bu vars e.var).getLast?.getD Kn)).2))
  else match (okL ks).2 with
    | some p=>p
    | none=>(⟨e.op,(okL ks).1,e.var,e.field,e.kind,e.val⟩,0)
def lA (vars:List (List Ev)):Ex→Ex×Int:=Re (knownN vars)
def KnownS (vars:List (List Ev))(e:Ex):Ex×Int:=if B5 e != 0 then (nU,B5 e) else if (lA vars e).2 != 0 then (nU,(lA vars e).2) else ((lA vars e).1,0)

structure Tm where
 op:Int
 v:Int
 field:Int
deriving DecidableEq
def Hz (t:Tm):List AV:=[.int .i64 t.op,.int .i64 t.v,.int .i64 t.field]
def Hf (t:Tm):Ex:=⟨t.op,[],t.v,t.field,0,v0⟩
def Dy (e:Ex):Tm:=⟨e.op,e.var,e.field⟩
structure Gp where
 plus:List Tm
 minus:List Tm
 rest:Int
def tL:Gp:=⟨[],[],0⟩
def cGp (g:Gp):List AV:=[.sl 3 (g.plus.map Hz),.sl 3 (g.minus.map Hz),.int .i64 g.rest]
structure Su where
 ts:List (Tm×Int)
 rest:Int
def Jc:Su:=⟨[],0⟩
def Ij (t:Tm)(b:Int):List (Tm×Int)→List (Tm×Int)
 | []=>[(t,b)]
 | p::r=>if t=p.1 then (p.1,p.2+b)::r else p::Ij t b r
abbrev Np:=Int→Su→Su×Bool
def bO (e:Ex)(fs:List Np):Np:=fun b s=>
 if e.op==0 then (⟨s.ts,s.rest+b*e.val.num⟩,true)
 else if e.op==1||e.op==2 then (⟨Ij (Dy e) b s.ts,s.rest⟩,true)
 else if e.op==5 then
  (if !((Ro (fun _ s=>(s,false)) fs:Np) b s).2 then (((Ro (fun _ s=>(s,false)) fs:Np) b s).1,false) else (aY (fun _ s=>(s,false)) fs:Np) b ((Ro (fun _ s=>(s,false)) fs:Np) b s).1)
 else if e.op==6 then
  (if !((Ro (fun _ s=>(s,false)) fs:Np) b s).2 then (((Ro (fun _ s=>(s,false)) fs:Np) b s).1,false) else (aY (fun _ s=>(s,false)) fs:Np) (0-b) ((Ro (fun _ s=>(s,false)) fs:Np) b s).1)
 else (s,false)
def Bb:Ex→Np:=Re bO
theorem Py (e:Ex):Bb e=bO e (e.args.map Bb):=Wa bO e
def Dl:List (Tm×Int)→List Tm→List Tm→Option (List Tm×List Tm)
 | [],p,m=>some (p,m)
 | t::r,p,m=>if t.2==0 then Dl r p m else if t.2==1 then Dl r (p ++ [t.1]) m else if t.2 == -1 then Dl r p (m ++ [t.1]) else none
def N7 (s:Su):Gp×Bool:=match Dl s.ts [] [] with
 | some (p,m)=>(⟨p,m,s.rest⟩,decide ((p.length:Int)≤1)&&decide ((m.length:Int)≤1))
 | none=>(tL,false)
def B2 (a b:Ex):Gp×Bool:=
 if !(Bb a 1 Jc).2 then (tL,false) else if !(Bb b (-1) (Bb a 1 Jc).1).2 then (tL,false) else N7 (Bb b (-1) (Bb a 1 Jc).1).1

section
variable (T:List Sc) (V:List Va)
abbrev kd (e:Ex):Int:=(Ce T V e).1
def Am (e:Ex):Int:=
 if e.op==0||e.op==4 then e.val.kind
 else if e.op==1 then Hh (Fs T V e.var) e.field
 else if e.op==2||e.op==3||e.op==5||e.op==6 then 0 else 1
def Dx (e:Ex):Int:=if (C9 T V e).2 != 0 then (C9 T V e).2 else if (C9 T V e).1 != 1 then 9 else 0
def Cr (e:Ex):Bool:=e.op==7||e.op==8||e.op==9
def Cl (e:Ex):Bool:=e.op==9&&Am T V (Ao e)==2
def Sq (a:Ex):Bool:=a.op==0||a.op==1
def Bt (e:Ex):Bool:=
 if e.op==1 then true else if !Cr e then false else if Cl T V e then Sq (Ao e)&&Sq (Bj e) else (B2 (Ao e) (Bj e)).2
def Cg (e:Ex):Bool:=if e.op==9 then Am T V (Ao e)==1 else e.op==10||e.op==11||e.op==12||e.op==0
def Ul (e:Ex)(ps:List Bool):Bool:=if !Cg T V e then Bt T V e else ps.all id
def Hk:Ex→Bool:=Re (Ul T V)
theorem P7 (e:Ex):Hk T V e=Ul T V e (e.args.map (Hk T V)):=Wa _ e
def Nw (e:Ex):Bool×Int:=if Dx T V e != 0 then (false,Dx T V e) else (Hk T V e,0)
end

structure Lit where
 cond:Ex
 neg:Bool
def Gw (l:Lit):List AV:=[.int .i64 l.cond.op,.sl 8 (l.cond.args.map Gs),.int .i64 l.cond.var,.int .i64 l.cond.field,.int .i64 l.cond.kind,.int .i64 l.cond.val.kind,.int .i64 l.cond.val.num,.str l.cond.val.text,.bool l.neg]
def P2 (c:List Lit):List AV:=[.sl 9 (c.map Gw)]
abbrev Cs:=List (List Lit)×Bool
def Ea (c:Cs):List AV:=[.sl 1 (c.1.map P2),.bool c.2]
def Na {α:Type}(a b:List (List α)):List (List α)×Bool:=if decide ((256:Int)<(a.length:Int)*(b.length:Int)) then ([],false) else (a.flatMap fun x=>b.map fun y=>x++y,true)
def Ee (a b:Cs):Cs:=if !a.2 || !b.2 then ([],false) else Na a.1 b.1
def Ii (a b:Cs):Cs:=if (!a.2 || !b.2)||decide ((256:Int)<(a.1.length:Int)+(b.1.length:Int)) then ([],false) else (a.1++b.1,true)
def Dz (l:List Lit):Cs:=(l.map fun x=>[x],true)
section
variable (T:List Sc) (V:List Va)
abbrev G8:=Bool→Cs
def Or (e:Ex)(fs:List G8):G8:=fun sign=>
  if e.op==0 then (if (e.val.num==1)==sign then ([[]],true) else ([],true))
  else if e.op==12 then (Ro (fun _=>([],false)) fs:G8) (!sign)
  else if e.op==10||e.op==11 then
    (if (e.op==10)==sign then Ee ((Ro (fun _=>([],false)) fs:G8) sign) ((aY (fun _=>([],false)) fs:G8) sign)
     else Ii ((Ro (fun _=>([],false)) fs:G8) sign) ((aY (fun _=>([],false)) fs:G8) sign))
  else if e.op==9&&Am T V (Ao e)==1 then
    Ii (Ee ((Ro (fun _=>([],false)) fs:G8) true) ((aY (fun _=>([],false)) fs:G8) sign)) (Ee ((Ro (fun _=>([],false)) fs:G8) false) ((aY (fun _=>([],false)) fs:G8) (!sign)))
  else if e.op==9&&(Am T V (Ao e)==0 && !sign) then Dz [⟨two 7 (Ao e) (Bj e),false⟩,⟨two 7 (Bj e) (Ao e),false⟩]
  else Dz [⟨e,!sign⟩]
def C4:Ex→G8:=Re (Or T V)
theorem Jj (e:Ex):C4 T V e=Or T V e (e.args.map (C4 T V)):=Wa _ e
def Jl (e:Ex):List (List Lit)×Int:=if Dx T V e != 0 then ([],Dx T V e) else if !(C4 T V e true).2 then ([],17) else ((C4 T V e true).1,0)
end
end Go.Proofs.YtkddpedfbicbeaaGreatDoor
