/-
  Several texts in one: M7, M6, M8, M9, M10, M11, S11. No condition.
-/
import Derived.Test.YtkddpedfbicbeaaGreatDoorK02
set_option linter.unusedVariables false
set_option linter.unusedSimpArgs false
namespace Go.Proofs.YtkddpedfbicbeaaGreatDoor
open Go Go.Aw

/-! ### Folding again -/

/-- folded: each node stays as it is -/
inductive Fd (f:Ex→Ex):Ex→Prop where
 | mk (e:Ex) (ha:∀a∈e.args,Fd f a) (h:f e=e):Fd f e
/-! ### Depth -/
/-! ### The value -/
def zI (v:Vl):Prop:=v.kind=1→v=D3 (v.num==1)
theorem E7 {v:Vl}(h:Ap v=0):zI v:=by
 intro hk
 obtain ⟨k,n,t⟩:=v
 simp only at hk;subst hk
 unfold Ap D8 at h
 by_cases ht:t = []
 ·
  subst ht
  simp at h
  by_cases h1:n=1
  · subst h1;rfl
  ·
   have h0:n=0:=by omega
   subst h0;rfl
 · simp [ht] at h
theorem J8 {v:Vl}(h:v.kind=0):zI v:=fun hk=>by rw [h] at hk;cases hk
theorem jH (b:Bool):zI (D3 b):=E7 (flag_ok b)

theorem kX {a:Ac}{o:Vl}(h:(Do a o).2=0):zI (Do a o).1:=by
 unfold Do at h ⊢
 split at h
 · rename_i h1;simp at h1 h;exact absurd h h1
 split at h
 · rename_i _ h1;simp at h1 h;exact absurd h h1
 rename_i ha hw
 rw [if_neg ha,if_neg hw]
 simp at ha hw
 split
 · exact J8 rfl
 rename_i hk
 split
 ·
  refine E7 ?_
  unfold Dl at hw
  by_cases e:Ap o=0
  · exact e
  · simp [e] at hw
 ·
  rename_i hc
  have hkn:=Nb ha
  unfold Bo at ha
  simp only [hkn,Bool.not_true,Bool.false_eq_true,if_false] at ha
  split at ha
  · cases ha
  have hx:(if a.count==0||a.kind==0 then isV0 a.val
   else if a.kind==1 then a.val.kind==0&&a.val.text == []&&decide (0-a.count*1099511627776≤a.val.num)&&decide (a.val.num≤a.count*1099511627776)
   else Ap a.val==0&&Er a.kind a.val)=true:=Decidable.byContradiction fun hX=>by
    rw [if_neg hX] at ha;cases ha
  by_cases h0:(a.count==0||a.kind==0)=true
  ·
   rw [if_pos h0] at hx
   exact J8 (by rw [(jQ _).1 hx];rfl)
  ·
   rw [if_neg h0] at hx
   by_cases h1:(a.kind==1)=true
   ·
    rw [if_pos h1] at hx
    simp only [Bool.and_eq_true,beq_iff_eq] at hx
    exact J8 hx.1.1.1
   ·
    rw [if_neg h1] at hx
    simp only [Bool.and_eq_true,beq_iff_eq] at hx
    exact E7 hx.1

theorem of_okB {k:Int}{l:List Vl}{o:Vl}(h:(eD k l o).2=0):zI (eD k l o).1:=by
 unfold eD at h ⊢
 split at h
 · cases h
 split at h
 · cases h
 split at h
 · rename_i h1;simp at h1 h;exact absurd h h1
 rename_i h1 h2 h3
 rw [if_neg h1,if_neg h2,if_neg h3]
 exact kX h

theorem H6 {e:Ex}(h:Bw e=0)(ho:e.op=0):Ap e.val=0∧e.args = []:=by
 obtain ⟨_,_,h3⟩:=Hb h
 have ha:D4 0=0:=by decide
 rw [ho,ha] at h3
 refine ⟨?_,List.eq_nil_of_length_eq_zero (by omega)⟩
 unfold Bw at h
 split at h
 · cases h
 split at h
 · cases h
 split at h
 · cases h
 split at h
 · cases h
 rw [if_pos (by simp [ho])] at h
 split at h
 · rename_i h4;simp at h4;exact absurd h h4
 rename_i h4
 simp at h4
 unfold Fl at h4
 by_cases e':Ap e.val=0
 · exact e'
 · simp [e'] at h4

theorem yS {x:Evr}{e:Ex}(hn:Bw e=0)(h:(Fb x e).2=0):zI (Fb x e).1:=by
 unfold Fb at h ⊢
 split
 · rename_i h0;exact E7 (H6 hn (by simpa using h0)).1
 ·
  rename_i h0
  rw [if_neg h0] at h
  split
  · exact J8 rfl
  ·
   rename_i h1
   rw [if_neg h1] at h
   split
   ·
    rename_i h2
    rw [if_pos h2] at h
    simp only [Pk] at h ⊢
    by_cases h3:(Aq (fun v=>(Dq v e.field).2) (Bt x.vars e.var) != 0)=true
    · rw [if_pos h3];exact J8 rfl
    ·
     rw [if_neg h3] at h ⊢
     exact of_okB h
   ·
    rename_i h2
    rw [if_neg h2] at h
    have hr:∀ev:Ev,(G4 ev e).2=0→zI (G4 ev e).1:=by
     intro ev h
     unfold G4 at h ⊢
     by_cases h4:(e.op==2)=true
     · rw [if_pos h4];exact J8 rfl
     rw [if_neg h4] at h ⊢
     by_cases h5:((Dq ev e.field).2==0)=true
     ·
      rw [if_pos h5] at h ⊢
      by_cases h6:(Ap (Dq ev e.field).1 != 0)=true
      · rw [if_pos h6];exact J8 rfl
      · rw [if_neg h6];exact E7 (by simpa using h6)
     · rw [if_neg h5];exact J8 rfl
    split
    ·
     rename_i h4
     rw [if_pos h4] at h
     split
     · exact J8 rfl
     ·
      rename_i h5
      rw [if_neg h5] at h
      exact hr _ h
    ·
     rename_i h4
     rw [if_neg h4] at h
     exact hr _ h

theorem qV (op a b:Int):zI (G0 op a b):=by
 unfold G0
 repeat' split
 all_goals first | exact J8 rfl | exact jH _

theorem xT {op:Int}{l:List Vl}(h:(Kv op l).2=0):(∀v∈l,Mo op v.kind ((l.map (·.kind)).headD 0)=true)∧
  Kv op l=(if op==9 then D3 (eqV (l.headD v0) ((l[1]?).getD v0)) else G0 op (l.headD v0).num (l.getLastD v0).num,0):=by
 unfold Kv at h ⊢
 by_cases h1:(Di op (l.map (·.kind)) != 0)=true
 · rw [if_pos h1] at h;simp at h1 h;exact absurd h h1
 ·
  rw [if_neg h1]
  refine ⟨fun v hv=>?_,?_⟩
  ·
   have h2:Di op (l.map (·.kind))=0:=by simpa using h1
   have:=G7 h2 v.kind (List.mem_map.2 ⟨v,hv,rfl⟩)
   split at this
   · assumption
   · cases this
  ·
   by_cases h9:(op==9)=true
   · rw [if_pos h9,if_pos h9]
   · rw [if_neg h9,if_neg h9]
theorem sJ {op:Int}{l:List Vl}(h:(Kv op l).2=0):zI (Kv op l).1:=by
 rw [(xT h).2]
 split
 · exact jH _
 · exact qV _ _ _

theorem L5 {x:Evr}{e:Ex}(h:e.args = []):By x e=Fb x e:=by rw [Kb,if_pos (by simp [h])]
theorem sN {x:Evr}{e:Ex}(hne:e.args≠[])(h:(By x e).2=0) :
  (∀a∈e.args,(By x a).2=0)∧By x e=Kv e.op (e.args.map fun a=>(By x a).1):=by
 have h0:¬e.args.isEmpty=true:=by simpa using hne
 rw [Kb,if_neg h0] at h ⊢
 by_cases h1:(Aq (fun a=>(By x a).2) e.args != 0)=true
 · rw [if_pos h1] at h;simp at h1 h;exact absurd h h1
 ·
  rw [if_neg h1]
  exact ⟨G7 (by simpa using h1),rfl⟩
theorem Xt {x:Evr}{e:Ex}(hne:e.args≠[])(h:∀a∈e.args,(By x a).2=0):By x e=Kv e.op (e.args.map fun a=>(By x a).1):=by
  have h0:¬e.args.isEmpty=true:=by simpa using hne
  have h1:Aq (fun a=>(By x a).2) e.args=0:=by
    have:∀l:List Ex,(∀a∈l,(By x a).2=0)→Aq (fun a=>(By x a).2) l=0:=by
      intro l
      induction l with
      | nil=>intro _;rfl
      | cons y r ih=>
        intro hl
        rw [Aq,if_neg (by simp [hl y (by simp)])]
        exact ih fun a ha=>hl a (by simp [ha])
    exact this _ h
  rw [Kb,if_neg h0,if_neg (by simp [h1])]

theorem wC {x:Evr}{e:Ex}(hn:C1 e=0)(h:(By x e).2=0):zI (By x e).1:=by
 have hz:=Bb hn
 by_cases he:e.args = []
 · rw [L5 he] at h ⊢;exact yS hz.1 h
 ·
  have h1:=sN he h
  rw [h1.2] at h ⊢
  exact sJ h

theorem Tc {x:Evr}{a:Ex}(hn:Bw a=0)(h:a.op=0):By x a=(a.val,0):=by
 rw [L5 (H6 hn h).2];unfold Fb;rw [if_pos (by simp [h])]


def atS (to:List Int)(v:Int):Int:=(to[v.toNat]?).getD 0
def oE (to:List Int)(e:Ex):Int:=
 if !(Dn e.op).1 then 0 else if decide ((to.length:Int)≤e.var) then 6 else if decide (atS to e.var<0)||decide (16≤atS to e.var) then 2 else 0
def vS (to:List Int)(e:Ex):Ex:=if (Dn e.op).1 then ⟨e.op,e.args,atS to e.var,e.field,e.kind,e.val⟩ else e
def renS (to:List Int)(e:Ex):Ex×Int:=if Jj (oE to) e != 0 then (Wc,Jj (oE to) e) else (rebS (vS to) e,0)
def RenameS (e:Ex)(to:List Int):Ex×Int:=if Bu e != 0 then (Wc,Bu e) else renS to e

theorem Mt {e:Ex}(h:Bw e=0):0≤e.var∧e.var<16:=by
  have hf:Bk e=0→(Dn e.op).1=false→e.var=0:=by
    intro h1 h2
    unfold Bk at h1
    split at h1
    · cases h1
    · rename_i h3
      simp [h2] at h3
      exact h3.1.1.1
  unfold Bw at h
  split at h
  · cases h
  split at h
  · cases h
  split at h
  · cases h
  rename_i h1 h2 h3
  cases hu:(Dn e.op).1 with
  | true=>
    simp [hu] at h3
    omega
  | false=>
    have:Bk e=0:=by
      split at h
      · cases h
      split at h
      · split at h
        · rename_i h4
          exact absurd h (by simpa using h4)
        · exact h
      · exact h
    rw [hf this hu];omega


def ownS (e:Ex):List Nat:=if (Dn e.op).1&&decide (0≤e.var)&&decide (e.var<16) then [e.var.toNat] else []
mutual
def usedS:Ex→List Nat
 | ⟨op,args,var,field,kind,val⟩=>ownS ⟨op,args,var,field,kind,val⟩++usedL args
def usedL:List Ex→List Nat
 | []=>[]
 | e::r=>usedS e++usedL r
end
def cSeen (S:List Nat):List AV:=(List.range 16).map fun v=>.bool (S.contains v)
theorem seen_len (S:List Nat):(cSeen S).length=16:=rfl
def uptoS (S:List Nat)(k:Nat):List Int:=((List.range k).filter fun v=>S.contains v).map fun (v:Nat)=>(v:Int)
theorem upto_zero (S:List Nat):uptoS S 0 = []:=rfl
def varsS (e:Ex):List Int:=uptoS (usedS e) 16


/-! ### The two environments -/
/-- where a variable goes -/
def tvS (n b v:Nat):Int:=((v:Int)+(b:Int)).tmod (n:Int)
def toS (n b:Nat):List Int:=(List.range n).map (tvS n b)

structure Fi where
 name:List UInt8
 kind:Int
structure Sc where
 name:List UInt8
 fields:List Fi
structure Va where
 name:List UInt8
 type:Int
def cFi (f:Fi):List AV:=[.str f.name,.int .i64 f.kind]
def Nz (s:Sc):List AV:=[.str s.name,.sl 2 (s.fields.map cFi)]
def Un (v:Va):List AV:=[.str v.name,.int .i64 v.type]
def sc0:Sc:=⟨[],[]⟩
def fi0:Fi:=⟨[],0⟩
def va0:Va:=⟨[],0⟩

def T0 (n:Int):Bool:=n==95||(decide (97≤n)&&decide (n≤122))||(decide (65≤n)&&decide (n≤90))
def Tn (n:Int):Bool:=decide (48≤n)&&decide (n≤57)
def dI (b:UInt8):Bool:=T0 b.toNat||Tn b.toNat
def Lx (s:List UInt8):Bool:=!(s.length==0)&&decide (s.length≤24) && !Tn ((s.headD 0).toNat)&&s.all dI
def yD:List UInt8:=[116,105,109,101]
def Pe (s:List UInt8):Bool:=Lx s && !(s==yD)

def D9 (seen:List (List UInt8))(f:Fi):Int:=
 if !Pe f.name then 8 else if seen.contains f.name then 7 else if decide (f.kind<0)||decide (3≤f.kind) then 1 else 0
def Ih:List (List UInt8)→List Fi→Int
 | _,[]=>0
 | seen,f::r=>if D9 seen f != 0 then D9 seen f else Ih (seen ++ [f.name]) r
def Ij (s:Sc):Int:=if !Lx s.name then 8 else if decide (8<(s.fields.length:Int)) then 5 else Ih [] s.fields
def Hx (seen:List (List UInt8))(s:Sc):Int:=if Ij s != 0 then Ij s else if seen.contains s.name then 7 else 0
def J3:List (List UInt8)→List Sc→Int
 | _,[]=>0
 | seen,s::r=>if Hx seen s != 0 then Hx seen s else J3 (seen ++ [s.name]) r
def Ea (l:List Sc):Int:=if decide (16<(l.length:Int)) then 5 else J3 [] l

/-- the first place of a name -/
def Om (ns:List (List UInt8))(n:List UInt8):Int:=if ns.contains n then ((ns.idxOf n:Nat):Int) else -1
theorem Or {ns:List (List UInt8)}{k:Nat}{n:List UInt8}(h:ns[k]? = some n):decide (Om ns n<(k:Int))=(ns.take k).contains n:=by
 have hm:n∈ns:=List.mem_of_getElem? h
 have hc:ns.contains n=true:=by simpa using hm
 unfold Om
 rw [if_pos hc]
 have key:ns.idxOf n<k↔n∈ns.take k:=by
  constructor
  ·
   intro hlt
   have h1:ns.idxOf n<ns.length:=List.idxOf_lt_length_of_mem hm
   have h2:ns[ns.idxOf n]=n:=List.getElem_idxOf h1
   rw [List.mem_take_iff_getElem]
   exact ⟨ns.idxOf n,by omega,h2⟩
  ·
   intro hmem
   obtain ⟨i,hi,he⟩:=List.mem_take_iff_getElem.1 hmem
   have:ns.idxOf n≤i:=by
    refine Nat.le_of_not_lt fun hlt=>?_
    have h4:=List.not_of_lt_findIdx (p:=fun x=>x==n) (xs:=ns) (i:=i) hlt
    simp only [he] at h4
    simp at h4
   omega
 by_cases hk:ns.idxOf n<k
 ·
  have h2:=key.1 hk
  have e1:decide (((ns.idxOf n:Nat):Int)<(k:Int))=true:=by simp;omega
  rw [e1];symm;simpa using h2
 ·
  have h2:¬n∈ns.take k:=fun h=>hk (key.2 h)
  have e1:decide (((ns.idxOf n:Nat):Int)<(k:Int))=false:=by simp;omega
  rw [e1];symm;simpa using h2
/-! ### Kinds -/
def Ow (n:Int)(v:Va):Int:=if decide (v.type<0)||decide (n≤v.type) then 6 else 0
def Hv (types:List Sc)(vars:List Va):Int:=if decide (16<(vars.length:Int)) then 5 else Aq (Ow types.length) vars

def Fs (types:List Sc)(vars:List Va)(v:Int):List Fi:=((types[((vars[v.toNat]?).getD va0).type.toNat]?).getD sc0).fields
def Hp (l:List Fi)(k:Int):Int:=((l[k.toNat]?).getD fi0).kind
def F0 (types:List Sc)(vars:List Va)(e:Ex):Int×Int:=
 if e.op==0 then (e.val.kind,0)
 else if decide ((vars.length:Int)≤e.var) then (0,6)
 else if e.op==2||e.op==3 then (0,0)
 else if decide (((Fs types vars e.var).length:Int)≤e.field) then (0,6)
 else if e.op==4&&(Hp (Fs types vars e.var) e.field != e.val.kind || !Du e.kind ⟨Hp (Fs types vars e.var) e.field,0,[]⟩) then (0,9)
 else (Hp (Fs types vars e.var) e.field,0)
def Xy (op:Int):Int:=if op==5||op==6 then 0 else 1

mutual
def Ca (types:List Sc)(vars:List Va):Ex→Int×Int
  | ⟨op,args,var,field,kind,val⟩=>
    if args.isEmpty then F0 types vars ⟨op,args,var,field,kind,val⟩
    else if (Kf types vars args).2 != 0 then (0,(Kf types vars args).2)
    else if Di op (Kf types vars args).1 != 0 then (0,Di op (Kf types vars args).1) else (Xy op,0)
def Kf (types:List Sc)(vars:List Va):List Ex→List Int×Int
 | []=>([],0)
 | e::r=>if (Ca types vars e).2 != 0 then ([],(Ca types vars e).2) else if (Kf types vars r).2 != 0 then ([],(Kf types vars r).2) else ((Ca types vars e).1::(Kf types vars r).1,0)
end
theorem Uh (types:List Sc)(vars:List Va):∀l,(Kf types vars l).2=Aq (fun a=>(Ca types vars a).2) l
  | []=>by simp [Kf,Aq]
  | e::r=>by
    have:=Uh types vars r
    by_cases h:((Ca types vars e).2 != 0)=true
    · rw [Kf,Aq,if_pos h,if_pos h]
    · rw [Kf,Aq,if_neg h,if_neg h,←this]
      by_cases h2:((Kf types vars r).2 != 0)=true
      · rw [if_pos h2]
      · rw [if_neg h2]
        have h3:(Kf types vars r).2=0:=by simpa using h2
        exact h3.symm
theorem jM (types:List Sc)(vars:List Va):∀l,Aq (fun a=>(Ca types vars a).2) l=0→(Kf types vars l).1=l.map fun a=>(Ca types vars a).1
  | [],_=>by simp [Kf]
  | e::r,h=>by
    simp only [Aq] at h
    by_cases h1:((Ca types vars e).2 != 0)=true
    · rw [if_pos h1] at h;simp [h] at h1
    · rw [if_neg h1] at h
      have h2:¬((Kf types vars r).2 != 0)=true:=by rw [Uh,h];simp
      rw [Kf,if_neg h1,if_neg h2]
      simp [jM types vars r h]
theorem Ee (types:List Sc)(vars:List Va)(e:Ex):Ca types vars e=if e.args.isEmpty then F0 types vars e else if Aq (fun a=>(Ca types vars a).2) e.args != 0 then (0,Aq (fun a=>(Ca types vars a).2) e.args)
  else if Di e.op (e.args.map fun a=>(Ca types vars a).1) != 0 then (0,Di e.op (e.args.map fun a=>(Ca types vars a).1)) else (Xy e.op,0):=by
 cases e with | mk op args var field kind val=>
 rw [Ca]
 simp only [Uh]
 by_cases h:Aq (fun a=>(Ca types vars a).2) args=0
 · simp [h,jM types vars args h]
 · simp [h]
def Db (types:List Sc)(vars:List Va)(e:Ex):Int×Int:=
 if Ea types != 0 then (0,Ea types) else if Hv types vars != 0 then (0,Hv types vars) else if Bu e != 0 then (0,Bu e) else Ca types vars e

/-- what the bound of the law says -/
def shortS (types:List Sc)(vars:List Va):Bool:=!((types.take 30).any fun s=>decide (12<(s.fields.length:Int)))&&(decide ((types.length:Int)≤20)&&decide ((vars.length:Int)≤20))


def lE (v:Vl)(k:Int):Prop:=v.kind=k∧Ap v=0
def Yv (s:Sc)(ev:Ev):Prop:=ev.values.length=s.fields.length∧∀(k:Nat) (f:Fi),s.fields[k]? = some f→∃w,ev.values[k]? = some w∧lE w f.kind
def E6 (types:List Sc)(vars:List Va)(env:List (List Ev)):Prop:=
 env.length=vars.length∧∀(i:Nat) (v:Va),vars[i]? = some v→∃s ev,types[v.type.toNat]? = some s∧env[i]? = some [ev]∧Yv s ev

theorem bS {types:List Sc}{vars:List Va}{i:Int}{v:Va}{s:Sc}(hv:vars[i.toNat]? = some v)(hs:types[v.type.toNat]? = some s):Fs types vars i=s.fields:=by simp [Fs,hv,hs]

theorem iQ {k:Int}{w:Vl}(h:Ap w=0)(hs:Du k w=true):Dl k w=0:=by
 have:Er k w=true:=by
  unfold Du at hs;unfold Er
  simp only [Bool.or_eq_true,beq_iff_eq,Bool.and_eq_true,bne_iff_ne] at hs ⊢
  omega
 unfold Dl
 simp [h,this]

theorem aF {k:Int}{w o:Vl}(hk:1≤k∧k≤5)(hw:Ap w=0)(hs:Du k w=true)(ho:Dl k o=0):eD k [w] o=(w,0):=by
 have hkn:Dp k=true:=by simp [Dp];omega
 have h1:=iQ hw hs
 have h2:Aq (Dl k) [w]=0:=by simp [Aq,h1]
 have h0:Bo ⟨k,0,v0⟩=0:=by
  unfold Bo
  simp [hkn,isV0,v0]
 have hst:aD k [w]=⟨k,1,w⟩:=by
  have:(k==0)=false:=by simp;omega
  simp [aD,Js,E5,E3,this]
 have ha:Bo (aD k [w])=0:=oD [w] ⟨k,0,v0⟩ h0 rfl h2 (by simp)
 unfold eD
 rw [if_neg (by simp [hkn]),if_neg (by simp),if_neg (by rw [h2];decide)]
 rw [hst] at ha ⊢
 unfold Do
 rw [if_neg (by rw [ha];decide),if_neg (by simp only [ho];decide)]
 have hk0:(k==0)=false:=by simp;omega
 simp [hk0]

theorem Uo {e:Ex}(h:Bw e=0)(h4:e.op=4):Dl e.kind e.val=0∧1≤e.kind∧e.kind≤5:=by
 unfold Bw at h
 split at h
 · cases h
 split at h
 · cases h
 split at h
 · cases h
 split at h
 · cases h
 rename_i h5
 have hk:1≤e.kind∧e.kind≤5:=by
  simp [h4] at h5;omega
 rw [if_pos (by simp [h4])] at h
 by_cases hc:Fl e=0
 ·
  refine ⟨?_,hk⟩
  unfold Fl at hc
  by_cases hv:Ap e.val=0
  ·
   rw [if_neg (by simp [hv])] at hc
   by_cases hs:Du e.kind e.val=true
   · exact iQ hv hs
   ·
    exfalso
    rw [if_pos (by simp [h4];left;simpa using hs)] at hc
    cases hc
  · rw [if_pos (by simp [hv])] at hc;exact absurd hc hv
 · rw [if_pos (by simp [hc])] at h;exact absurd h hc

theorem Qh (b:Bool):(D3 b).kind=1:=by cases b <;> rfl
theorem mO (op a b:Int)(h9:op≠9):(G0 op a b).kind=Xy op:=by
 unfold G0 Xy
 repeat' split
 all_goals first | rfl | exact Qh _ | skip
 all_goals simp_all

theorem L9 {env:List (List Ev)}{ev:Ev}{e:Ex}(hevs:Bt env e.var = [ev])(hown:(e.var != -1)=true)(h0:¬(e.op==0)=true)(h3:¬e.op=3)(h4:¬e.op=4):Fb ⟨env,-1,Kl⟩ e=G4 ev e:=by
 unfold Fb
 rw [if_neg h0,if_neg (by simp [h3]),if_neg (by simp [h4]),if_pos hown]
 simp only [hevs]
 rfl

theorem Sx {types:List Sc}{vars:List Va}{env:List (List Ev)}(hS:E6 types vars env)(e:Ex)(hn:C1 e=0)(hk:(Ca types vars e).2=0) :
    (By ⟨env,-1,Kl⟩ e).2=0∧(By ⟨env,-1,Kl⟩ e).1.kind=(Ca types vars e).1:=by
  induction e using Ex.Aak with
  | h e ih=>
    have hz:=Bb hn
    have hvr:=Mt hz.1
    have hfr:=Jx hz.1
    by_cases ha:e.args = []
    · rw [Ee types vars e,if_pos (by simp [ha])] at hk ⊢
      rw [L5 ha]
      unfold F0 at hk ⊢
      by_cases h0:(e.op==0)=true
      · rw [if_pos h0] at hk ⊢
        unfold Fb;rw [if_pos h0];exact ⟨rfl,rfl⟩
      rw [if_neg h0] at hk ⊢
      by_cases h1:decide ((vars.length:Int)≤e.var)=true
      · rw [if_pos h1] at hk;cases hk
      rw [if_neg h1] at hk ⊢
      have hlt:e.var<(vars.length:Int):=by simp at h1;omega
      obtain ⟨v,hv⟩:=Hz (l:=vars) hvr.1 hlt
      obtain ⟨s,ev,hs,hev,hse⟩:=hS.2 _ v hv
      have hel:e.var<(env.length:Int):=by rw [hS.1];exact hlt
      have hevs:Bt env e.var = [ev]:=by
        unfold Bt
        rw [if_neg (by simp;omega),hev];rfl
      have hown:(e.var != -1)=true:=by simp;omega
      have hfl:Fs types vars e.var=s.fields:=bS hv hs
      rw [hfl] at hk ⊢
      by_cases h3:e.op=3
      · unfold Fb
        rw [if_neg h0,if_pos (by simp [h3])]
        rw [if_pos (by simp [h3])]
        exact ⟨rfl,rfl⟩
      by_cases h2:e.op=2
      · rw [L9 hevs hown h0 h3 (by omega),if_pos (by simp [h2])]
        unfold G4
        rw [if_pos (by simp [h2])]
        exact ⟨rfl,rfl⟩
      rw [if_neg (by simp [h2,h3])] at hk ⊢
      by_cases h4:decide ((s.fields.length:Int)≤e.field)=true
      · rw [if_pos h4] at hk;cases hk
      rw [if_neg h4] at hk ⊢
      obtain ⟨f,hf⟩:=Hz (l:=s.fields) hfr (by simp at h4;omega)
      obtain ⟨w,hw,hgw⟩:=hse.2 _ f hf
      have hka:Hp s.fields e.field=f.kind:=by simp [Hp,hf]
      have hfs:Dq ev e.field=(w,0):=by
        unfold Dq
        rw [if_neg (by rw [hse.1];exact h4),hw];rfl
      rw [hka] at hk ⊢
      by_cases h5:e.op=4
      · by_cases h6:(e.op==4&&(f.kind != e.val.kind || !Du e.kind ⟨f.kind,0,[]⟩))=true
        · rw [if_pos h6] at hk;cases hk
        rw [if_neg h6]
        have htw:=Uo hz.1 h5
        have hes:Du e.kind w=true:=by
          simp [h5] at h6
          have:=h6.2
          unfold Du at this ⊢
          rw [hgw.1];exact this
        unfold Fb Pk
        rw [if_neg h0,if_neg (by simp [h3]),if_pos (by simp [h5]),hevs]
        have e1:Aq (fun v=>(Dq v e.field).2) [ev]=0:=by simp [Aq,hfs]
        rw [if_neg (by rw [e1];decide)]
        have e2:([ev].map fun v=>(Dq v e.field).1) = [w]:=by simp [hfs]
        rw [e2,aF ⟨htw.2.1,htw.2.2⟩ hgw.2 hes htw.1]
        exact ⟨rfl,hgw.1⟩
      · have h6:¬(e.op==4&&(f.kind != e.val.kind || !Du e.kind ⟨f.kind,0,[]⟩))=true:=by simp [h5]
        rw [if_neg h6]
        rw [L9 hevs hown h0 h3 h5]
        unfold G4
        rw [if_neg (by simp [h2]),hfs,if_pos (by rfl),if_neg (by rw [hgw.2];decide)]
        exact ⟨rfl,hgw.1⟩
    · have hne:¬e.args.isEmpty=true:=by simpa using ha
      rw [Ee types vars e,if_neg hne] at hk ⊢
      by_cases h1:(Aq (fun a=>(Ca types vars a).2) e.args != 0)=true
      · rw [if_pos h1] at hk;simp at h1 hk;exact absurd hk h1
      rw [if_neg h1] at hk ⊢
      have hka:=G7 (f:=fun a=>(Ca types vars a).2) (l:=e.args) (by simpa using h1)
      have hih:∀a∈e.args,_:=fun a hm=>ih a hm (hz.2 a hm) (hka a hm)
      by_cases h2:(Di e.op (e.args.map fun a=>(Ca types vars a).1) != 0)=true
      · rw [if_pos h2] at hk;simp at h2 hk;exact absurd hk h2
      rw [if_neg h2]
      have hkinds:(e.args.map fun a=>(By ⟨env,-1,Kl⟩ a).1).map (·.kind)=e.args.map fun a=>(Ca types vars a).1:=by
        rw [List.map_map]
        exact List.map_congr_left fun a hm=>(hih a hm).2
      rw [Xt ha fun a hm=>(hih a hm).1]
      unfold Kv
      rw [hkinds,if_neg h2]
      by_cases h9:(e.op==9)=true
      · rw [if_pos h9]
        refine ⟨rfl,?_⟩
        rw [Qh]
        simp only [beq_iff_eq] at h9
        rw [h9];rfl
      · rw [if_neg h9]
        exact ⟨rfl,mO _ _ _ (by simpa using h9)⟩


/-! ### Recursion over expressions -/
section
variable {α:Type} (f:Ex→List α→α)
mutual
def Rh:Ex→α
 | ⟨op,args,var,field,kind,val⟩=>f ⟨op,args,var,field,kind,val⟩ (tT args)
def tT:List Ex→List α
 | []=>[]
 | e::r=>Rh e::tT r
end
theorem iJ:∀l:List Ex,tT f l=l.map (Rh f)
 | []=>by simp [tT]
 | e::r=>by simp [tT,iJ r]
theorem dW (e:Ex):Rh f e=f e (e.args.map (Rh f)):=by cases e;rw [Rh,iJ]
end
def Ql {α:Type}(d:α)(l:List α):α:=l.headD d
def Wn {α:Type}(d:α)(l:List α):α:=(l[1]?).getD d

/-! ### Nodes -/
def two (op:Int)(a b:Ex):Ex:=⟨op,[a,b],0,0,0,v0⟩
def Ov (a:Ex):Ex:=⟨12,[a],0,0,0,v0⟩
def Em (b:Bool):Ex:=Ol (D3 b)

/-! ### Negation -/
def Vp (e:Ex)(ns:List Ex):Ex:=
 if e.op==10 then two 11 (Ql Wc ns) (Wn Wc ns)
 else if e.op==11 then two 10 (Ql Wc ns) (Wn Wc ns)
 else if e.op==12 then Ao e
 else if e.op==7 then two 8 (Bg e) (Ao e)
 else if e.op==8 then two 7 (Bg e) (Ao e)
 else if e.op==0&&e.val.kind==1 then Em (e.val.num==0)
 else Ov e
def Fh:Ex→Ex:=Rh Vp
theorem K7 (e:Ex):Fh e=Vp e (e.args.map Fh):=dW Vp e
def Cz (e:Ex):Ex×Int:=if Bu e != 0 then (Wc,Bu e) else if Bu (Fh e) != 0 then (Wc,Bu (Fh e)) else (Fh e,0)

/-! ### What is known -/
def Lz (e:Ex)(ev:Ev):Vl×Int:=
 if e.op==1 then (if decide ((ev.values.length:Int)≤e.field) then (⟨0,ev.time,[]⟩,6) else ((ev.values[e.field.toNat]?).getD v0,Ap ((ev.values[e.field.toNat]?).getD v0)))
 else (⟨0,ev.time,[]⟩,Ap ⟨0,ev.time,[]⟩)
/-- the expressions, or the first error with what stands there -/
def okL:List (Ex×Int)→List Ex×Option (Ex×Int)
 | []=>([],none)
 | p::r=>if p.2 != 0 then ([],some p) else ((p.1::(okL r).1),(okL r).2)
def knownN (vars:List (List Ev))(e:Ex)(ks:List (Ex×Int)):Ex×Int:=
  if e.op==1||e.op==2 then
    (if ((Bt vars e.var).length:Int)==0 then (e,0)
     else (Ol (Lz e ((Bt vars e.var).getLast?.getD Kl)).1,(Lz e ((Bt vars e.var).getLast?.getD Kl)).2))
  else match (okL ks).2 with
    | some p=>p
    | none=>(⟨e.op,(okL ks).1,e.var,e.field,e.kind,e.val⟩,0)
def lZ (vars:List (List Ev)):Ex→Ex×Int:=Rh (knownN vars)
def KnownS (vars:List (List Ev))(e:Ex):Ex×Int:=if Bu e != 0 then (Wc,Bu e) else if (lZ vars e).2 != 0 then (Wc,(lZ vars e).2) else ((lZ vars e).1,0)

/-! ### Terms and differences -/
structure Tm where
 op:Int
 v:Int
 field:Int
deriving DecidableEq
def H9 (t:Tm):List AV:=[.int .i64 t.op,.int .i64 t.v,.int .i64 t.field]
def Hn (t:Tm):Ex:=⟨t.op,[],t.v,t.field,0,v0⟩
def D1 (e:Ex):Tm:=⟨e.op,e.var,e.field⟩
structure Gp where
 plus:List Tm
 minus:List Tm
 rest:Int
def tO:Gp:=⟨[],[],0⟩
def cGp (g:Gp):List AV:=[.sl 3 (g.plus.map H9),.sl 3 (g.minus.map H9),.int .i64 g.rest]
/-- a sum: terms with their coefficients, in order of their first occurrence; the constant -/
structure Su where
 ts:List (Tm×Int)
 rest:Int
def Kr:Su:=⟨[],0⟩
def In (t:Tm)(b:Int):List (Tm×Int)→List (Tm×Int)
 | []=>[(t,b)]
 | p::r=>if t=p.1 then (p.1,p.2+b)::r else p::In t b r
abbrev My:=Int→Su→Su×Bool
def dN (e:Ex)(fs:List My):My:=fun b s=>
 if e.op==0 then (⟨s.ts,s.rest+b*e.val.num⟩,true)
 else if e.op==1||e.op==2 then (⟨In (D1 e) b s.ts,s.rest⟩,true)
 else if e.op==5 then
  (if !((Ql (fun _ s=>(s,false)) fs:My) b s).2 then (((Ql (fun _ s=>(s,false)) fs:My) b s).1,false) else (Wn (fun _ s=>(s,false)) fs:My) b ((Ql (fun _ s=>(s,false)) fs:My) b s).1)
 else if e.op==6 then
  (if !((Ql (fun _ s=>(s,false)) fs:My) b s).2 then (((Ql (fun _ s=>(s,false)) fs:My) b s).1,false) else (Wn (fun _ s=>(s,false)) fs:My) (0-b) ((Ql (fun _ s=>(s,false)) fs:My) b s).1)
 else (s,false)
def Bn:Ex→My:=Rh dN
theorem Qa (e:Ex):Bn e=dN e (e.args.map Bn):=dW dN e
/-- the terms with coefficient 1, with -1; none if there is another coefficient -/
def Dt:List (Tm×Int)→List Tm→List Tm→Option (List Tm×List Tm)
 | [],p,m=>some (p,m)
 | t::r,p,m=>if t.2==0 then Dt r p m else if t.2==1 then Dt r (p ++ [t.1]) m else if t.2 == -1 then Dt r p (m ++ [t.1]) else none
def S0 (s:Su):Gp×Bool:=match Dt s.ts [] [] with
 | some (p,m)=>(⟨p,m,s.rest⟩,decide ((p.length:Int)≤1)&&decide ((m.length:Int)≤1))
 | none=>(tO,false)
def Ch (a b:Ex):Gp×Bool:=
 if !(Bn a 1 Kr).2 then (tO,false) else if !(Bn b (-1) (Bn a 1 Kr).1).2 then (tO,false) else S0 (Bn b (-1) (Bn a 1 Kr).1).1

/-! ### Conditions -/
section
variable (T:List Sc) (V:List Va)
abbrev kd (e:Ex):Int:=(Ca T V e).1
/-- the kind, as it is read off an expression that has one -/
def Am (e:Ex):Int:=
 if e.op==0||e.op==4 then e.val.kind
 else if e.op==1 then Hp (Fs T V e.var) e.field
 else if e.op==2||e.op==3||e.op==5||e.op==6 then 0 else 1
def Eb (e:Ex):Int:=if (Db T V e).2 != 0 then (Db T V e).2 else if (Db T V e).1 != 1 then 9 else 0
def Cu (e:Ex):Bool:=e.op==7||e.op==8||e.op==9
def Cp (e:Ex):Bool:=e.op==9&&Am T V (Ao e)==2
def Sg (a:Ex):Bool:=a.op==0||a.op==1
def B5 (e:Ex):Bool:=
 if e.op==1 then true else if !Cu e then false else if Cp T V e then Sg (Ao e)&&Sg (Bg e) else (Ch (Ao e) (Bg e)).2
def Eo (e:Ex):Bool:=if e.op==9 then Am T V (Ao e)==1 else e.op==10||e.op==11||e.op==12||e.op==0
def plainN (e:Ex)(ps:List Bool):Bool:=if !Eo T V e then B5 T V e else ps.all id
def plainS:Ex→Bool:=Rh (plainN T V)
def PlainS (e:Ex):Bool×Int:=if Eb T V e != 0 then (false,Eb T V e) else (plainS T V e,0)
end

/-! ### Clauses -/
structure Lit where
 cond:Ex
 neg:Bool
def G3 (l:Lit):List AV:=[.int .i64 l.cond.op,.sl 8 (l.cond.args.map Fu),.int .i64 l.cond.var,.int .i64 l.cond.field,.int .i64 l.cond.kind,.int .i64 l.cond.val.kind,.int .i64 l.cond.val.num,.str l.cond.val.text,.bool l.neg]
def Pu (c:List Lit):List AV:=[.sl 9 (c.map G3)]
/-- clauses; whether there are not too many -/
abbrev Cs:=List (List Lit)×Bool
def Ej (c:Cs):List AV:=[.sl 1 (c.1.map Pu),.bool c.2]
def Mc {α:Type}(a b:List (List α)):List (List α)×Bool:=if decide ((256:Int)<(a.length:Int)*(b.length:Int)) then ([],false) else (a.flatMap fun x=>b.map fun y=>x++y,true)
def El (a b:Cs):Cs:=if !a.2 || !b.2 then ([],false) else Mc a.1 b.1
def Jf (a b:Cs):Cs:=if (!a.2 || !b.2)||decide ((256:Int)<(a.1.length:Int)+(b.1.length:Int)) then ([],false) else (a.1++b.1,true)
def Eg (l:List Lit):Cs:=(l.map fun x=>[x],true)
section
variable (T:List Sc) (V:List Va)
abbrev Hk:=Bool→Cs
def O2 (e:Ex)(fs:List Hk):Hk:=fun sign=>
  if e.op==0 then (if (e.val.num==1)==sign then ([[]],true) else ([],true))
  else if e.op==12 then (Ql (fun _=>([],false)) fs:Hk) (!sign)
  else if e.op==10||e.op==11 then
    (if (e.op==10)==sign then El ((Ql (fun _=>([],false)) fs:Hk) sign) ((Wn (fun _=>([],false)) fs:Hk) sign)
     else Jf ((Ql (fun _=>([],false)) fs:Hk) sign) ((Wn (fun _=>([],false)) fs:Hk) sign))
  else if e.op==9&&Am T V (Ao e)==1 then
    Jf (El ((Ql (fun _=>([],false)) fs:Hk) true) ((Wn (fun _=>([],false)) fs:Hk) sign)) (El ((Ql (fun _=>([],false)) fs:Hk) false) ((Wn (fun _=>([],false)) fs:Hk) (!sign)))
  else if e.op==9&&(Am T V (Ao e)==0 && !sign) then Eg [⟨two 7 (Ao e) (Bg e),false⟩,⟨two 7 (Bg e) (Ao e),false⟩]
  else Eg [⟨e,!sign⟩]
def Da:Ex→Hk:=Rh (O2 T V)
theorem Jh (e:Ex):Da T V e=O2 T V e (e.args.map (Da T V)):=dW _ e
def Jb (e:Ex):List (List Lit)×Int:=if Eb T V e != 0 then ([],Eb T V e) else if !(Da T V e true).2 then ([],17) else ((Da T V e true).1,0)
end
end Go.Proofs.YtkddpedfbicbeaaGreatDoor
