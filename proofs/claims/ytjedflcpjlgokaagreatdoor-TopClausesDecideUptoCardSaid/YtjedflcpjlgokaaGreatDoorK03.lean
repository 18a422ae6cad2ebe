/-
  Several texts in one: M6, M8, M9, M10, M11, S11, S12, S11b. No condition.
-/
import Derived.Test.YtjedflcpjlgokaaGreatDoorK02
set_option linter.unusedVariables false
set_option linter.unusedSimpArgs false
namespace Go.Proofs.YtjedflcpjlgokaaGreatDoor
open Go Go.Aw

def atS (to:List Int)(v:Int):Int:=(to[v.toNat]?).getD 0
def jT (to:List Int)(e:Ex):Int:=
 if !(Dd e.op).1 then 0 else if decide ((to.length:Int)≤e.var) then 6 else if decide (atS to e.var<0)||decide (16≤atS to e.var) then 2 else 0
def sS (to:List Int)(e:Ex):Ex:=if (Dd e.op).1 then ⟨e.op,e.args,atS to e.var,e.field,e.kind,e.val⟩ else e
def renS (to:List Int)(e:Ex):Ex×Int:=if Im (jT to) e != 0 then (kD,Im (jT to) e) else (xF (sS to) e,0)
def RenameS (e:Ex)(to:List Int):Ex×Int:=if Bp e != 0 then (kD,Bp e) else renS to e

theorem Lo {e:Ex}(h:Bq e=0):0≤e.var∧e.var<16:=by
  have hf:Bj e=0→(Dd e.op).1=false→e.var=0:=by
    intro h1 h2
    unfold Bj at h1
    split at h1
    · cases h1
    · rename_i h3
      simp [h2] at h3
      exact h3.1.1.1
  unfold Bq at h
  split at h
  · cases h
  split at h
  · cases h
  split at h
  · cases h
  rename_i h1 h2 h3
  cases hu:(Dd e.op).1 with
  | true=>
    simp [hu] at h3
    omega
  | false=>
    have:Bj e=0:=by
      split at h
      · cases h
      split at h
      · split at h
        · rename_i h4
          exact absurd h (by simpa using h4)
        · exact h
      · exact h
    rw [hf this hu];omega


def ownS (e:Ex):List Nat:=if (Dd e.op).1&&decide (0≤e.var)&&decide (e.var<16) then [e.var.toNat] else []
mutual
def yF:Ex→List Nat
 | ⟨op,args,var,field,kind,val⟩=>ownS ⟨op,args,var,field,kind,val⟩++yV args
def yV:List Ex→List Nat
 | []=>[]
 | e::r=>yF e++yV r
end
def cSeen (S:List Nat):List AV:=(List.range 16).map fun v=>.bool (S.contains v)
theorem seen_len (S:List Nat):(cSeen S).length=16:=rfl
def yH (S:List Nat)(k:Nat):List Int:=((List.range k).filter fun v=>S.contains v).map fun (v:Nat)=>(v:Int)
theorem upto_zero (S:List Nat):yH S 0 = []:=rfl
def varsS (e:Ex):List Int:=yH (yF e) 16


def tvS (n b v:Nat):Int:=((v:Int)+(b:Int)).tmod (n:Int)
def toS (n b:Nat):List Int:=(List.range n).map (tvS n b)

structure Fi where
 name:List UInt8
 kind:Int
structure Sc where
 name:List UInt8
 fields:List Fi
structure Va where
 name:List UInt8
 type:Int
def cFi (f:Fi):List AV:=[.str f.name,.int .i64 f.kind]
def N5 (s:Sc):List AV:=[.str s.name,.sl 2 (s.fields.map cFi)]
def Tp (v:Va):List AV:=[.str v.name,.int .i64 v.type]
def sc0:Sc:=⟨[],[]⟩
def fi0:Fi:=⟨[],0⟩
def va0:Va:=⟨[],0⟩

def Ro (n:Int):Bool:=n==95||(decide (97≤n)&&decide (n≤122))||(decide (65≤n)&&decide (n≤90))
def Ry (n:Int):Bool:=decide (48≤n)&&decide (n≤57)
def Yz (b:UInt8):Bool:=Ro b.toNat||Ry b.toNat
def Kx (s:List UInt8):Bool:=!(s.length==0)&&decide (s.length≤24) && !Ry ((s.headD 0).toNat)&&s.all Yz
def tL:List UInt8:=[116,105,109,101]
def Nc (s:List UInt8):Bool:=Kx s && !(s==tL)

def Dl (seen:List (List UInt8))(f:Fi):Int:=
 if !Nc f.name then 8 else if seen.contains f.name then 7 else if decide (f.kind<0)||decide (3≤f.kind) then 1 else 0
def G9:List (List UInt8)→List Fi→Int
 | _,[]=>0
 | seen,f::r=>if Dl seen f != 0 then Dl seen f else G9 (seen ++ [f.name]) r
def Hd (s:Sc):Int:=if !Kx s.name then 8 else if decide (8<(s.fields.length:Int)) then 5 else G9 [] s.fields
def Gg (seen:List (List UInt8))(s:Sc):Int:=if Hd s != 0 then Hd s else if seen.contains s.name then 7 else 0
def Iz:List (List UInt8)→List Sc→Int
 | _,[]=>0
 | seen,s::r=>if Gg seen s != 0 then Gg seen s else Iz (seen ++ [s.name]) r
def D9 (l:List Sc):Int:=if decide (16<(l.length:Int)) then 5 else Iz [] l

def Ni (ns:List (List UInt8))(n:List UInt8):Int:=if ns.contains n then ((ns.idxOf n:Nat):Int) else -1
theorem Nj {ns:List (List UInt8)}{k:Nat}{n:List UInt8}(h:ns[k]? = some n):decide (Ni ns n<(k:Int))=(ns.take k).contains n:=by
 have hm:n∈ns:=List.mem_of_getElem? h
 have hc:ns.contains n=true:=by simpa using hm
 unfold Ni
 rw [if_pos hc]
 have key:ns.idxOf n<k↔n∈ns.take k:=by
  constructor
  ·
   intro hlt
   have h1:ns.idxOf n<ns.length:=List.idxOf_lt_length_of_mem hm
   have h2:ns[ns.idxOf n]=n:=List.getElem_idxOf h1
   rw [List.mem_take_iff_getElem]
   exact ⟨ns.idxOf n,by omega,h2⟩
  ·
   intro hmem
   obtain ⟨i,hi,he⟩:=List.mem_take_iff_getElem.1 hmem
   have:ns.idxOf n≤i:=by
    refine Nat.le_of_not_lt fun hlt=>?_
    have h4:=List.not_of_lt_findIdx (p:=fun x=>x==n) (xs:=ns) (i:=i) hlt
    simp only [he] at h4
    simp at h4
   omega
 by_cases hk:ns.idxOf n<k
 ·
  have h2:=key.1 hk
  have e1:decide (((ns.idxOf n:Nat):Int)<(k:Int))=true:=by simp;omega
  rw [e1];symm;simpa using h2
 ·
  have h2:¬n∈ns.take k:=fun h=>hk (key.2 h)
  have e1:decide (((ns.idxOf n:Nat):Int)<(k:Int))=false:=by simp;omega
  rw [e1];symm;simpa using h2
def Nb (n:Int)(v:Va):Int:=if decide (v.type<0)||decide (n≤v.type) then 6 else 0
def Ic (types:List Sc)(vars:List Va):Int:=if decide (16<(vars.length:Int)) then 5 else At (Nb types.length) vars

def E1 (types:List Sc)(vars:List Va)(v:Int):List Fi:=((types[((vars[v.toNat]?).getD va0).type.toNat]?).getD sc0).fields
def Ga (l:List Fi)(k:Int):Int:=((l[k.toNat]?).getD fi0).kind
def Fa (types:List Sc)(vars:List Va)(e:Ex):Int×Int:=
 if e.op==0 then (e.val.kind,0)
 else if decide ((vars.length:Int)≤e.var) then (0,6)
 else if e.op==2||e.op==3 then (0,0)
 else if decide (((E1 types vars e.var).length:Int)≤e.field) then (0,6)
 else if e.op==4&&(Ga (E1 types vars e.var) e.field != e.val.kind || !C9 e.kind ⟨Ga (E1 types vars e.var) e.field,0,[]⟩) then (0,9)
 else (Ga (E1 types vars e.var) e.field,0)
def Vr (op:Int):Int:=if op==5||op==6 then 0 else 1

mutual
def Ca (types:List Sc)(vars:List Va):Ex→Int×Int
  | ⟨op,args,var,field,kind,val⟩=>
    if args.isEmpty then Fa types vars ⟨op,args,var,field,kind,val⟩
    else if (Jd types vars args).2 != 0 then (0,(Jd types vars args).2)
    else if Du op (Jd types vars args).1 != 0 then (0,Du op (Jd types vars args).1) else (Vr op,0)
def Jd (types:List Sc)(vars:List Va):List Ex→List Int×Int
 | []=>([],0)
 | e::r=>if (Ca types vars e).2 != 0 then ([],(Ca types vars e).2) else if (Jd types vars r).2 != 0 then ([],(Jd types vars r).2) else ((Ca types vars e).1::(Jd types vars r).1,0)
end
theorem Ru (types:List Sc)(vars:List Va):∀l,(Jd types vars l).2=At (fun a=>(Ca types vars a).2) l
  | []=>by simp [Jd,At]
  | e::r=>by
    have:=Ru types vars r
    by_cases h:((Ca types vars e).2 != 0)=true
    · rw [Jd,At,if_pos h,if_pos h]
    · rw [Jd,At,if_neg h,if_neg h,←this]
      by_cases h2:((Jd types vars r).2 != 0)=true
      · rw [if_pos h2]
      · rw [if_neg h2]
        have h3:(Jd types vars r).2=0:=by simpa using h2
        exact h3.symm
theorem cW (types:List Sc)(vars:List Va):∀l,At (fun a=>(Ca types vars a).2) l=0→(Jd types vars l).1=l.map fun a=>(Ca types vars a).1
  | [],_=>by simp [Jd]
  | e::r,h=>by
    simp only [At] at h
    by_cases h1:((Ca types vars e).2 != 0)=true
    · rw [if_pos h1] at h;simp [h] at h1
    · rw [if_neg h1] at h
      have h2:¬((Jd types vars r).2 != 0)=true:=by rw [Ru,h];simp
      rw [Jd,if_neg h1,if_neg h2]
      simp [cW types vars r h]
theorem Ec (types:List Sc)(vars:List Va)(e:Ex):Ca types vars e=if e.args.isEmpty then Fa types vars e else if At (fun a=>(Ca types vars a).2) e.args != 0 then (0,At (fun a=>(Ca types vars a).2) e.args)
  else if Du e.op (e.args.map fun a=>(Ca types vars a).1) != 0 then (0,Du e.op (e.args.map fun a=>(Ca types vars a).1)) else (Vr e.op,0):=by
 cases e with | mk op args var field kind val=>
 rw [Ca]
 simp only [Ru]
 by_cases h:At (fun a=>(Ca types vars a).2) args=0
 · simp [h,cW types vars args h]
 · simp [h]
def Cf (types:List Sc)(vars:List Va)(e:Ex):Int×Int:=
 if D9 types != 0 then (0,D9 types) else if Ic types vars != 0 then (0,Ic types vars) else if Bp e != 0 then (0,Bp e) else Ca types vars e

def shortS (types:List Sc)(vars:List Va):Bool:=!((types.take 30).any fun s=>decide (12<(s.fields.length:Int)))&&(decide ((types.length:Int)≤20)&&decide ((vars.length:Int)≤20))


def qF (v:Vl)(k:Int):Prop:=v.kind=k∧Ao v=0
def Zb (s:Sc)(ev:Ev):Prop:=ev.values.length=s.fields.length∧∀(k:Nat) (f:Fi),s.fields[k]? = some f→∃w,ev.values[k]? = some w∧qF w f.kind
def J8 (types:List Sc)(vars:List Va)(env:List (List Ev)):Prop:=
 env.length=vars.length∧∀(i:Nat) (v:Va),vars[i]? = some v→∃s ev,types[v.type.toNat]? = some s∧env[i]? = some [ev]∧Zb s ev

theorem aP {types:List Sc}{vars:List Va}{i:Int}{v:Va}{s:Sc}(hv:vars[i.toNat]? = some v)(hs:types[v.type.toNat]? = some s):E1 types vars i=s.fields:=by simp [E1,hv,hs]

theorem bG {k:Int}{w:Vl}(h:Ao w=0)(hs:C9 k w=true):Hc k w=0:=by
 have:Fz k w=true:=by
  unfold C9 at hs;unfold Fz
  simp only [Bool.or_eq_true,beq_iff_eq,Bool.and_eq_true,bne_iff_ne] at hs ⊢
  omega
 unfold Hc
 simp [h,this]

theorem Xt {k:Int}{w o:Vl}(hk:1≤k∧k≤5)(hw:Ao w=0)(hs:C9 k w=true)(ho:Hc k o=0):ofS k [w] o=(w,0):=by
 have hkn:Hy k=true:=by simp [Hy];omega
 have h1:=bG hw hs
 have h2:At (Hc k) [w]=0:=by simp [At,h1]
 have h0:D5 ⟨k,0,v0⟩=0:=by
  unfold D5
  simp [hkn,isV0,v0]
 have hst:jW k [w]=⟨k,1,w⟩:=by
  have:(k==0)=false:=by simp;omega
  simp [jW,Nw,Qa,I0,this]
 have ha:D5 (jW k [w])=0:=kZ [w] ⟨k,0,v0⟩ h0 rfl h2 (by simp)
 unfold ofS
 rw [if_neg (by simp [hkn]),if_neg (by simp),if_neg (by rw [h2];decide)]
 rw [hst] at ha ⊢
 unfold iX
 rw [if_neg (by rw [ha];decide),if_neg (by simp only [ho];decide)]
 have hk0:(k==0)=false:=by simp;omega
 simp [hk0]

theorem Sq {e:Ex}(h:Bq e=0)(h4:e.op=4):Hc e.kind e.val=0∧1≤e.kind∧e.kind≤5:=by
 unfold Bq at h
 split at h
 · cases h
 split at h
 · cases h
 split at h
 · cases h
 split at h
 · cases h
 rename_i h5
 have hk:1≤e.kind∧e.kind≤5:=by
  simp [h4] at h5;omega
 rw [if_pos (by simp [h4])] at h
 by_cases hc:Et e=0
 ·
  refine ⟨?_,hk⟩
  unfold Et at hc
  by_cases hv:Ao e.val=0
  ·
   rw [if_neg (by simp [hv])] at hc
   by_cases hs:C9 e.kind e.val=true
   · exact bG hv hs
   ·
    exfalso
    rw [if_pos (by simp [h4];left;simpa using hs)] at hc
    cases hc
  · rw [if_pos (by simp [hv])] at hc;exact absurd hc hv
 · rw [if_pos (by simp [hc])] at h;exact absurd h hc

theorem On (b:Bool):(Fo b).kind=1:=by cases b <;> rfl
theorem fU (op a b:Int)(h9:op≠9):(Nk op a b).kind=Vr op:=by
 unfold Nk Vr
 repeat' split
 all_goals first | rfl | exact On _ | skip
 all_goals simp_all

theorem K3 {env:List (List Ev)}{ev:Ev}{e:Ex}(hevs:Cz env e.var = [ev])(hown:(e.var != -1)=true)(h0:¬(e.op==0)=true)(h3:¬e.op=3)(h4:¬e.op=4):La ⟨env,-1,Ms⟩ e=Pv ev e:=by
 unfold La
 rw [if_neg h0,if_neg (by simp [h3]),if_neg (by simp [h4]),if_pos hown]
 simp only [hevs]
 rfl

theorem U6 {types:List Sc}{vars:List Va}{env:List (List Ev)}(hS:J8 types vars env)(e:Ex)(hn:Ci e=0)(hk:(Ca types vars e).2=0) :
    (C6 ⟨env,-1,Ms⟩ e).2=0∧(C6 ⟨env,-1,Ms⟩ e).1.kind=(Ca types vars e).1:=by
  induction e using Ex.Aa8 with
  | h e ih=>
    have hz:=A9 hn
    have hvr:=Lo hz.1
    have hfr:=Ki hz.1
    by_cases ha:e.args = []
    · rw [Ec types vars e,if_pos (by simp [ha])] at hk ⊢
      rw [N1 ha]
      unfold Fa at hk ⊢
      by_cases h0:(e.op==0)=true
      · rw [if_pos h0] at hk ⊢
        unfold La;rw [if_pos h0];exact ⟨rfl,rfl⟩
      rw [if_neg h0] at hk ⊢
      by_cases h1:decide ((vars.length:Int)≤e.var)=true
      · rw [if_pos h1] at hk;cases hk
      rw [if_neg h1] at hk ⊢
      have hlt:e.var<(vars.length:Int):=by simp at h1;omega
      obtain ⟨v,hv⟩:=Hm (l:=vars) hvr.1 hlt
      obtain ⟨s,ev,hs,hev,hse⟩:=hS.2 _ v hv
      have hel:e.var<(env.length:Int):=by rw [hS.1];exact hlt
      have hevs:Cz env e.var = [ev]:=by
        unfold Cz
        rw [if_neg (by simp;omega),hev];rfl
      have hown:(e.var != -1)=true:=by simp;omega
      have hfl:E1 types vars e.var=s.fields:=aP hv hs
      rw [hfl] at hk ⊢
      by_cases h3:e.op=3
      · unfold La
        rw [if_neg h0,if_pos (by simp [h3])]
        rw [if_pos (by simp [h3])]
        exact ⟨rfl,rfl⟩
      by_cases h2:e.op=2
      · rw [K3 hevs hown h0 h3 (by omega),if_pos (by simp [h2])]
        unfold Pv
        rw [if_pos (by simp [h2])]
        exact ⟨rfl,rfl⟩
      rw [if_neg (by simp [h2,h3])] at hk ⊢
      by_cases h4:decide ((s.fields.length:Int)≤e.field)=true
      · rw [if_pos h4] at hk;cases hk
      rw [if_neg h4] at hk ⊢
      obtain ⟨f,hf⟩:=Hm (l:=s.fields) hfr (by simp at h4;omega)
      obtain ⟨w,hw,hgw⟩:=hse.2 _ f hf
      have hka:Ga s.fields e.field=f.kind:=by simp [Ga,hf]
      have hfs:Gb ev e.field=(w,0):=by
        unfold Gb
        rw [if_neg (by rw [hse.1];exact h4),hw];rfl
      rw [hka] at hk ⊢
      by_cases h5:e.op=4
      · by_cases h6:(e.op==4&&(f.kind != e.val.kind || !C9 e.kind ⟨f.kind,0,[]⟩))=true
        · rw [if_pos h6] at hk;cases hk
        rw [if_neg h6]
        have htw:=Sq hz.1 h5
        have hes:C9 e.kind w=true:=by
          simp [h5] at h6
          have:=h6.2
          unfold C9 at this ⊢
          rw [hgw.1];exact this
        unfold La gJ
        rw [if_neg h0,if_neg (by simp [h3]),if_pos (by simp [h5]),hevs]
        have e1:At (fun v=>(Gb v e.field).2) [ev]=0:=by simp [At,hfs]
        rw [if_neg (by rw [e1];decide)]
        have e2:([ev].map fun v=>(Gb v e.field).1) = [w]:=by simp [hfs]
        rw [e2,Xt ⟨htw.2.1,htw.2.2⟩ hgw.2 hes htw.1]
        exact ⟨rfl,hgw.1⟩
      · have h6:¬(e.op==4&&(f.kind != e.val.kind || !C9 e.kind ⟨f.kind,0,[]⟩))=true:=by simp [h5]
        rw [if_neg h6]
        rw [K3 hevs hown h0 h3 h5]
        unfold Pv
        rw [if_neg (by simp [h2]),hfs,if_pos (by rfl),if_neg (by rw [hgw.2];decide)]
        exact ⟨rfl,hgw.1⟩
    · have hne:¬e.args.isEmpty=true:=by simpa using ha
      rw [Ec types vars e,if_neg hne] at hk ⊢
      by_cases h1:(At (fun a=>(Ca types vars a).2) e.args != 0)=true
      · rw [if_pos h1] at hk;simp at h1 hk;exact absurd hk h1
      rw [if_neg h1] at hk ⊢
      have hka:=Hx (f:=fun a=>(Ca types vars a).2) (l:=e.args) (by simpa using h1)
      have hih:∀a∈e.args,_:=fun a hm=>ih a hm (hz.2 a hm) (hka a hm)
      by_cases h2:(Du e.op (e.args.map fun a=>(Ca types vars a).1) != 0)=true
      · rw [if_pos h2] at hk;simp at h2 hk;exact absurd hk h2
      rw [if_neg h2]
      have hkinds:(e.args.map fun a=>(C6 ⟨env,-1,Ms⟩ a).1).map (·.kind)=e.args.map fun a=>(Ca types vars a).1:=by
        rw [List.map_map]
        exact List.map_congr_left fun a hm=>(hih a hm).2
      rw [Vp ha fun a hm=>(hih a hm).1]
      unfold U1
      rw [hkinds,if_neg h2]
      by_cases h9:(e.op==9)=true
      · rw [if_pos h9]
        refine ⟨rfl,?_⟩
        rw [On]
        simp only [beq_iff_eq] at h9
        rw [h9];rfl
      · rw [if_neg h9]
        exact ⟨rfl,fU _ _ _ (by simpa using h9)⟩


section
variable {α:Type} (f:Ex→List α→α)
mutual
def Or:Ex→α
 | ⟨op,args,var,field,kind,val⟩=>f ⟨op,args,var,field,kind,val⟩ (qV args)
def qV:List Ex→List α
 | []=>[]
 | e::r=>Or e::qV r
end
theorem dC:∀l:List Ex,qV f l=l.map (Or f)
 | []=>by simp [qV]
 | e::r=>by simp [qV,dC r]
theorem P5 (e:Ex):Or f e=f e (e.args.map (Or f)):=by cases e;rw [Or,dC]
end
def Ps {α:Type}(d:α)(l:List α):α:=l.headD d
def Xo {α:Type}(d:α)(l:List α):α:=(l[1]?).getD d

def two (op:Int)(a b:Ex):Ex:=⟨op,[a,b],0,0,0,v0⟩
def notE (a:Ex):Ex:=⟨12,[a],0,0,0,v0⟩
def E4 (b:Bool):Ex:=Lq (Fo b)

def negN (e:Ex)(ns:List Ex):Ex:=
 if e.op==10 then two 11 (Ps kD ns) (Xo kD ns)
 else if e.op==11 then two 10 (Ps kD ns) (Xo kD ns)
 else if e.op==12 then Ap e
 else if e.op==7 then two 8 (B3 e) (Ap e)
 else if e.op==8 then two 7 (B3 e) (Ap e)
 else if e.op==0&&e.val.kind==1 then E4 (e.val.num==0)
 else notE e
def Aao:Ex→Ex:=Or negN
def NegateS (e:Ex):Ex×Int:=if Bp e != 0 then (kD,Bp e) else if Bp (Aao e) != 0 then (kD,Bp (Aao e)) else (Aao e,0)

def Ku (e:Ex)(ev:Ev):Vl×Int:=
 if e.op==1 then (if decide ((ev.values.length:Int)≤e.field) then (⟨0,ev.time,[]⟩,6) else ((ev.values[e.field.toNat]?).getD v0,Ao ((ev.values[e.field.toNat]?).getD v0)))
 else (⟨0,ev.time,[]⟩,Ao ⟨0,ev.time,[]⟩)
def okL:List (Ex×Int)→List Ex×Option (Ex×Int)
 | []=>([],none)
 | p::r=>if p.2 != 0 then ([],some p) else ((p.1::(okL r).1),(okL r).2)
def knownN (vars:List (List Ev))(e:Ex)(ks:List (Ex×Int)):Ex×Int:=
  if e.op==1||e.op==2 then
    (if ((Cz vars e.var).length:Int)==0 then (e,0)
     else (Lq (Ku e ((Cz vars e.var).getLast?.getD Ms)).1,(Ku e ((Cz vars e.var).getLast?.getD Ms)).2))
  else match (okL ks).2 with
    | some p=>p
    | none=>(⟨e.op,(okL ks).1,e.var,e.field,e.kind,e.val⟩,0)
def fZ (vars:List (List Ev)):Ex→Ex×Int:=Or (knownN vars)
def KnownS (vars:List (List Ev))(e:Ex):Ex×Int:=if Bp e != 0 then (kD,Bp e) else if (fZ vars e).2 != 0 then (kD,(fZ vars e).2) else ((fZ vars e).1,0)

structure Tm where
 op:Int
 v:Int
 field:Int
deriving DecidableEq
def G2 (t:Tm):List AV:=[.int .i64 t.op,.int .i64 t.v,.int .i64 t.field]
def Hs (t:Tm):Ex:=⟨t.op,[],t.v,t.field,0,v0⟩
def Dh (e:Ex):Tm:=⟨e.op,e.var,e.field⟩
structure Gp where
 plus:List Tm
 minus:List Tm
 rest:Int
def oI:Gp:=⟨[],[],0⟩
def yR (g:Gp):List AV:=[.sl 3 (g.plus.map G2),.sl 3 (g.minus.map G2),.int .i64 g.rest]
structure Su where
 ts:List (Tm×Int)
 rest:Int
def H9:Su:=⟨[],0⟩
def He (t:Tm)(b:Int):List (Tm×Int)→List (Tm×Int)
 | []=>[(t,b)]
 | p::r=>if t=p.1 then (p.1,p.2+b)::r else p::He t b r
abbrev Ma:=Int→Su→Su×Bool
def Zt (e:Ex)(fs:List Ma):Ma:=fun b s=>
 if e.op==0 then (⟨s.ts,s.rest+b*e.val.num⟩,true)
 else if e.op==1||e.op==2 then (⟨He (Dh e) b s.ts,s.rest⟩,true)
 else if e.op==5 then
  (if !((Ps (fun _ s=>(s,false)) fs:Ma) b s).2 then (((Ps (fun _ s=>(s,false)) fs:Ma) b s).1,false) else (Xo (fun _ s=>(s,false)) fs:Ma) b ((Ps (fun _ s=>(s,false)) fs:Ma) b s).1)
 else if e.op==6 then
  (if !((Ps (fun _ s=>(s,false)) fs:Ma) b s).2 then (((Ps (fun _ s=>(s,false)) fs:Ma) b s).1,false) else (Xo (fun _ s=>(s,false)) fs:Ma) (0-b) ((Ps (fun _ s=>(s,false)) fs:Ma) b s).1)
 else (s,false)
def A5:Ex→Ma:=Or Zt
theorem Oj (e:Ex):A5 e=Zt e (e.args.map A5):=P5 Zt e
def C2:List (Tm×Int)→List Tm→List Tm→Option (List Tm×List Tm)
 | [],p,m=>some (p,m)
 | t::r,p,m=>if t.2==0 then C2 r p m else if t.2==1 then C2 r (p ++ [t.1]) m else if t.2 == -1 then C2 r p (m ++ [t.1]) else none
def Mk (s:Su):Gp×Bool:=match C2 s.ts [] [] with
 | some (p,m)=>(⟨p,m,s.rest⟩,decide ((p.length:Int)≤1)&&decide ((m.length:Int)≤1))
 | none=>(oI,false)
def Bu (a b:Ex):Gp×Bool:=
 if !(A5 a 1 H9).2 then (oI,false) else if !(A5 b (-1) (A5 a 1 H9).1).2 then (oI,false) else Mk (A5 b (-1) (A5 a 1 H9).1).1

section
variable (T:List Sc) (V:List Va)
abbrev kd (e:Ex):Int:=(Ca T V e).1
def Ak (e:Ex):Int:=
 if e.op==0||e.op==4 then e.val.kind
 else if e.op==1 then Ga (E1 T V e.var) e.field
 else if e.op==2||e.op==3||e.op==5||e.op==6 then 0 else 1
def C4 (e:Ex):Int:=if (Cf T V e).2 != 0 then (Cf T V e).2 else if (Cf T V e).1 != 1 then 9 else 0
def Cc (e:Ex):Bool:=e.op==7||e.op==8||e.op==9
def C0 (e:Ex):Bool:=e.op==9&&Ak T V (Ap e)==2
def Pz (a:Ex):Bool:=a.op==0||a.op==1
def Cm (e:Ex):Bool:=
 if e.op==1 then true else if !Cc e then false else if C0 T V e then Pz (Ap e)&&Pz (B3 e) else (Bu (Ap e) (B3 e)).2
def By (e:Ex):Bool:=if e.op==9 then Ak T V (Ap e)==1 else e.op==10||e.op==11||e.op==12||e.op==0
def R7 (e:Ex)(ps:List Bool):Bool:=if !By T V e then Cm T V e else ps.all id
def Fx:Ex→Bool:=Or (R7 T V)
theorem Ok (e:Ex):Fx T V e=R7 T V e (e.args.map (Fx T V)):=P5 _ e
def L8 (e:Ex):Bool×Int:=if C4 T V e != 0 then (false,C4 T V e) else (Fx T V e,0)
end

structure Lit where
 cond:Ex
 neg:Bool
def Fy (l:Lit):List AV:=[.int .i64 l.cond.op,.sl 8 (l.cond.args.map Gq),.int .i64 l.cond.var,.int .i64 l.cond.field,.int .i64 l.cond.kind,.int .i64 l.cond.val.kind,.int .i64 l.cond.val.num,.str l.cond.val.text,.bool l.neg]
def Ra (c:List Lit):List AV:=[.sl 9 (c.map Fy)]
abbrev Cs:=List (List Lit)×Bool
def Dx (c:Cs):List AV:=[.sl 1 (c.1.map Ra),.bool c.2]
def Kg {α:Type}(a b:List (List α)):List (List α)×Bool:=if decide ((256:Int)<(a.length:Int)*(b.length:Int)) then ([],false) else (a.flatMap fun x=>b.map fun y=>x++y,true)
def Dy (a b:Cs):Cs:=if !a.2 || !b.2 then ([],false) else Kg a.1 b.1
def Hf (a b:Cs):Cs:=if (!a.2 || !b.2)||decide ((256:Int)<(a.1.length:Int)+(b.1.length:Int)) then ([],false) else (a.1++b.1,true)
def Dn (l:List Lit):Cs:=(l.map fun x=>[x],true)
section
variable (T:List Sc) (V:List Va)
abbrev F4:=Bool→Cs
def M0 (e:Ex)(fs:List F4):F4:=fun sign=>
  if e.op==0 then (if (e.val.num==1)==sign then ([[]],true) else ([],true))
  else if e.op==12 then (Ps (fun _=>([],false)) fs:F4) (!sign)
  else if e.op==10||e.op==11 then
    (if (e.op==10)==sign then Dy ((Ps (fun _=>([],false)) fs:F4) sign) ((Xo (fun _=>([],false)) fs:F4) sign)
     else Hf ((Ps (fun _=>([],false)) fs:F4) sign) ((Xo (fun _=>([],false)) fs:F4) sign))
  else if e.op==9&&Ak T V (Ap e)==1 then
    Hf (Dy ((Ps (fun _=>([],false)) fs:F4) true) ((Xo (fun _=>([],false)) fs:F4) sign)) (Dy ((Ps (fun _=>([],false)) fs:F4) false) ((Xo (fun _=>([],false)) fs:F4) (!sign)))
  else if e.op==9&&(Ak T V (Ap e)==0 && !sign) then Dn [⟨two 7 (Ap e) (B3 e),false⟩,⟨two 7 (B3 e) (Ap e),false⟩]
  else Dn [⟨e,!sign⟩]
def Bw:Ex→F4:=Or (M0 T V)
theorem Ip (e:Ex):Bw T V e=M0 T V e (e.args.map (Bw T V)):=P5 _ e
def Cp (e:Ex):List (List Lit)×Int:=if C4 T V e != 0 then ([],C4 T V e) else if !(Bw T V e true).2 then ([],17) else ((Bw T V e true).1,0)
end

structure Bd where
 x:Int
 y:Int
 most:Int
deriving DecidableEq
def bd0:Bd:=⟨0,0,0⟩
def Ml (b:Bd):List AV:=[.int .i64 b.x,.int .i64 b.y,.int .i64 b.most]
structure Zn where
 n:Int
 bs:List Bd
def zn0:Zn:=⟨0,[]⟩
def Ss (z:Zn):List AV:=[.int .i64 z.n,.sl 3 (z.bs.map Ml)]
def bdE (n:Int)(b:Bd):Int:=if decide (b.x<0)||decide (n≤b.x)||decide (b.y<0)||decide (n≤b.y)||decide (b.most < -1125899906842624)||decide (1125899906842624<b.most) then 2 else 0
def De (z:Zn):Int:=if decide (z.n<1)||decide (64<z.n) then 2 else if decide (256<(z.bs.length:Int)) then 5 else At (bdE z.n) z.bs

structure Ds where
 sums:List Int
 last:List Int
def C5 (l:List Int)(k:Int):Int:=(l[k.toNat]?).getD 0
def Ta (i:Nat)(b:Bd)(s:Ds×Int):Ds×Int:=
 if decide (C5 s.1.sums b.y+b.most<C5 s.1.sums b.x) then (⟨s.1.sums.set b.x.toNat (C5 s.1.sums b.y+b.most),s.1.last.set b.x.toNat (i:Int)⟩,b.x) else s
def Gi:Nat→List Bd→Ds×Int→Ds×Int
 | _,[],s=>s
 | i,b::r,s=>Gi (i+1) r (Ta i b s)
def I8 (bs:List Bd)(d:Ds):Ds×Int:=Gi 0 bs (d,-1)
def Do (bs:List Bd):Nat→Ds×Int→Ds×Int
 | 0,s=>s
 | n+1,s=>if decide ((I8 bs s.1).2<0) then I8 bs s.1 else Do bs n (I8 bs s.1)
def E7 (bs:List Bd)(d:Ds)(at_:Int):Int:=((bs[(C5 d.last at_).toNat]?).getD bd0).y
def Hg (bs:List Bd)(d:Ds):Nat→Int→Int
 | 0,a=>a
 | n+1,a=>Hg bs d n (E7 bs d a)
def Hb (bs:List Bd)(d:Ds)(from_:Int):Nat→Int→List Int
 | 0,_=>[]
 | n+1,a=>C5 d.last a::if E7 bs d a==from_ then [] else Hb bs d from_ n (E7 bs d a)
def xX (z:Zn):Ds:=⟨List.replicate z.n.toNat 0,List.replicate z.n.toNat (-1)⟩
def Cy (z:Zn):Ds×Int:=Do z.bs (z.n.toNat+1) (xX z,-1)
def Lr (z:Zn):List Int×List Int:=
 if decide ((Cy z).2<0) then ((Cy z).1.sums,[])
 else ([],Hb z.bs (Cy z).1 (Hg z.bs (Cy z).1 z.n.toNat (Cy z).2) (z.n.toNat+1) (Hg z.bs (Cy z).1 z.n.toNat (Cy z).2))
structure So where
 ok:Bool
 values:List Int
 cycle:List Int
 err:Int
def Bl (z:Zn):So:=
 if De z != 0 then ⟨false,[],[],De z⟩
 else if decide ((Cy z).2<0) then ⟨true,(Cy z).1.sums.map (fun v=>v-C5 (Cy z).1.sums 0),[],0⟩
 else ⟨false,[],(Lr z).2,0⟩

section
variable (T:List Sc) (V:List Va)
def Ez (l:List Lit):Int:=
 if (Cf T V (E4 true)).2 != 0 then (Cf T V (E4 true)).2
 else if decide (256<(l.length:Int)) then 5
 else At (fun c=>if C4 T V c.cond != 0 then C4 T V c.cond else if By T V c.cond||(c.neg&&(c.cond.op==9&&Ak T V (Ap c.cond)==0)) then 3 else 0) l
def Aa (l:Lit):Gp×Bool:=
 if l.cond.op==1 then (⟨[Dh l.cond],[],0⟩,true)
 else if !Cc l.cond||C0 T V l.cond then (oI,false)
 else Bu (Ap l.cond) (B3 l.cond)
def Ar (ts:List Tm)(l:List Tm):List Tm:=match l with | []=>ts | t::_=>if ts.contains t then ts else ts ++ [t]
def Bv (ts:List Tm)(l:List Tm):Int:=match l with | []=>0 | t::_=>((ts.idxOf t:Nat):Int)+1
def Cw (t:Tm):Int×Int:=if t.op==2 then (0,1099511627776) else if Ak T V (Hs t)==1 then (0,1) else (-1099511627776,1099511627776)
def Dk (c:Lit)(x z rest:Int):List Bd:=
 if (c.cond.op==1&&c.neg)||(c.cond.op==8 && !c.neg) then [⟨x,z,0-rest⟩]
 else if c.cond.op==1||c.cond.op==8 then [⟨z,x,rest-1⟩]
 else if c.cond.op==7 && !c.neg then [⟨x,z,0-rest-1⟩]
 else if c.cond.op==7 then [⟨z,x,rest⟩]
 else [⟨x,z,0-rest⟩,⟨z,x,rest⟩]
structure Sy where
 ts:List Tm
 bs:List Bd
def Cq (s:Sy)(c:Lit):Sy:=
 if !(Aa T V c).2 then s
 else ⟨Ar (Ar s.ts (Aa T V c).1.plus) (Aa T V c).1.minus,
  s.bs++Dk c (Bv (Ar s.ts (Aa T V c).1.plus) (Aa T V c).1.plus) (Bv (Ar (Ar s.ts (Aa T V c).1.plus) (Aa T V c).1.minus) (Aa T V c).1.minus) (Aa T V c).1.rest⟩
def Bz (l:List Lit):Sy:=l.foldl (Cq T V) ⟨[],[]⟩
def Gu:Nat→List Tm→List Bd
 | _,[]=>[]
 | i,t::r=>⟨(i:Int)+1,0,(Cw T V t).2⟩::⟨0,(i:Int)+1,0-(Cw T V t).1⟩::Gu (i+1) r
def Aan (s:Sy):Zn:=⟨(s.ts.length:Int)+1,Gu T V 0 s.ts++s.bs⟩
def A7 (l:List Lit):Zn:=Aan T V (Bz T V l)
def Ha (z:Zn):Bool:=decide (z.n≤64)&&decide ((z.bs.length:Int)≤256)
structure Zr where
 zone:Zn
 terms:List Ex
 err:Int
def Mm (l:List Lit):Zr:=
 if Ez T V l != 0 then ⟨zn0,[],Ez T V l⟩
 else if !Ha (A7 T V l) then ⟨zn0,[],17⟩ else ⟨A7 T V l,(Bz T V l).ts.map Hs,0⟩

structure Wd where
 const:Bool
 text:List UInt8
 field:Tm
deriving DecidableEq
end
def tm0:Tm:=⟨0,0,0⟩
def Jz (w:Wd):List AV:=[.bool w.const,.str w.text,.int .i64 w.field.op,.int .i64 w.field.v,.int .i64 w.field.field]
def Ff (e:Ex):Wd:=if e.op==0 then ⟨true,e.val.text,tm0⟩ else ⟨false,[],Dh e⟩
abbrev Wm:=List (Wd×Wd)
def Il (w:Wm)(x:Wd):Option Wd:=(w.find? fun p=>p.1=x).map (·.2)
def aS (w:Wm):Nat→Wd→Wd
 | 0,x=>x
 | n+1,x=>match Il w x with | some y=>aS w n y | none=>x
def Df (w:Wm)(x:Wd):Wd:=aS w w.length x
section
variable (T:List Sc) (V:List Va)
def Db (sign:Bool)(c:Lit):Bool:=c.neg != sign&&(C0 T V c.cond&&Cm T V c.cond)
def Io (w:Wm)(c:Lit):Wm×Bool:=
 let a:=Df w (Ff (Ap c.cond));let b:=Df w (Ff (B3 c.cond))
 if a=b then (w,true) else if a.const&&b.const then (w,false) else if a.const then (w ++ [(b,a)],true) else (w ++ [(a,b)],true)
def Jj:List Lit→Wm→Wm×Bool
 | [],w=>(w,true)
 | c::r,w=>if !Db T V true c then Jj r w else if !(Io w c).2 then ((Io w c).1,false) else Jj r (Io w c).1
def Ot (w:Wm):List Lit→Bool
 | []=>true
 | c::r=>if !Db T V false c then Ot w r else if Df w (Ff (Ap c.cond))=Df w (Ff (B3 c.cond)) then false else Ot w r
def Id (l:List Lit):Wm×Bool:=((Jj T V l []).1,(Jj T V l []).2&&Ot T V (Jj T V l []).1 l)
end

theorem Cu {α:Type}{b:Bool}{x y:α}(h:b=false):(if b=true then x else y)=y:=if_neg (by rw [h];decide)
theorem Ju {α:Type}(f:Ex→α)(d:α){e:Ex}(h:0<e.args.length):Ps d (e.args.map f)=f (Ap e):=by
 unfold Ps Ap
 cases ha:e.args with
 | nil=>rw [ha] at h;cases h
 | cons a r=>rfl
theorem Kr {α:Type}(f:Ex→α)(d:α){e:Ex}(h:1<e.args.length):Xo d (e.args.map f)=f (B3 e):=by
 unfold Xo B3
 rw [List.getElem?_map,List.getElem?_eq_getElem h];rfl
theorem Ea {e:Ex}(h:Bq e=0)(ho:5≤e.op∧e.op≤11):1<e.args.length:=by
 obtain ⟨_,_,h3⟩:=Fw h
 have:Dp e.op=2:=by
  unfold Dp
  rw [if_neg (by omega),if_neg (by omega),if_neg (by omega)]
 omega
theorem Ud {e:Ex}(h:Bq e=0)(ho:e.op<5):e.args = []:=by
 obtain ⟨h1,_,h3⟩:=Fw h
 have:Dp e.op=0:=by
  unfold Dp
  rw [if_neg (by omega),if_pos (by omega)]
 exact List.length_eq_zero_iff.1 (by omega)
theorem mR (op:Int)(x y:Ex):cE (two op x y) = [.int .i64 op,.sl 8 [cE x,cE y],.int .i64 0,.int .i64 0,.int .i64 0,.int .i64 0,.int .i64 0,.str []]:=by
 show [AV.int .i64 op,.sl 8 [Gq x,Gq y],.int .i64 0,.int .i64 0,.int .i64 0,.int .i64 0,.int .i64 0,.str []]=_
 rw [Ko,Ko]
theorem lN {vars:List (List Ev)}{v:Int}{l:List Ev}(h0:0≤v)(h:vars[v.toNat]? = some l):Cz vars v=l:=by
 have:=(List.getElem?_eq_some_iff.1 h).1
 unfold Cz
 rw [if_neg (by simp;omega),h];rfl
def rreadE (e:Ex)(ev:Ev):Ex×Int:=if e.op==1&&decide ((ev.values.length:Int)≤e.field) then (e,6) else (Lq (Ku e ev).1,(Ku e ev).2)
def uP (vars:List (List Ev))(e:Ex)(ks:List (Ex×Int)):Ex×Int:=
 if e.op==1||e.op==2 then
  (if ((Cz vars e.var).length:Int)==0 then (e,0) else rreadE e ((Cz vars e.var).getLast?.getD Ms))
 else match (okL ks).2 with
  | some p=>(e,p.2)
  | none=>(⟨e.op,(okL ks).1,e.var,e.field,e.kind,e.val⟩,0)
def rknownE (vars:List (List Ev)):Ex→Ex×Int:=Or (uP vars)
theorem Z0 {vars:List (List Ev)}{v:Int}(h:0<(Cz vars v).length):Cz vars v∈vars:=by
 unfold Cz at h ⊢
 split
 · rename_i h1;rw [if_pos h1] at h;simp at h
 ·
  rename_i h1
  rw [if_neg h1] at h
  cases hl:vars[v.toNat]? with
  | none=>rw [hl] at h;simp at h
  | some l=>exact List.mem_of_getElem? hl
theorem yU {e:Ex}(h:0<e.args.length):Av (Ap e)<Av e:=E9 (Ax h)
theorem Z8 {e:Ex}(h:(Bp e != 0)=false):Ci e=0:=by
 have h0:Bp e=0:=by simpa using h
 unfold Bp at h0
 split at h0
 · cases h0
 ·
  split at h0
  · cases h0
  · exact h0
end Go.Proofs.YtjedflcpjlgokaaGreatDoor
