/-
  Several texts in one: M11, S11, S12, S11b. No condition.
-/
import Derived.Test.YtkddpedfbicbeaaGreatDoorK01
set_option linter.unusedVariables false
set_option linter.unusedSimpArgs false
namespace Go.Proofs.YtkddpedfbicbeaaGreatDoor
open Go Go.Aw

def Good (v:Vl)(k:Int):Prop:=v.kind=k∧vcheckS v=0
def SuitEv (s:Sc)(ev:Ev):Prop:=ev.values.length=s.fields.length∧∀(k:Nat) (f:Fi),s.fields[k]? = some f→∃w,ev.values[k]? = some w∧Good w f.kind
def Suits (types:List Sc)(vars:List Va)(env:List (List Ev)):Prop:=
 env.length=vars.length∧∀(i:Nat) (v:Va),vars[i]? = some v→∃s ev,types[v.type.toNat]? = some s∧env[i]? = some [ev]∧SuitEv s ev

theorem flds_of {types:List Sc}{vars:List Va}{i:Int}{v:Va}{s:Sc}(hv:vars[i.toNat]? = some v)(hs:types[v.type.toNat]? = some s):fldsS types vars i=s.fields:=by simp [fldsS,hv,hs]

theorem wrong_of {k:Int}{w:Vl}(h:vcheckS w=0)(hs:esuitsS k w=true):wrongS k w=0:=by
 have:asuitsS k w=true:=by
  unfold esuitsS at hs;unfold asuitsS
  simp only [Bool.or_eq_true,beq_iff_eq,Bool.and_eq_true,bne_iff_ne] at hs ⊢
  omega
 unfold wrongS
 simp [h,this]

theorem total_one {k:Int}{w o:Vl}(hk:1≤k∧k≤5)(hw:vcheckS w=0)(hs:esuitsS k w=true)(ho:wrongS k o=0):ofS k [w] o=(w,0):=by
 have hkn:knownS k=true:=by simp [knownS];omega
 have h1:=wrong_of hw hs
 have h2:firstS (wrongS k) [w]=0:=by simp [firstS,h1]
 have h0:acheckS ⟨k,0,v0⟩=0:=by
  unfold acheckS
  simp [hkn,isV0,v0]
 have hst:foldS k [w]=⟨k,1,w⟩:=by
  have:(k==0)=false:=by simp;omega
  simp [foldS,stepS,mergedS,singleS,this]
 have ha:acheckS (foldS k [w])=0:=fold_ok [w] ⟨k,0,v0⟩ h0 rfl h2 (by simp)
 unfold ofS
 rw [if_neg (by simp [hkn]),if_neg (by simp),if_neg (by rw [h2];decide)]
 rw [hst] at ha ⊢
 unfold resultS
 rw [if_neg (by rw [ha];decide),if_neg (by simp only [ho];decide)]
 have hk0:(k==0)=false:=by simp;omega
 simp [hk0]

theorem total_wrong {e:Ex}(h:nodeS e=0)(h4:e.op=4):wrongS e.kind e.val=0∧1≤e.kind∧e.kind≤5:=by
 unfold nodeS at h
 split at h
 · cases h
 split at h
 · cases h
 split at h
 · cases h
 split at h
 · cases h
 rename_i h5
 have hk:1≤e.kind∧e.kind≤5:=by
  simp [h4] at h5;omega
 rw [if_pos (by simp [h4])] at h
 by_cases hc:constS e=0
 ·
  refine ⟨?_,hk⟩
  unfold constS at hc
  by_cases hv:vcheckS e.val=0
  ·
   rw [if_neg (by simp [hv])] at hc
   by_cases hs:esuitsS e.kind e.val=true
   · exact wrong_of hv hs
   ·
    exfalso
    rw [if_pos (by simp [h4];left;simpa using hs)] at hc
    cases hc
  · rw [if_pos (by simp [hv])] at hc;exact absurd hc hv
 · rw [if_pos (by simp [hc])] at h;exact absurd h hc

theorem flag_kind (b:Bool):(flagS b).kind=1:=by cases b <;> rfl
theorem apply_kind (op a b:Int)(h9:op≠9):(applyS op a b).kind=resK op:=by
 unfold applyS resK
 repeat' split
 all_goals first | rfl | exact flag_kind _ | skip
 all_goals simp_all

theorem leaf_read {env:List (List Ev)}{ev:Ev}{e:Ex}(hevs:eventsS env e.var = [ev])(hown:(e.var != -1)=true)(h0:¬(e.op==0)=true)(h3:¬e.op=3)(h4:¬e.op=4):leafS ⟨env,-1,ev0⟩ e=readS ev e:=by
 unfold leafS
 rw [if_neg h0,if_neg (by simp [h3]),if_neg (by simp [h4]),if_pos hown]
 simp only [hevs]
 rfl

theorem progress {types:List Sc}{vars:List Va}{env:List (List Ev)}(hS:Suits types vars env)(e:Ex)(hn:nodesS e=0)(hk:(kindS types vars e).2=0) :
    (evalS ⟨env,-1,ev0⟩ e).2=0∧(evalS ⟨env,-1,ev0⟩ e).1.kind=(kindS types vars e).1:=by
  induction e using Ex.ind with
  | h e ih=>
    have hz:=nodes_zero hn
    have hvr:=node_var hz.1
    have hfr:=node_field hz.1
    by_cases ha:e.args = []
    · rw [kindS_eq types vars e,if_pos (by simp [ha])] at hk ⊢
      rw [eval_leaf ha]
      unfold leafK at hk ⊢
      by_cases h0:(e.op==0)=true
      · rw [if_pos h0] at hk ⊢
        unfold leafS;rw [if_pos h0];exact ⟨rfl,rfl⟩
      rw [if_neg h0] at hk ⊢
      by_cases h1:decide ((vars.length:Int)≤e.var)=true
      · rw [if_pos h1] at hk;cases hk
      rw [if_neg h1] at hk ⊢
      have hlt:e.var<(vars.length:Int):=by simp at h1;omega
      obtain ⟨v,hv⟩:=get_int (l:=vars) hvr.1 hlt
      obtain ⟨s,ev,hs,hev,hse⟩:=hS.2 _ v hv
      have hel:e.var<(env.length:Int):=by rw [hS.1];exact hlt
      have hevs:eventsS env e.var = [ev]:=by
        unfold eventsS
        rw [if_neg (by simp;omega),hev];rfl
      have hown:(e.var != -1)=true:=by simp;omega
      have hfl:fldsS types vars e.var=s.fields:=flds_of hv hs
      rw [hfl] at hk ⊢
      by_cases h3:e.op=3
      · unfold leafS
        rw [if_neg h0,if_pos (by simp [h3])]
        rw [if_pos (by simp [h3])]
        exact ⟨rfl,rfl⟩
      by_cases h2:e.op=2
      · rw [leaf_read hevs hown h0 h3 (by omega),if_pos (by simp [h2])]
        unfold readS
        rw [if_pos (by simp [h2])]
        exact ⟨rfl,rfl⟩
      rw [if_neg (by simp [h2,h3])] at hk ⊢
      by_cases h4:decide ((s.fields.length:Int)≤e.field)=true
      · rw [if_pos h4] at hk;cases hk
      rw [if_neg h4] at hk ⊢
      obtain ⟨f,hf⟩:=get_int (l:=s.fields) hfr (by simp at h4;omega)
      obtain ⟨w,hw,hgw⟩:=hse.2 _ f hf
      have hka:kindAt s.fields e.field=f.kind:=by simp [kindAt,hf]
      have hfs:fieldS ev e.field=(w,0):=by
        unfold fieldS
        rw [if_neg (by rw [hse.1];exact h4),hw];rfl
      rw [hka] at hk ⊢
      by_cases h5:e.op=4
      · by_cases h6:(e.op==4&&(f.kind != e.val.kind || !esuitsS e.kind ⟨f.kind,0,[]⟩))=true
        · rw [if_pos h6] at hk;cases hk
        rw [if_neg h6]
        have htw:=total_wrong hz.1 h5
        have hes:esuitsS e.kind w=true:=by
          simp [h5] at h6
          have:=h6.2
          unfold esuitsS at this ⊢
          rw [hgw.1];exact this
        unfold leafS totalS
        rw [if_neg h0,if_neg (by simp [h3]),if_pos (by simp [h5]),hevs]
        have e1:firstS (fun v=>(fieldS v e.field).2) [ev]=0:=by simp [firstS,hfs]
        rw [if_neg (by rw [e1];decide)]
        have e2:([ev].map fun v=>(fieldS v e.field).1) = [w]:=by simp [hfs]
        rw [e2,total_one ⟨htw.2.1,htw.2.2⟩ hgw.2 hes htw.1]
        exact ⟨rfl,hgw.1⟩
      · have h6:¬(e.op==4&&(f.kind != e.val.kind || !esuitsS e.kind ⟨f.kind,0,[]⟩))=true:=by simp [h5]
        rw [if_neg h6]
        rw [leaf_read hevs hown h0 h3 h5]
        unfold readS
        rw [if_neg (by simp [h2]),hfs,if_pos (by rfl),if_neg (by rw [hgw.2];decide)]
        exact ⟨rfl,hgw.1⟩
    · have hne:¬e.args.isEmpty=true:=by simpa using ha
      rw [kindS_eq types vars e,if_neg hne] at hk ⊢
      by_cases h1:(firstS (fun a=>(kindS types vars a).2) e.args != 0)=true
      · rw [if_pos h1] at hk;simp at h1 hk;exact absurd hk h1
      rw [if_neg h1] at hk ⊢
      have hka:=first_zero (f:=fun a=>(kindS types vars a).2) (l:=e.args) (by simpa using h1)
      have hih:∀a∈e.args,_:=fun a hm=>ih a hm (hz.2 a hm) (hka a hm)
      by_cases h2:(operandsS e.op (e.args.map fun a=>(kindS types vars a).1) != 0)=true
      · rw [if_pos h2] at hk;simp at h2 hk;exact absurd hk h2
      rw [if_neg h2]
      have hkinds:(e.args.map fun a=>(evalS ⟨env,-1,ev0⟩ a).1).map (·.kind)=e.args.map fun a=>(kindS types vars a).1:=by
        rw [List.map_map]
        exact List.map_congr_left fun a hm=>(hih a hm).2
      rw [eval_node' ha fun a hm=>(hih a hm).1]
      unfold nodeV
      rw [hkinds,if_neg h2]
      by_cases h9:(e.op==9)=true
      · rw [if_pos h9]
        refine ⟨rfl,?_⟩
        rw [flag_kind]
        simp only [beq_iff_eq] at h9
        rw [h9];rfl
      · rw [if_neg h9]
        exact ⟨rfl,apply_kind _ _ _ (by simpa using h9)⟩


/-! ### Recursion over expressions -/
section
variable {α:Type} (f:Ex→List α→α)
mutual
def recE:Ex→α
 | ⟨op,args,var,field,kind,val⟩=>f ⟨op,args,var,field,kind,val⟩ (recL args)
def recL:List Ex→List α
 | []=>[]
 | e::r=>recE e::recL r
end
theorem recL_map:∀l:List Ex,recL f l=l.map (recE f)
 | []=>by simp [recL]
 | e::r=>by simp [recL,recL_map r]
theorem recE_eq (e:Ex):recE f e=f e (e.args.map (recE f)):=by cases e;rw [recE,recL_map]
end
def hd0 {α:Type}(d:α)(l:List α):α:=l.headD d
def hd1 {α:Type}(d:α)(l:List α):α:=(l[1]?).getD d

/-! ### Nodes -/
def two (op:Int)(a b:Ex):Ex:=⟨op,[a,b],0,0,0,v0⟩
def notE (a:Ex):Ex:=⟨12,[a],0,0,0,v0⟩
def truthE (b:Bool):Ex:=constE (flagS b)

/-! ### Negation -/
def negN (e:Ex)(ns:List Ex):Ex:=
 if e.op==10 then two 11 (hd0 ex0 ns) (hd1 ex0 ns)
 else if e.op==11 then two 10 (hd0 ex0 ns) (hd1 ex0 ns)
 else if e.op==12 then arg0 e
 else if e.op==7 then two 8 (arg1 e) (arg0 e)
 else if e.op==8 then two 7 (arg1 e) (arg0 e)
 else if e.op==0&&e.val.kind==1 then truthE (e.val.num==0)
 else notE e
def negS:Ex→Ex:=recE negN
def NegateS (e:Ex):Ex×Int:=if checkS e != 0 then (ex0,checkS e) else if checkS (negS e) != 0 then (ex0,checkS (negS e)) else (negS e,0)

/-! ### What is known -/
def readE (e:Ex)(ev:Ev):Vl×Int:=
 if e.op==1 then (if decide ((ev.values.length:Int)≤e.field) then (⟨0,ev.time,[]⟩,6) else ((ev.values[e.field.toNat]?).getD v0,vcheckS ((ev.values[e.field.toNat]?).getD v0)))
 else (⟨0,ev.time,[]⟩,vcheckS ⟨0,ev.time,[]⟩)
/-- the expressions, or the first error with what stands there -/
def okL:List (Ex×Int)→List Ex×Option (Ex×Int)
 | []=>([],none)
 | p::r=>if p.2 != 0 then ([],some p) else ((p.1::(okL r).1),(okL r).2)
def knownN (vars:List (List Ev))(e:Ex)(ks:List (Ex×Int)):Ex×Int:=
  if e.op==1||e.op==2 then
    (if ((eventsS vars e.var).length:Int)==0 then (e,0)
     else (constE (readE e ((eventsS vars e.var).getLast?.getD ev0)).1,(readE e ((eventsS vars e.var).getLast?.getD ev0)).2))
  else match (okL ks).2 with
    | some p=>p
    | none=>(⟨e.op,(okL ks).1,e.var,e.field,e.kind,e.val⟩,0)
def knownE (vars:List (List Ev)):Ex→Ex×Int:=recE (knownN vars)
theorem knownE_eq (vars:List (List Ev))(e:Ex):knownE vars e=knownN vars e (e.args.map (knownE vars)):=recE_eq _ e
def KnownS (vars:List (List Ev))(e:Ex):Ex×Int:=if checkS e != 0 then (ex0,checkS e) else if (knownE vars e).2 != 0 then (ex0,(knownE vars e).2) else ((knownE vars e).1,0)

/-! ### Terms and differences -/
structure Tm where
 op:Int
 v:Int
 field:Int
deriving DecidableEq
def cTm (t:Tm):List AV:=[.int .i64 t.op,.int .i64 t.v,.int .i64 t.field]
def tmE (t:Tm):Ex:=⟨t.op,[],t.v,t.field,0,v0⟩
def tmOf (e:Ex):Tm:=⟨e.op,e.var,e.field⟩
structure Gp where
 plus:List Tm
 minus:List Tm
 rest:Int
def gp0:Gp:=⟨[],[],0⟩
def cGp (g:Gp):List AV:=[.sl 3 (g.plus.map cTm),.sl 3 (g.minus.map cTm),.int .i64 g.rest]
/-- a sum: terms with their coefficients, in order of their first occurrence; the constant -/
structure Su where
 ts:List (Tm×Int)
 rest:Int
def su0:Su:=⟨[],0⟩
def addT (t:Tm)(b:Int):List (Tm×Int)→List (Tm×Int)
 | []=>[(t,b)]
 | p::r=>if t=p.1 then (p.1,p.2+b)::r else p::addT t b r
abbrev LinF:=Int→Su→Su×Bool
def linN (e:Ex)(fs:List LinF):LinF:=fun b s=>
 if e.op==0 then (⟨s.ts,s.rest+b*e.val.num⟩,true)
 else if e.op==1||e.op==2 then (⟨addT (tmOf e) b s.ts,s.rest⟩,true)
 else if e.op==5 then
  (if !((hd0 (fun _ s=>(s,false)) fs:LinF) b s).2 then (((hd0 (fun _ s=>(s,false)) fs:LinF) b s).1,false) else (hd1 (fun _ s=>(s,false)) fs:LinF) b ((hd0 (fun _ s=>(s,false)) fs:LinF) b s).1)
 else if e.op==6 then
  (if !((hd0 (fun _ s=>(s,false)) fs:LinF) b s).2 then (((hd0 (fun _ s=>(s,false)) fs:LinF) b s).1,false) else (hd1 (fun _ s=>(s,false)) fs:LinF) (0-b) ((hd0 (fun _ s=>(s,false)) fs:LinF) b s).1)
 else (s,false)
def linS:Ex→LinF:=recE linN
theorem linS_eq (e:Ex):linS e=linN e (e.args.map linS):=recE_eq linN e
/-- the terms with coefficient 1, with -1; none if there is another coefficient -/
def partsS:List (Tm×Int)→List Tm→List Tm→Option (List Tm×List Tm)
 | [],p,m=>some (p,m)
 | t::r,p,m=>if t.2==0 then partsS r p m else if t.2==1 then partsS r (p ++ [t.1]) m else if t.2 == -1 then partsS r p (m ++ [t.1]) else none
def gapOf (s:Su):Gp×Bool:=match partsS s.ts [] [] with
 | some (p,m)=>(⟨p,m,s.rest⟩,decide ((p.length:Int)≤1)&&decide ((m.length:Int)≤1))
 | none=>(gp0,false)
def betweenS (a b:Ex):Gp×Bool:=
 if !(linS a 1 su0).2 then (gp0,false) else if !(linS b (-1) (linS a 1 su0).1).2 then (gp0,false) else gapOf (linS b (-1) (linS a 1 su0).1).1

/-! ### Conditions -/
section
variable (T:List Sc) (V:List Va)
abbrev kd (e:Ex):Int:=(kindS T V e).1
/-- the kind, as it is read off an expression that has one -/
def kindR (e:Ex):Int:=
 if e.op==0||e.op==4 then e.val.kind
 else if e.op==1 then kindAt (fldsS T V e.var) e.field
 else if e.op==2||e.op==3||e.op==5||e.op==6 then 0 else 1
def condE (e:Ex):Int:=if (KindS T V e).2 != 0 then (KindS T V e).2 else if (KindS T V e).1 != 1 then 9 else 0
def comparesS (e:Ex):Bool:=e.op==7||e.op==8||e.op==9
def textsS (e:Ex):Bool:=e.op==9&&kindR T V (arg0 e)==2
def directS (a:Ex):Bool:=a.op==0||a.op==1
def simpleS (e:Ex):Bool:=
 if e.op==1 then true else if !comparesS e then false else if textsS T V e then directS (arg0 e)&&directS (arg1 e) else (betweenS (arg0 e) (arg1 e)).2
def composedS (e:Ex):Bool:=if e.op==9 then kindR T V (arg0 e)==1 else e.op==10||e.op==11||e.op==12||e.op==0
def plainN (e:Ex)(ps:List Bool):Bool:=if !composedS T V e then simpleS T V e else ps.all id
def plainS:Ex→Bool:=recE (plainN T V)
def PlainS (e:Ex):Bool×Int:=if condE T V e != 0 then (false,condE T V e) else (plainS T V e,0)
end

/-! ### Clauses -/
structure Lit where
 cond:Ex
 neg:Bool
def cLit (l:Lit):List AV:=[.int .i64 l.cond.op,.sl 8 (l.cond.args.map encE),.int .i64 l.cond.var,.int .i64 l.cond.field,.int .i64 l.cond.kind,.int .i64 l.cond.val.kind,.int .i64 l.cond.val.num,.str l.cond.val.text,.bool l.neg]
def cCl (c:List Lit):List AV:=[.sl 9 (c.map cLit)]
/-- clauses; whether there are not too many -/
abbrev Cs:=List (List Lit)×Bool
def cCs (c:Cs):List AV:=[.sl 1 (c.1.map cCl),.bool c.2]
def prodS {α:Type}(a b:List (List α)):List (List α)×Bool:=if decide ((256:Int)<(a.length:Int)*(b.length:Int)) then ([],false) else (a.flatMap fun x=>b.map fun y=>x++y,true)
def timesS (a b:Cs):Cs:=if !a.2 || !b.2 then ([],false) else prodS a.1 b.1
def plusS (a b:Cs):Cs:=if (!a.2 || !b.2)||decide ((256:Int)<(a.1.length:Int)+(b.1.length:Int)) then ([],false) else (a.1++b.1,true)
def singleC (l:List Lit):Cs:=(l.map fun x=>[x],true)
section
variable (T:List Sc) (V:List Va)
abbrev NormF:=Bool→Cs
def normN (e:Ex)(fs:List NormF):NormF:=fun sign=>
  if e.op==0 then (if (e.val.num==1)==sign then ([[]],true) else ([],true))
  else if e.op==12 then (hd0 (fun _=>([],false)) fs:NormF) (!sign)
  else if e.op==10||e.op==11 then
    (if (e.op==10)==sign then timesS ((hd0 (fun _=>([],false)) fs:NormF) sign) ((hd1 (fun _=>([],false)) fs:NormF) sign)
     else plusS ((hd0 (fun _=>([],false)) fs:NormF) sign) ((hd1 (fun _=>([],false)) fs:NormF) sign))
  else if e.op==9&&kindR T V (arg0 e)==1 then
    plusS (timesS ((hd0 (fun _=>([],false)) fs:NormF) true) ((hd1 (fun _=>([],false)) fs:NormF) sign)) (timesS ((hd0 (fun _=>([],false)) fs:NormF) false) ((hd1 (fun _=>([],false)) fs:NormF) (!sign)))
  else if e.op==9&&(kindR T V (arg0 e)==0 && !sign) then singleC [⟨two 7 (arg0 e) (arg1 e),false⟩,⟨two 7 (arg1 e) (arg0 e),false⟩]
  else singleC [⟨e,!sign⟩]
def normS:Ex→NormF:=recE (normN T V)
theorem normS_eq (e:Ex):normS T V e=normN T V e (e.args.map (normS T V)):=recE_eq _ e
def ClausesS (e:Ex):List (List Lit)×Int:=if condE T V e != 0 then ([],condE T V e) else if !(normS T V e true).2 then ([],17) else ((normS T V e true).1,0)
end

/-! ### Zones -/
structure Bd where
 x:Int
 y:Int
 most:Int
deriving DecidableEq
def bd0:Bd:=⟨0,0,0⟩
def cBd (b:Bd):List AV:=[.int .i64 b.x,.int .i64 b.y,.int .i64 b.most]
structure Zn where
 n:Int
 bs:List Bd
def zn0:Zn:=⟨0,[]⟩
def cZn (z:Zn):List AV:=[.int .i64 z.n,.sl 3 (z.bs.map cBd)]
def bdE (n:Int)(b:Bd):Int:=if decide (b.x<0)||decide (n≤b.x)||decide (b.y<0)||decide (n≤b.y)||decide (b.most < -1125899906842624)||decide (1125899906842624<b.most) then 2 else 0
def zoneE (z:Zn):Int:=if decide (z.n<1)||decide (64<z.n) then 2 else if decide (256<(z.bs.length:Int)) then 5 else firstS (bdE z.n) z.bs

/-! ### Least sums -/
/-- the sums, the last bounds, what was improved last -/
structure Ds where
 sums:List Int
 last:List Int
def ixI (l:List Int)(k:Int):Int:=(l[k.toNat]?).getD 0
def rlx1 (i:Nat)(b:Bd)(s:Ds×Int):Ds×Int:=
 if decide (ixI s.1.sums b.y+b.most<ixI s.1.sums b.x) then (⟨s.1.sums.set b.x.toNat (ixI s.1.sums b.y+b.most),s.1.last.set b.x.toNat (i:Int)⟩,b.x) else s
def rlxGo:Nat→List Bd→Ds×Int→Ds×Int
 | _,[],s=>s
 | i,b::r,s=>rlxGo (i+1) r (rlx1 i b s)
def rlxS (bs:List Bd)(d:Ds):Ds×Int:=rlxGo 0 bs (d,-1)
/-- so many rounds, or until nothing is improved: the state, and what was improved last or -1 -/
def roundsS (bs:List Bd):Nat→Ds×Int→Ds×Int
 | 0,s=>s
 | n+1,s=>if decide ((rlxS bs s.1).2<0) then rlxS bs s.1 else roundsS bs n (rlxS bs s.1)
def predS (bs:List Bd)(d:Ds)(at_:Int):Int:=((bs[(ixI d.last at_).toNat]?).getD bd0).y
def backN (bs:List Bd)(d:Ds):Nat→Int→Int
 | 0,a=>a
 | n+1,a=>backN bs d n (predS bs d a)
/-- the last bounds from an unknown backwards, until it comes again (at most so many) -/
def cycGo (bs:List Bd)(d:Ds)(from_:Int):Nat→Int→List Int
 | 0,_=>[]
 | n+1,a=>ixI d.last a::if predS bs d a==from_ then [] else cycGo bs d from_ n (predS bs d a)
def start (z:Zn):Ds:=⟨List.replicate z.n.toNat 0,List.replicate z.n.toNat (-1)⟩
def endS (z:Zn):Ds×Int:=roundsS z.bs (z.n.toNat+1) (start z,-1)
def solveD (z:Zn):List Int×List Int:=
 if decide ((endS z).2<0) then ((endS z).1.sums,[])
 else ([],cycGo z.bs (endS z).1 (backN z.bs (endS z).1 z.n.toNat (endS z).2) (z.n.toNat+1) (backN z.bs (endS z).1 z.n.toNat (endS z).2))
/-- Solve: whether there is a model, the model, the contradiction, the error -/
structure So where
 ok:Bool
 values:List Int
 cycle:List Int
 err:Int
def SolveD (z:Zn):So:=
 if zoneE z != 0 then ⟨false,[],[],zoneE z⟩
 else if decide ((endS z).2<0) then ⟨true,(endS z).1.sums.map (fun v=>v-ixI (endS z).1.sums 0),[],0⟩
 else ⟨false,[],(solveD z).2,0⟩

/-! ### The zone of a clause -/
section
variable (T:List Sc) (V:List Va)
def clauseE (l:List Lit):Int:=
 if (KindS T V (truthE true)).2 != 0 then (KindS T V (truthE true)).2
 else if decide (256<(l.length:Int)) then 5
 else firstS (fun c=>if condE T V c.cond != 0 then condE T V c.cond else if composedS T V c.cond||(c.neg&&(c.cond.op==9&&kindR T V (arg0 c.cond)==0)) then 3 else 0) l
def numericS (l:Lit):Gp×Bool:=
 if l.cond.op==1 then (⟨[tmOf l.cond],[],0⟩,true)
 else if !comparesS l.cond||textsS T V l.cond then (gp0,false)
 else betweenS (arg0 l.cond) (arg1 l.cond)
/-- the number of a term: 0 for none -/
def addTm (ts:List Tm)(l:List Tm):List Tm:=match l with | []=>ts | t::_=>if ts.contains t then ts else ts ++ [t]
def numTm (ts:List Tm)(l:List Tm):Int:=match l with | []=>0 | t::_=>((ts.idxOf t:Nat):Int)+1
def limitsS (t:Tm):Int×Int:=if t.op==2 then (0,1099511627776) else if kindR T V (tmE t)==1 then (0,1) else (-1099511627776,1099511627776)
def boundsS (c:Lit)(x z rest:Int):List Bd:=
 if (c.cond.op==1&&c.neg)||(c.cond.op==8 && !c.neg) then [⟨x,z,0-rest⟩]
 else if c.cond.op==1||c.cond.op==8 then [⟨z,x,rest-1⟩]
 else if c.cond.op==7 && !c.neg then [⟨x,z,0-rest-1⟩]
 else if c.cond.op==7 then [⟨z,x,rest⟩]
 else [⟨x,z,0-rest⟩,⟨z,x,rest⟩]
/-- the unknowns and the bounds so far -/
structure Sy where
 ts:List Tm
 bs:List Bd
def sysStep (s:Sy)(c:Lit):Sy:=
 if !(numericS T V c).2 then s
 else ⟨addTm (addTm s.ts (numericS T V c).1.plus) (numericS T V c).1.minus,
  s.bs++boundsS c (numTm (addTm s.ts (numericS T V c).1.plus) (numericS T V c).1.plus) (numTm (addTm (addTm s.ts (numericS T V c).1.plus) (numericS T V c).1.minus) (numericS T V c).1.minus) (numericS T V c).1.rest⟩
def sysGo (l:List Lit):Sy:=l.foldl (sysStep T V) ⟨[],[]⟩
def limGo:Nat→List Tm→List Bd
 | _,[]=>[]
 | i,t::r=>⟨(i:Int)+1,0,(limitsS T V t).2⟩::⟨0,(i:Int)+1,0-(limitsS T V t).1⟩::limGo (i+1) r
def zoneOf (s:Sy):Zn:=⟨(s.ts.length:Int)+1,limGo T V 0 s.ts++s.bs⟩
def zoneS (l:List Lit):Zn:=zoneOf T V (sysGo T V l)
def fitsS (z:Zn):Bool:=decide (z.n≤64)&&decide ((z.bs.length:Int)≤256)
structure Zr where
 zone:Zn
 terms:List Ex
 err:Int
def ZoneS (l:List Lit):Zr:=
 if clauseE T V l != 0 then ⟨zn0,[],clauseE T V l⟩
 else if !fitsS (zoneS T V l) then ⟨zn0,[],17⟩ else ⟨zoneS T V l,(sysGo T V l).ts.map tmE,0⟩

/-! ### Strings -/
structure Wd where
 const:Bool
 text:List UInt8
 field:Tm
deriving DecidableEq
end
def tm0:Tm:=⟨0,0,0⟩
def cWd (w:Wd):List AV:=[.bool w.const,.str w.text,.int .i64 w.field.op,.int .i64 w.field.v,.int .i64 w.field.field]
def asWd (e:Ex):Wd:=if e.op==0 then ⟨true,e.val.text,tm0⟩ else ⟨false,[],tmOf e⟩
abbrev Wm:=List (Wd×Wd)
def wget (w:Wm)(x:Wd):Option Wd:=(w.find? fun p=>p.1=x).map (·.2)
def ofGo (w:Wm):Nat→Wd→Wd
 | 0,x=>x
 | n+1,x=>match wget w x with | some y=>ofGo w n y | none=>x
def ofS' (w:Wm)(x:Wd):Wd:=ofGo w w.length x
section
variable (T:List Sc) (V:List Va)
def stringy (sign:Bool)(c:Lit):Bool:=c.neg != sign&&(textsS T V c.cond&&simpleS T V c.cond)
def eqStep (w:Wm)(c:Lit):Wm×Bool:=
 let a:=ofS' w (asWd (arg0 c.cond));let b:=ofS' w (asWd (arg1 c.cond))
 if a=b then (w,true) else if a.const&&b.const then (w,false) else if a.const then (w ++ [(b,a)],true) else (w ++ [(a,b)],true)
def eqGo:List Lit→Wm→Wm×Bool
 | [],w=>(w,true)
 | c::r,w=>if !stringy T V true c then eqGo r w else if !(eqStep w c).2 then ((eqStep w c).1,false) else eqGo r (eqStep w c).1
def neGo (w:Wm):List Lit→Bool
 | []=>true
 | c::r=>if !stringy T V false c then neGo w r else if ofS' w (asWd (arg0 c.cond))=ofS' w (asWd (arg1 c.cond)) then false else neGo w r
def stringsS (l:List Lit):Wm×Bool:=((eqGo T V l []).1,(eqGo T V l []).2&&neGo T V (eqGo T V l []).1 l)
end

theorem ifF {α:Type}{b:Bool}{x y:α}(h:b=false):(if b=true then x else y)=y:=if_neg (by rw [h];decide)
theorem hd0_map {α:Type}(f:Ex→α)(d:α){e:Ex}(h:0<e.args.length):hd0 d (e.args.map f)=f (arg0 e):=by
 unfold hd0 arg0
 cases ha:e.args with
 | nil=>rw [ha] at h;cases h
 | cons a r=>rfl
theorem hd1_map {α:Type}(f:Ex→α)(d:α){e:Ex}(h:1<e.args.length):hd1 d (e.args.map f)=f (arg1 e):=by
 unfold hd1 arg1
 rw [List.getElem?_map,List.getElem?_eq_getElem h];rfl
theorem len_two' {e:Ex}(h:nodeS e=0)(ho:5≤e.op∧e.op≤11):1<e.args.length:=by
 obtain ⟨_,_,h3⟩:=node_shape h
 have:arityS e.op=2:=by
  unfold arityS
  rw [if_neg (by omega),if_neg (by omega),if_neg (by omega)]
 omega
theorem leaf_nil {e:Ex}(h:nodeS e=0)(ho:e.op<5):e.args = []:=by
 obtain ⟨h1,_,h3⟩:=node_shape h
 have:arityS e.op=0:=by
  unfold arityS
  rw [if_neg (by omega),if_pos (by omega)]
 exact List.length_eq_zero_iff.1 (by omega)
theorem two_cells (op:Int)(x y:Ex):cE (two op x y) = [.int .i64 op,.sl 8 [cE x,cE y],.int .i64 0,.int .i64 0,.int .i64 0,.int .i64 0,.int .i64 0,.str []]:=by
 show [AV.int .i64 op,.sl 8 [encE x,encE y],.int .i64 0,.int .i64 0,.int .i64 0,.int .i64 0,.int .i64 0,.str []]=_
 rw [encE_eq,encE_eq]
theorem not_cells (x:Ex):cE (notE x) = [.int .i64 12,.sl 8 [cE x],.int .i64 0,.int .i64 0,.int .i64 0,.int .i64 0,.int .i64 0,.str []]:=by
 show [AV.int .i64 12,.sl 8 [encE x],.int .i64 0,.int .i64 0,.int .i64 0,.int .i64 0,.int .i64 0,.str []]=_
 rw [encE_eq]
theorem var_nonneg {e:Ex}(h:nodeS e=0)(ho:(e.op==1||e.op==2)=true):0≤e.var:=by
 have ho':e.op=1∨e.op=2:=by simpa using ho
 unfold nodeS at h
 split at h
 · cases h
 split at h
 · cases h
 split at h
 · cases h
 rename_i h3
 have hu:(usesS e.op).1=true:=by rcases ho' with ho | ho <;> rw [ho] <;> rfl
 rw [hu] at h3
 simp at h3
 omega
theorem field_nonneg {e:Ex}(h:nodeS e=0)(ho:e.op=1):0≤e.field:=by
 unfold nodeS at h
 split at h
 · cases h
 split at h
 · cases h
 split at h
 · cases h
 rename_i h3
 have hu:(usesS e.op).2=true:=by rw [ho];rfl
 rw [hu] at h3
 simp at h3
 omega
theorem okL_all:∀{l:List (Ex×Int)},(∀q∈l,q.2=0)→okL l=(l.map Prod.fst,none)
  | [],_=>rfl
  | q::r,h=>by
    have h0:=h q (by simp)
    rw [okL,if_neg (by simp [h0]),okL_all (fun x hx=>h x (by simp [hx]))];rfl
theorem okL_bad:∀{l:List (Ex×Int)} {k:Nat} {q:Ex×Int},(∀x∈l.take k,x.2=0)→l[k]? = some q→(q.2 != 0)=true→(okL l).2=some q
  | [],_,_,_,h,_=>by simp at h
  | x::r,0,q,_,h,hq=>by
    simp at h;subst h
    rw [okL,if_pos hq]
  | x::r,k+1,q,ha,h,hq=>by
    have h0:=ha x (by simp)
    rw [okL,if_neg (by simp [h0])]
    exact okL_bad (k:=k) (fun y hy=>ha y (by rw [List.take_succ_cons];exact List.mem_cons_of_mem _ hy)) (by simpa using h) hq
theorem knownE_none {vars:List (List Ev)}{e:Ex}(ho:(e.op==1||e.op==2)=true)(hl:(((eventsS vars e.var).length:Int)==0)=true):knownE vars e=(e,0):=by
 rw [knownE_eq,knownN,if_pos ho,if_pos hl]
theorem knownE_last {vars:List (List Ev)}{e:Ex}{l:List Ev}{v:Ev}(ho:(e.op==1||e.op==2)=true)(he:eventsS vars e.var=l)(hv:l[l.length-1]? = some v):knownE vars e=(constE (readE e v).1,(readE e v).2):=by
 have hp:0<l.length:=by
  cases l with
  | nil=>simp at hv
  | cons a r=>simp
 rw [knownE_eq,knownN,if_pos ho,if_neg (by rw [he];simp;intro h;rw [h] at hp;simp at hp),he,List.getLast?_eq_getElem?,hv];rfl
theorem knownE_bad {vars:List (List Ev)}{e a:Ex}{k:Nat}(ho:(e.op==1||e.op==2)=false)(hk:∀x∈e.args.take k,(knownE vars x).2=0)(ha:e.args[k]? = some a)(hb:((knownE vars a).2 != 0)=true):knownE vars e=knownE vars a:=by
 rw [knownE_eq,knownN,ifF ho,okL_bad (k:=k) (q:=knownE vars a) (by rw [←List.map_take];intro x hx;obtain ⟨y,hy,rfl⟩:=List.mem_map.1 hx;exact hk y hy) (by rw [List.getElem?_map,ha];rfl) hb]
theorem knownE_ok {vars:List (List Ev)}{e:Ex}(ho:(e.op==1||e.op==2)=false)(hk:∀x∈e.args,(knownE vars x).2=0):knownE vars e=(⟨e.op,e.args.map (fun a=>(knownE vars a).1),e.var,e.field,e.kind,e.val⟩,0):=by
 rw [knownE_eq,knownN,ifF ho,okL_all (by intro x hx;obtain ⟨y,hy,rfl⟩:=List.mem_map.1 hx;exact hk y hy)]
 simp
theorem events_at {vars:List (List Ev)}{v:Int}{l:List Ev}(h0:0≤v)(h:vars[v.toNat]? = some l):eventsS vars v=l:=by
 have:=(List.getElem?_eq_some_iff.1 h).1
 unfold eventsS
 rw [if_neg (by simp;omega),h];rfl
theorem events_off {vars:List (List Ev)}{v:Int}(h:decide ((vars.length:Int)≤v)=true):eventsS vars v = []:=by
 unfold eventsS
 rw [if_pos (by rw [h];simp)]
theorem readE_off {e:Ex}{ev:Ev}(h1:(e.op==1)=true)(h2:decide ((ev.values.length:Int)≤e.field)=true):readE e ev=(⟨0,ev.time,[]⟩,6):=by rw [readE,if_pos h1,if_pos h2]
theorem readE_at {e:Ex}{ev:Ev}{v:Vl}(h1:(e.op==1)=true)(h2:decide ((ev.values.length:Int)≤e.field)=false)(hv:ev.values[e.field.toNat]? = some v):readE e ev=(v,vcheckS v):=by rw [readE,if_pos h1,ifF h2,hv];rfl
theorem readE_time {e:Ex}{ev:Ev}(h1:(e.op==1)=false):readE e ev=(⟨0,ev.time,[]⟩,vcheckS ⟨0,ev.time,[]⟩):=by rw [readE,ifF h1]
theorem get_off {vars:List (List Ev)}{v:Int}(h0:0≤v)(hG:allG [(decide ((vars.length:Int)≤v),false)]):vars[v.toNat]? = some ((vars[v.toNat]?).getD []):=by
 have h:=hG _ (List.mem_singleton.2 rfl)
 simp at h
 have:v.toNat<vars.length:=by omega
 rw [List.getElem?_eq_getElem this];rfl
theorem known_none {vars:List (List Ev)}{v:Int}(h0:0≤v)(h:(decide ((vars.length:Int)≤v)||((((vars[v.toNat]?).getD []).length:Int)==0))=true):(((eventsS vars v).length:Int)==0)=true:=by
 rcases Bool.or_eq_true_iff.1 h with h | h
 · rw [events_off h];rfl
 ·
  unfold eventsS
  split
  · rfl
  · exact h
theorem known_some {vars:List (List Ev)}{v:Int}(h0:0≤v)(h:(decide ((vars.length:Int)≤v)||((((vars[v.toNat]?).getD []).length:Int)==0))=false):∃l,vars[v.toNat]? = some l∧0<l.length:=by
 obtain ⟨h1,h2⟩:=Bool.or_eq_false_iff.1 h
 have hlt:v.toNat<vars.length:=by simp at h1;omega
 rw [List.getElem?_eq_getElem hlt] at h2
 refine ⟨vars[v.toNat],List.getElem?_eq_getElem hlt,?_⟩
 simp at h2
 exact List.length_pos_iff.2 h2
theorem last_at {α:Type}{f:α→List AV}{l:List α}{v:α}(hp:0<l.length)(h:l[l.length-1]? = some v):(l.map f)[((l.length:Int)-1).toNat]? = some (f v):=by
 rw [show ((l.length:Int)-1).toNat=l.length-1 by omega,List.getElem?_map,h];rfl
theorem some_off {α:Type}{l:List α}{i:Int}(h0:0≤i)(h:decide ((l.length:Int)≤i)=false):∃v,l[i.toNat]? = some v:=by
 have hlt:i.toNat<l.length:=by simp at h;omega
 exact ⟨_,List.getElem?_eq_getElem hlt⟩
theorem some_last {α:Type}{l:List α}(h:0<l.length):∃v,l[l.length-1]? = some v:=⟨_,List.getElem?_eq_getElem (by omega)⟩
/-! the reference's -/
def rreadE (e:Ex)(ev:Ev):Ex×Int:=if e.op==1&&decide ((ev.values.length:Int)≤e.field) then (e,6) else (constE (readE e ev).1,(readE e ev).2)
def rknownN (vars:List (List Ev))(e:Ex)(ks:List (Ex×Int)):Ex×Int:=
 if e.op==1||e.op==2 then
  (if ((eventsS vars e.var).length:Int)==0 then (e,0) else rreadE e ((eventsS vars e.var).getLast?.getD ev0))
 else match (okL ks).2 with
  | some p=>(e,p.2)
  | none=>(⟨e.op,(okL ks).1,e.var,e.field,e.kind,e.val⟩,0)
def rknownE (vars:List (List Ev)):Ex→Ex×Int:=recE (rknownN vars)
theorem okL_snd {l:List (Ex×Int)}{p:Ex×Int}(h:(okL l).2=some p):p.2≠0:=by
  induction l with
  | nil=>cases h
  | cons a r ih=>
    rw [okL] at h
    by_cases hg:(a.2 != 0)=true
    · rw [if_pos hg] at h;cases h;simpa using hg
    · rw [if_neg hg] at h;exact ih h
theorem KnownS_1 {vars:List (List Ev)}{e:Ex}(h:(checkS e != 0)=true):KnownS vars e=(ex0,checkS e):=by rw [KnownS,if_pos h]
theorem KnownS_2 {vars:List (List Ev)}{e:Ex}(h:(checkS e != 0)=false)(h2:((knownE vars e).2 != 0)=true):KnownS vars e=(ex0,(knownE vars e).2):=by rw [KnownS,ifF h,if_pos h2]
theorem KnownS_3 {vars:List (List Ev)}{e:Ex}(h:(checkS e != 0)=false)(h2:((knownE vars e).2 != 0)=false):KnownS vars e=((knownE vars e).1,0):=by rw [KnownS,ifF h,ifF h2]
theorem size0 {e:Ex}(h:0<e.args.length):sizeN (arg0 e)<sizeN e:=size_arg (arg0_mem h)
theorem check_nodes' {e:Ex}(h:(checkS e != 0)=false):nodesS e=0:=by
 have h0:checkS e=0:=by simpa using h
 unfold checkS at h0
 split at h0
 · cases h0
 ·
  split at h0
  · cases h0
  · exact h0
end Go.Proofs.YtkddpedfbicbeaaGreatDoor
