/-
  Several texts in one: S34, S35, S36, S37, S38. No condition.
-/
import Derived.Test.YtkddpedfbicbeaaGreatDoorK13
import Derived.Test.YtkddpedfbicbeaaGreatDoorK02
set_option linter.unusedVariables false
set_option linter.unusedSimpArgs false
namespace Go.Proofs.YtkddpedfbicbeaaGreatDoor
open Go Go.Aw

def okI (v:Vl):Prop:=v.kind=0→v.text = []
section
variable {T:List Sc} {V:List Va} {env:List (List Ev)}
theorem leaf_okI (hS:Suits T V env){e:Ex}(hz:nodeS e=0)(ha:e.args = [])(hk:(leafK T V e).2=0):okI (leafS ⟨env,-1,ev0⟩ e).1:=by
 have hvr:=node_var hz
 have hfr:=node_field hz
 have key:∀{w:Vl},vcheckS w=0→okI w:=fun h hk=>(vcheck_bound h hk).1
 unfold leafK at hk
 by_cases h0:(e.op==0)=true
 · unfold leafS;rw [if_pos h0];exact key (const_valid hz (by simpa using h0)).1
 rw [if_neg h0] at hk
 by_cases h1:decide ((V.length:Int)≤e.var)=true
 · rw [if_pos h1] at hk;cases hk
 rw [if_neg h1] at hk
 have hlt:e.var<(V.length:Int):=by simp at h1;omega
 obtain ⟨v,hv⟩:=get_int (l:=V) hvr.1 hlt
 obtain ⟨s,ev,hs,hev,hse⟩:=hS.2 _ v hv
 have hel:e.var<(env.length:Int):=by rw [hS.1];exact hlt
 have hevs:eventsS env e.var = [ev]:=by
  unfold eventsS
  rw [if_neg (by simp;omega),hev];rfl
 have hown:(e.var != -1)=true:=by simp;omega
 have hfl:fldsS T V e.var=s.fields:=flds_of hv hs
 rw [hfl] at hk
 by_cases h3:e.op=3
 ·
  unfold leafS
  rw [if_neg h0,if_pos (by simp [h3])]
  exact fun _=>rfl
 by_cases h2:e.op=2
 ·
  rw [leaf_read hevs hown h0 h3 (by omega)]
  unfold readS
  rw [if_pos (by simp [h2])]
  exact fun _=>rfl
 rw [if_neg (by simp [h2,h3])] at hk
 by_cases h4:decide ((s.fields.length:Int)≤e.field)=true
 · rw [if_pos h4] at hk;cases hk
 rw [if_neg h4] at hk
 obtain ⟨f,hf⟩:=get_int (l:=s.fields) hfr (by simp at h4;omega)
 obtain ⟨w,hw,hgw⟩:=hse.2 _ f hf
 have hka:kindAt s.fields e.field=f.kind:=by simp [kindAt,hf]
 have hfs:fieldS ev e.field=(w,0):=by
  unfold fieldS
  rw [if_neg (by rw [hse.1];exact h4),hw];rfl
 rw [hka] at hk
 by_cases h5:e.op=4
 ·
  by_cases h6:(e.op==4&&(f.kind != e.val.kind || !esuitsS e.kind ⟨f.kind,0,[]⟩))=true
  · rw [if_pos h6] at hk;cases hk
  have htw:=total_wrong hz h5
  have hes:esuitsS e.kind w=true:=by
   simp [h5] at h6
   have:=h6.2
   unfold esuitsS at this ⊢
   rw [hgw.1];exact this
  unfold leafS totalS
  rw [if_neg h0,if_neg (by simp [h3]),if_pos (by simp [h5]),hevs]
  have e1:firstS (fun v=>(fieldS v e.field).2) [ev]=0:=by simp [firstS,hfs]
  rw [if_neg (by rw [e1];decide)]
  have e2:([ev].map fun v=>(fieldS v e.field).1) = [w]:=by simp [hfs]
  rw [e2,total_one ⟨htw.2.1,htw.2.2⟩ hgw.2 hes htw.1]
  exact key hgw.2
 ·
  rw [leaf_read hevs hown h0 h3 h5]
  unfold readS
  rw [if_neg (by simp [h2]),hfs,if_pos (by rfl),if_neg (by rw [hgw.2];decide)]
  exact key hgw.2
theorem apply_okI (op a b:Int):okI (applyS op a b):=by
 unfold applyS
 intro h
 split
 · rfl
 split
 · rfl
 all_goals (rename_i h5 h6;rw [ifF (Bool.eq_false_iff.2 h5),ifF (Bool.eq_false_iff.2 h6)] at h;repeat' split at h) <;> exact absurd h (by rw [flag_kind];decide)
theorem eval_node2 (hS:Suits T V env){e:Ex}(hk:KOK T V e)(ha:e.args≠[]):evalS ⟨env,-1,ev0⟩ e=nodeV e.op (e.args.map fun a=>(evalS ⟨env,-1,ev0⟩ a).1):=
 eval_node' ha fun a hm=>(progress hS a (kok_arg hk hm).nodes (kok_arg hk hm).kind).1
theorem eval_okI (hS:Suits T V env){e:Ex}(hk:KOK T V e):okI (evalS ⟨env,-1,ev0⟩ e).1:=by
 by_cases ha:e.args = []
 ·
  have h:=hk.kind
  rw [kindS_eq,if_pos (by simp [ha])] at h
  rw [eval_leaf ha];exact leaf_okI hS (nodes_zero hk.nodes).1 ha h
 ·
  rw [eval_node2 hS hk ha]
  unfold nodeV
  split
  · exact fun _=>rfl
  split
  · exact fun h=>absurd h (by rw [flag_kind];decide)
  · exact apply_okI _ _ _
/-- truth of what is a condition -/
def tv (env:List (List Ev))(e:Ex):Bool:=(evalS ⟨env,-1,ev0⟩ e).1.num==1
theorem tw_val (hS:Suits T V env){e:Ex}(hk:KOK T V e)(h1:kindR T V e=1):evalS ⟨env,-1,ev0⟩ e=(flagS (tv env e),0):=by
 obtain ⟨h2,h3⟩:=progress hS e hk.nodes hk.kind
 rw [kok_kind hk,h1] at h3
 have h4:=eval_okB hk.nodes h2 h3
 show _=(flagS ((evalS ⟨env,-1,ev0⟩ e).1.num==1),(0:Int))
 rw [←h4,←h2]
theorem tw_truth (hS:Suits T V env){e:Ex}(hk:KOK T V e)(h1:kindR T V e=1)(hc:checkS e=0):TruthS ⟨env,-1,ev0⟩ e=tv env e:=by
 unfold TruthS EvalS
 rw [if_neg (by rw [hc];decide),tw_val hS hk h1]
 cases tv env e <;> rfl
/-- the values of a node's parts -/
theorem node_val (hS:Suits T V env){e:Ex}(hk:KOK T V e)(ha:e.args≠[]) :
  (evalS ⟨env,-1,ev0⟩ e).1=if e.op==9 then flagS (eqV (((e.args.map fun a=>(evalS ⟨env,-1,ev0⟩ a).1)).headD v0) (((e.args.map fun a=>(evalS ⟨env,-1,ev0⟩ a).1)[1]?).getD v0)) else applyS e.op ((e.args.map fun a=>(evalS ⟨env,-1,ev0⟩ a).1).headD v0).num ((e.args.map fun a=>(evalS ⟨env,-1,ev0⟩ a).1).getLastD v0).num:=by
 have h2:=(progress hS e hk.nodes hk.kind).1
 rw [eval_node2 hS hk ha] at h2 ⊢
 unfold nodeV at h2 ⊢
 by_cases h:(operandsS e.op ((e.args.map fun a=>(evalS ⟨env,-1,ev0⟩ a).1).map (·.kind)) != 0)=true
 · rw [if_pos h] at h2;simp only at h2;rw [h2] at h;cases h
 ·
  rw [if_neg h]
  split <;> rfl
theorem eargs_two {e:Ex}(hl:e.args.length=2):e.args = [arg0 e,arg1 e]:=by
 unfold arg0 arg1
 match h:e.args,hl with
 | [a,b],_=>rfl
theorem eargs_one {e:Ex}(hl:e.args.length=1):e.args = [arg0 e]:=by
 unfold arg0
 match h:e.args,hl with
 | [a],_=>rfl
theorem len2 {e:Ex}(hk:KOK T V e)(h5:5≤e.op)(h:e.op≤11):e.args.length=2:=by
 obtain ⟨_,_,h2⟩:=node_shape (nodes_zero hk.nodes).1
 unfold arityS at h2
 rw [if_neg (by omega),if_neg (by omega),if_neg (by omega)] at h2
 omega
theorem len1 {e:Ex}(hk:KOK T V e)(h:e.op=12):e.args.length=1:=by
 obtain ⟨_,_,h2⟩:=node_shape (nodes_zero hk.nodes).1
 rw [h] at h2
 have:arityS 12=1:=by decide
 rw [this] at h2;omega
def vl (env:List (List Ev))(e:Ex):Vl:=(evalS ⟨env,-1,ev0⟩ e).1
theorem vl_def (env:List (List Ev))(e:Ex):(evalS ⟨env,-1,ev0⟩ e).1=vl env e:=rfl
theorem val_two (hS:Suits T V env){e:Ex}(hk:KOK T V e)(h5:5≤e.op)(h:e.op≤11):vl env e=if e.op==9 then flagS (eqV (vl env (arg0 e)) (vl env (arg1 e))) else applyS e.op (vl env (arg0 e)).num (vl env (arg1 e)).num:=by
 have hl:=len2 hk h5 h
 have h1:=node_val hS hk (by intro hn;rw [hn] at hl;cases hl)
 rw [eargs_two hl] at h1
 exact h1
theorem val_one (hS:Suits T V env){e:Ex}(hk:KOK T V e)(h:e.op=12):vl env e=flagS ((vl env (arg0 e)).num != 1):=by
 have hl:=len1 hk h
 have h1:=node_val hS hk (by intro hn;rw [hn] at hl;cases hl)
 rw [eargs_one hl] at h1
 have h2:vl env e=applyS e.op (vl env (arg0 e)).num (vl env (arg0 e)).num:=by
  refine h1.trans ?_
  rw [if_neg (by rw [h];decide)];rfl
 rw [h2,h];rfl
theorem flag_num (b:Bool):((flagS b).num==1)=b:=by cases b <;> rfl
theorem flag_eq (a b:Bool):eqV (flagS a) (flagS b)=(a==b):=by cases a <;> cases b <;> rfl
theorem tw_not (hS:Suits T V env){e:Ex}(hk:KOK T V e)(h:e.op=12):tv env e = !tv env (arg0 e):=by
 show ((vl env e).num==1)=_;rw [val_one hS hk h,flag_num];rfl
theorem tw_and (hS:Suits T V env){e:Ex}(hk:KOK T V e)(h:e.op=10):tv env e=(tv env (arg0 e)&&tv env (arg1 e)):=by
 show ((vl env e).num==1)=_;rw [val_two hS hk (by omega) (by omega),h];exact flag_num _
theorem tw_or (hS:Suits T V env){e:Ex}(hk:KOK T V e)(h:e.op=11):tv env e=(tv env (arg0 e)||tv env (arg1 e)):=by
 show ((vl env e).num==1)=_;rw [val_two hS hk (by omega) (by omega),h];exact flag_num _
theorem tw_less (hS:Suits T V env){e:Ex}(hk:KOK T V e)(h:e.op=7):tv env e=decide ((vl env (arg0 e)).num<(vl env (arg1 e)).num):=by
 show ((vl env e).num==1)=_;rw [val_two hS hk (by omega) (by omega),h];exact flag_num _
theorem tw_leq (hS:Suits T V env){e:Ex}(hk:KOK T V e)(h:e.op=8):tv env e=decide ((vl env (arg0 e)).num≤(vl env (arg1 e)).num):=by
 show ((vl env e).num==1)=_;rw [val_two hS hk (by omega) (by omega),h];exact flag_num _
theorem tw_eq (hS:Suits T V env){e:Ex}(hk:KOK T V e)(h:e.op=9):tv env e=eqV (vl env (arg0 e)) (vl env (arg1 e)):=by
 show ((vl env e).num==1)=_;rw [val_two hS hk (by omega) (by omega),h];exact flag_num _
theorem tw_eqB (hS:Suits T V env){e:Ex}(hk:KOK T V e)(h:e.op=9)(h1:kindR T V (arg0 e)=1):tv env e=(tv env (arg0 e)==tv env (arg1 e)):=by
 have hl:=len2 hk (by omega) (by omega)
 have m0:=arg0_mem (show 0<e.args.length by omega)
 have m1:=arg1_mem (show 1<e.args.length by omega)
 rw [tw_eq hS hk h]
 show eqV (evalS ⟨env,-1,ev0⟩ (arg0 e)).1 (evalS ⟨env,-1,ev0⟩ (arg1 e)).1=_
 rw [tw_val hS (kok_arg hk m0) h1,tw_val hS (kok_arg hk m1) (by rw [kok_same hk h m1];exact h1)]
 exact flag_eq _ _
theorem val_kind (hS:Suits T V env){e:Ex}(hk:KOK T V e):(vl env e).kind=kindR T V e:=by
 rw [←kok_kind hk];exact (progress hS e hk.nodes hk.kind).2
theorem tw_eqI (hS:Suits T V env){e:Ex}(hk:KOK T V e)(h:e.op=9)(h1:kindR T V (arg0 e)=0):tv env e=((vl env (arg0 e)).num==(vl env (arg1 e)).num):=by
 have hl:=len2 hk (by omega) (by omega)
 have m0:=arg0_mem (show 0<e.args.length by omega)
 have m1:=arg1_mem (show 1<e.args.length by omega)
 have k0:=kok_arg hk m0
 have k1:=kok_arg hk m1
 rw [tw_eq hS hk h]
 have a0:=(val_kind hS k0).trans h1
 have a1:=(val_kind hS k1).trans ((kok_same hk h m1).trans h1)
 have b0:=eval_okI hS k0 a0
 have b1:=eval_okI hS k1 a1
 rw [Bool.eq_iff_iff,eqV_iff]
 constructor
 · intro h;rw [h];simp
 ·
  intro h
  have h':(vl env (arg0 e)).num=(vl env (arg1 e)).num:=by simpa using h
  have c0:(vl env (arg0 e)).text = []:=b0
  have c1:(vl env (arg1 e)).text = []:=b1
  revert h' a0 a1 c0 c1
  generalize vl env (arg0 e)=v
  generalize vl env (arg1 e)=w
  intro a0 a1 c0 c1 h'
  cases v;cases w
  simp_all
end

section
variable {T:List Sc} {V:List Va} {env:List (List Ev)}
def litT (env:List (List Ev))(y:Lit):Bool:=tv env y.cond != y.neg
def clT (env:List (List Ev))(c:List Lit):Bool:=c.all (litT env)
def csT (env:List (List Ev))(l:List (List Lit)):Bool:=l.any (clT env)
theorem cl_app (a b:List Lit):clT env (a++b)=(clT env a&&clT env b):=List.all_append
theorem cs_map (x:List Lit):∀b:List (List Lit),csT env (b.map fun y=>x++y)=(clT env x&&csT env b)
  | []=>by simp [csT]
  | y::r=>by
    show (clT env (x++y)||csT env (r.map fun y=>x++y))=(clT env x&&(clT env y||csT env r))
    rw [cs_map x r,cl_app]
    cases clT env x <;> cases clT env y <;> rfl
theorem cs_app (a b:List (List Lit)):csT env (a++b)=(csT env a||csT env b):=List.any_append
theorem cs_prod:∀a b:List (List Lit),csT env (a.flatMap fun x=>b.map fun y=>x++y)=(csT env a&&csT env b)
  | [],b=>rfl
  | x::r,b=>by
    rw [List.flatMap_cons,cs_app,cs_map,cs_prod r b]
    show _=((clT env x||csT env r)&&csT env b)
    cases clT env x <;> cases csT env r <;> cases csT env b <;> rfl
theorem cs_times {a b:Cs}(h:(timesS a b).2=true):a.2=true∧b.2=true∧csT env (timesS a b).1=(csT env a.1&&csT env b.1):=by
  cases h1:(!a.2 || !b.2) with
  | true=>rw [times_no h1] at h;cases h
  | false=>
    rw [times_yes h1] at h ⊢
    cases h2:decide ((256:Int)<(a.1.length:Int)*(b.1.length:Int)) with
    | true=>rw [prod_no h2] at h;cases h
    | false=>rw [prod_yes h2];exact ⟨(both_ok h1).1,(both_ok h1).2,cs_prod _ _⟩
theorem cs_plus {a b:Cs}(h:(plusS a b).2=true):a.2=true∧b.2=true∧csT env (plusS a b).1=(csT env a.1||csT env b.1):=by
  cases h1:((!a.2 || !b.2)||decide ((256:Int)<(a.1.length:Int)+(b.1.length:Int))) with
  | true=>rw [plus_no h1] at h;cases h
  | false=>
    rw [plus_yes h1]
    rw [Bool.or_eq_false_iff] at h1
    exact ⟨(both_ok h1.1).1,(both_ok h1.1).2,cs_app _ _⟩
theorem cs_one (y:Lit):csT env (singleC [y]).1=litT env y:=by simp [csT,singleC,clT]
theorem cs_two (y z:Lit):csT env (singleC [y,z]).1=(litT env y||litT env z):=by simp [csT,singleC,clT]
theorem arg_kinds {e:Ex}(hk:KOK T V e){a:Ex}(ha:a∈e.args)(ho:e.op=10∨e.op=11∨e.op=12):kindR T V a=1:=by
 have h1:=kok_ok hk ha
 unfold okS at h1
 rcases ho with h | h | h <;> rw [h] at h1 <;> simpa using h1
theorem const_tv {e:Ex}(hk:KOK T V e)(h0:(e.op==0)=true):tv env e=(e.val.num==1):=by
 unfold tv
 rw [eval_op0 (nodes_zero hk.nodes).1 (by simpa using h0)]
theorem norm_truth (hS:Suits T V env)(e:Ex):KOK T V e→kindR T V e=1→∀s,(normS T V e s).2=true→csT env (normS T V e s).1=(tv env e==s):=by
  refine Ex.ind (P:=fun e=>KOK T V e→kindR T V e=1→∀s,(normS T V e s).2=true→csT env (normS T V e s).1=(tv env e==s)) (fun e ih hk h1 s hs=>?_) e
  rcases norm_cases s hk with h | ⟨h,hl⟩ | ⟨h,hl⟩ | ⟨h,hl,h2⟩ | ⟨h,hl,h2,h3⟩ | ⟨_,_,_,h,_⟩
  · rw [const_tv hk h]
    cases h2:((e.val.num==1)==s) with
    | true=>rw [norm_0t h h2];rfl
    | false=>rw [norm_0f h h2];rfl
  · have h12:e.op=12:=by simpa using h
    have m0:=arg0_mem hl
    rw [norm_12 hl h] at hs ⊢
    rw [ih _ m0 (kok_arg hk m0) (arg_kinds hk m0 (by omega)) _ hs,tw_not hS hk h12]
    cases tv env (arg0 e) <;> cases s <;> rfl
  · have m0:=arg0_mem (show 0<e.args.length by omega)
    have m1:=arg1_mem hl
    have ho:e.op=10∨e.op=11:=by simpa using h
    have i0:=ih _ m0 (kok_arg hk m0) (arg_kinds hk m0 (by omega)) s
    have i1:=ih _ m1 (kok_arg hk m1) (arg_kinds hk m1 (by omega)) s
    have ht:tv env e=if e.op==10 then (tv env (arg0 e)&&tv env (arg1 e)) else (tv env (arg0 e)||tv env (arg1 e)):=by
      rcases ho with ho | ho
      · rw [tw_and hS hk ho,ho];rfl
      · rw [tw_or hS hk ho,ho];rfl
    rw [ht]
    cases h2:((e.op==10)==s) with
    | true=>
      rw [norm_1t hl h h2] at hs ⊢
      obtain ⟨a1,a2,a3⟩:=cs_times (env:=env) hs
      rw [a3,i0 a1,i1 a2]
      cases h4:(e.op==10) <;> rw [h4] at h2 <;> cases s <;> simp at h2 <;> cases tv env (arg0 e) <;> cases tv env (arg1 e) <;> rfl
    | false=>
      rw [norm_1f hl h h2] at hs ⊢
      obtain ⟨a1,a2,a3⟩:=cs_plus (env:=env) hs
      rw [a3,i0 a1,i1 a2]
      cases h4:(e.op==10) <;> rw [h4] at h2 <;> cases s <;> simp at h2 <;> cases tv env (arg0 e) <;> cases tv env (arg1 e) <;> rfl
  · have m0:=arg0_mem (show 0<e.args.length by omega)
    have m1:=arg1_mem hl
    have h9:e.op=9:=by simpa using h
    have k0:kindR T V (arg0 e)=1:=by simpa using h2
    have k1:kindR T V (arg1 e)=1:=by rw [kok_same hk h9 m1];exact k0
    have i0:=ih _ m0 (kok_arg hk m0) k0
    have i1:=ih _ m1 (kok_arg hk m1) k1
    rw [norm_9b hl h h2] at hs ⊢
    obtain ⟨a1,a2,a3⟩:=cs_plus (env:=env) hs
    obtain ⟨b1,b2,b3⟩:=cs_times (env:=env) a1
    obtain ⟨c1,c2,c3⟩:=cs_times (env:=env) a2
    rw [a3,b3,c3,i0 _ b1,i1 _ b2,i0 _ c1,i1 _ c2,tw_eqB hS hk h9 k0]
    cases tv env (arg0 e) <;> cases tv env (arg1 e) <;> cases s <;> rfl
  · have m0:=arg0_mem (show 0<e.args.length by omega)
    have m1:=arg1_mem hl
    have h9:e.op=9:=by simpa using h
    rw [Bool.and_eq_true] at h3
    have k0:kindR T V (arg0 e)=0:=by simpa using h3.1
    have k1:kindR T V (arg1 e)=0:=by rw [kok_same hk h9 m1];exact k0
    have hs0:s=false:=by simpa using h3.2
    have t0:=kok_two (kok_arg hk m0) (kok_arg hk m1) k0 k1
    have t1:=kok_two (kok_arg hk m1) (kok_arg hk m0) k1 k0
    rw [norm_9i h h2 (by rw [Bool.and_eq_true];exact h3),cs_two,tw_eqI hS hk h9 k0,hs0]
    unfold litT
    rw [tw_less hS t0 rfl,tw_less hS t1 rfl]
    show ((decide ((vl env (arg0 e)).num<(vl env (arg1 e)).num) != false)||(decide ((vl env (arg1 e)).num<(vl env (arg0 e)).num) != false))=(((vl env (arg0 e)).num==(vl env (arg1 e)).num)==false)
    rw [Bool.eq_iff_iff]
    simp
    omega
  · rw [h,cs_one]
    unfold litT
    cases tv env e <;> cases s <;> rfl
end

section
variable {T:List Sc} {V:List Va} {env:List (List Ev)}
theorem nodeS_two {op:Int}(a b:Ex)(h:op=7∨op=8∨op=10∨op=11):nodeS (two op a b)=0:=by
 have hf:formS (two op a b)=0:=by rcases h with h | h | h | h <;> subst h <;> simp [formS,two,usesS,isV0,v0]
 unfold nodeS
 rw [hf]
 rcases h with h | h | h | h <;> subst h <;> simp [two,arityS,usesS]
theorem nodeS_not (a:Ex):nodeS (notE a)=0:=by
 have hf:formS (notE a)=0:=by simp [formS,notE,usesS,isV0,v0]
 unfold nodeS
 rw [hf]
 simp [notE,arityS,usesS]
theorem kok_mk2 {op:Int}{a b:Ex}(ha:KOK T V a)(hb:KOK T V b)(h:((op=7∨op=8)∧kindR T V a=0∧kindR T V b=0)∨((op=10∨op=11)∧kindR T V a=1∧kindR T V b=1)):KOK T V (two op a b):=by
 refine ⟨ha.ty,?_,?_⟩
 ·
  rw [nodesS_eq,nodeS_two a b (by omega)]
  show firstS nodesS [a,b]=0
  simp [firstS,ha.nodes,hb.nodes]
 ·
  rw [kindS_eq]
  show (if [a,b].isEmpty then _ else _:Int×Int).2=0
  have e1:(kindS T V a).2=0:=ha.kind
  have e2:(kindS T V b).2=0:=hb.kind
  have k1:=kok_kind ha
  have k2:=kok_kind hb
  rcases h with ⟨ho,h1,h2⟩ | ⟨ho,h1,h2⟩ <;> rw [h1] at k1 <;> rw [h2] at k2 <;> rcases ho with ho | ho <;> subst ho <;> simp [two,firstS,e1,e2,k1,k2,operandsS,okS]
theorem kok_not {a:Ex}(ha:KOK T V a)(h1:kindR T V a=1):KOK T V (notE a):=by
 refine ⟨ha.ty,?_,?_⟩
 ·
  rw [nodesS_eq,nodeS_not]
  show firstS nodesS [a]=0
  simp [firstS,ha.nodes]
 ·
  rw [kindS_eq]
  show (if [a].isEmpty then _ else _:Int×Int).2=0
  have e1:(kindS T V a).2=0:=ha.kind
  have k1:=kok_kind ha
  rw [h1] at k1
  simp [notE,firstS,e1,k1,operandsS,okS]
theorem kok_truth (hty:TyOK8 T V)(b:Bool):KOK T V (truthE b)∧kindR T V (truthE b)=1:=by
 have hk:∀b:Bool,kindS T V (truthE b)=(1,0):=fun b=>by rw [kindS_eq];cases b <;> rfl
 have h:KOK T V (truthE b):=⟨hty,by cases b <;> decide +kernel,by rw [hk]⟩
 exact ⟨h,by rw [←kok_kind h,hk]⟩
theorem kindR_two {op:Int}(a b:Ex)(h:op=7∨op=8∨op=10∨op=11):KOK T V (two op a b)→kindR T V (two op a b)=1:=fun hk=>by
 rw [←kok_kind hk,(kok_args hk (by simp [two])).2.2]
 rcases h with h | h | h | h <;> subst h <;> rfl
theorem kindR_not {a:Ex}(hk:KOK T V (notE a)):kindR T V (notE a)=1:=by
 rw [←kok_kind hk,(kok_args hk (by simp [notE])).2.2];rfl
theorem neg_all (e:Ex):KOK T V e→kindR T V e=1→KOK T V (negS e)∧kindR T V (negS e)=1∧∀env,Suits T V env→tv env (negS e) = !tv env e:=by
  refine Ex.ind (P:=fun e=>KOK T V e→kindR T V e=1→KOK T V (negS e)∧kindR T V (negS e)=1∧∀env,Suits T V env→tv env (negS e) = !tv env e) (fun e ih hk h1=>?_) e
  have hz:=nodes_zero hk.nodes
  rw [negS_eq,negN]
  have two_case:∀(o p:Int),(o=10∧p=11∨o=11∧p=10)→e.op=o→KOK T V (two p (hd0 ex0 (e.args.map negS)) (hd1 ex0 (e.args.map negS)))∧kindR T V (two p (hd0 ex0 (e.args.map negS)) (hd1 ex0 (e.args.map negS)))=1∧∀env,Suits T V env→tv env (two p (hd0 ex0 (e.args.map negS)) (hd1 ex0 (e.args.map negS))) = !tv env e:=by
    intro o p hop ho
    have hl:=len2 hk (by omega) (by omega)
    have m0:=arg0_mem (show 0<e.args.length by omega)
    have m1:=arg1_mem (show 1<e.args.length by omega)
    rw [hd0_map _ _ (by omega),hd1_map _ _ (by omega)]
    obtain ⟨a1,a2,a3⟩:=ih _ m0 (kok_arg hk m0) (arg_kinds hk m0 (by omega))
    obtain ⟨b1,b2,b3⟩:=ih _ m1 (kok_arg hk m1) (arg_kinds hk m1 (by omega))
    have k:=kok_mk2 (op:=p) a1 b1 (.inr ⟨by omega,a2,b2⟩)
    refine ⟨k,kindR_two _ _ (by omega) k,fun env hS=>?_⟩
    rcases hop with ⟨h3,h4⟩ | ⟨h3,h4⟩ <;> subst h4 <;> rw [h3] at ho
    · rw [tw_or hS k rfl,tw_and hS hk ho]
      show (tv env (negS (arg0 e))||tv env (negS (arg1 e)))=_
      rw [a3 env hS,b3 env hS];cases tv env (arg0 e) <;> cases tv env (arg1 e) <;> rfl
    · rw [tw_and hS k rfl,tw_or hS hk ho]
      show (tv env (negS (arg0 e))&&tv env (negS (arg1 e)))=_
      rw [a3 env hS,b3 env hS];cases tv env (arg0 e) <;> cases tv env (arg1 e) <;> rfl
  have cmp_case:∀(o p:Int),(o=7∧p=8∨o=8∧p=7)→e.op=o→KOK T V (two p (arg1 e) (arg0 e))∧kindR T V (two p (arg1 e) (arg0 e))=1∧∀env,Suits T V env→tv env (two p (arg1 e) (arg0 e)) = !tv env e:=by
    intro o p hop ho
    have hl:=len2 hk (by omega) (by omega)
    have m0:=arg0_mem (show 0<e.args.length by omega)
    have m1:=arg1_mem (show 1<e.args.length by omega)
    have c:∀{a:Ex},a∈e.args→kindR T V a=0:=fun ha=>by
      have h:=kok_ok hk ha
      unfold okS at h
      rcases hop with ⟨h3,h4⟩ | ⟨h3,h4⟩ <;> rw [ho,h3] at h <;> simpa using h
    have k:=kok_mk2 (op:=p) (kok_arg hk m1) (kok_arg hk m0) (.inl ⟨by omega,c m1,c m0⟩)
    refine ⟨k,kindR_two _ _ (by omega) k,fun env hS=>?_⟩
    rcases hop with ⟨h3,h4⟩ | ⟨h3,h4⟩ <;> subst h4 <;> rw [h3] at ho
    · rw [tw_leq hS k rfl,tw_less hS hk ho]
      show decide ((vl env (arg1 e)).num≤(vl env (arg0 e)).num) = !decide ((vl env (arg0 e)).num<(vl env (arg1 e)).num)
      rw [Bool.eq_iff_iff];simp
    · rw [tw_less hS k rfl,tw_leq hS hk ho]
      show decide ((vl env (arg1 e)).num<(vl env (arg0 e)).num) = !decide ((vl env (arg0 e)).num≤(vl env (arg1 e)).num)
      rw [Bool.eq_iff_iff];simp
  cases c1:e.op==10 with
  | true=>rw [if_pos rfl];exact two_case 10 11 (.inl ⟨rfl,rfl⟩) (by simpa using c1)
  | false=>
  rw [ifF rfl]
  cases c2:e.op==11 with
  | true=>rw [if_pos rfl];exact two_case 11 10 (.inr ⟨rfl,rfl⟩) (by simpa using c2)
  | false=>
  rw [ifF rfl]
  cases c3:e.op==12 with
  | true=>
    rw [if_pos rfl]
    have h12:e.op=12:=by simpa using c3
    have hl:=len1 hk h12
    have m0:=arg0_mem (show 0<e.args.length by omega)
    exact ⟨kok_arg hk m0,arg_kinds hk m0 (by omega),fun env hS=>by rw [tw_not hS hk h12,Bool.not_not]⟩
  | false=>
  rw [ifF rfl]
  cases c4:e.op==7 with
  | true=>rw [if_pos rfl];exact cmp_case 7 8 (.inl ⟨rfl,rfl⟩) (by simpa using c4)
  | false=>
  rw [ifF rfl]
  cases c5:e.op==8 with
  | true=>rw [if_pos rfl];exact cmp_case 8 7 (.inr ⟨rfl,rfl⟩) (by simpa using c5)
  | false=>
  rw [ifF rfl]
  cases c6:(e.op==0&&e.val.kind==1) with
  | true=>
    rw [if_pos rfl]
    rw [Bool.and_eq_true] at c6
    obtain ⟨k1,k2⟩:=kok_truth hk.ty (e.val.num==0)
    refine ⟨k1,k2,fun env hS=>?_⟩
    rw [const_tv k1 rfl,const_tv hk c6.1]
    have h2:=okB_of_check (const_valid hz.1 (by simpa using c6.1)).1 (by simpa using c6.2)
    have h3:e.val.num=0∨e.val.num=1:=by rw [h2];cases e.val.num==1 <;> simp [flagS]
    rcases h3 with h3 | h3 <;> rw [h3] <;> rfl
  | false=>
    rw [ifF rfl]
    have k:=kok_not hk h1
    exact ⟨k,kindR_not k,fun env hS=>tw_not hS k rfl⟩
theorem check_neg {e:Ex}(h:nodesS e=0):checkS e=0∨checkS e=5∨checkS e=12:=by
 unfold checkS
 split
 · exact .inr (.inl rfl)
 split
 · exact .inr (.inr rfl)
 · exact .inl h
/-! ### Depth of literals -/
theorem depth_argX {e a:Ex}(h:a∈e.args):depthN a<depthN e:=by
  have key:∀{l:List Ex},a∈l→depthN a≤(l.map depthN).foldr max 0:=by
    intro l
    induction l with
    | nil=>intro h;cases h
    | cons b r ih=>
      intro h
      simp only [List.map_cons,List.foldr_cons]
      rcases List.mem_cons.1 h with rfl | h
      · omega
      · have:=ih h;omega
  rw [depthN_eq e]
  have:=key h
  omega
theorem depth_two (op:Int)(a b:Ex):depthN (two op a b)=max (depthN a) (depthN b)+1:=by
 rw [depthN_eq];simp [two]
def litD (n:Nat)(c:Cs):Prop:=∀x∈c.1,∀y∈x,depthN y.cond≤n
theorem litD_mono {n m:Nat}{c:Cs}(h:litD n c)(hm:n≤m):litD m c:=fun x hx y hy=>Nat.le_trans (h x hx y hy) hm
theorem litD_times {n:Nat}{a b:Cs}(ha:litD n a)(hb:litD n b):litD n (timesS a b):=by
 unfold timesS
 split
 · intro x hx;cases hx
 ·
  unfold prodS
  split
  · intro x hx;cases hx
  ·
   intro x hx y hy
   obtain ⟨p,hp,hm⟩:=List.mem_flatMap.1 hx
   obtain ⟨q,hq,rfl⟩:=List.mem_map.1 hm
   rcases List.mem_append.1 hy with h | h
   · exact ha p hp y h
   · exact hb q hq y h
theorem litD_plus {n:Nat}{a b:Cs}(ha:litD n a)(hb:litD n b):litD n (plusS a b):=by
 unfold plusS
 split
 · intro x hx;cases hx
 ·
  intro x hx y hy
  rcases List.mem_append.1 hx with h | h
  · exact ha x h y hy
  · exact hb x h y hy
theorem litD_single {n:Nat}{l:List Lit}(h:∀y∈l,depthN y.cond≤n):litD n (singleC l):=by
 intro x hx y hy
 unfold singleC at hx
 obtain ⟨z,hz,rfl⟩:=List.mem_map.1 hx
 rw [List.mem_singleton.1 hy]
 exact h z hz
theorem norm_depth (e:Ex):KOK T V e→∀s,litD (depthN e) (normS T V e s):=by
 refine Ex.ind (P:=fun e=>KOK T V e→∀s,litD (depthN e) (normS T V e s)) (fun e ih hk s=>?_) e
 have dl:∀{a:Ex},a∈e.args→∀t,litD (depthN e) (normS T V a t):=fun ha t=>litD_mono (ih _ ha (kok_arg hk ha) t) (Nat.le_of_lt (depth_argX ha))
 rcases norm_cases s hk with h | ⟨h,hl⟩ | ⟨h,hl⟩ | ⟨h,hl,h1⟩ | ⟨h,hl,h1,h2⟩ | ⟨_,_,_,h,_⟩
 ·
  cases h1:((e.val.num==1)==s) with
  | true=>rw [norm_0t h h1];intro x hx y hy;rw [List.mem_singleton.1 hx] at hy;cases hy
  | false=>rw [norm_0f h h1];intro x hx;cases hx
 · rw [norm_12 hl h];exact dl (arg0_mem hl) _
 ·
  have m0:=arg0_mem (show 0<e.args.length by omega)
  have m1:=arg1_mem hl
  cases h1:((e.op==10)==s) with
  | true=>rw [norm_1t hl h h1];exact litD_times (dl m0 _) (dl m1 _)
  | false=>rw [norm_1f hl h h1];exact litD_plus (dl m0 _) (dl m1 _)
 ·
  have m0:=arg0_mem (show 0<e.args.length by omega)
  have m1:=arg1_mem hl
  rw [norm_9b hl h h1]
  exact litD_plus (litD_times (dl m0 _) (dl m1 _)) (litD_times (dl m0 _) (dl m1 _))
 ·
  have m0:=arg0_mem (show 0<e.args.length by omega)
  have m1:=arg1_mem hl
  have d0:=depth_argX m0
  have d1:=depth_argX m1
  rw [norm_9i h h1 h2]
  refine litD_single fun y hy=>?_
  rcases List.mem_cons.1 hy with rfl | hy
  · simp only;rw [depth_two];omega
  · rw [List.mem_singleton.1 hy];simp only;rw [depth_two];omega
 ·
  rw [h]
  exact litD_single fun y hy=>by rw [List.mem_singleton.1 hy];exact Nat.le_refl _
theorem norm_check {e:Ex}(hk:KC T V e)(s:Bool):∀c∈(normS T V e s).1,∀y∈c,KOK T V y.cond∧checkS y.cond=0:=fun c hc y hy=>by
 have h:=check_parts hk.check
 have h1:=norm_lits e hk.kok s c hc y hy
 have h2:=norm_depth e hk.kok s c hc y hy
 exact ⟨h1.1,check_of (by omega) (by omega) h1.1.nodes⟩
/-! ### Kinds of literals -/
def litK (T:List Sc)(V:List Va)(c:Cs):Prop:=∀x∈c.1,∀y∈x,kindR T V y.cond=1
theorem litK_times {a b:Cs}(ha:litK T V a)(hb:litK T V b):litK T V (timesS a b):=by
 unfold timesS
 split
 · intro x hx;cases hx
 ·
  unfold prodS
  split
  · intro x hx;cases hx
  ·
   intro x hx y hy
   obtain ⟨p,hp,hm⟩:=List.mem_flatMap.1 hx
   obtain ⟨q,hq,rfl⟩:=List.mem_map.1 hm
   rcases List.mem_append.1 hy with h | h
   · exact ha p hp y h
   · exact hb q hq y h
theorem litK_plus {a b:Cs}(ha:litK T V a)(hb:litK T V b):litK T V (plusS a b):=by
 unfold plusS
 split
 · intro x hx;cases hx
 ·
  intro x hx y hy
  rcases List.mem_append.1 hx with h | h
  · exact ha x h y hy
  · exact hb x h y hy
theorem litK_single {l:List Lit}(h:∀y∈l,kindR T V y.cond=1):litK T V (singleC l):=by
 intro x hx y hy
 unfold singleC at hx
 obtain ⟨z,hz,rfl⟩:=List.mem_map.1 hx
 rw [List.mem_singleton.1 hy]
 exact h z hz
theorem norm_kinds (e:Ex):KOK T V e→kindR T V e=1→∀s,litK T V (normS T V e s):=by
 refine Ex.ind (P:=fun e=>KOK T V e→kindR T V e=1→∀s,litK T V (normS T V e s)) (fun e ih hk hr s=>?_) e
 rcases norm_cases s hk with h | ⟨h,hl⟩ | ⟨h,hl⟩ | ⟨h,hl,h1⟩ | ⟨h,hl,h1,h2⟩ | ⟨_,_,_,h,_⟩
 ·
  cases h1:((e.val.num==1)==s) with
  | true=>rw [norm_0t h h1];intro x hx y hy;rw [List.mem_singleton.1 hx] at hy;cases hy
  | false=>rw [norm_0f h h1];intro x hx;cases hx
 ·
  have m0:=arg0_mem hl
  rw [norm_12 hl h];exact ih _ m0 (kok_arg hk m0) (arg_kinds hk m0 (.inr (.inr (by simpa using h)))) _
 ·
  have m0:=arg0_mem (show 0<e.args.length by omega)
  have m1:=arg1_mem hl
  have ho:e.op=10∨e.op=11:=by simpa using h
  have i0:=ih _ m0 (kok_arg hk m0) (arg_kinds hk m0 (by omega)) s
  have i1:=ih _ m1 (kok_arg hk m1) (arg_kinds hk m1 (by omega)) s
  cases h1:((e.op==10)==s) with
  | true=>rw [norm_1t hl h h1];exact litK_times i0 i1
  | false=>rw [norm_1f hl h h1];exact litK_plus i0 i1
 ·
  have m0:=arg0_mem (show 0<e.args.length by omega)
  have m1:=arg1_mem hl
  have h9:e.op=9:=by simpa using h
  have k0:kindR T V (arg0 e)=1:=by simpa using h1
  have k1:kindR T V (arg1 e)=1:=by rw [kok_same hk h9 m1];exact k0
  have i0:=ih _ m0 (kok_arg hk m0) k0
  have i1:=ih _ m1 (kok_arg hk m1) k1
  rw [norm_9b hl h h1]
  exact litK_plus (litK_times (i0 _) (i1 _)) (litK_times (i0 _) (i1 _))
 ·
  have m0:=arg0_mem (show 0<e.args.length by omega)
  have m1:=arg1_mem hl
  have h9:e.op=9:=by simpa using h
  have h3:=h2
  rw [Bool.and_eq_true] at h3
  have k0:kindR T V (arg0 e)=0:=by simpa using h3.1
  have k1:kindR T V (arg1 e)=0:=by rw [kok_same hk h9 m1];exact k0
  rw [norm_9i h h1 h2]
  refine litK_single fun y hy=>?_
  rcases List.mem_cons.1 hy with rfl | hy
  · exact kindR_two _ _ (.inl rfl) (kok_two (kok_arg hk m0) (kok_arg hk m1) k0 k1)
  · rw [List.mem_singleton.1 hy];exact kindR_two _ _ (.inl rfl) (kok_two (kok_arg hk m1) (kok_arg hk m0) k1 k0)
 ·
  rw [h]
  exact litK_single fun y hy=>by rw [List.mem_singleton.1 hy];exact hr
theorem any_congr {α:Type}{f g:α→Bool}:∀{l:List α},(∀x∈l,f x=g x)→l.any f=l.any g
 | [],_=>rfl
 | a::r,h=>by rw [List.any_cons,List.any_cons,h a (List.mem_cons_self ..),any_congr fun x hx=>h x (List.mem_cons_of_mem _ hx)]
theorem all_congr {α:Type}{f g:α→Bool}:∀{l:List α},(∀x∈l,f x=g x)→l.all f=l.all g
 | [],_=>rfl
 | a::r,h=>by rw [List.all_cons,List.all_cons,h a (List.mem_cons_self ..),all_congr fun x hx=>h x (List.mem_cons_of_mem _ hx)]
end

def numbersE (e:Ev):Int:=
 if decide (e.source<0)||decide (8≤e.source) then 32
 else if decide (e.seq<0)||decide (1099511627776<e.seq)||decide (e.time<0)||decide (1099511627776<e.time) then 2 else 0
def valE (v:Vl)(f:Fi):Int:=if vcheckS v != 0 then vcheckS v else if v.kind != f.kind then 9 else 0
def valsS:List Vl→List Fi→Int
 | v::r,f::s=>if valE v f != 0 then valE v f else valsS r s
 | _,_=>0
def fieldsOf (types:List Sc)(e:Ev):List Fi:=((types[e.type.toNat]?).getD sc0).fields
def validE (types:List Sc)(e:Ev):Int:=
 if numbersE e != 0 then numbersE e
 else if decide (e.type<0)||decide ((types.length:Int)≤e.type) then 6
 else if (e.values.length:Int) != ((fieldsOf types e).length:Int) then 15
 else valsS e.values (fieldsOf types e)
def evCheckE (types:List Sc)(e:Ev):Int:=if allTS types != 0 then allTS types else validE types e
def few1 (l:List Vl):Bool:=!((l.take 40).any fun v=>decide (128<v.text.length))&&decide (l.length<40)
def fewL (l:List Ev):Bool:=!((l.take 20).any fun e=>!few1 e.values)&&decide (l.length≤20)
theorem get_def {α:Type}{l:List α}{k:Nat}(d:α)(h:k<l.length):l[k]? = some ((l[k]?).getD d):=by
 rw [List.getElem?_eq_getElem h];rfl
theorem any_take {α:Type}(f:α→Bool){l:List α}{k:Nat}{x:α}(h:l[k]? = some x):(l.take (k+1)).any f=((l.take k).any f||f x):=by rw [take_get h];simp
theorem vals_drop {l:List Vl}{m:List Fi}{k:Nat}{v:Vl}{f:Fi}(hv:l[k]? = some v)(hf:m[k]? = some f):valsS (l.drop k) (m.drop k)=if valE v f != 0 then valE v f else valsS (l.drop (k+1)) (m.drop (k+1)):=by
 rw [drop_cons hv,drop_cons hf,valsS]
theorem vals_end2 (l:List Vl):valsS l []=0:=by cases l <;> rfl
theorem ty_in {n:Nat}{t:Int}(h:(decide (t<0)||decide ((n:Int)≤t))=false):0≤t∧t.toNat<n:=by
 simp only [Bool.or_eq_false_iff,decide_eq_false_iff_not] at h
 omega
theorem len_eq {n m:Nat}(h:((n:Int) != (m:Int))=false):n=m:=by
 have h1:(n:Int)=m:=by simpa using h
 omega
theorem few1_step {l:List Vl}{k:Nat}{a:Vl}(ha:l[k]? = some a)(h:(l.take k).any (fun v=>decide (128<v.text.length))=false)(h2:decide ((128:Int)<(a.text.length:Int))=false):(l.take (k+1)).any (fun v=>decide (128<v.text.length))=false:=by
 rw [any_take _ ha,h,Bool.false_or,decide_eq_false_iff_not]
 have:=of_decide_eq_false h2;omega
theorem few1_hit {l:List Vl}{k:Nat}{a:Vl}(ha:l[k]? = some a)(hk:k<40)(h2:decide ((128:Int)<(a.text.length:Int))=true):few1 l=false:=by
 have h3:(l.take 40).any (fun v=>decide (128<v.text.length))=true:=by
  rw [List.any_eq_true]
  exact ⟨a,List.mem_iff_getElem?.2 ⟨k,by rw [List.getElem?_take,if_pos hk];exact ha⟩,by have:=of_decide_eq_true h2;simp;omega⟩
 unfold few1;rw [h3];rfl
theorem take_lim {α:Type}{l:List α}{k n:Nat}(h:(decide ((k:Int)<(l.length:Int))&&decide ((k:Int)<(n:Int)))=false)(hk:k≤n):l.take k=l.take n:=by
 simp only [Bool.and_eq_false_iff,decide_eq_false_iff_not] at h
 by_cases hn:k=n
 · rw [hn]
 · rw [List.take_of_length_le (by omega),List.take_of_length_le (by omega)]
theorem few1_end {l:List Vl}{k:Nat}(h:(decide ((k:Int)<(l.length:Int))&&decide ((k:Int)<40))=false)(hk:k≤40)(ha:(l.take k).any (fun v=>decide (128<v.text.length))=false):few1 l=decide ((l.length:Int)<40):=by
 rw [take_lim (n:=40) h hk] at ha
 unfold few1;rw [ha,Bool.not_false,Bool.true_and,decide_eq_decide];omega
theorem fewL_hit {l:List Ev}{k:Nat}{a:Ev}(ha:l[k]? = some a)(hk:k<20)(h2:(!few1 a.values)=true):fewL l=false:=by
 have h3:(l.take 20).any (fun e=>!few1 e.values)=true:=by
  rw [List.any_eq_true]
  exact ⟨a,List.mem_iff_getElem?.2 ⟨k,by rw [List.getElem?_take,if_pos hk];exact ha⟩,h2⟩
 unfold fewL;rw [h3];rfl
theorem fewL_end {l:List Ev}{k:Nat}(h:(decide ((k:Int)<(l.length:Int))&&decide ((k:Int)<20))=false)(hk:k≤20)(ha:(l.take k).any (fun e=>!few1 e.values)=false):fewL l=decide ((l.length:Int)≤20):=by
 rw [take_lim (n:=20) h hk] at ha
 unfold fewL;rw [ha,Bool.not_false,Bool.true_and,decide_eq_decide];omega
/-! ### Suits -/
def unsuitB (T:List Sc)(p:Ev×Va):Bool:=evCheckE T p.1 != 0||p.1.type != p.2.type
def suitsS (T:List Sc)(V:List Va)(l:List Ev):Bool:=if (l.zip V).any (unsuitB T) then false else ((l.length:Int)==(V.length:Int))
def bindS (l:List Ev):List (List Ev):=l.map fun e=>[e]
theorem zip_get {α β:Type}{l:List α}{m:List β}{k:Nat}{x:α}{y:β}(hx:l[k]? = some x)(hy:m[k]? = some y):(l.zip m)[k]? = some (x,y):=by
 rw [List.getElem?_zip_eq_some];exact ⟨hx,hy⟩
theorem zip_end {α β:Type}{l:List α}{m:List β}{k:Nat}(h:(decide ((k:Int)<(l.length:Int))&&decide ((k:Int)<(m.length:Int)))=false):(l.zip m).take k=l.zip m:=by
 simp only [Bool.and_eq_false_iff,decide_eq_false_iff_not] at h
 exact List.take_of_length_le (by rw [List.length_zip];omega)
theorem vals_all:∀{l:List Vl} {m:List Fi},l.length=m.length→valsS l m=0→∀(k:Nat) (f:Fi),m[k]? = some f→∃w,l[k]? = some w∧Good w f.kind
  | [],[],_,_,k,f,h=>by simp at h
  | [],_::_,h,_,_,_,_=>by simp at h
  | _::_,[],h,_,_,_,_=>by simp at h
  | v::r,g::s,hl,h,k,f,hf=>by
    rw [valsS] at h
    cases h1:(valE v g != 0) with
    | true=>rw [if_pos h1] at h;rw [h] at h1;cases h1
    | false=>
      rw [ifF h1] at h
      cases k with
      | zero=>
        simp only [List.getElem?_cons_zero,Option.some.injEq] at hf
        subst hf
        refine ⟨v,rfl,?_⟩
        unfold valE at h1
        cases h2:(vcheckS v != 0) with
        | true=>rw [if_pos h2] at h1;rw [h1] at h2;cases h2
        | false=>
          rw [ifF h2] at h1
          cases h3:(v.kind != g.kind) with
          | true=>rw [if_pos h3] at h1;cases h1
          | false=>exact ⟨by simpa using h3,by simpa using h2⟩
      | succ k=>exact vals_all (by simpa using hl) h k f (by simpa using hf)
theorem valid_suit {T:List Sc}{e:Ev}(h:validE T e=0):∃s,T[e.type.toNat]? = some s∧SuitEv s e:=by
  unfold validE at h
  cases h1:(numbersE e != 0) with
  | true=>rw [if_pos h1] at h;rw [h] at h1;cases h1
  | false=>
    rw [ifF h1] at h
    cases h2:(decide (e.type<0)||decide ((T.length:Int)≤e.type)) with
    | true=>rw [if_pos h2] at h;cases h
    | false=>
      rw [ifF h2] at h
      cases h3:((e.values.length:Int) != ((fieldsOf T e).length:Int)) with
      | true=>rw [if_pos h3] at h;cases h
      | false=>
        rw [ifF h3] at h
        have hs:=get_def sc0 (ty_in h2).2
        exact ⟨_,hs,len_eq h3,vals_all (len_eq h3) h⟩
theorem check_valid {T:List Sc}{e:Ev}(h:evCheckE T e=0):validE T e=0:=by
 unfold evCheckE at h
 cases h1:(allTS T != 0) with
 | true=>rw [if_pos h1] at h;rw [h] at h1;cases h1
 | false=>rwa [ifF h1] at h
theorem suits_parts {T:List Sc}{V:List Va}{l:List Ev}(h:suitsS T V l=true):l.length=V.length∧∀(i:Nat) (v:Va),V[i]? = some v→∃e,l[i]? = some e∧evCheckE T e=0∧e.type=v.type:=by
  unfold suitsS at h
  cases h1:(l.zip V).any (unsuitB T) with
  | true=>rw [if_pos h1] at h;cases h
  | false=>
    rw [ifF h1] at h
    have hl : l.length = V.length := by have : (l.length : Int) = V.length := by simpa using h
                                        omega
    refine ⟨hl,fun i v hv=>?_⟩
    have hi:=get_lt' hv
    have hx:l[i]? = some (l[i]'(by omega)):=List.getElem?_eq_getElem (by omega)
    have h2:=Bool.eq_false_iff.2 (List.any_eq_false.1 h1 _ (List.mem_of_getElem? (zip_get hx hv)))
    unfold unsuitB at h2
    rw [Bool.or_eq_false_iff] at h2
    exact ⟨_,hx,by simpa using h2.1,by simpa using h2.2⟩
theorem suits_of {T:List Sc}{V:List Va}{l:List Ev}(h:suitsS T V l=true):Suits T V (bindS l):=by
 obtain ⟨hl,h1⟩:=suits_parts h
 refine ⟨by simp [bindS,hl],fun i v hv=>?_⟩
 obtain ⟨e,he,hc,ht⟩:=h1 i v hv
 obtain ⟨s,hs,hse⟩:=valid_suit (check_valid hc)
 exact ⟨s,e,by rw [←ht];exact hs,by simp [bindS,he],hse⟩
theorem bind_len (l:List Ev):∀x∈bindS l,x.length≤1048576:=fun x hx=>by
 obtain ⟨e,_,rfl⟩:=List.mem_map.1 hx
 exact (by decide:1≤1048576)
/-! ### The law's scene -/
def sceneS (T:List Sc)(V:List Va)(l:List Ev)(e:Ex):Bool:=(((fewP T V [e]&&fewL l)&&(allTS T==0))&&suitsS T V l)&&(condE T V e==0)
theorem scene_parts {T:List Sc}{V:List Va}{l:List Ev}{e:Ex}(h:sceneS T V l e=true):fewP T V [e]=true∧fewL l=true∧allTS T=0∧suitsS T V l=true∧condE T V e=0:=by
 unfold sceneS at h
 simp only [Bool.and_eq_true,beq_iff_eq] at h
 exact ⟨h.1.1.1.1,h.1.1.1.2,h.1.1.2,h.1.2,h.2⟩

section
variable {T:List Sc} {V:List Va} {l:List Ev} {e:Ex}
/-- what the scene gives -/
structure SceneOK (T:List Sc) (V:List Va) (l:List Ev) (e:Ex):Prop where
 kc:KC T V e
 kind:kindR T V e=1
 suits:Suits T V (bindS l)
theorem scene_ok (h:sceneS T V l e=true):SceneOK T V l e:=by
 obtain ⟨_,_,_,h4,h5⟩:=scene_parts h
 have h6:=condE_kc (T:=T) (V:=V) (e:=e) (by rw [h5];rfl)
 exact ⟨h6.1,h6.2,suits_of h4⟩
theorem SceneOK.truth (h:SceneOK T V l e):TruthS ⟨bindS l,-1,ev0⟩ e=tv (bindS l) e:=tw_truth h.suits h.kc.kok h.kind h.kc.check
theorem SceneOK.neg (h:SceneOK T V l e):NegateS e=if checkS (negS e) != 0 then (ex0,checkS (negS e)) else (negS e,0):=by
 unfold NegateS
 rw [if_neg (by rw [h.kc.check];decide)]
theorem SceneOK.negE (h:SceneOK T V l e):(NegateS e).2=0∨(NegateS e).2=5∨(NegateS e).2=12:=by
 rw [h.neg]
 have:=check_neg (neg_all e h.kc.kok h.kind).1.nodes
 cases h1:(checkS (negS e) != 0) with
 | true=>rw [if_pos rfl];exact this
 | false=>rw [ifF rfl];exact .inl rfl
theorem SceneOK.negT (h:SceneOK T V l e)(h0:((NegateS e).2==0)=true):TruthS ⟨bindS l,-1,ev0⟩ (NegateS e).1 = !tv (bindS l) e:=by
  rw [h.neg] at h0 ⊢
  obtain ⟨k1,k2,k3⟩:=neg_all e h.kc.kok h.kind
  cases h1:(checkS (negS e) != 0) with
  | true => rw [h1, if_pos rfl] at h0; simp only at h0; have h2 : checkS (negS e) = 0 := by simpa using h0
            rw [h2] at h1;cases h1
  | false=>rw [ifF rfl];exact (tw_truth h.suits k1 k2 (by simpa using h1)).trans (k3 _ h.suits)
theorem SceneOK.negB (h:SceneOK T V l e):((NegateS e).2==0&&(TruthS ⟨bindS l,-1,ev0⟩ (NegateS e).1==TruthS ⟨bindS l,-1,ev0⟩ e))=false:=by
 cases h0:((NegateS e).2==0) with
 | false=>rfl
 | true=>rw [h.negT h0,h.truth];cases tv (bindS l) e <;> rfl
theorem SceneOK.negC (h:SceneOK T V l e):(((NegateS e).2==0||(NegateS e).2==5)||(NegateS e).2==12)=true:=by
 rcases h.negE with h | h | h <;> rw [h] <;> rfl
theorem SceneOK.clE (h:SceneOK T V l e):(ClausesS T V e).2=0∨(ClausesS T V e).2=17:=by
 have hz:(condE T V e != 0)=false:=by
  unfold condE
  rw [kc_kind h.kc,if_neg (by rw [h.kc.kok.kind];decide),if_neg (by rw [kok_kind h.kc.kok,h.kind];decide)];rfl
 cases h1:(!(normS T V e true).2) with
 | true=>rw [Clauses_2 hz h1];exact .inr rfl
 | false=>rw [Clauses_3 hz h1];exact .inl rfl
theorem SceneOK.cl (h:SceneOK T V l e)(h0:((ClausesS T V e).2 != 0)=false):(normS T V e true).2=true∧(ClausesS T V e).1=(normS T V e true).1:=by
 have hz:(condE T V e != 0)=false:=by
  unfold condE
  rw [kc_kind h.kc,if_neg (by rw [h.kc.kok.kind];decide),if_neg (by rw [kok_kind h.kc.kok,h.kind];decide)];rfl
 cases h1:(!(normS T V e true).2) with
 | true=>rw [Clauses_2 hz h1] at h0;cases h0
 | false=>rw [Clauses_3 hz h1];exact ⟨by simpa using h1,rfl⟩
/-- the truth that the law's loops find -/
def litU (l:List Ev)(y:Lit):Bool:=TruthS ⟨bindS l,-1,ev0⟩ y.cond != y.neg
theorem SceneOK.all (h:SceneOK T V l e)(h0:((ClausesS T V e).2 != 0)=false):((ClausesS T V e).1.any fun c=>c.all (litU l))=TruthS ⟨bindS l,-1,ev0⟩ e:=by
 obtain ⟨h1,h2⟩:=h.cl h0
 rw [h.truth,h2]
 have h3:=norm_truth h.suits e h.kc.kok h.kind true h1
 rw [show (tv (bindS l) e==true)=tv (bindS l) e by cases tv (bindS l) e <;> rfl] at h3
 rw [←h3]
 unfold csT clT
 refine any_congr fun c hc=>all_congr fun y hy=>?_
 unfold litU litT
 obtain ⟨k1,k2⟩:=norm_check h.kc true c hc y hy
 have k3:kindR T V y.cond=1:=norm_kinds e h.kc.kok h.kind true c hc y hy
 rw [tw_truth h.suits k1 k3 k2]
end
theorem any_take1 {α:Type}(f:α→Bool){l:List α}{k:Nat}{x:α}(h:l[k]? = some x):(l.take (k+1)).any f=((l.take k).any f||f x):=any_take f h
theorem all_take1 {α:Type}(f:α→Bool){l:List α}{k:Nat}{x:α}(h:l[k]? = some x):(l.take (k+1)).all f=((l.take k).all f&&f x):=by rw [take_get h];simp
end Go.Proofs.YtkddpedfbicbeaaGreatDoor
