/-
  The law ResolveRenames: its card, second form. Condition: the row's own (the table of powers as the text lays it; a bulk of at most 1048576).
-/
import Derived.Test.YtckhoadldibflaaGreatDoorR26w
import Derived.Test.YtckhoadldibflaaGreatDoorK17
import Derived.Test.YtckhoadldibflaaGreatDoorK18
import Derived.WalkKit
import Derived.ProofKit
import Derived.OpenShut
import Derived.JoinedCond
import Derived.Deep.DeepHandedRow
namespace Go.Proofs.YtckhoadldibflaaGreatDoor.resolveRenames
open Go Go.Aw Go.ChangeShapes Go.WideShapes Go.ChangeAt Go.RowKit
set_option maxHeartbeats 40000000
set_option linter.unusedVariables false
set_option linter.unusedSimpArgs false
set_option maxRecDepth 100000

theorem contract (H:Type)(enc:TypeId×Value→H)(W:World)(base:Nat)(args:Array Value)(ds gs:List (DataW H))(before:List MemPlace)
  (hval:∀(j:Nat) t v,Tryz.f4.params[j]? = some t→args[j]? = some v→Value.okWide Tryz.prog W .any base t v)
  (hW:DataW.Whole enc Tryz.prog Tryz.f4.params.toList Rows.resolveRenamesSpec.vars false W args.toList ds gs before) (hL:laidMetH Tryz.prog Rows.resolveRenamesUptoRow.laid W) (hS:W.ShapedOpen Tryz.prog) (hk:Rows.uptoSmall H (ds++gs)=true) :
  Calls Tryz.prog 4 args W fun e W'=>∃v,e = .returned v∧Rows.resolveRenamesSpec.post enc Tryz.prog Tryz.f4 false true false false W args v W':=by
 have hW':=hW;obtain ⟨p,q,hA,hV,rfl,hfz,hnd⟩:=hW;rw [Tryz.params4] at hA hval;obtain ⟨v0,vs0,d0,ds0,p0,q0,hargs,rfl,rfl,h0,r0⟩:=trodAll_cons hA;obtain ⟨v1,vs1,d1,ds1,p1,q1,rfl,rfl,rfl,h1,r1⟩:=trodAll_cons r0;obtain ⟨rfl,rfl,rfl⟩:=trodAll_nil r1;obtain rfl:args = #[v0,v1]:=by cases args;simp_all
 obtain ⟨rfl,rfl⟩:=trodVars_none hV
 have hb:Rows.uptoBulk d0+Rows.uptoBulk d1≤1048576:=by
  have:=Ir hk;simp only [Cb,Rows.uptoBulkAll] at this;omega
 obtain ⟨x0,o0,b0,k0⟩:=Rd.value (fun n=>rTys n) h0;have w0:=hval 0 22 v0 rfl rfl;obtain ⟨x1,o1,b1,k1⟩:=Rd.value (fun n=>rSy n) h1;obtain ⟨c1,rfl,_⟩:=okWide_struct u_Sy (hval 1 25 v1 rfl rfl);exact Vj laid (by kernel_rfl) rfl rfl (show Tryz.prog.underlying 4=some .bool by kernel_rfl) (by kernel_rfl) hW' rfl (Rm (jQ (Tl vP w0) k0) (Rm (mX rfl k1) iH)) (yR hL hS) (U0 x0 (cC (by omega)).1 (cC (by omega)).2 x1)

theorem laid_met (os:Os):laidMet Tryz.prog Rows.resolveRenamesUptoRow.laid ((laidWorld os).forCall (fun _ _=>0) ⟨#[],#[.slice none 0 0,.agg #[.int .i64 0,.string ⟨#[]⟩,.string ⟨#[]⟩,.int .i64 0,.slice none 0 0,.int .i64 0]],[]⟩).memory:=
 laidMet_of_run' 8 (by kernel_rfl) (by kernel_rfl)
theorem reads (os:Os){H:Type}(enc:TypeId×Value→H):∃places,DataW.whole enc Tryz.prog ((laidWorld os).forCall (fun _ _=>0) ⟨#[],#[.slice none 0 0,.agg #[.int .i64 0,.string ⟨#[]⟩,.string ⟨#[]⟩,.int .i64 0,.slice none 0 0,.int .i64 0]],[]⟩).memory Tryz.f4.params.toList Rows.resolveRenamesSpec.vars false (#[.slice none 0 0,.agg #[.int .i64 0,.string ⟨#[]⟩,.string ⟨#[]⟩,.int .i64 0,.slice none 0 0,.int .i64 0]]:Array Value).toList 8=some ([.nil,.agg [.lit (.int .i64 0),.lit (.string []),.lit (.string []),.lit (.int .i64 0),.nil,.lit (.int .i64 0)]],[],places):=
 ⟨[],by kernel_rfl⟩
theorem lifted (os:Os)(started:os.Started)(H:Type)(enc:TypeId×Value→H)(F:Stop.Interp) :
  ReturnsInHanded {} Tryz.checked os 4 .any ((Rows.OpenSpec.upto Rows.resolveRenamesSpec).preRow enc Tryz.prog Tryz.f4 Rows.resolveRenamesUptoRow.domain false Rows.resolveRenamesUptoRow.laid) (((Rows.OpenSpec.upto Rows.resolveRenamesSpec).at F).post enc Tryz.prog Tryz.f4 false true false false):=by
 obtain ⟨places,hx⟩:=reads os enc
 refine returnsInHanded_of_row (C:=Tryz.checked) (s:=Rows.OpenSpec.upto Rows.resolveRenamesSpec) own started (by kernel_rfl) Tryz.func4
  (witness_row_at (enc:=enc) (C:=Tryz.checked) false (laidWorld os) #[.slice none 0 0,.agg #[.int .i64 0,.string ⟨#[]⟩,.string ⟨#[]⟩,.int .i64 0,.slice none 0 0,.int .i64 0]] rfl (by kernel_rfl) (by kernel_rfl) (by kernel_rfl)
   (OpenSpec.preRow_of_cond 8 hx (by kernel_rfl) (fun k hk=>by cases hk;kernel_rfl) (by kernel_rfl) (laid_met os))) ?_
 intro W base args ds gs before hval hW h1 h2 h3 hL hS h4;exact contract H enc W base args ds gs before hval hW hL hS (h2 _ rfl)
theorem and_t {a b:Bool}(h:a=true)(k:b=true):(a&&b)=true:=by rw [h,k];rfl
theorem said:Rows.ResolveRenamesUptoSaid:=
 OpenClaim.holds_of_cond 4 Tryz.f4 rfl rfl rfl rfl rfl rfl rfl ⟨rfl,rfl,rfl,rfl,rfl⟩ rfl rfl rfl rfl rfl (by kernel_rfl) Tryz.func4 (by unfold joinedFacts;(repeat' with_reducible apply and_t);all_goals (as_aux_lemma=>kernel_rfl))
  (Ir (by kernel_rfl)) (by unfold Func.isWrapper;first | (rw [if_pos (by decide +kernel)];kernel_rfl) | (rw [if_neg (by decide +kernel)];exact ⟨rfl,rfl⟩))
  (fun os started H enc _ F=>by rw [OpenClaim.pre_eq_preRow];exact lifted os started H enc F)
theorem plain (f:FuncId)(fn:Func)(hf:Tryz.pinned.checked.prog.funcNamed Rows.resolveRenamesUptoRow.func=some f)(hfn:Tryz.pinned.checked.prog.funcs[f]? = some fn) :
  false=Tryz.pinned.checked.prog.looks []∧∀(j:Nat) t,fn.params[j]? = some t→Tryz.pinned.checked.prog.wantsStandIn t=false:=by
 obtain rfl:f=4:=Option.some.inj ((show Tryz.prog.funcNamed Rows.resolveRenamesUptoRow.func=some 4 by kernel_rfl).symm.trans hf) |>.symm
 obtain rfl:fn=Tryz.f4:=(Option.some.inj (Tryz.func4.symm.trans hfn)).symm;refine ⟨by kernel_rfl,fun j t ht=>?_⟩;rw [Tryz.params4] at ht
 have hall:∀t∈[22,25],Tryz.prog.wantsStandIn t=false:=by
  intro t ht;simp only [G2,gF,or_false] at ht;rcases ht with rfl | rfl <;> kernel_rfl
 exact hall t (by have:=Array.mem_of_getElem? ht;simpa using this)
theorem proved:Rows.ResolveRenamesUptoCardSaid:=
 Claim7.holds_tied_plain_at .later [] _ _ _ _ said (fun _ h=>by cases h) (by kernel_rfl) (fun _ h=>by cases h) resolveRenamesUpto_row_tie rfl ⟨rfl,rfl⟩ (by kernel_rfl) rfl plain (by kernel_rfl)
end Go.Proofs.YtckhoadldibflaaGreatDoor.resolveRenames
