/-
  The law ResolveSources: its card, second form. Condition: the row's own (the table of powers as the text lays it; a bulk of at most 1048576).
-/
import Derived.Test.YtckhoadldibflaaGreatDoorK14
import Derived.Test.YtckhoadldibflaaGreatDoorK13
import Derived.WalkKit
import Derived.ProofKit
import Derived.OpenShut
import Derived.JoinedCond
import Derived.Deep.DeepHandedRow
set_option maxHeartbeats 40000000
set_option maxRecDepth 100000
namespace Go.Proofs.YtckhoadldibflaaGreatDoor.resolveSources
open Go Go.Aw Go.ChangeShapes Go.WideShapes Go.ChangeAt Go.RowKit
set_option linter.unusedVariables false
set_option linter.unusedSimpArgs false
theorem contract (H:Type)(enc:TypeId×Value->H)(W:World)(base:Nat)(args:Array Value)(ds gs:List (DataW H))(before:List MemPlace)
  (hval:∀(j:Nat) t v,Tryz.f9.params[j]? = some t->args[j]? = some v->Value.okWide Tryz.prog W .any base t v)
  (hW:DataW.Whole enc Tryz.prog Tryz.f9.params.toList Rows.resolveSourcesSpec.vars false W args.toList ds gs before) (hL:laidMetH Tryz.prog Rows.resolveSourcesUptoRow.laid W) (hS:W.ShapedOpen Tryz.prog) (hk:Rows.uptoSmall H (ds++gs)=true) :
  Calls Tryz.prog 9 args W fun e W'=>∃v,e = .returned v/\Rows.resolveSourcesSpec.post enc Tryz.prog Tryz.f9 false true false false W args v W':=by
 have hW':=hW;obtain ⟨p,q,hA,hV,rfl,hfz,hnd⟩:=hW;rw [Tryz.params9] at hA hval;obtain ⟨v0,vs0,d0,ds0,p0,q0,hargs,rfl,rfl,h0,r0⟩:=trodAll_cons hA;obtain ⟨rfl,rfl,rfl⟩:=trodAll_nil r0;obtain rfl:args = #[v0]:=by cases args;simp_all
 obtain ⟨rfl,rfl⟩:=trodVars_none hV
 have hb:Rows.uptoBulk d0<=1048576:=by
  have:=Do hk;simp only [Bh,Rows.uptoBulkAll] at this;omega
 obtain ⟨x0,o0,b0,k0⟩:=Rd.value (fun n=>rPg n) h0;obtain ⟨c0,rfl,_⟩:=okWide_struct u_Pg (hval 0 59 v0 rfl rfl);exact bV laid (by kernel_rfl) rfl rfl (show Tryz.prog.underlying 4=some .bool by kernel_rfl) (by kernel_rfl) hW' rfl (aK (xI rfl k0) qN) (globOK hL hS) (Z2 x0 (xC (by omega)).1.1 (xC (by omega)).1.2 (xC (by omega)).2.1 (xC (by omega)).2.2)
theorem laid_met (os:Os):laidMet Tryz.prog Rows.resolveSourcesUptoRow.laid ((laidWorld os).forCall (fun _ _=>0) ⟨#[],#[.agg #[.slice none 0 0,.slice none 0 0]],[]⟩).memory:=
 laidMet_of_run' 8 (by kernel_rfl) (by kernel_rfl)
theorem reads (os:Os){H:Type}(enc:TypeId×Value->H):∃places,DataW.whole enc Tryz.prog ((laidWorld os).forCall (fun _ _=>0) ⟨#[],#[.agg #[.slice none 0 0,.slice none 0 0]],[]⟩).memory Tryz.f9.params.toList Rows.resolveSourcesSpec.vars false (#[.agg #[.slice none 0 0,.slice none 0 0]]:Array Value).toList 8=some ([.agg [.nil,.nil]],[],places):=
 ⟨[],by kernel_rfl⟩
theorem lifted (os:Os)(started:os.Started)(H:Type)(enc:TypeId×Value->H)(F:Stop.Interp) :
  ReturnsInHanded {} Tryz.checked os 9 .any ((Rows.OpenSpec.upto Rows.resolveSourcesSpec).preRow enc Tryz.prog Tryz.f9 Rows.resolveSourcesUptoRow.domain false Rows.resolveSourcesUptoRow.laid) (((Rows.OpenSpec.upto Rows.resolveSourcesSpec).at F).post enc Tryz.prog Tryz.f9 false true false false):=by
 obtain ⟨places,hx⟩:=reads os enc
 refine returnsInHanded_of_row (C:=Tryz.checked) (s:=Rows.OpenSpec.upto Rows.resolveSourcesSpec) own started (by kernel_rfl) Tryz.func9
  (witness_row_at (enc:=enc) (C:=Tryz.checked) false (laidWorld os) #[.agg #[.slice none 0 0,.slice none 0 0]] rfl (by kernel_rfl) (by kernel_rfl) (by kernel_rfl)
   (OpenSpec.preRow_of_cond 8 hx (by kernel_rfl) (fun k hk=>by cases hk;kernel_rfl) (by kernel_rfl) (laid_met os))) ?_
 intro W base args ds gs before hval hW h1 h2 h3 hL hS h4;exact contract H enc W base args ds gs before hval hW hL hS (h2 _ rfl)
theorem and_t {a b:Bool}(h:a=true)(k:b=true):(a&&b)=true:=by rw [h,k];rfl
theorem said:Rows.ResolveSourcesUptoSaid:=
 OpenClaim.holds_of_cond 9 Tryz.f9 rfl rfl rfl rfl rfl rfl rfl ⟨rfl,rfl,rfl,rfl,rfl⟩ rfl rfl rfl rfl rfl (by kernel_rfl) Tryz.func9 (by unfold joinedFacts;(repeat' with_reducible apply and_t);all_goals (as_aux_lemma=>kernel_rfl))
  (Do (by kernel_rfl)) (by unfold Func.isWrapper;first | (rw [if_pos (by decide +kernel)];kernel_rfl) | (rw [if_neg (by decide +kernel)];exact ⟨rfl,rfl⟩))
  (fun os started H enc _ F=>by rw [OpenClaim.pre_eq_preRow];exact lifted os started H enc F)
theorem plain (f:FuncId)(fn:Func)(hf:Tryz.pinned.checked.prog.funcNamed Rows.resolveSourcesUptoRow.func=some f)(hfn:Tryz.pinned.checked.prog.funcs[f]? = some fn) :
  false=Tryz.pinned.checked.prog.looks []/\∀(j:Nat) t,fn.params[j]? = some t->Tryz.pinned.checked.prog.wantsStandIn t=false:=by
 obtain rfl:f=9:=Option.some.inj ((show Tryz.prog.funcNamed Rows.resolveSourcesUptoRow.func=some 9 by kernel_rfl).symm.trans hf) |>.symm
 obtain rfl:fn=Tryz.f9:=(Option.some.inj (Tryz.func9.symm.trans hfn)).symm;refine ⟨by kernel_rfl,fun j t ht=>?_⟩;rw [Tryz.params9] at ht
 have hall:∀t∈[59],Tryz.prog.wantsStandIn t=false:=by
  intro t ht;simp only [Dn,Xb,or_false] at ht;subst ht;kernel_rfl
 exact hall t (by have:=Array.mem_of_getElem? ht;simpa using this)
theorem proved:Rows.ResolveSourcesUptoCardSaid:=
 Claim7.holds_tied_plain_at .later [] _ _ _ _ said (fun _ h=>by cases h) (by kernel_rfl) (fun _ h=>by cases h) resolveSourcesUpto_row_tie rfl ⟨rfl,rfl⟩ (by kernel_rfl) rfl plain (by kernel_rfl)
end Go.Proofs.YtckhoadldibflaaGreatDoor.resolveSources
