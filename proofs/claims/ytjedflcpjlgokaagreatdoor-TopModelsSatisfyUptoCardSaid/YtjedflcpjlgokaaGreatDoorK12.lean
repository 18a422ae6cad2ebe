/-
  Several texts in one: W9, W10. No condition.
-/
import Derived.Test.YtjedflcpjlgokaaGreatDoorAz
import Derived.Test.YtjedflcpjlgokaaGreatDoorK11
import Derived.Test.YtjedflcpjlgokaaGreatDoorK02
import Derived.KernelRfl
import Derived.Test.YtjedflcpjlgokaaGreatDoorW4
set_option linter.unusedVariables false
set_option linter.unusedSimpArgs false
namespace Go.Proofs.YtjedflcpjlgokaaGreatDoor
open Go Go.Aw
set_option maxHeartbeats 1600000
set_option maxRecDepth 20000

theorem zF (op:Int)(h:5≤op∧op≤12∧op≠9):∃f cap,bF OPS op=some (.fn (.func f) [] cap)∧vH Tryz.prog f=true∧∀a b,Ax Tryz.prog f (.int .i64 a :: .int .i64 b::cap) (.agg (cV (G3 op a b))):=by
 have h2:op=5∨op=6∨op=7∨op=8∨op=10∨op=11∨op=12:=by omega
 rcases h2 with rfl | rfl | rfl | rfl | rfl | rfl | rfl
 · exact ⟨108,_,rfl,by kernel_rfl,c63⟩
 · exact ⟨109,_,rfl,by kernel_rfl,c64⟩
 · exact ⟨110,_,rfl,by kernel_rfl,c65⟩
 · exact ⟨111,_,rfl,by kernel_rfl,c66⟩
 · exact ⟨112,_,rfl,by kernel_rfl,c67⟩
 · exact ⟨113,_,rfl,by kernel_rfl,c68⟩
 · exact ⟨114,_,rfl,by kernel_rfl,c69⟩

theorem wH {α:Type}{l:List α}(h:l.length≠0):∃a b,l[0]? = some a∧l[((l.length:Int)-1).toNat]? = some b∧∀d,l.headD d=a∧l.getLastD d=b:=by
 have e:((l.length:Int)-1).toNat=l.length-1:=by omega
 rw [e]
 refine ⟨l[0],l[l.length-1],List.getElem?_eq_getElem (by omega),List.getElem?_eq_getElem (by omega),fun d=>?_⟩
 cases l with
 | nil=>simp at h
 | cons x r=>simp [List.getLastD_eq_getLast?,List.getLast?_eq_getElem?]

theorem c40 (x:Evr)(hx:x.ok)(e:Ex)(hn:Ca e=0)(hs:Ar e≤1048576):Ax Tryz.prog 83 [.agg (cX x),.agg (cE e)] (.tuple [.agg (cV (B6 x e).1),.int .i64 (B6 x e).2]):=by
 revert hn hs
 induction e using Ex.Aav
 rename_i e ih
 intro hn hs
 have hz:=Bc hn
 have hfl:=Jr hz.1
 have hal:=Ng e hs
 refine Ax.body (n:=85) Ah Tryz.func83 rfl rfl rfl fun H=>?_
 refine Ai (Qp (Gd [_,Iq _,Iq _,Iq _,Iq _,Iq _,_,_]) (Qp Kx ?_))
 refine Qe (Ak (l:=[.int .i64 0,.int .i64 0,.str []]) (by kernel_rfl)) ?_
 rintro _ _ ⟨b4,rfl,rfl⟩
 refine Qp Ap (Ag (AW.seq (Ai (Qp Lp (Qp Dy ?_)))))
 refine Qp (Al (n:=e.args.length) Ah rfl rfl rfl (by simp)) ?_
 refine Qp A9 (Ag (A6 (fun hc1=>?_) fun hc1=>?_))
 ·
  refine Ai (Qp (Cq [_,Iq _,Iq _,Iq _,Iq _,Iq _,_,_]) (Qp El ?_))
  refine Qp (Qc rfl (c70 x hx e hfl)) ?_
  refine Qp (Ci (v:=.agg [Iq _,Iq _,.str _]) rfl rfl) ?_
  refine Qp Ke ?_
  refine Cv 0 [Iq _,Iq _,.str _] (_::_) ?_
  refine Qp Ap (Ag (Dw ?_))
  refine ⟨.inr rfl,[.agg [Iq _,Iq _,.str _],Iq _],.cons (.box _ _ _ 0 _ _ _ _ rfl rfl rfl rfl rfl rfl) <| .cons (.tmp _ _ rfl) <| .nil,.cons _ (.refl _),?_⟩
  rw [Kd x e,if_pos (by simpa [List.isEmpty_iff] using hc1)];rfl
 ·
  refine By (Ai (Qp N4 ?_))
  refine AOL.ghost (GS.row (t:=6) 28 3 rfl) ?_
  refine Dm (Qp N4 ?_)
  refine AOL.ghost (GS.row (t:=7) 3 1 rfl) ?_
  refine Ag (AW.seq (Ai (Qp Lp (Qp Dy ?_))))
  refine Qp (Al (n:=e.args.length) Ah rfl rfl rfl (by simp)) ?_
  refine Qp Az (Ag (AW.block ?_))
  refine AW.Aao (fun (p:Nat×List (List AV)×Value×List (List AV)×Value)=>(⟨[(2,.ptr (cX x)),(3,.ptr (cE e)),(4,.val (.pointer (some ⟨b4,0,none⟩))),(6,.row p.2.2.1 3 p.2.1),(7,.row p.2.2.2.2 1 p.2.2.2.1),(23,.sl 8 (e.args.map G8)),(24,.int .i64 e.args.length),(25,.int .i64 (p.1:Int))],.row p.2.2.2.2 p.2.2.2.1.length 3 1 :: .row p.2.2.1 p.2.1.length 28 3 :: .box b4 28 [.int .i64 0,.int .i64 0,.str []]::H,85⟩:St)) (fun (p:Nat×List (List AV)×Value×List (List AV)×Value)=>p.1≤e.args.length∧Ao (fun a=>(B6 x a).2) e.args=Ao (fun a=>(B6 x a).2) (e.args.drop p.1)∧p.2.1=((e.args.take p.1).map (fun a=>(B6 x a).1)).map cV∧p.2.2.2.1=((e.args.take p.1).map (fun a=>(B6 x a).1.kind)).map (fun k=>[AV.int .i64 k])) (fun (p:Nat×List (List AV)×Value×List (List AV)×Value)=>e.args.length-p.1) ((0,[],.slice none 0 0,[],.slice none 0 0)) ?_ (GS.weaken ⟨rfl,rfl,rfl,rfl,rfl,rfl,rfl,rfl,trivial⟩ (.refl _)) ?_
  · exact ⟨Nat.zero_le _,by simp,by simp,by simp⟩
  ·
   rintro p hR
   have hsc:∀c∈p.2.1,Be c=true:=by rw [hR.2.2.1];exact Ed fun _=>rfl
   have hsc2:∀c∈p.2.2.2.1,Be c=true:=by rw [hR.2.2.2];exact Ed fun _=>rfl
   refine Ai (Qp Ch (Ag (AW.seq (A6 (fun hc2=>?_) fun hc2=>?_))))
   ·
    obtain ⟨a,ha⟩:=B5 hc2
    have hlt:=A4 ha
    have hm:=List.mem_of_getElem? ha
    refine By (AW.seq (AW.block (Ai ?_)))
    refine Qp (Af (c:=[Iq _,_,Iq _,Iq _,Iq _,Iq _,Iq _,.str _]) Ah rfl rfl rfl rfl rfl rfl (by omega) (Fo ha)) ?_
    refine Qp El ?_
    refine Qe (Ak (l:=[.int .i64 0,.sl 8 [],.int .i64 0,.int .i64 0,.int .i64 0,.int .i64 0,.int .i64 0,.str []]) (by kernel_rfl)) ?_
    rintro _ _ ⟨b9,rfl,rfl⟩
    refine Cv 0 [Iq _,_,Iq _,Iq _,Iq _,Iq _,Iq _,.str _] (_::_::_::_::_) ?_
    refine AOL.ghost (GS.Aan (t:=9) 0 rfl rfl) ?_
    refine Dm (Qp (Cq [_,Iq _,Iq _,Iq _,Iq _,Iq _,_,_]) (Qp El ?_))
    refine Qp (Qc rfl (ih a hm (hz.2 a hm) (by have:=Fe hm;omega))) ?_
    refine Qp N6 ?_
    refine Qp (Ci (v:=.agg [Iq _,Iq _,.str _]) rfl rfl) ?_
    refine Qp Ke ?_
    refine Qe (Ak (l:=[.int .i64 0,.int .i64 0,.str []]) (by kernel_rfl)) ?_
    rintro _ _ ⟨b10,rfl,rfl⟩
    refine Cv 0 [Iq _,Iq _,.str _] (_::_::_::_::_) ?_
    refine Qp Ap ?_
    refine AOL.ghost (GS.Aan (t:=10) 0 rfl rfl) ?_
    refine Ag (AW.seq (Ai (Qp Az (Qp Cr (Ag (A6 (fun hc3=>?_) fun hc3=>?_))))))
    ·
     refine Ai (Qp (Fz [Iq _,Iq _,.str _]) (Qp Az ?_))
     refine Cv 2 [Iq _,Iq _,.str _] (_::_::_::_) ?_
     refine Qp Ap (Ag (Dw (Bb (Aj (Aj (Bb (Aj ?_)))))))
     refine ⟨.inr rfl,[.agg [Iq _,Iq _,.str _],Iq _],.cons (.box _ _ _ 2 _ _ _ _ rfl rfl rfl rfl rfl rfl) <| .cons (.tmp _ _ rfl) <| .nil,.cons _ (.cons _ (.cons _ (.refl _))),?_⟩
     have hne:¬e.args.isEmpty=true:=by simpa [List.isEmpty_iff] using hc1
     have hfe:Ao (fun a=>(B6 x a).2) e.args=(B6 x a).2:=by rw [hR.2.1,A8 ha,Ao,if_pos hc3]
     rw [Kd x e,if_neg hne,hfe,if_pos hc3];rfl
    ·
     refine By ?_
     refine AW.draw mixed (fun _=>True) trivial (by kernel_rfl) ?_
     refine Qn 0 rfl (Bm (v:=.row _ _ _) rfl) ?_
     refine Qn 1 rfl (Cq [Iq _,Iq _,.str _]) ?_
     refine Qn 2 rfl (A1 (es:=[[Iq _,Iq _,.str _]]) Ah rfl rfl rfl rfl rfl rfl rfl rfl rfl) ?_
     refine Qn 4 rfl (Bm (v:=.row _ _ _) rfl) ?_
     refine Qn 5 rfl Jq (Qn 6 rfl Bp ?_)
     refine Qn 7 rfl (A1 (es:=[[Iq _]]) Ah rfl rfl rfl rfl rfl rfl rfl rfl rfl) ?_
     refine Jn.eff _ _ 3 _ _ rfl (by kernel_rfl) rfl rfl (C3 (k:=1) Ah rfl rfl rfl rfl rfl rfl rfl rfl (Ff rfl) (hsc) (by simp [hR.2.2.1];omega) (by simp [hR.2.2.1,maxLen];omega)) (fun _ _ _=>trivial) ?_
     rintro _ _ ⟨v42,rfl,rfl⟩
     refine Jn.eff _ _ 8 _ _ rfl (by kernel_rfl) rfl rfl (C3 (k:=0) Ah rfl rfl rfl rfl rfl rfl rfl rfl (Ff rfl) (hsc2) (by simp [hR.2.2.2];omega) (by simp [hR.2.2.2,maxLen];omega)) (fun _ _ _=>trivial) ?_
     rintro _ _ ⟨v47,rfl,rfl⟩
     refine Qn 9 rfl (Dg (v:=.row _ _ _) rfl) ?_
     refine Qn 10 rfl (Dg (v:=.row _ _ _) rfl) ?_
     refine Jn.done _ _ (by kernel_rfl) ?_
     refine Bu (Ad (AW.region (Qp Ey (Qp Az (Ag ?_)))))
     refine ⟨(p.1+1,p.2.1 ++ [cV (B6 x a).1],v42,p.2.2.2.1 ++ [[.int .i64 (B6 x a).1.kind]],v47),?_,?_,GS.weaken ⟨rfl,rfl,rfl,rfl,rfl,rfl,rfl,rfl,trivial⟩ (.refl _)⟩
     · simp only;exact ⟨hlt,by rw [hR.2.1,A8 ha,Ao,if_neg (by simpa using hc3)],by rw [C4 ha,hR.2.2.1];simp,by rw [C4 ha,hR.2.2.2];simp⟩
     · first | omega | (simp only;omega)
   ·
    have hte:=Cu hc2
    have hd:=Dc hc2
    have hf:Ao (fun a=>(B6 x a).2) e.args=0:=by rw [hR.2.1,hd];rfl
    obtain ⟨k,es,rv,es2,rv2⟩:=p
    simp only at hR hte
    have h6:es=(e.args.map (fun a=>(B6 x a).1)).map cV:=by rw [hR.2.2.1,hte]
    have h7:es2=(e.args.map (fun a=>(B6 x a).1.kind)).map (fun k=>[AV.int .i64 k]):=by rw [hR.2.2.2,hte]
    subst h6
    subst h7
    refine AW.exit ?_
    refine A5 (A5 (Bq (Ad (AW.seq (Ai (Qp Jl (Qp Bp ?_)))))))
    refine AOL.ghost (GS.unrow 7 rfl) ?_
    refine AOL.ghost (GS.unrow 6 rfl) ?_
    refine Qp Dx ?_
    refine Qp (Qc rfl (c71 e.op (e.args.map (fun a=>(B6 x a).1.kind)))) ?_
    refine Qp Ap (Dm (Qp Az (Qp Cr (Ag (A6 (fun hc4=>?_) fun hc4=>?_)))))
    ·
     refine Ai (Qp (Fz [Iq _,Iq _,.str _]) (Qp Az ?_))
     refine Cv 2 [Iq _,Iq _,.str _] (_::_::_::_) ?_
     refine Qp Ap (Ag (Dw ?_))
     refine ⟨.inr rfl,[.agg [Iq _,Iq _,.str _],Iq _],.cons (.box _ _ _ 2 _ _ _ _ rfl rfl rfl rfl rfl rfl) <| .cons (.tmp _ _ rfl) <| .nil,.cons _ (.cons _ (.cons _ (.refl _))),?_⟩
     have hne:¬e.args.isEmpty=true:=by simpa [List.isEmpty_iff] using hc1
     have hk:(e.args.map (fun a=>(B6 x a).1)).map (·.kind)=e.args.map (fun a=>(B6 x a).1.kind):=by simp
     rw [Kd x e,if_neg hne,hf,if_neg (by decide),Ko,hk,if_pos hc4];rfl
    ·
     have hsh:=pI hz.1 hc1
     have hl0:(e.args.map (fun a=>(B6 x a).1)).length≠0:=by simp;intro h0;rw [h0] at hc1;simp at hc1
     have hl4:(e.args.map (fun a=>(B6 x a).1)).length≤1048576:=by simpa using hal
     refine (wH hl0).elim fun v hv=>hv.elim fun w hw=>?_
     have hv0:=hw.1
     have hvl:=hw.2.1
     have hvd:=hw.2.2
     refine By (AW.seq (Ai (Qp Jl (Qp Bp (Qp A9 (Ag (A6 (fun hc5=>?_) fun hc5=>?_)))))))
     ·
      have h9:e.op=9:=by simpa using hc5
      have hl2:(e.args.map (fun a=>(B6 x a).1)).length=2:=by simp;omega
      have hv1:(e.args.map (fun a=>(B6 x a).1))[1]? = some w:=by rw [←hvl,hl2];rfl
      refine AW.seq ?_
      refine AW.draw mixed (fun _=>True) trivial (by kernel_rfl) ?_
      refine Qn 0 rfl Dx ?_
      refine Qn 1 rfl (Af (c:=[Iq _,Iq _,.str _]) Ah rfl rfl rfl rfl rfl rfl (by omega) (Bi hv0)) ?_
      refine Qn 2 rfl (Cq [Iq _,Iq _,.str _]) (Qn 3 rfl Dx ?_)
      refine Qn 4 rfl (Af (c:=[Iq _,Iq _,.str _]) Ah rfl rfl rfl rfl rfl rfl (by omega) (Bi hv1)) ?_
      refine Qn 5 rfl (Cq [Iq _,Iq _,.str _]) ?_
      refine Qn 6 rfl (Pk Ah rfl rfl rfl rfl rfl) ?_
      refine Qn 7 rfl (Qc rfl (c42 _)) ?_
      refine Jn.eff _ _ 8 _ _ rfl (by kernel_rfl) rfl rfl (B2 (k:=2) (v:=.agg _) (cs':=[Iq _,Iq _,.str _]) (H2:=_::_::_::_) Ah rfl rfl rfl rfl (rfl) rfl rfl rfl rfl) (fun _ _ _=>trivial) ?_
      rintro _ _ ⟨rfl,rfl⟩
      refine Qn 9 rfl Ap ?_
      refine Jn.done _ _ (by kernel_rfl) ?_
      refine Ad (Dw ?_)
      refine ⟨.inr rfl,[.agg [Iq _,Iq _,.str _],Iq _],.cons (.box _ _ _ 2 _ _ _ _ rfl rfl rfl rfl rfl rfl) <| .cons (.tmp _ _ rfl) <| .nil,.cons _ (.cons _ (.cons _ (.refl _))),?_⟩
      have hne:¬e.args.isEmpty=true:=by simpa [List.isEmpty_iff] using hc1
      have hk:(e.args.map (fun a=>(B6 x a).1)).map (·.kind)=e.args.map (fun a=>(B6 x a).1.kind):=by simp
      rw [Kd x e,if_neg hne,hf,if_neg (by decide),Ko,hk,iN hc4,(hvd v0).1]
      first
      | (rw [if_pos hc5,hv1];simp only [Bool.and_true];first | done | rfl)
      | (rw [iN hc5,(hvd v0).2] <;> rfl)
      | skip
     ·
      have h9:e.op≠9:=by simpa using hc5
      refine (zF e.op (by omega)).elim fun f hf1=>hf1.elim fun cap hf2=>?_
      have hmg:=hf2.1
      have hfn:=hf2.2.1
      have hap:=hf2.2.2
      refine By (AW.seq ?_)
      refine AW.draw mixed (fun _=>True) trivial (by kernel_rfl) ?_
      refine Qn 0 rfl (Qf [_]) ?_
      refine Qn 1 rfl (Df (c:=.mapv _) Ah rfl rfl rfl) ?_
      refine Qn 2 rfl Jl (Qn 3 rfl Bp ?_)
      refine Qn 4 rfl (tV Ah rfl rfl rfl rfl rfl rfl (hmg)) ?_
      refine Qn 5 rfl Dx ?_
      refine Qn 6 rfl (Af (c:=[Iq _,Iq _,.str _]) Ah rfl rfl rfl rfl rfl rfl (by omega) (Bi hv0)) ?_
      refine Qn 7 rfl U7 (Qn 8 rfl Bp (Qn 9 rfl Dx (Qn 10 rfl Dx ?_)))
      refine Qn 11 rfl (Al (n:=(e.args.map (fun a=>(B6 x a).1)).length) Ah rfl rfl rfl (by simp)) ?_
      refine Qn 12 rfl (Yl rfl rfl rfl (by constructor <;> omega)) ?_
      refine Qn 13 rfl (Af (c:=[Iq _,Iq _,.str _]) Ah rfl rfl rfl rfl rfl rfl (by simp at hl0 ⊢;omega) (Bi hvl)) ?_
      refine Qn 14 rfl U7 (Qn 15 rfl Bp ?_)
      refine Qn 16 rfl (Eg hfn rfl rfl rfl (hap _ _)) ?_
      refine Jn.eff _ _ 17 _ _ rfl (by kernel_rfl) rfl rfl (B2 (k:=2) (v:=.agg _) (cs':=[Iq _,Iq _,.str _]) (H2:=_::_::_::_) Ah rfl rfl rfl rfl (rfl) rfl rfl rfl rfl) (fun _ _ _=>trivial) ?_
      rintro _ _ ⟨rfl,rfl⟩
      refine Qn 18 rfl Ap ?_
      refine Jn.done _ _ (by kernel_rfl) ?_
      refine Ad (AW.ret ?_)
      refine ⟨.inr rfl,[.agg [Iq _,Iq _,.str _],Iq _],.cons (.box _ _ _ 2 _ _ _ _ rfl rfl rfl rfl rfl rfl) <| .cons (.tmp _ _ rfl) <| .nil,.cons _ (.cons _ (.cons _ (.refl _))),?_⟩
      have hne:¬e.args.isEmpty=true:=by simpa [List.isEmpty_iff] using hc1
      have hk:(e.args.map (fun a=>(B6 x a).1)).map (·.kind)=e.args.map (fun a=>(B6 x a).1.kind):=by simp
      rw [Kd x e,if_neg hne,hf,if_neg (by decide),Ko,hk,iN hc4,(hvd v0).1]
      first
      | (rw [if_pos hc5,hv1];simp only [Bool.and_true];first | done | rfl)
      | (rw [iN hc5,(hvd v0).2] <;> rfl)
      | skip

set_option maxHeartbeats 400000
set_option maxRecDepth 20000

theorem O7 {e:Ex}(h:B4 e=0):Ca e=0:=by
 unfold B4 at h
 split at h
 · cases h
 split at h
 · cases h
 exact h

theorem c14 (vars:List (List Ev))(own:Int)(ev:Ev)(hx:∀l∈vars,l.length≤1048576)(e:Ex)(hs:Ar e≤1048576):Ax Tryz.prog 47 [.agg (cE e),.agg (cEnv vars),.int .i64 own,.agg (Lo ev)] (.tuple [.agg (cV (Xi ⟨vars,own,ev⟩ e).1),.int .i64 (Xi ⟨vars,own,ev⟩ e).2]):=by
 refine Ax.body (n:=26) Ah Tryz.func47 rfl rfl rfl fun H=>?_
 refine Ai (Qp Kx (Qp (Gd [_]) (Qp (Gd [Iq _,Iq _,Iq _,Iq _,_]) ?_)))
 refine Qe (Ak (l:=[.int .i64 0,.int .i64 0,.str []]) (by kernel_rfl)) ?_
 rintro _ _ ⟨b8,rfl,rfl⟩
 refine Qp Ap (Ag (AW.seq (Ai (Qp El ?_))))
 refine Qp (Qc rfl (c21 e hs)) ?_
 refine Qp Ap (Dm (Qp Az (Qp Cr (Ag (A6 (fun hc1=>?_) fun hc1=>?_)))))
 ·
  refine Ai (Qp (Fz [Iq _,Iq _,.str _]) (Qp Az ?_))
  refine Cv 0 [Iq _,Iq _,.str _] (_::_) ?_
  refine Qp Ap (Ag (Dw ?_))
  refine ⟨.inr rfl,[.agg [Iq _,Iq _,.str _],Iq _],.cons (.box _ _ _ 0 _ _ _ _ rfl rfl rfl rfl rfl rfl) <| .cons (.tmp _ _ rfl) <| .nil,.cons _ (.refl _),?_⟩
  simp only [Ae,Xi]
  (first | rw [if_pos hc1] | skip)
  first | done | rfl
 ·
  refine By (AW.seq ?_)
  refine AW.draw mixed (fun _=>True) trivial (by kernel_rfl) ?_
  refine Qn 0 rfl (Cq [_]) (Qn 1 rfl Az (Qn 2 rfl (Cq [Iq _,Iq _,Iq _,Iq _,_]) ?_))
  refine Qn 3 rfl (Qc rfl (c39)) ?_
  refine Qn 4 rfl (Fz [_,Iq _,Iq _,Iq _,Iq _,Iq _,_,_]) (Qn 5 rfl El ?_)
  refine Qn 6 rfl (Qc rfl (c40 ⟨vars,own,ev⟩ hx e (O7 (by simpa using hc1)) hs)) ?_
  refine Qn 7 rfl (Ci (v:=.agg [Iq _,Iq _,.str _]) rfl rfl) ?_
  refine Qn 8 rfl Ke ?_
  refine Jn.eff _ _ 9 _ _ rfl (by kernel_rfl) rfl rfl (B2 (k:=0) (v:=.agg _) (cs':=[Iq _,Iq _,.str _]) (H2:=_::_) Ah rfl rfl rfl rfl (rfl) rfl rfl rfl rfl) (fun _ _ _=>trivial) ?_
  rintro _ _ ⟨rfl,rfl⟩
  refine Qn 10 rfl Ap ?_
  refine Jn.done _ _ (by kernel_rfl) ?_
  refine Ad (AW.ret ?_)
  refine ⟨.inr rfl,[.agg [Iq _,Iq _,.str _],Iq _],.cons (.box _ _ _ 0 _ _ _ _ rfl rfl rfl rfl rfl rfl) <| .cons (.tmp _ _ rfl) <| .nil,.cons _ (.refl _),?_⟩
  simp only [Ae,Xi]
  (first | rw [iN hc1] | skip)
  first | done | rfl
theorem c16 (vars:List (List Ev))(own:Int)(ev:Ev)(hx:∀l∈vars,l.length≤1048576)(e:Ex)(hs:Ar e≤1048576):Ax Tryz.prog 18 [.agg (cE e),.agg (cEnv vars),.int .i64 own,.agg (Lo ev)] (.bool (Nh ⟨vars,own,ev⟩ e)):=by
 refine Ax.body (n:=26) Ah Tryz.func18 rfl rfl rfl fun H=>?_
 refine Ai (Qp Kx (Qp (Gd [_]) (Qp (Gd [Iq _,Iq _,Iq _,Iq _,_]) (Qp Bl (Dm (Qp El (Qp (Cq [_]) (Qp Az (Qp (Cq [Iq _,Iq _,Iq _,Iq _,_]) ?_)))))))))
 refine Qp (Qc rfl (c14 vars own ev hx e hs)) ?_
 refine Qp N6 ?_
 refine Qp (Ci (v:=.agg [Iq _,Iq _,.str _]) rfl rfl) ?_
 refine Qp Ke ?_
 refine Qe (Ak (l:=[.int .i64 0,.int .i64 0,.str []]) (by kernel_rfl)) ?_
 rintro _ _ ⟨b9,rfl,rfl⟩
 refine Cv 0 [Iq _,Iq _,.str _] (_::_) ?_
 refine Qp Ap ?_
 refine AOL.ghost (GS.Aan (t:=9) 0 rfl rfl) ?_
 refine Ag (AW.seq ?_)
 refine AW.draw mixed (fun _=>True) trivial (by kernel_rfl) ?_
 refine Qn 0 rfl Az (Qn 1 rfl A9 (Qn 2 rfl B0 (Qo 3 rfl [] Qw (Cq [Iq _,Iq _,.str _]) ?_)))
 refine Qo 4 rfl [] Qw (Qc rfl (c42 true)) ?_
 refine Jn.pure _ _ 5 _ _ rfl (by kernel_rfl) (by kernel_rfl) rfl (.opt _ (.bool _) [(22,_),(23,_)] rfl (nC.all ⟨Ent.Aam _ _,Ent.Aam _ _,trivial⟩) (fun hG=>Pk Ah rfl rfl rfl rfl rfl) rfl) ?_
 refine Qn 6 rfl F7 (Qn 7 rfl Bl ?_)
 refine Jn.done _ _ (by kernel_rfl) ?_
 refine Ad (AW.ret ?_)
 refine Qr (.bool _) ?_
 simp only [Ae,Nh]
 simp only [Bool.and_true]

end Go.Proofs.YtjedflcpjlgokaaGreatDoor
