/-
  Several texts in one: W9, W10. No condition.
-/
import Derived.Test.YtjedflcpjlgokaaGreatDoorAz
import Derived.Test.YtjedflcpjlgokaaGreatDoorK11
import Derived.Test.YtjedflcpjlgokaaGreatDoorK02
import Derived.KernelRfl
import Derived.Test.YtjedflcpjlgokaaGreatDoorW4
set_option linter.unusedVariables false
set_option linter.unusedSimpArgs false
namespace Go.Proofs.YtjedflcpjlgokaaGreatDoor
open Go Go.Aw
set_option maxHeartbeats 1600000
set_option maxRecDepth 20000

theorem yX (op:Int)(h:5≤op∧op≤12∧op≠9):∃f cap,cB OPS op=some (.fn (.func f) [] cap)∧qY Tryz.prog f=true∧∀a b,Ax Tryz.prog f (.int .i64 a :: .int .i64 b::cap) (.agg (cV (Gb op a b))):=by
 have h2:op=5∨op=6∨op=7∨op=8∨op=10∨op=11∨op=12:=by omega
 rcases h2 with rfl | rfl | rfl | rfl | rfl | rfl | rfl
 · exact ⟨108,_,rfl,by kernel_rfl,c63⟩
 · exact ⟨109,_,rfl,by kernel_rfl,c64⟩
 · exact ⟨110,_,rfl,by kernel_rfl,c65⟩
 · exact ⟨111,_,rfl,by kernel_rfl,c66⟩
 · exact ⟨112,_,rfl,by kernel_rfl,c67⟩
 · exact ⟨113,_,rfl,by kernel_rfl,c68⟩
 · exact ⟨114,_,rfl,by kernel_rfl,c69⟩

theorem xM {α:Type}{l:List α}(h:l.length≠0):∃a b,l[0]? = some a∧l[((l.length:Int)-1).toNat]? = some b∧∀d,l.headD d=a∧l.getLastD d=b:=by
 have e:((l.length:Int)-1).toNat=l.length-1:=by omega
 rw [e]
 refine ⟨l[0],l[l.length-1],List.getElem?_eq_getElem (by omega),List.getElem?_eq_getElem (by omega),fun d=>?_⟩
 cases l with
 | nil=>simp at h
 | cons x r=>simp [List.getLastD_eq_getLast?,List.getLast?_eq_getElem?]

theorem c40 (x:Evr)(hx:x.ok)(e:Ex)(hn:Dc e=0)(hs:At e≤1048576):Ax Tryz.prog 83 [.agg (cX x),.agg (cE e)] (.tuple [.agg (cV (Bq x e).1),.int .i64 (Bq x e).2]):=by
 revert hn hs
 induction e using Ex.Aaj
 rename_i e ih
 intro hn hs
 have hz:=A8 hn
 have hfl:=Jd hz.1
 have hal:=O7 e hs
 refine Ax.body (n:=85) Ai Tryz.func83 rfl rfl rfl fun H=>?_
 refine Ah (Qp (Gd [_,Iq _,Iq _,Iq _,Iq _,Iq _,_,_]) (Qp Nc ?_))
 refine Qe (Am (l:=[.int .i64 0,.int .i64 0,.str []]) (by kernel_rfl)) ?_
 rintro _ _ ⟨b4,rfl,rfl⟩
 refine Qp Ar (Ag (AW.seq (Ah (Qp Oy (Qp Ee ?_)))))
 refine Qp (Al (n:=e.args.length) Ai rfl rfl rfl (by simp)) ?_
 refine Qp A6 (Ag (A3 (fun hc1=>?_) fun hc1=>?_))
 ·
  refine Ah (Qp (Cv [_,Iq _,Iq _,Iq _,Iq _,Iq _,_,_]) (Qp E7 ?_))
  refine Qp (Qc rfl (c70 x hx e hfl)) ?_
  refine Qp (Ci (v:=.agg [Iq _,Iq _,.str _]) rfl rfl) ?_
  refine Qp I6 ?_
  refine Cz 0 [Iq _,Iq _,.str _] (_::_) ?_
  refine Qp Ar (Ag (Du ?_))
  refine ⟨.inr rfl,[.agg [Iq _,Iq _,.str _],Iq _],.cons (.box _ _ _ 0 _ _ _ _ rfl rfl rfl rfl rfl rfl) <| .cons (.tmp _ _ rfl) <| .nil,.cons _ (.refl _),?_⟩
  rw [Jx x e,if_pos (by simpa [List.isEmpty_iff] using hc1)];rfl
 ·
  refine By (Ah (Qp N2 ?_))
  refine AOL.ghost (GS.row (t:=6) 28 3 rfl) ?_
  refine Do (Qp N2 ?_)
  refine AOL.ghost (GS.row (t:=7) 3 1 rfl) ?_
  refine Ag (AW.seq (Ah (Qp Oy (Qp Ee ?_))))
  refine Qp (Al (n:=e.args.length) Ai rfl rfl rfl (by simp)) ?_
  refine Qp A0 (Ag (AW.block ?_))
  refine AW.Aad (fun (p:Nat×List (List AV)×Value×List (List AV)×Value)=>(⟨[(2,.ptr (cX x)),(3,.ptr (cE e)),(4,.val (.pointer (some ⟨b4,0,none⟩))),(6,.row p.2.2.1 3 p.2.1),(7,.row p.2.2.2.2 1 p.2.2.2.1),(23,.sl 8 (e.args.map G7)),(24,.int .i64 e.args.length),(25,.int .i64 (p.1:Int))],.row p.2.2.2.2 p.2.2.2.1.length 3 1 :: .row p.2.2.1 p.2.1.length 28 3 :: .box b4 28 [.int .i64 0,.int .i64 0,.str []]::H,85⟩:St)) (fun (p:Nat×List (List AV)×Value×List (List AV)×Value)=>p.1≤e.args.length∧Aq (fun a=>(Bq x a).2) e.args=Aq (fun a=>(Bq x a).2) (e.args.drop p.1)∧p.2.1=((e.args.take p.1).map (fun a=>(Bq x a).1)).map cV∧p.2.2.2.1=((e.args.take p.1).map (fun a=>(Bq x a).1.kind)).map (fun k=>[AV.int .i64 k])) (fun (p:Nat×List (List AV)×Value×List (List AV)×Value)=>e.args.length-p.1) ((0,[],.slice none 0 0,[],.slice none 0 0)) ?_ (GS.weaken ⟨rfl,rfl,rfl,rfl,rfl,rfl,rfl,rfl,trivial⟩ (.refl _)) ?_
  · exact ⟨Nat.zero_le _,by simp,by simp,by simp⟩
  ·
   rintro p hR
   have hsc:∀c∈p.2.1,Bc c=true:=by rw [hR.2.2.1];exact Fc fun _=>rfl
   have hsc2:∀c∈p.2.2.2.1,Bc c=true:=by rw [hR.2.2.2];exact Fc fun _=>rfl
   refine Ah (Qp Ck (Ag (AW.seq (A3 (fun hc2=>?_) fun hc2=>?_))))
   ·
    obtain ⟨a,ha⟩:=B7 hc2
    have hlt:=Bb ha
    have hm:=List.mem_of_getElem? ha
    refine By (AW.seq (AW.block (Ah ?_)))
    refine Qp (Af (c:=[Iq _,_,Iq _,Iq _,Iq _,Iq _,Iq _,.str _]) Ai rfl rfl rfl rfl rfl rfl (by omega) (F2 ha)) ?_
    refine Qp E7 ?_
    refine Qe (Am (l:=[.int .i64 0,.sl 8 [],.int .i64 0,.int .i64 0,.int .i64 0,.int .i64 0,.int .i64 0,.str []]) (by kernel_rfl)) ?_
    rintro _ _ ⟨b9,rfl,rfl⟩
    refine Cz 0 [Iq _,_,Iq _,Iq _,Iq _,Iq _,Iq _,.str _] (_::_::_::_::_) ?_
    refine AOL.ghost (GS.Aac (t:=9) 0 rfl rfl) ?_
    refine Do (Qp (Cv [_,Iq _,Iq _,Iq _,Iq _,Iq _,_,_]) (Qp E7 ?_))
    refine Qp (Qc rfl (ih a hm (hz.2 a hm) (by have:=G0 hm;omega))) ?_
    refine Qp Nb ?_
    refine Qp (Ci (v:=.agg [Iq _,Iq _,.str _]) rfl rfl) ?_
    refine Qp I6 ?_
    refine Qe (Am (l:=[.int .i64 0,.int .i64 0,.str []]) (by kernel_rfl)) ?_
    rintro _ _ ⟨b10,rfl,rfl⟩
    refine Cz 0 [Iq _,Iq _,.str _] (_::_::_::_::_) ?_
    refine Qp Ar ?_
    refine AOL.ghost (GS.Aac (t:=10) 0 rfl rfl) ?_
    refine Ag (AW.seq (Ah (Qp A0 (Qp Cr (Ag (A3 (fun hc3=>?_) fun hc3=>?_))))))
    ·
     refine Ah (Qp (Fr [Iq _,Iq _,.str _]) (Qp A0 ?_))
     refine Cz 2 [Iq _,Iq _,.str _] (_::_::_::_) ?_
     refine Qp Ar (Ag (Du (A7 (Aj (Aj (A7 (Aj ?_)))))))
     refine ⟨.inr rfl,[.agg [Iq _,Iq _,.str _],Iq _],.cons (.box _ _ _ 2 _ _ _ _ rfl rfl rfl rfl rfl rfl) <| .cons (.tmp _ _ rfl) <| .nil,.cons _ (.cons _ (.cons _ (.refl _))),?_⟩
     have hne:¬e.args.isEmpty=true:=by simpa [List.isEmpty_iff] using hc1
     have hfe:Aq (fun a=>(Bq x a).2) e.args=(Bq x a).2:=by rw [hR.2.1,A4 ha,Aq,if_pos hc3]
     rw [Jx x e,if_neg hne,hfe,if_pos hc3];rfl
    ·
     refine By ?_
     refine AW.draw mixed (fun _=>True) trivial (by kernel_rfl) ?_
     refine Qn 0 rfl (Bk (v:=.row _ _ _) rfl) ?_
     refine Qn 1 rfl (Cv [Iq _,Iq _,.str _]) ?_
     refine Qn 2 rfl (A2 (es:=[[Iq _,Iq _,.str _]]) Ai rfl rfl rfl rfl rfl rfl rfl rfl rfl) ?_
     refine Qn 4 rfl (Bk (v:=.row _ _ _) rfl) ?_
     refine Qn 5 rfl J2 (Qn 6 rfl Bp ?_)
     refine Qn 7 rfl (A2 (es:=[[Iq _]]) Ai rfl rfl rfl rfl rfl rfl rfl rfl rfl) ?_
     refine Jb.eff _ _ 3 _ _ rfl (by kernel_rfl) rfl rfl (Dh (k:=1) Ai rfl rfl rfl rfl rfl rfl rfl rfl (G5 rfl) (hsc) (by simp [hR.2.2.1];omega) (by simp [hR.2.2.1,maxLen];omega)) (fun _ _ _=>trivial) ?_
     rintro _ _ ⟨v42,rfl,rfl⟩
     refine Jb.eff _ _ 8 _ _ rfl (by kernel_rfl) rfl rfl (Dh (k:=0) Ai rfl rfl rfl rfl rfl rfl rfl rfl (G5 rfl) (hsc2) (by simp [hR.2.2.2];omega) (by simp [hR.2.2.2,maxLen];omega)) (fun _ _ _=>trivial) ?_
     rintro _ _ ⟨v47,rfl,rfl⟩
     refine Qn 9 rfl (Da (v:=.row _ _ _) rfl) ?_
     refine Qn 10 rfl (Da (v:=.row _ _ _) rfl) ?_
     refine Jb.done _ _ (by kernel_rfl) ?_
     refine Bv (Ae (AW.region (Qp F7 (Qp A0 (Ag ?_)))))
     refine ⟨(p.1+1,p.2.1 ++ [cV (Bq x a).1],v42,p.2.2.2.1 ++ [[.int .i64 (Bq x a).1.kind]],v47),?_,?_,GS.weaken ⟨rfl,rfl,rfl,rfl,rfl,rfl,rfl,rfl,trivial⟩ (.refl _)⟩
     · simp only;exact ⟨hlt,by rw [hR.2.1,A4 ha,Aq,if_neg (by simpa using hc3)],by rw [C9 ha,hR.2.2.1];simp,by rw [C9 ha,hR.2.2.2];simp⟩
     · first | omega | (simp only;omega)
   ·
    have hte:=C5 hc2
    have hd:=C8 hc2
    have hf:Aq (fun a=>(Bq x a).2) e.args=0:=by rw [hR.2.1,hd];rfl
    obtain ⟨k,es,rv,es2,rv2⟩:=p
    simp only at hR hte
    have h6:es=(e.args.map (fun a=>(Bq x a).1)).map cV:=by rw [hR.2.2.1,hte]
    have h7:es2=(e.args.map (fun a=>(Bq x a).1.kind)).map (fun k=>[AV.int .i64 k]):=by rw [hR.2.2.2,hte]
    subst h6
    subst h7
    refine AW.exit ?_
    refine A5 (A5 (Bx (Ae (AW.seq (Ah (Qp K9 (Qp Bp ?_)))))))
    refine AOL.ghost (GS.unrow 7 rfl) ?_
    refine AOL.ghost (GS.unrow 6 rfl) ?_
    refine Qp Dt ?_
    refine Qp (Qc rfl (c71 e.op (e.args.map (fun a=>(Bq x a).1.kind)))) ?_
    refine Qp Ar (Do (Qp A0 (Qp Cr (Ag (A3 (fun hc4=>?_) fun hc4=>?_)))))
    ·
     refine Ah (Qp (Fr [Iq _,Iq _,.str _]) (Qp A0 ?_))
     refine Cz 2 [Iq _,Iq _,.str _] (_::_::_::_) ?_
     refine Qp Ar (Ag (Du ?_))
     refine ⟨.inr rfl,[.agg [Iq _,Iq _,.str _],Iq _],.cons (.box _ _ _ 2 _ _ _ _ rfl rfl rfl rfl rfl rfl) <| .cons (.tmp _ _ rfl) <| .nil,.cons _ (.cons _ (.cons _ (.refl _))),?_⟩
     have hne:¬e.args.isEmpty=true:=by simpa [List.isEmpty_iff] using hc1
     have hk:(e.args.map (fun a=>(Bq x a).1)).map (·.kind)=e.args.map (fun a=>(Bq x a).1.kind):=by simp
     rw [Jx x e,if_neg hne,hf,if_neg (by decide),J7,hk,if_pos hc4];rfl
    ·
     have hsh:=oQ hz.1 hc1
     have hl0:(e.args.map (fun a=>(Bq x a).1)).length≠0:=by simp;intro h0;rw [h0] at hc1;simp at hc1
     have hl4:(e.args.map (fun a=>(Bq x a).1)).length≤1048576:=by simpa using hal
     refine (xM hl0).elim fun v hv=>hv.elim fun w hw=>?_
     have hv0:=hw.1
     have hvl:=hw.2.1
     have hvd:=hw.2.2
     refine By (AW.seq (Ah (Qp K9 (Qp Bp (Qp A6 (Ag (A3 (fun hc5=>?_) fun hc5=>?_)))))))
     ·
      have h9:e.op=9:=by simpa using hc5
      have hl2:(e.args.map (fun a=>(Bq x a).1)).length=2:=by simp;omega
      have hv1:(e.args.map (fun a=>(Bq x a).1))[1]? = some w:=by rw [←hvl,hl2];rfl
      refine AW.seq ?_
      refine AW.draw mixed (fun _=>True) trivial (by kernel_rfl) ?_
      refine Qn 0 rfl Dt ?_
      refine Qn 1 rfl (Af (c:=[Iq _,Iq _,.str _]) Ai rfl rfl rfl rfl rfl rfl (by omega) (Bo hv0)) ?_
      refine Qn 2 rfl (Cv [Iq _,Iq _,.str _]) (Qn 3 rfl Dt ?_)
      refine Qn 4 rfl (Af (c:=[Iq _,Iq _,.str _]) Ai rfl rfl rfl rfl rfl rfl (by omega) (Bo hv1)) ?_
      refine Qn 5 rfl (Cv [Iq _,Iq _,.str _]) ?_
      refine Qn 6 rfl (Ow Ai rfl rfl rfl rfl rfl) ?_
      refine Qn 7 rfl (Qc rfl (c42 _)) ?_
      refine Jb.eff _ _ 8 _ _ rfl (by kernel_rfl) rfl rfl (Df (k:=2) (v:=.agg _) (cs':=[Iq _,Iq _,.str _]) (H2:=_::_::_::_) Ai rfl rfl rfl rfl (rfl) rfl rfl rfl rfl) (fun _ _ _=>trivial) ?_
      rintro _ _ ⟨rfl,rfl⟩
      refine Qn 9 rfl Ar ?_
      refine Jb.done _ _ (by kernel_rfl) ?_
      refine Ae (Du ?_)
      refine ⟨.inr rfl,[.agg [Iq _,Iq _,.str _],Iq _],.cons (.box _ _ _ 2 _ _ _ _ rfl rfl rfl rfl rfl rfl) <| .cons (.tmp _ _ rfl) <| .nil,.cons _ (.cons _ (.cons _ (.refl _))),?_⟩
      have hne:¬e.args.isEmpty=true:=by simpa [List.isEmpty_iff] using hc1
      have hk:(e.args.map (fun a=>(Bq x a).1)).map (·.kind)=e.args.map (fun a=>(Bq x a).1.kind):=by simp
      rw [Jx x e,if_neg hne,hf,if_neg (by decide),J7,hk,iN hc4,(hvd v0).1]
      first
      | (rw [if_pos hc5,hv1];simp only [Bool.and_true];first | done | rfl)
      | (rw [iN hc5,(hvd v0).2] <;> rfl)
      | skip
     ·
      have h9:e.op≠9:=by simpa using hc5
      refine (yX e.op (by omega)).elim fun f hf1=>hf1.elim fun cap hf2=>?_
      have hmg:=hf2.1
      have hfn:=hf2.2.1
      have hap:=hf2.2.2
      refine By (AW.seq ?_)
      refine AW.draw mixed (fun _=>True) trivial (by kernel_rfl) ?_
      refine Qn 0 rfl (Qf [_]) ?_
      refine Qn 1 rfl (D3 (c:=.mapv _) Ai rfl rfl rfl) ?_
      refine Qn 2 rfl K9 (Qn 3 rfl Bp ?_)
      refine Qn 4 rfl (vA Ai rfl rfl rfl rfl rfl rfl (hmg)) ?_
      refine Qn 5 rfl Dt ?_
      refine Qn 6 rfl (Af (c:=[Iq _,Iq _,.str _]) Ai rfl rfl rfl rfl rfl rfl (by omega) (Bo hv0)) ?_
      refine Qn 7 rfl V1 (Qn 8 rfl Bp (Qn 9 rfl Dt (Qn 10 rfl Dt ?_)))
      refine Qn 11 rfl (Al (n:=(e.args.map (fun a=>(Bq x a).1)).length) Ai rfl rfl rfl (by simp)) ?_
      refine Qn 12 rfl (Yz rfl rfl rfl (by constructor <;> omega)) ?_
      refine Qn 13 rfl (Af (c:=[Iq _,Iq _,.str _]) Ai rfl rfl rfl rfl rfl rfl (by simp at hl0 ⊢;omega) (Bo hvl)) ?_
      refine Qn 14 rfl V1 (Qn 15 rfl Bp ?_)
      refine Qn 16 rfl (Ec hfn rfl rfl rfl (hap _ _)) ?_
      refine Jb.eff _ _ 17 _ _ rfl (by kernel_rfl) rfl rfl (Df (k:=2) (v:=.agg _) (cs':=[Iq _,Iq _,.str _]) (H2:=_::_::_::_) Ai rfl rfl rfl rfl (rfl) rfl rfl rfl rfl) (fun _ _ _=>trivial) ?_
      rintro _ _ ⟨rfl,rfl⟩
      refine Qn 18 rfl Ar ?_
      refine Jb.done _ _ (by kernel_rfl) ?_
      refine Ae (AW.ret ?_)
      refine ⟨.inr rfl,[.agg [Iq _,Iq _,.str _],Iq _],.cons (.box _ _ _ 2 _ _ _ _ rfl rfl rfl rfl rfl rfl) <| .cons (.tmp _ _ rfl) <| .nil,.cons _ (.cons _ (.cons _ (.refl _))),?_⟩
      have hne:¬e.args.isEmpty=true:=by simpa [List.isEmpty_iff] using hc1
      have hk:(e.args.map (fun a=>(Bq x a).1)).map (·.kind)=e.args.map (fun a=>(Bq x a).1.kind):=by simp
      rw [Jx x e,if_neg hne,hf,if_neg (by decide),J7,hk,iN hc4,(hvd v0).1]
      first
      | (rw [if_pos hc5,hv1];simp only [Bool.and_true];first | done | rfl)
      | (rw [iN hc5,(hvd v0).2] <;> rfl)
      | skip

set_option maxHeartbeats 400000
set_option maxRecDepth 20000

theorem Nz {e:Ex}(h:B4 e=0):Dc e=0:=by
 unfold B4 at h
 split at h
 · cases h
 split at h
 · cases h
 exact h

theorem c14 (vars:List (List Ev))(own:Int)(ev:Ev)(hx:∀l∈vars,l.length≤1048576)(e:Ex)(hs:At e≤1048576):Ax Tryz.prog 47 [.agg (cE e),.agg (cEnv vars),.int .i64 own,.agg (Rz ev)] (.tuple [.agg (cV (V6 ⟨vars,own,ev⟩ e).1),.int .i64 (V6 ⟨vars,own,ev⟩ e).2]):=by
 refine Ax.body (n:=26) Ai Tryz.func47 rfl rfl rfl fun H=>?_
 refine Ah (Qp Nc (Qp (Gd [_]) (Qp (Gd [Iq _,Iq _,Iq _,Iq _,_]) ?_)))
 refine Qe (Am (l:=[.int .i64 0,.int .i64 0,.str []]) (by kernel_rfl)) ?_
 rintro _ _ ⟨b8,rfl,rfl⟩
 refine Qp Ar (Ag (AW.seq (Ah (Qp E7 ?_))))
 refine Qp (Qc rfl (c21 e hs)) ?_
 refine Qp Ar (Do (Qp A0 (Qp Cr (Ag (A3 (fun hc1=>?_) fun hc1=>?_)))))
 ·
  refine Ah (Qp (Fr [Iq _,Iq _,.str _]) (Qp A0 ?_))
  refine Cz 0 [Iq _,Iq _,.str _] (_::_) ?_
  refine Qp Ar (Ag (Du ?_))
  refine ⟨.inr rfl,[.agg [Iq _,Iq _,.str _],Iq _],.cons (.box _ _ _ 0 _ _ _ _ rfl rfl rfl rfl rfl rfl) <| .cons (.tmp _ _ rfl) <| .nil,.cons _ (.refl _),?_⟩
  simp only [Ad,V6]
  (first | rw [if_pos hc1] | skip)
  first | done | rfl
 ·
  refine By (AW.seq ?_)
  refine AW.draw mixed (fun _=>True) trivial (by kernel_rfl) ?_
  refine Qn 0 rfl (Cv [_]) (Qn 1 rfl A0 (Qn 2 rfl (Cv [Iq _,Iq _,Iq _,Iq _,_]) ?_))
  refine Qn 3 rfl (Qc rfl (c39)) ?_
  refine Qn 4 rfl (Fr [_,Iq _,Iq _,Iq _,Iq _,Iq _,_,_]) (Qn 5 rfl E7 ?_)
  refine Qn 6 rfl (Qc rfl (c40 ⟨vars,own,ev⟩ hx e (Nz (by simpa using hc1)) hs)) ?_
  refine Qn 7 rfl (Ci (v:=.agg [Iq _,Iq _,.str _]) rfl rfl) ?_
  refine Qn 8 rfl I6 ?_
  refine Jb.eff _ _ 9 _ _ rfl (by kernel_rfl) rfl rfl (Df (k:=0) (v:=.agg _) (cs':=[Iq _,Iq _,.str _]) (H2:=_::_) Ai rfl rfl rfl rfl (rfl) rfl rfl rfl rfl) (fun _ _ _=>trivial) ?_
  rintro _ _ ⟨rfl,rfl⟩
  refine Qn 10 rfl Ar ?_
  refine Jb.done _ _ (by kernel_rfl) ?_
  refine Ae (AW.ret ?_)
  refine ⟨.inr rfl,[.agg [Iq _,Iq _,.str _],Iq _],.cons (.box _ _ _ 0 _ _ _ _ rfl rfl rfl rfl rfl rfl) <| .cons (.tmp _ _ rfl) <| .nil,.cons _ (.refl _),?_⟩
  simp only [Ad,V6]
  (first | rw [iN hc1] | skip)
  first | done | rfl
theorem c16 (vars:List (List Ev))(own:Int)(ev:Ev)(hx:∀l∈vars,l.length≤1048576)(e:Ex)(hs:At e≤1048576):Ax Tryz.prog 18 [.agg (cE e),.agg (cEnv vars),.int .i64 own,.agg (Rz ev)] (.bool (Li ⟨vars,own,ev⟩ e)):=by
 refine Ax.body (n:=26) Ai Tryz.func18 rfl rfl rfl fun H=>?_
 refine Ah (Qp Nc (Qp (Gd [_]) (Qp (Gd [Iq _,Iq _,Iq _,Iq _,_]) (Qp Bm (Do (Qp E7 (Qp (Cv [_]) (Qp A0 (Qp (Cv [Iq _,Iq _,Iq _,Iq _,_]) ?_)))))))))
 refine Qp (Qc rfl (c14 vars own ev hx e hs)) ?_
 refine Qp Nb ?_
 refine Qp (Ci (v:=.agg [Iq _,Iq _,.str _]) rfl rfl) ?_
 refine Qp I6 ?_
 refine Qe (Am (l:=[.int .i64 0,.int .i64 0,.str []]) (by kernel_rfl)) ?_
 rintro _ _ ⟨b9,rfl,rfl⟩
 refine Cz 0 [Iq _,Iq _,.str _] (_::_) ?_
 refine Qp Ar ?_
 refine AOL.ghost (GS.Aac (t:=9) 0 rfl rfl) ?_
 refine Ag (AW.seq ?_)
 refine AW.draw mixed (fun _=>True) trivial (by kernel_rfl) ?_
 refine Qn 0 rfl A0 (Qn 1 rfl A6 (Qn 2 rfl Bu (Qo 3 rfl [] Qw (Cv [Iq _,Iq _,.str _]) ?_)))
 refine Qo 4 rfl [] Qw (Qc rfl (c42 true)) ?_
 refine Jb.pure _ _ 5 _ _ rfl (by kernel_rfl) (by kernel_rfl) rfl (.opt _ (.bool _) [(22,_),(23,_)] rfl (oE.all ⟨Ent.Aab _ _,Ent.Aab _ _,trivial⟩) (fun hG=>Ow Ai rfl rfl rfl rfl rfl) rfl) ?_
 refine Qn 6 rfl Gg (Qn 7 rfl Bm ?_)
 refine Jb.done _ _ (by kernel_rfl) ?_
 refine Ae (AW.ret ?_)
 refine Qr (.bool _) ?_
 simp only [Ad,Li]
 simp only [Bool.and_true]

end Go.Proofs.YtjedflcpjlgokaaGreatDoor
