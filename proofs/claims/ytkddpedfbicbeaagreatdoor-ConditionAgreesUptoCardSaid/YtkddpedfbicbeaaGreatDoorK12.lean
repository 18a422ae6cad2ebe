/-
  Several texts in one: W9, W10. No condition.
-/
import Derived.Test.YtkddpedfbicbeaaGreatDoorAz
import Derived.Test.YtkddpedfbicbeaaGreatDoorK11
import Derived.Test.YtkddpedfbicbeaaGreatDoorK02
import Derived.KernelRfl
import Derived.Test.YtkddpedfbicbeaaGreatDoorW4
set_option linter.unusedVariables false
set_option linter.unusedSimpArgs false
namespace Go.Proofs.YtkddpedfbicbeaaGreatDoor
open Go Go.Aw
set_option maxHeartbeats 1600000
set_option maxRecDepth 20000

theorem ops_get (op:Int)(h:5≤op∧op≤12∧op≠9):∃f cap,cJ OPS op=some (.fn (.func f) [] cap)∧vJ Tryz.prog f=true∧∀a b,Ar Tryz.prog f (.int .i64 a :: .int .i64 b::cap) (.agg (cV (Gv op a b))):=by
 have h2:op=5∨op=6∨op=7∨op=8∨op=10∨op=11∨op=12:=by omega
 rcases h2 with rfl | rfl | rfl | rfl | rfl | rfl | rfl
 · exact ⟨119,_,rfl,by kernel_rfl,c63⟩
 · exact ⟨120,_,rfl,by kernel_rfl,c64⟩
 · exact ⟨121,_,rfl,by kernel_rfl,c65⟩
 · exact ⟨122,_,rfl,by kernel_rfl,c66⟩
 · exact ⟨123,_,rfl,by kernel_rfl,c67⟩
 · exact ⟨124,_,rfl,by kernel_rfl,c68⟩
 · exact ⟨125,_,rfl,by kernel_rfl,c69⟩

theorem Aah {α:Type}{l:List α}(h:l.length≠0):∃a b,l[0]? = some a∧l[((l.length:Int)-1).toNat]? = some b∧∀d,l.headD d=a∧l.getLastD d=b:=by
 have e:((l.length:Int)-1).toNat=l.length-1:=by omega
 rw [e]
 refine ⟨l[0],l[l.length-1],List.getElem?_eq_getElem (by omega),List.getElem?_eq_getElem (by omega),fun d=>?_⟩
 cases l with
 | nil=>simp at h
 | cons x r=>simp [List.getLastD_eq_getLast?,List.getLast?_eq_getElem?]

theorem c40 (x:Evr)(hx:x.ok)(e:Ex)(hn:C0 e=0)(hs:Av e≤1048576):Ar Tryz.prog 77 [.agg (cX x),.agg (cE e)] (.tuple [.agg (cV (Bw x e).1),.int .i64 (Bw x e).2]):=by
 revert hn hs
 induction e using Ex.Aa0
 rename_i e ih
 intro hn hs
 have hz:=Ba hn
 have hfl:=Jx hz.1
 have hal:=L5 e hs
 refine Ar.body (n:=85) Ai Tryz.func77 rfl rfl rfl fun H=>?_
 refine Ah (Qp (Fx [_,Iq _,Iq _,Iq _,Iq _,Iq _,_,_]) (Qp K3 ?_))
 refine Qe (Aj (l:=[.int .i64 0,.int .i64 0,.str []]) (by kernel_rfl)) ?_
 rintro _ _ ⟨b4,rfl,rfl⟩
 refine Qp Ap (Ag (AW.seq (Ah (Qp Mr (Qp Dg ?_)))))
 refine Qp (Ak (n:=e.args.length) Ai rfl rfl rfl (by simp)) ?_
 refine Qp A6 (Ag (A2 (fun hc1=>?_) fun hc1=>?_))
 ·
  refine Ah (Qp (Cd [_,Iq _,Iq _,Iq _,Iq _,Iq _,_,_]) (Qp Dh ?_))
  refine Qp (Qc rfl (c70 x hx e hfl)) ?_
  refine Qp (Ch (v:=.agg [Iq _,Iq _,.str _]) rfl rfl) ?_
  refine Qp Ih ?_
  refine Cq 0 [Iq _,Iq _,.str _] (_::_) ?_
  refine Qp Ap (Ag (Dq ?_))
  refine ⟨.inr rfl,[.agg [Iq _,Iq _,.str _],Iq _],.cons (.box _ _ _ 0 _ _ _ _ rfl rfl rfl rfl rfl rfl) <| .cons (.tmp _ _ rfl) <| .nil,.cons _ (.refl _),?_⟩
  rw [Ki x e,if_pos (by simpa [List.isEmpty_iff] using hc1)];rfl
 ·
  refine Bv (Ah (Qp Oc ?_))
  refine AOL.ghost (GS.row (t:=6) 28 3 rfl) ?_
  refine Db (Qp Oc ?_)
  refine AOL.ghost (GS.row (t:=7) 3 1 rfl) ?_
  refine Ag (AW.seq (Ah (Qp Mr (Qp Dg ?_))))
  refine Qp (Ak (n:=e.args.length) Ai rfl rfl rfl (by simp)) ?_
  refine Qp Az (Ag (AW.block ?_))
  refine AW.Aau (fun (p:Nat×List (List AV)×Value×List (List AV)×Value)=>(⟨[(2,.ptr (cX x)),(3,.ptr (cE e)),(4,.val (.pointer (some ⟨b4,0,none⟩))),(6,.row p.2.2.1 3 p.2.1),(7,.row p.2.2.2.2 1 p.2.2.2.1),(23,.sl 8 (e.args.map Gs)),(24,.int .i64 e.args.length),(25,.int .i64 (p.1:Int))],.row p.2.2.2.2 p.2.2.2.1.length 3 1 :: .row p.2.2.1 p.2.1.length 28 3 :: .box b4 28 [.int .i64 0,.int .i64 0,.str []]::H,85⟩:St)) (fun (p:Nat×List (List AV)×Value×List (List AV)×Value)=>p.1≤e.args.length∧Aq (fun a=>(Bw x a).2) e.args=Aq (fun a=>(Bw x a).2) (e.args.drop p.1)∧p.2.1=((e.args.take p.1).map (fun a=>(Bw x a).1)).map cV∧p.2.2.2.1=((e.args.take p.1).map (fun a=>(Bw x a).1.kind)).map (fun k=>[AV.int .i64 k])) (fun (p:Nat×List (List AV)×Value×List (List AV)×Value)=>e.args.length-p.1) ((0,[],.slice none 0 0,[],.slice none 0 0)) ?_ (GS.weaken ⟨rfl,rfl,rfl,rfl,rfl,rfl,rfl,rfl,trivial⟩ (.refl _)) ?_
  · exact ⟨Nat.zero_le _,by simp,by simp,by simp⟩
  ·
   rintro p hR
   have hsc:∀c∈p.2.1,Bf c=true:=by rw [hR.2.2.1];exact Ff fun _=>rfl
   have hsc2:∀c∈p.2.2.2.1,Bf c=true:=by rw [hR.2.2.2];exact Ff fun _=>rfl
   refine Ah (Qp Cf (Ag (AW.seq (A2 (fun hc2=>?_) fun hc2=>?_))))
   ·
    obtain ⟨a,ha⟩:=B1 hc2
    have hlt:=A8 ha
    have hm:=List.mem_of_getElem? ha
    refine Bv (AW.seq (AW.block (Ah ?_)))
    refine Qp (Af (c:=[Iq _,_,Iq _,Iq _,Iq _,Iq _,Iq _,.str _]) Ai rfl rfl rfl rfl rfl rfl (by omega) (E0 ha)) ?_
    refine Qp Dh ?_
    refine Qe (Aj (l:=[.int .i64 0,.sl 8 [],.int .i64 0,.int .i64 0,.int .i64 0,.int .i64 0,.int .i64 0,.str []]) (by kernel_rfl)) ?_
    rintro _ _ ⟨b9,rfl,rfl⟩
    refine Cq 0 [Iq _,_,Iq _,Iq _,Iq _,Iq _,Iq _,.str _] (_::_::_::_::_) ?_
    refine AOL.ghost (GS.Aat (t:=9) 0 rfl rfl) ?_
    refine Db (Qp (Cd [_,Iq _,Iq _,Iq _,Iq _,Iq _,_,_]) (Qp Dh ?_))
    refine Qp (Qc rfl (ih a hm (hz.2 a hm) (by have:=F0 hm;omega))) ?_
    refine Qp Lv ?_
    refine Qp (Ch (v:=.agg [Iq _,Iq _,.str _]) rfl rfl) ?_
    refine Qp Ih ?_
    refine Qe (Aj (l:=[.int .i64 0,.int .i64 0,.str []]) (by kernel_rfl)) ?_
    rintro _ _ ⟨b10,rfl,rfl⟩
    refine Cq 0 [Iq _,Iq _,.str _] (_::_::_::_::_) ?_
    refine Qp Ap ?_
    refine AOL.ghost (GS.Aat (t:=10) 0 rfl rfl) ?_
    refine Ag (AW.seq (Ah (Qp Az (Qp Ci (Ag (A2 (fun hc3=>?_) fun hc3=>?_))))))
    ·
     refine Ah (Qp (El [Iq _,Iq _,.str _]) (Qp Az ?_))
     refine Cq 2 [Iq _,Iq _,.str _] (_::_::_::_) ?_
     refine Qp Ap (Ag (Dq (A9 (Al (Al (A9 (Al ?_)))))))
     refine ⟨.inr rfl,[.agg [Iq _,Iq _,.str _],Iq _],.cons (.box _ _ _ 2 _ _ _ _ rfl rfl rfl rfl rfl rfl) <| .cons (.tmp _ _ rfl) <| .nil,.cons _ (.cons _ (.cons _ (.refl _))),?_⟩
     have hne:¬e.args.isEmpty=true:=by simpa [List.isEmpty_iff] using hc1
     have hfe:Aq (fun a=>(Bw x a).2) e.args=(Bw x a).2:=by rw [hR.2.1,A5 ha,Aq,if_pos hc3]
     rw [Ki x e,if_neg hne,hfe,if_pos hc3];rfl
    ·
     refine Bv ?_
     refine AW.draw mixed (fun _=>True) trivial (by kernel_rfl) ?_
     refine Qn 0 rfl (Bk (v:=.row _ _ _) rfl) ?_
     refine Qn 1 rfl (Cd [Iq _,Iq _,.str _]) ?_
     refine Qn 2 rfl (A0 (es:=[[Iq _,Iq _,.str _]]) Ai rfl rfl rfl rfl rfl rfl rfl rfl rfl) ?_
     refine Qn 4 rfl (Bk (v:=.row _ _ _) rfl) ?_
     refine Qn 5 rfl J2 (Qn 6 rfl Br ?_)
     refine Qn 7 rfl (A0 (es:=[[Iq _]]) Ai rfl rfl rfl rfl rfl rfl rfl rfl rfl) ?_
     refine Js.eff _ _ 3 _ _ rfl (by kernel_rfl) rfl rfl (Dj (k:=1) Ai rfl rfl rfl rfl rfl rfl rfl rfl (G2 rfl) (hsc) (by simp [hR.2.2.1];omega) (by simp [hR.2.2.1,maxLen];omega)) (fun _ _ _=>trivial) ?_
     rintro _ _ ⟨v42,rfl,rfl⟩
     refine Js.eff _ _ 8 _ _ rfl (by kernel_rfl) rfl rfl (Dj (k:=0) Ai rfl rfl rfl rfl rfl rfl rfl rfl (G2 rfl) (hsc2) (by simp [hR.2.2.2];omega) (by simp [hR.2.2.2,maxLen];omega)) (fun _ _ _=>trivial) ?_
     rintro _ _ ⟨v47,rfl,rfl⟩
     refine Qn 9 rfl (C8 (v:=.row _ _ _) rfl) ?_
     refine Qn 10 rfl (C8 (v:=.row _ _ _) rfl) ?_
     refine Js.done _ _ (by kernel_rfl) ?_
     refine Bp (Ae (AW.region (Qp Fu (Qp Az (Ag ?_)))))
     refine ⟨(p.1+1,p.2.1 ++ [cV (Bw x a).1],v42,p.2.2.2.1 ++ [[.int .i64 (Bw x a).1.kind]],v47),?_,?_,GS.weaken ⟨rfl,rfl,rfl,rfl,rfl,rfl,rfl,rfl,trivial⟩ (.refl _)⟩
     · simp only;exact ⟨hlt,by rw [hR.2.1,A5 ha,Aq,if_neg (by simpa using hc3)],by rw [Cm ha,hR.2.2.1];simp,by rw [Cm ha,hR.2.2.2];simp⟩
     · first | omega | (simp only;omega)
   ·
    have hte:=Cv hc2
    have hd:=Df hc2
    have hf:Aq (fun a=>(Bw x a).2) e.args=0:=by rw [hR.2.1,hd];rfl
    obtain ⟨k,es,rv,es2,rv2⟩:=p
    simp only at hR hte
    have h6:es=(e.args.map (fun a=>(Bw x a).1)).map cV:=by rw [hR.2.2.1,hte]
    have h7:es2=(e.args.map (fun a=>(Bw x a).1.kind)).map (fun k=>[AV.int .i64 k]):=by rw [hR.2.2.2,hte]
    subst h6
    subst h7
    refine AW.exit ?_
    refine A3 (A3 (Bq (Ae (AW.seq (Ah (Qp Kw (Qp Br ?_)))))))
    refine AOL.ghost (GS.unrow 7 rfl) ?_
    refine AOL.ghost (GS.unrow 6 rfl) ?_
    refine Qp C5 ?_
    refine Qp (Qc rfl (c71 e.op (e.args.map (fun a=>(Bw x a).1.kind)))) ?_
    refine Qp Ap (Db (Qp Az (Qp Ci (Ag (A2 (fun hc4=>?_) fun hc4=>?_)))))
    ·
     refine Ah (Qp (El [Iq _,Iq _,.str _]) (Qp Az ?_))
     refine Cq 2 [Iq _,Iq _,.str _] (_::_::_::_) ?_
     refine Qp Ap (Ag (Dq ?_))
     refine ⟨.inr rfl,[.agg [Iq _,Iq _,.str _],Iq _],.cons (.box _ _ _ 2 _ _ _ _ rfl rfl rfl rfl rfl rfl) <| .cons (.tmp _ _ rfl) <| .nil,.cons _ (.cons _ (.cons _ (.refl _))),?_⟩
     have hne:¬e.args.isEmpty=true:=by simpa [List.isEmpty_iff] using hc1
     have hk:(e.args.map (fun a=>(Bw x a).1)).map (·.kind)=e.args.map (fun a=>(Bw x a).1.kind):=by simp
     rw [Ki x e,if_neg hne,hf,if_neg (by decide),Ku,hk,if_pos hc4];rfl
    ·
     have hsh:=qX hz.1 hc1
     have hl0:(e.args.map (fun a=>(Bw x a).1)).length≠0:=by simp;intro h0;rw [h0] at hc1;simp at hc1
     have hl4:(e.args.map (fun a=>(Bw x a).1)).length≤1048576:=by simpa using hal
     refine (Aah hl0).elim fun v hv=>hv.elim fun w hw=>?_
     have hv0:=hw.1
     have hvl:=hw.2.1
     have hvd:=hw.2.2
     refine Bv (AW.seq (Ah (Qp Kw (Qp Br (Qp A6 (Ag (A2 (fun hc5=>?_) fun hc5=>?_)))))))
     ·
      have h9:e.op=9:=by simpa using hc5
      have hl2:(e.args.map (fun a=>(Bw x a).1)).length=2:=by simp;omega
      have hv1:(e.args.map (fun a=>(Bw x a).1))[1]? = some w:=by rw [←hvl,hl2];rfl
      refine AW.seq ?_
      refine AW.draw mixed (fun _=>True) trivial (by kernel_rfl) ?_
      refine Qn 0 rfl C5 ?_
      refine Qn 1 rfl (Af (c:=[Iq _,Iq _,.str _]) Ai rfl rfl rfl rfl rfl rfl (by omega) (Bg hv0)) ?_
      refine Qn 2 rfl (Cd [Iq _,Iq _,.str _]) (Qn 3 rfl C5 ?_)
      refine Qn 4 rfl (Af (c:=[Iq _,Iq _,.str _]) Ai rfl rfl rfl rfl rfl rfl (by omega) (Bg hv1)) ?_
      refine Qn 5 rfl (Cd [Iq _,Iq _,.str _]) ?_
      refine Qn 6 rfl (P1 Ai rfl rfl rfl rfl rfl) ?_
      refine Qn 7 rfl (Qc rfl (c42 _)) ?_
      refine Js.eff _ _ 8 _ _ rfl (by kernel_rfl) rfl rfl (C6 (k:=2) (v:=.agg _) (cs':=[Iq _,Iq _,.str _]) (H2:=_::_::_::_) Ai rfl rfl rfl rfl (rfl) rfl rfl rfl rfl) (fun _ _ _=>trivial) ?_
      rintro _ _ ⟨rfl,rfl⟩
      refine Qn 9 rfl Ap ?_
      refine Js.done _ _ (by kernel_rfl) ?_
      refine Ae (Dq ?_)
      refine ⟨.inr rfl,[.agg [Iq _,Iq _,.str _],Iq _],.cons (.box _ _ _ 2 _ _ _ _ rfl rfl rfl rfl rfl rfl) <| .cons (.tmp _ _ rfl) <| .nil,.cons _ (.cons _ (.cons _ (.refl _))),?_⟩
      have hne:¬e.args.isEmpty=true:=by simpa [List.isEmpty_iff] using hc1
      have hk:(e.args.map (fun a=>(Bw x a).1)).map (·.kind)=e.args.map (fun a=>(Bw x a).1.kind):=by simp
      rw [Ki x e,if_neg hne,hf,if_neg (by decide),Ku,hk,iN hc4,(hvd v0).1]
      first
      | (rw [if_pos hc5,hv1];simp only [Bool.and_true];first | done | rfl)
      | (rw [iN hc5,(hvd v0).2] <;> rfl)
      | skip
     ·
      have h9:e.op≠9:=by simpa using hc5
      refine (ops_get e.op (by omega)).elim fun f hf1=>hf1.elim fun cap hf2=>?_
      have hmg:=hf2.1
      have hfn:=hf2.2.1
      have hap:=hf2.2.2
      refine Bv (AW.seq ?_)
      refine AW.draw mixed (fun _=>True) trivial (by kernel_rfl) ?_
      refine Qn 0 rfl (Qf [_]) ?_
      refine Qn 1 rfl (D9 (c:=.mapv _) Ai rfl rfl rfl) ?_
      refine Qn 2 rfl Kw (Qn 3 rfl Br ?_)
      refine Qn 4 rfl (wB Ai rfl rfl rfl rfl rfl rfl (hmg)) ?_
      refine Qn 5 rfl C5 ?_
      refine Qn 6 rfl (Af (c:=[Iq _,Iq _,.str _]) Ai rfl rfl rfl rfl rfl rfl (by omega) (Bg hv0)) ?_
      refine Qn 7 rfl Ys (Qn 8 rfl Br (Qn 9 rfl C5 (Qn 10 rfl C5 ?_)))
      refine Qn 11 rfl (Ak (n:=(e.args.map (fun a=>(Bw x a).1)).length) Ai rfl rfl rfl (by simp)) ?_
      refine Qn 12 rfl (Z9 rfl rfl rfl (by constructor <;> omega)) ?_
      refine Qn 13 rfl (Af (c:=[Iq _,Iq _,.str _]) Ai rfl rfl rfl rfl rfl rfl (by simp at hl0 ⊢;omega) (Bg hvl)) ?_
      refine Qn 14 rfl Ys (Qn 15 rfl Br ?_)
      refine Qn 16 rfl (D4 hfn rfl rfl rfl (hap _ _)) ?_
      refine Js.eff _ _ 17 _ _ rfl (by kernel_rfl) rfl rfl (C6 (k:=2) (v:=.agg _) (cs':=[Iq _,Iq _,.str _]) (H2:=_::_::_::_) Ai rfl rfl rfl rfl (rfl) rfl rfl rfl rfl) (fun _ _ _=>trivial) ?_
      rintro _ _ ⟨rfl,rfl⟩
      refine Qn 18 rfl Ap ?_
      refine Js.done _ _ (by kernel_rfl) ?_
      refine Ae (AW.ret ?_)
      refine ⟨.inr rfl,[.agg [Iq _,Iq _,.str _],Iq _],.cons (.box _ _ _ 2 _ _ _ _ rfl rfl rfl rfl rfl rfl) <| .cons (.tmp _ _ rfl) <| .nil,.cons _ (.cons _ (.cons _ (.refl _))),?_⟩
      have hne:¬e.args.isEmpty=true:=by simpa [List.isEmpty_iff] using hc1
      have hk:(e.args.map (fun a=>(Bw x a).1)).map (·.kind)=e.args.map (fun a=>(Bw x a).1.kind):=by simp
      rw [Ki x e,if_neg hne,hf,if_neg (by decide),Ku,hk,iN hc4,(hvd v0).1]
      first
      | (rw [if_pos hc5,hv1];simp only [Bool.and_true];first | done | rfl)
      | (rw [iN hc5,(hvd v0).2] <;> rfl)
      | skip

set_option maxHeartbeats 400000
set_option maxRecDepth 20000

theorem Oq {e:Ex}(h:B5 e=0):C0 e=0:=by
 unfold B5 at h
 split at h
 · cases h
 split at h
 · cases h
 exact h

theorem c14 (vars:List (List Ev))(own:Int)(ev:Ev)(hx:∀l∈vars,l.length≤1048576)(e:Ex)(hs:Av e≤1048576):Ar Tryz.prog 36 [.agg (cE e),.agg (cEnv vars),.int .i64 own,.agg (Pm ev)] (.tuple [.agg (cV (Yc ⟨vars,own,ev⟩ e).1),.int .i64 (Yc ⟨vars,own,ev⟩ e).2]):=by
 refine Ar.body (n:=26) Ai Tryz.func36 rfl rfl rfl fun H=>?_
 refine Ah (Qp K3 (Qp (Fx [_]) (Qp (Fx [Iq _,Iq _,Iq _,Iq _,_]) ?_)))
 refine Qe (Aj (l:=[.int .i64 0,.int .i64 0,.str []]) (by kernel_rfl)) ?_
 rintro _ _ ⟨b8,rfl,rfl⟩
 refine Qp Ap (Ag (AW.seq (Ah (Qp Dh ?_))))
 refine Qp (Qc rfl (c21 e hs)) ?_
 refine Qp Ap (Db (Qp Az (Qp Ci (Ag (A2 (fun hc1=>?_) fun hc1=>?_)))))
 ·
  refine Ah (Qp (El [Iq _,Iq _,.str _]) (Qp Az ?_))
  refine Cq 0 [Iq _,Iq _,.str _] (_::_) ?_
  refine Qp Ap (Ag (Dq ?_))
  refine ⟨.inr rfl,[.agg [Iq _,Iq _,.str _],Iq _],.cons (.box _ _ _ 0 _ _ _ _ rfl rfl rfl rfl rfl rfl) <| .cons (.tmp _ _ rfl) <| .nil,.cons _ (.refl _),?_⟩
  simp only [Ad,Yc]
  (first | rw [if_pos hc1] | skip)
  first | done | rfl
 ·
  refine Bv (AW.seq ?_)
  refine AW.draw mixed (fun _=>True) trivial (by kernel_rfl) ?_
  refine Qn 0 rfl (Cd [_]) (Qn 1 rfl Az (Qn 2 rfl (Cd [Iq _,Iq _,Iq _,Iq _,_]) ?_))
  refine Qn 3 rfl (Qc rfl (c39)) ?_
  refine Qn 4 rfl (El [_,Iq _,Iq _,Iq _,Iq _,Iq _,_,_]) (Qn 5 rfl Dh ?_)
  refine Qn 6 rfl (Qc rfl (c40 ⟨vars,own,ev⟩ hx e (Oq (by simpa using hc1)) hs)) ?_
  refine Qn 7 rfl (Ch (v:=.agg [Iq _,Iq _,.str _]) rfl rfl) ?_
  refine Qn 8 rfl Ih ?_
  refine Js.eff _ _ 9 _ _ rfl (by kernel_rfl) rfl rfl (C6 (k:=0) (v:=.agg _) (cs':=[Iq _,Iq _,.str _]) (H2:=_::_) Ai rfl rfl rfl rfl (rfl) rfl rfl rfl rfl) (fun _ _ _=>trivial) ?_
  rintro _ _ ⟨rfl,rfl⟩
  refine Qn 10 rfl Ap ?_
  refine Js.done _ _ (by kernel_rfl) ?_
  refine Ae (AW.ret ?_)
  refine ⟨.inr rfl,[.agg [Iq _,Iq _,.str _],Iq _],.cons (.box _ _ _ 0 _ _ _ _ rfl rfl rfl rfl rfl rfl) <| .cons (.tmp _ _ rfl) <| .nil,.cons _ (.refl _),?_⟩
  simp only [Ad,Yc]
  (first | rw [iN hc1] | skip)
  first | done | rfl
theorem c16 (vars:List (List Ev))(own:Int)(ev:Ev)(hx:∀l∈vars,l.length≤1048576)(e:Ex)(hs:Av e≤1048576):Ar Tryz.prog 27 [.agg (cE e),.agg (cEnv vars),.int .i64 own,.agg (Pm ev)] (.bool (L8 ⟨vars,own,ev⟩ e)):=by
 refine Ar.body (n:=26) Ai Tryz.func27 rfl rfl rfl fun H=>?_
 refine Ah (Qp K3 (Qp (Fx [_]) (Qp (Fx [Iq _,Iq _,Iq _,Iq _,_]) (Qp Bc (Db (Qp Dh (Qp (Cd [_]) (Qp Az (Qp (Cd [Iq _,Iq _,Iq _,Iq _,_]) ?_)))))))))
 refine Qp (Qc rfl (c14 vars own ev hx e hs)) ?_
 refine Qp Lv ?_
 refine Qp (Ch (v:=.agg [Iq _,Iq _,.str _]) rfl rfl) ?_
 refine Qp Ih ?_
 refine Qe (Aj (l:=[.int .i64 0,.int .i64 0,.str []]) (by kernel_rfl)) ?_
 rintro _ _ ⟨b9,rfl,rfl⟩
 refine Cq 0 [Iq _,Iq _,.str _] (_::_) ?_
 refine Qp Ap ?_
 refine AOL.ghost (GS.Aat (t:=9) 0 rfl rfl) ?_
 refine Ag (AW.seq ?_)
 refine AW.draw mixed (fun _=>True) trivial (by kernel_rfl) ?_
 refine Qn 0 rfl Az (Qn 1 rfl A6 (Qn 2 rfl Bm (Qo 3 rfl [] Qw (Cd [Iq _,Iq _,.str _]) ?_)))
 refine Qo 4 rfl [] Qw (Qc rfl (c42 true)) ?_
 refine Js.pure _ _ 5 _ _ rfl (by kernel_rfl) (by kernel_rfl) rfl (.opt _ (.bool _) [(22,_),(23,_)] rfl (sB.all ⟨tO.self _ _,tO.self _ _,trivial⟩) (fun hG=>P1 Ai rfl rfl rfl rfl rfl) rfl) ?_
 refine Qn 6 rfl Em (Qn 7 rfl Bc ?_)
 refine Js.done _ _ (by kernel_rfl) ?_
 refine Ae (AW.ret ?_)
 refine Qr (.bool _) ?_
 simp only [Ad,L8]
 simp only [Bool.and_true]

end Go.Proofs.YtkddpedfbicbeaaGreatDoor
