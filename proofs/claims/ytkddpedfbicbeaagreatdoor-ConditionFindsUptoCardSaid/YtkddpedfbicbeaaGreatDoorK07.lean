/-
  Several texts in one: W9, W10, W25, S13, Ay. No condition.
-/
import Derived.Test.YtkddpedfbicbeaaGreatDoorK01
import Derived.Test.YtkddpedfbicbeaaGreatDoorK06
import Derived.KernelRfl
import Derived.Test.YtkddpedfbicbeaaGreatDoorK04
import Derived.Test.YtkddpedfbicbeaaGreatDoorK05
import Derived.Test.YtkddpedfbicbeaaGreatDoorK02
import Derived.Test.YtkddpedfbicbeaaGreatDoorAx
set_option linter.unusedVariables false
set_option linter.unusedSimpArgs false
namespace Go.Proofs.YtkddpedfbicbeaaGreatDoor
open Go Go.Aw
set_option maxHeartbeats 1600000
set_option maxRecDepth 20000

theorem ops_get (op:Int)(h:5≤op∧op≤12∧op≠9):∃f cap,eG OPS op=some (.fn (.func f) [] cap)∧vE Tryz.prog f=true∧∀a b,Ax Tryz.prog f (.int .i64 a :: .int .i64 b::cap) (.agg (cV (Gw op a b))):=by
 have h2:op=5∨op=6∨op=7∨op=8∨op=10∨op=11∨op=12:=by omega
 rcases h2 with rfl | rfl | rfl | rfl | rfl | rfl | rfl
 · exact ⟨119,_,rfl,by kernel_rfl,c63⟩
 · exact ⟨120,_,rfl,by kernel_rfl,c64⟩
 · exact ⟨121,_,rfl,by kernel_rfl,c65⟩
 · exact ⟨122,_,rfl,by kernel_rfl,c66⟩
 · exact ⟨123,_,rfl,by kernel_rfl,c67⟩
 · exact ⟨124,_,rfl,by kernel_rfl,c68⟩
 · exact ⟨125,_,rfl,by kernel_rfl,c69⟩

theorem zY {α:Type}{l:List α}(h:l.length≠0):∃a b,l[0]? = some a∧l[((l.length:Int)-1).toNat]? = some b∧∀d,l.headD d=a∧l.getLastD d=b:=by
 have e:((l.length:Int)-1).toNat=l.length-1:=by omega
 rw [e]
 refine ⟨l[0],l[l.length-1],List.getElem?_eq_getElem (by omega),List.getElem?_eq_getElem (by omega),fun d=>?_⟩
 cases l with
 | nil=>simp at h
 | cons x r=>simp [List.getLastD_eq_getLast?,List.getLast?_eq_getElem?]

theorem c40 (x:Evr)(hx:x.ok)(e:Ex)(hn:C4 e=0)(hs:At e≤1048576):Ax Tryz.prog 77 [.agg (cX x),.agg (cE e)] (.tuple [.agg (cV (B0 x e).1),.int .i64 (B0 x e).2]):=by
 revert hn hs
 induction e using Ex.Abb
 rename_i e ih
 intro hn hs
 have hz:=Be hn
 have hfl:=Jz hz.1
 have hal:=Na e hs
 refine Ax.body (n:=85) Ai Tryz.func77 rfl rfl rfl fun H=>?_
 refine Ah (Qp (F5 [_,Iq _,Iq _,Iq _,Iq _,Iq _,_,_]) (Qp La ?_))
 refine Qe (Al (l:=[.int .i64 0,.int .i64 0,.str []]) (by kernel_rfl)) ?_
 rintro _ _ ⟨b4,rfl,rfl⟩
 refine Qp Av (Ag (AW.seq (Ah (Qp K7 (Qp Dm ?_)))))
 refine Qp (Ak (n:=e.args.length) Ai rfl rfl rfl (by simp)) ?_
 refine Qp A7 (Ag (A5 (fun hc1=>?_) fun hc1=>?_))
 ·
  refine Ah (Qp (Cm [_,Iq _,Iq _,Iq _,Iq _,Iq _,_,_]) (Qp D1 ?_))
  refine Qp (Qc rfl (c70 x hx e hfl)) ?_
  refine Qp (Cd (v:=.agg [Iq _,Iq _,.str _]) rfl rfl) ?_
  refine Qp Jq (Co 0 [Iq _,Iq _,.str _] (_::_) (Qp Av (Ag (Du ?_))))
  refine ⟨.inr rfl,[.agg [Iq _,Iq _,.str _],Iq _],.cons (.box _ _ _ 0 _ _ _ _ rfl rfl rfl rfl rfl rfl) <| .cons (.tmp _ _ rfl) <| .nil,.cons _ (.refl _),?_⟩
  rw [Kl x e,if_pos (by simpa [List.isEmpty_iff] using hc1)];rfl
 ·
  refine Bz (Ah (Qp N8 ?_))
  refine AOL.ghost (GS.row (t:=6) 28 3 rfl) ?_
  refine Dh (Qp N8 ?_)
  refine AOL.ghost (GS.row (t:=7) 3 1 rfl) ?_
  refine Ag (AW.seq (Ah (Qp K7 (Qp Dm ?_))))
  refine Qp (Ak (n:=e.args.length) Ai rfl rfl rfl (by simp)) ?_
  refine Qp A2 (Ag (AW.block ?_))
  refine AW.Aa5 (fun (p:Nat×List (List AV)×Value×List (List AV)×Value)=>(⟨[(2,.ptr (cX x)),(3,.ptr (cE e)),(4,.val (.pointer (some ⟨b4,0,none⟩))),(6,.row p.2.2.1 3 p.2.1),(7,.row p.2.2.2.2 1 p.2.2.2.1),(23,.sl 8 (e.args.map Fv)),(24,.int .i64 e.args.length),(25,.int .i64 (p.1:Int))],.row p.2.2.2.2 p.2.2.2.1.length 3 1 :: .row p.2.2.1 p.2.1.length 28 3 :: .box b4 28 [.int .i64 0,.int .i64 0,.str []]::H,85⟩:St)) (fun (p:Nat×List (List AV)×Value×List (List AV)×Value)=>p.1≤e.args.length∧Aq (fun a=>(B0 x a).2) e.args=Aq (fun a=>(B0 x a).2) (e.args.drop p.1)∧p.2.1=((e.args.take p.1).map (fun a=>(B0 x a).1)).map cV∧p.2.2.2.1=((e.args.take p.1).map (fun a=>(B0 x a).1.kind)).map (fun k=>[AV.int .i64 k])) (fun (p:Nat×List (List AV)×Value×List (List AV)×Value)=>e.args.length-p.1) ((0,[],.slice none 0 0,[],.slice none 0 0)) ?_ (GS.weaken ⟨rfl,rfl,rfl,rfl,rfl,rfl,rfl,rfl,trivial⟩ (.refl _)) ?_
  · exact ⟨Nat.zero_le _,by simp,by simp,by simp⟩
  ·
   rintro p hR
   have hsc:∀c∈p.2.1,Bh c=true:=by rw [hR.2.2.1];exact Fo fun _=>rfl
   have hsc2:∀c∈p.2.2.2.1,Bh c=true:=by rw [hR.2.2.2];exact Fo fun _=>rfl
   refine Ah (Qp Cl (Ag (AW.seq (A5 (fun hc2=>?_) fun hc2=>?_))))
   ·
    obtain ⟨a,ha⟩:=B4 hc2
    have hlt:=Bb ha
    have hm:=List.mem_of_getElem? ha
    refine Bz (AW.seq (AW.block (Ah ?_)))
    refine Qp (Af (c:=[Iq _,_,Iq _,Iq _,Iq _,Iq _,Iq _,.str _]) Ai rfl rfl rfl rfl rfl rfl (by omega) (Fb ha)) ?_
    refine Qp D1 ?_
    refine Qe (Al (l:=[.int .i64 0,.sl 8 [],.int .i64 0,.int .i64 0,.int .i64 0,.int .i64 0,.int .i64 0,.str []]) (by kernel_rfl)) ?_
    rintro _ _ ⟨b9,rfl,rfl⟩
    refine Co 0 [Iq _,_,Iq _,Iq _,Iq _,Iq _,Iq _,.str _] (_::_::_::_::_) ?_
    refine AOL.ghost (GS.Aa4 (t:=9) 0 rfl rfl) ?_
    refine Dh (Qp (Cm [_,Iq _,Iq _,Iq _,Iq _,Iq _,_,_]) (Qp D1 ?_))
    refine Qp (Qc rfl (ih a hm (hz.2 a hm) (by have:=Gu hm;omega))) ?_
    refine Qp Mx ?_
    refine Qp (Cd (v:=.agg [Iq _,Iq _,.str _]) rfl rfl) ?_
    refine Qp Jq ?_
    refine Qe (Al (l:=[.int .i64 0,.int .i64 0,.str []]) (by kernel_rfl)) ?_
    rintro _ _ ⟨b10,rfl,rfl⟩
    refine Co 0 [Iq _,Iq _,.str _] (_::_::_::_::_) (Qp Av ?_)
    refine AOL.ghost (GS.Aa4 (t:=10) 0 rfl rfl) ?_
    refine Ag (AW.seq (Ah (Qp A2 (Qp Ct (Ag (A5 (fun hc3=>?_) fun hc3=>?_))))))
    ·
     refine Ah (Qp (Et [Iq _,Iq _,.str _]) (Qp A2 (Co 2 [Iq _,Iq _,.str _] (_::_::_::_) (Qp Av (Ag (Du (Bc (Aj (Aj ?_)))))))))
     refine Bc (Aj ?_)
     refine ⟨.inr rfl,[.agg [Iq _,Iq _,.str _],Iq _],.cons (.box _ _ _ 2 _ _ _ _ rfl rfl rfl rfl rfl rfl) <| .cons (.tmp _ _ rfl) <| .nil,.cons _ (.cons _ (.cons _ (.refl _))),?_⟩
     have hne:¬e.args.isEmpty=true:=by simpa [List.isEmpty_iff] using hc1
     have hfe:Aq (fun a=>(B0 x a).2) e.args=(B0 x a).2:=by rw [hR.2.1,Ba ha,Aq,if_pos hc3]
     rw [Kl x e,if_neg hne,hfe,if_pos hc3];rfl
    ·
     refine Bz ?_
     refine AW.draw mixed (fun _=>True) trivial (by kernel_rfl) ?_
     refine Qn 0 rfl (Bl (v:=.row _ _ _) rfl) ?_
     refine Qn 1 rfl (Cm [Iq _,Iq _,.str _]) ?_
     refine Qn 2 rfl (A1 (es:=[[Iq _,Iq _,.str _]]) Ai rfl rfl rfl rfl rfl rfl rfl rfl rfl) ?_
     refine Qn 4 rfl (Bl (v:=.row _ _ _) rfl) ?_
     refine Qn 5 rfl Jr (Qn 6 rfl Bt ?_)
     refine Qn 7 rfl (A1 (es:=[[Iq _]]) Ai rfl rfl rfl rfl rfl rfl rfl rfl rfl) ?_
     refine Jx.eff _ _ 3 _ _ rfl (by kernel_rfl) rfl rfl (Dn (k:=1) Ai rfl rfl rfl rfl rfl rfl rfl rfl (Hg rfl) (hsc) (by simp [hR.2.2.1];omega) (by simp [hR.2.2.1,maxLen];omega)) (fun _ _ _=>trivial) ?_
     rintro _ _ ⟨v42,rfl,rfl⟩
     refine Jx.eff _ _ 8 _ _ rfl (by kernel_rfl) rfl rfl (Dn (k:=0) Ai rfl rfl rfl rfl rfl rfl rfl rfl (Hg rfl) (hsc2) (by simp [hR.2.2.2];omega) (by simp [hR.2.2.2,maxLen];omega)) (fun _ _ _=>trivial) ?_
     rintro _ _ ⟨v47,rfl,rfl⟩
     refine Qn 9 rfl (C3 (v:=.row _ _ _) rfl) ?_
     refine Qn 10 rfl (C3 (v:=.row _ _ _) rfl) ?_
     refine Jx.done _ _ (by kernel_rfl) ?_
     refine Bs (Ae (AW.region (Qp Fx (Qp A2 (Ag ?_)))))
     refine ⟨(p.1+1,p.2.1 ++ [cV (B0 x a).1],v42,p.2.2.2.1 ++ [[.int .i64 (B0 x a).1.kind]],v47),?_,?_,GS.weaken ⟨rfl,rfl,rfl,rfl,rfl,rfl,rfl,rfl,trivial⟩ (.refl _)⟩
     · simp only;exact ⟨hlt,by rw [hR.2.1,Ba ha,Aq,if_neg (by simpa using hc3)],by rw [Cu ha,hR.2.2.1];simp,by rw [Cu ha,hR.2.2.2];simp⟩
     · first | omega | (simp only;omega)
   ·
    have hte:=C5 hc2
    have hd:=Di hc2
    have hf:Aq (fun a=>(B0 x a).2) e.args=0:=by rw [hR.2.1,hd];rfl
    obtain ⟨k,es,rv,es2,rv2⟩:=p
    simp only at hR hte
    have h6:es=(e.args.map (fun a=>(B0 x a).1)).map cV:=by rw [hR.2.2.1,hte]
    have h7:es2=(e.args.map (fun a=>(B0 x a).1.kind)).map (fun k=>[AV.int .i64 k]):=by rw [hR.2.2.2,hte]
    subst h6
    subst h7
    refine AW.exit ?_
    refine A8 (A8 (Bw (Ae (AW.seq (Ah (Qp Kv (Qp Bt ?_)))))))
    refine AOL.ghost (GS.unrow 7 rfl) ?_
    refine AOL.ghost (GS.unrow 6 rfl) ?_
    refine Qp C6 ?_
    refine Qp (Qc rfl (c71 e.op (e.args.map (fun a=>(B0 x a).1.kind)))) ?_
    refine Qp Av (Dh (Qp A2 (Qp Ct (Ag (A5 (fun hc4=>?_) fun hc4=>?_)))))
    ·
     refine Ah (Qp (Et [Iq _,Iq _,.str _]) (Qp A2 (Co 2 [Iq _,Iq _,.str _] (_::_::_::_) (Qp Av (Ag (Du ?_))))))
     refine ⟨.inr rfl,[.agg [Iq _,Iq _,.str _],Iq _],.cons (.box _ _ _ 2 _ _ _ _ rfl rfl rfl rfl rfl rfl) <| .cons (.tmp _ _ rfl) <| .nil,.cons _ (.cons _ (.cons _ (.refl _))),?_⟩
     have hne:¬e.args.isEmpty=true:=by simpa [List.isEmpty_iff] using hc1
     have hk:(e.args.map (fun a=>(B0 x a).1)).map (·.kind)=e.args.map (fun a=>(B0 x a).1.kind):=by simp
     rw [Kl x e,if_neg hne,hf,if_neg (by decide),Ky,hk,if_pos hc4];rfl
    ·
     have hsh:=qY hz.1 hc1
     have hl0:(e.args.map (fun a=>(B0 x a).1)).length≠0:=by simp;intro h0;rw [h0] at hc1;simp at hc1
     have hl4:(e.args.map (fun a=>(B0 x a).1)).length≤1048576:=by simpa using hal
     refine (zY hl0).elim fun v hv=>hv.elim fun w hw=>?_
     have hv0:=hw.1
     have hvl:=hw.2.1
     have hvd:=hw.2.2
     refine Bz (AW.seq (Ah (Qp Kv (Qp Bt (Qp A7 (Ag (A5 (fun hc5=>?_) fun hc5=>?_)))))))
     ·
      have h9:e.op=9:=by simpa using hc5
      have hl2:(e.args.map (fun a=>(B0 x a).1)).length=2:=by simp;omega
      have hv1:(e.args.map (fun a=>(B0 x a).1))[1]? = some w:=by rw [←hvl,hl2];rfl
      refine AW.seq ?_
      refine AW.draw mixed (fun _=>True) trivial (by kernel_rfl) ?_
      refine Qn 0 rfl C6 ?_
      refine Qn 1 rfl (Af (c:=[Iq _,Iq _,.str _]) Ai rfl rfl rfl rfl rfl rfl (by omega) (Bj hv0)) ?_
      refine Qn 2 rfl (Cm [Iq _,Iq _,.str _]) (Qn 3 rfl C6 ?_)
      refine Qn 4 rfl (Af (c:=[Iq _,Iq _,.str _]) Ai rfl rfl rfl rfl rfl rfl (by omega) (Bj hv1)) ?_
      refine Qn 5 rfl (Cm [Iq _,Iq _,.str _]) ?_
      refine Qn 6 rfl (Pz Ai rfl rfl rfl rfl rfl) ?_
      refine Qn 7 rfl (Qc rfl (c42 _)) ?_
      refine Jx.eff _ _ 8 _ _ rfl (by kernel_rfl) rfl rfl (C7 (k:=2) (v:=.agg _) (cs':=[Iq _,Iq _,.str _]) (H2:=_::_::_::_) Ai rfl rfl rfl rfl (rfl) rfl rfl rfl rfl) (fun _ _ _=>trivial) ?_
      rintro _ _ ⟨rfl,rfl⟩
      refine Qn 9 rfl Av ?_
      refine Jx.done _ _ (by kernel_rfl) ?_
      refine Ae (Du ?_)
      refine ⟨.inr rfl,[.agg [Iq _,Iq _,.str _],Iq _],.cons (.box _ _ _ 2 _ _ _ _ rfl rfl rfl rfl rfl rfl) <| .cons (.tmp _ _ rfl) <| .nil,.cons _ (.cons _ (.cons _ (.refl _))),?_⟩
      have hne:¬e.args.isEmpty=true:=by simpa [List.isEmpty_iff] using hc1
      have hk:(e.args.map (fun a=>(B0 x a).1)).map (·.kind)=e.args.map (fun a=>(B0 x a).1.kind):=by simp
      rw [Kl x e,if_neg hne,hf,if_neg (by decide),Ky,hk,iN hc4,(hvd v0).1]
      first
      | (rw [if_pos hc5,hv1];simp only [Bool.and_true];first | done | rfl)
      | (rw [iN hc5,(hvd v0).2] <;> rfl)
      | skip
     ·
      have h9:e.op≠9:=by simpa using hc5
      refine (ops_get e.op (by omega)).elim fun f hf1=>hf1.elim fun cap hf2=>?_
      have hmg:=hf2.1
      have hfn:=hf2.2.1
      have hap:=hf2.2.2
      refine Bz (AW.seq ?_)
      refine AW.draw mixed (fun _=>True) trivial (by kernel_rfl) ?_
      refine Qn 0 rfl (Qf [_]) ?_
      refine Qn 1 rfl (Eh (c:=.mapv _) Ai rfl rfl rfl) ?_
      refine Qn 2 rfl Kv (Qn 3 rfl Bt ?_)
      refine Qn 4 rfl (yE Ai rfl rfl rfl rfl rfl rfl (hmg)) ?_
      refine Qn 5 rfl C6 ?_
      refine Qn 6 rfl (Af (c:=[Iq _,Iq _,.str _]) Ai rfl rfl rfl rfl rfl rfl (by omega) (Bj hv0)) ?_
      refine Qn 7 rfl Wn (Qn 8 rfl Bt (Qn 9 rfl C6 (Qn 10 rfl C6 ?_)))
      refine Qn 11 rfl (Ak (n:=(e.args.map (fun a=>(B0 x a).1)).length) Ai rfl rfl rfl (by simp)) ?_
      refine Qn 12 rfl (aA rfl rfl rfl (by constructor <;> omega)) ?_
      refine Qn 13 rfl (Af (c:=[Iq _,Iq _,.str _]) Ai rfl rfl rfl rfl rfl rfl (by simp at hl0 ⊢;omega) (Bj hvl)) ?_
      refine Qn 14 rfl Wn (Qn 15 rfl Bt ?_)
      refine Qn 16 rfl (D2 hfn rfl rfl rfl (hap _ _)) ?_
      refine Jx.eff _ _ 17 _ _ rfl (by kernel_rfl) rfl rfl (C7 (k:=2) (v:=.agg _) (cs':=[Iq _,Iq _,.str _]) (H2:=_::_::_::_) Ai rfl rfl rfl rfl (rfl) rfl rfl rfl rfl) (fun _ _ _=>trivial) ?_
      rintro _ _ ⟨rfl,rfl⟩
      refine Qn 18 rfl Av ?_
      refine Jx.done _ _ (by kernel_rfl) ?_
      refine Ae (AW.ret ?_)
      refine ⟨.inr rfl,[.agg [Iq _,Iq _,.str _],Iq _],.cons (.box _ _ _ 2 _ _ _ _ rfl rfl rfl rfl rfl rfl) <| .cons (.tmp _ _ rfl) <| .nil,.cons _ (.cons _ (.cons _ (.refl _))),?_⟩
      have hne:¬e.args.isEmpty=true:=by simpa [List.isEmpty_iff] using hc1
      have hk:(e.args.map (fun a=>(B0 x a).1)).map (·.kind)=e.args.map (fun a=>(B0 x a).1.kind):=by simp
      rw [Kl x e,if_neg hne,hf,if_neg (by decide),Ky,hk,iN hc4,(hvd v0).1]
      first
      | (rw [if_pos hc5,hv1];simp only [Bool.and_true];first | done | rfl)
      | (rw [iN hc5,(hvd v0).2] <;> rfl)
      | skip

set_option maxHeartbeats 400000
set_option maxRecDepth 20000

theorem Pe {e:Ex}(h:Bx e=0):C4 e=0:=by
 unfold Bx at h
 split at h
 · cases h
 split at h
 · cases h
 exact h

theorem c14 (vars:List (List Ev))(own:Int)(ev:Ev)(hx:∀l∈vars,l.length≤1048576)(e:Ex)(hs:At e≤1048576):Ax Tryz.prog 36 [.agg (cE e),.agg (cEnv vars),.int .i64 own,.agg (Oo ev)] (.tuple [.agg (cV (Xp ⟨vars,own,ev⟩ e).1),.int .i64 (Xp ⟨vars,own,ev⟩ e).2]):=by
 refine Ax.body (n:=26) Ai Tryz.func36 rfl rfl rfl fun H=>?_
 refine Ah (Qp La (Qp (F5 [_]) (Qp (F5 [Iq _,Iq _,Iq _,Iq _,_]) ?_)))
 refine Qe (Al (l:=[.int .i64 0,.int .i64 0,.str []]) (by kernel_rfl)) ?_
 rintro _ _ ⟨b8,rfl,rfl⟩
 refine Qp Av (Ag (AW.seq (Ah (Qp D1 ?_))))
 refine Qp (Qc rfl (c21 e hs)) ?_
 refine Qp Av (Dh (Qp A2 (Qp Ct (Ag (A5 (fun hc1=>?_) fun hc1=>?_)))))
 ·
  refine Ah (Qp (Et [Iq _,Iq _,.str _]) (Qp A2 (Co 0 [Iq _,Iq _,.str _] (_::_) (Qp Av (Ag (Du ?_))))))
  refine ⟨.inr rfl,[.agg [Iq _,Iq _,.str _],Iq _],.cons (.box _ _ _ 0 _ _ _ _ rfl rfl rfl rfl rfl rfl) <| .cons (.tmp _ _ rfl) <| .nil,.cons _ (.refl _),?_⟩
  simp only [Ad,Xp]
  (first | rw [if_pos hc1] | skip)
  first | done | rfl
 ·
  refine Bz (AW.seq ?_)
  refine AW.draw mixed (fun _=>True) trivial (by kernel_rfl) ?_
  refine Qn 0 rfl (Cm [_]) (Qn 1 rfl A2 (Qn 2 rfl (Cm [Iq _,Iq _,Iq _,Iq _,_]) ?_))
  refine Qn 3 rfl (Qc rfl (c39)) ?_
  refine Qn 4 rfl (Et [_,Iq _,Iq _,Iq _,Iq _,Iq _,_,_]) (Qn 5 rfl D1 ?_)
  refine Qn 6 rfl (Qc rfl (c40 ⟨vars,own,ev⟩ hx e (Pe (by simpa using hc1)) hs)) ?_
  refine Qn 7 rfl (Cd (v:=.agg [Iq _,Iq _,.str _]) rfl rfl) ?_
  refine Qn 8 rfl Jq ?_
  refine Jx.eff _ _ 9 _ _ rfl (by kernel_rfl) rfl rfl (C7 (k:=0) (v:=.agg _) (cs':=[Iq _,Iq _,.str _]) (H2:=_::_) Ai rfl rfl rfl rfl (rfl) rfl rfl rfl rfl) (fun _ _ _=>trivial) ?_
  rintro _ _ ⟨rfl,rfl⟩
  refine Qn 10 rfl Av ?_
  refine Jx.done _ _ (by kernel_rfl) ?_
  refine Ae (AW.ret ?_)
  refine ⟨.inr rfl,[.agg [Iq _,Iq _,.str _],Iq _],.cons (.box _ _ _ 0 _ _ _ _ rfl rfl rfl rfl rfl rfl) <| .cons (.tmp _ _ rfl) <| .nil,.cons _ (.refl _),?_⟩
  simp only [Ad,Xp]
  (first | rw [iN hc1] | skip)
  first | done | rfl
theorem c16 (vars:List (List Ev))(own:Int)(ev:Ev)(hx:∀l∈vars,l.length≤1048576)(e:Ex)(hs:At e≤1048576):Ax Tryz.prog 27 [.agg (cE e),.agg (cEnv vars),.int .i64 own,.agg (Oo ev)] (.bool (Ks ⟨vars,own,ev⟩ e)):=by
 refine Ax.body (n:=26) Ai Tryz.func27 rfl rfl rfl fun H=>?_
 refine Ah (Qp La (Qp (F5 [_]) (Qp (F5 [Iq _,Iq _,Iq _,Iq _,_]) (Qp Bg (Dh (Qp D1 (Qp (Cm [_]) (Qp A2 (Qp (Cm [Iq _,Iq _,Iq _,Iq _,_]) ?_)))))))))
 refine Qp (Qc rfl (c14 vars own ev hx e hs)) ?_
 refine Qp Mx ?_
 refine Qp (Cd (v:=.agg [Iq _,Iq _,.str _]) rfl rfl) ?_
 refine Qp Jq ?_
 refine Qe (Al (l:=[.int .i64 0,.int .i64 0,.str []]) (by kernel_rfl)) ?_
 rintro _ _ ⟨b9,rfl,rfl⟩
 refine Co 0 [Iq _,Iq _,.str _] (_::_) (Qp Av ?_)
 refine AOL.ghost (GS.Aa4 (t:=9) 0 rfl rfl) ?_
 refine Ag (AW.seq ?_)
 refine AW.draw mixed (fun _=>True) trivial (by kernel_rfl) ?_
 refine Qn 0 rfl A2 (Qn 1 rfl A7 (Qn 2 rfl Br (Qo 3 rfl [] Qw (Cm [Iq _,Iq _,.str _]) ?_)))
 refine Qo 4 rfl [] Qw (Qc rfl (c42 true)) ?_
 refine Jx.pure _ _ 5 _ _ rfl (by kernel_rfl) (by kernel_rfl) rfl (.opt _ (.bool _) [(22,_),(23,_)] rfl (sF.all ⟨Ent.Aa3 _ _,Ent.Aa3 _ _,trivial⟩) (fun hG=>Pz Ai rfl rfl rfl rfl rfl) rfl) ?_
 refine Qn 6 rfl E3 (Qn 7 rfl Bg ?_)
 refine Jx.done _ _ (by kernel_rfl) ?_
 refine Ae (AW.ret ?_)
 refine Qr (.bool _) ?_
 simp only [Ad,Ks]
 simp only [Bool.and_true]

set_option maxHeartbeats 1600000
set_option maxRecDepth 20000

def cT (types:List Sc)(vars:List Va):List AV:=[.sl 2 (types.map N1),.sl 2 (vars.map U8)]
def Jv (types:List Sc)(vars:List Va):Prop:=∀v∈vars,0≤v.type∧v.type<(types.length:Int)
theorem sZ {e:Ex}(h:By e=0)(h4:e.op=4):1≤e.kind∧e.kind≤5:=by
 unfold By at h
 split at h
 · cases h
 split at h
 · cases h
 split at h
 · cases h
 split at h
 · cases h
 rename_i h5
 simp [h4] at h5
 omega
theorem rs_es {e:Ex}(h:By e=0)(c:Bool)(v:Vl):(e.op==4&&(c || !Gq e.kind v))=(e.op==4&&(c || !Dw e.kind v)):=by
 by_cases h4:e.op=4
 ·
  have hk:=sZ h h4
  have:Gq e.kind v=Dw e.kind v:=by
   unfold Gq Dw
   have:(e.kind==0)=false:=by simp;omega
   rw [this,Bool.or_false]
  rw [this]
 ·
  have:(e.op==4)=false:=by simp [h4]
  rw [this];rfl
theorem Xj {types:List Sc}{vars:List Va}(h:Hy types vars=0):Aq (Pl types.length) vars=0:=by
 unfold Hy at h
 split at h
 · cases h
 · exact h
theorem cP {types:List Sc}{vars:List Va}(h:Aq (Pl types.length) vars=0):Jv types vars:=by
 intro v hv
 have:=Hf h v hv
 unfold Pl at this
 split at this
 · cases this
 · rename_i h1;simp at h1;omega

theorem c86 (types:List Sc)(vars:List Va)(hv:Jv types vars)(e:Ex)(hn:By e=0):Ax Tryz.prog 156 [.agg (cT types vars),.agg (cE e)] (.tuple [.int .i64 (F0 types vars e).1,.int .i64 (F0 types vars e).2]):=by
 have hvr:=L8 hn
 have hfr:=Jz hn
 refine Ax.body (n:=70) Ai Tryz.func156 rfl rfl rfl fun H=>?_
 refine Ah (Qp (F5 [_,_]) (Qp La (Qp Av (Qp Av (Ag (AW.seq (Ah (Qp Kv (Qp Bt ?_)))))))))
 refine Qp A7 (Ag (A5 (fun hc1=>?_) fun hc1=>?_))
 ·
  refine Ah (Qp Jr (Qp Jr (Qp Bt (Qp Av (Qp Av (Ag (Du ?_)))))))
  refine Ko (Iq _) (Iq _) ?_
  simp only [Ad,F0]
  try simp only [hfl]
  try simp only [hka]
  (first | rw [if_pos hc1] | skip)
  first | done | rfl
 ·
  refine Bz (AW.seq (Ah (Qp Yy (Qp Bt (Qp (Qf [_]) (Qp Dm ?_))))))
  refine Qp (Ak (n:=vars.length) Ai rfl rfl rfl (by simp)) ?_
  refine Qp N7 (Ag (A5 (fun hc2=>?_) fun hc2=>?_))
  ·
   refine Ah (Qp Av (Qp Av (Ag (Du ?_))))
   refine Ko (Iq _) (Iq _) ?_
   simp only [Ad,F0]
   try simp only [hfl]
   try simp only [hka]
   (first | rw [iN hc1] | skip);(first | rw [if_pos hc2] | skip)
   first | done | rfl
  ·
   refine Bz (AW.seq (Ah (Qp Kv (Qp Bt (Qp A7 (Qp Br (Qg [] Qw Kv (Qg [(24,_)] Qw Bt (Qg [(25,_)] Qw A7 ?_)))))))))
   refine Qp E5 (Ag (A5 (fun hc3=>?_) fun hc3=>?_))
   ·
    refine Ah (Qp Av (Qp Av (Ag (Du ?_))))
    refine Ko (Iq _) (Iq _) ?_
    simp only [Ad,F0]
    try simp only [hfl]
    try simp only [hka]
    (first | rw [iN hc1] | skip);(first | rw [iN hc2] | skip);(first | rw [if_pos hc3] | skip)
    first | done | rfl
   ·
    refine (Hv (l:=vars) hvr.1 (by simp at hc2;omega)).elim fun v hv1=>?_
    have hvt:=hv v (List.mem_of_getElem? hv1)
    refine (Hv (l:=types) hvt.1 hvt.2).elim fun s hs1=>?_
    have hfl:Fu types vars e.var=s.fields:=by simp [Fu,hv1,hs1]
    refine Bz (AW.seq ?_)
    refine AW.draw mixed (fun _=>True) trivial (by kernel_rfl) ?_
    refine Qn 0 rfl (Qf [_,_]) (Qn 1 rfl Dm (Qn 2 rfl (Qf [_]) (Qn 3 rfl Dm (Qn 4 rfl Yy (Qn 5 rfl Bt ?_)))))
    refine Qn 6 rfl (Af (c:=[.str _,Iq _]) Ai rfl rfl rfl rfl rfl rfl (hvr.1) (Bj hv1)) ?_
    refine Qn 7 rfl (Qf [Iq _]) (Qn 8 rfl Bt ?_)
    refine Qn 9 rfl (Af (c:=[.str _,_]) Ai rfl rfl rfl rfl rfl rfl (hvt.1) (Bj hs1)) ?_
    refine Qn 10 rfl (Qf [_]) (Qn 11 rfl Dm (Qn 12 rfl Vy ?_))
    refine Jx.done _ _ (by kernel_rfl) ?_
    refine Ae (AW.seq (Ah (Qp Qt (Qp Bt (Qp C6 ?_)))))
    refine Qp (Ak (n:=s.fields.length) Ai rfl rfl rfl (by simp)) ?_
    refine Qp N7 (Ag (A5 (fun hc4=>?_) fun hc4=>?_))
    ·
     refine Ah (Qp Av (Qp Av (Ag (Du ?_))))
     refine Ko (Iq _) (Iq _) ?_
     simp only [Ad,F0]
     try simp only [hfl]
     try simp only [hka]
     (first | rw [iN hc1] | skip);(first | rw [iN hc2] | skip);(first | rw [iN hc3] | skip);(first | rw [if_pos hc4] | skip)
     first | done | rfl
    ·
     refine (Hv (l:=s.fields) hfr (by simp at hc4;omega)).elim fun f hf1=>?_
     have hka:Hs s.fields e.field=f.kind:=by simp [Hs,hf1]
     refine Bz (Ah (Qp C6 (Qp Qt (Qp Bt ?_))))
     refine Qp (Af (c:=[.str _,Iq _]) Ai rfl rfl rfl rfl rfl rfl (hfr) (Bj hf1)) ?_
     refine Qp (Qf [Iq _]) (Qp Bt (Qp Av (Ag (AW.seq (Ah (Qp Kv (Qp Bt (Qp A7 (Qp Br ?_)))))))))
     refine Qg [] Qw A2 (Qg [] Qw Jr (Qg [(56,_)] Qw Jr (Qg [(57,_)] Qw Bt ?_)))
     refine AOL.Aa6 (y:=.bool _) _ [(55,_),(58,_)] rfl (sF.all ⟨Ent.Aa3 _ _,Ent.Aa3 _ _,trivial⟩) (fun hG=>Ou rfl rfl) rfl ?_
     refine Qg [(59,_)] Qw Br (Qg [] Qw R0 (Qg [(61,_)] Qw Bt (Qg [] Qw A2 (Qg [(63,_)] Qw (Et [Iq _,Iq _,.str _]) ?_))))
     refine AOL.Aa6 (y:=.bool _) _ [(62,_),(64,_)] rfl (sF.all ⟨Ent.Aa3 _ _,Ent.Aa3 _ _,trivial⟩) (fun hG=>C8 (by kernel_rfl) rfl rfl (c99 _ ⟨_,_,_⟩)) rfl ?_
     refine Qg [(65,_)] Qw Gt (Qg [(60,_),(66,_)] Qw E5 (Qp E3 (Ag (A5 (fun hc5=>?_) fun hc5=>?_))))
     ·
      refine Ah (Qp Av (Qp Av (Ag (Du ?_))))
      refine Ko (Iq _) (Iq _) ?_
      simp only [Ad,F0]
      try simp only [hfl]
      try simp only [hka]
      (first | rw [iN hc1] | skip);(first | rw [iN hc2] | skip);(first | rw [iN hc3] | skip);(first | rw [iN hc4] | skip);(first | rw [if_pos hc5] | skip)
      first | done | rfl
     ·
      refine Bz (Ah (Qp A2 (Qp Av (Qp Av (Ag (AW.ret ?_))))))
      refine Ko (Iq _) (Iq _) ?_
      simp only [Ad,F0]
      try simp only [hfl]
      try simp only [hka]
      (first | rw [iN hc1] | skip);(first | rw [iN hc2] | skip);(first | rw [iN hc3] | skip);(first | rw [iN hc4] | skip);(first | rw [iN hc5] | skip)
      first | done | rfl
theorem c89 (types:List Sc)(vars:List Va)(hv:Jv types vars)(e:Ex)(hn:By e=0):Ax Tryz.prog 115 [.sl 2 (types.map N1),.sl 2 (vars.map U8),.agg (cE e)] (.tuple [.int .i64 (F0 types vars e).1,.int .i64 (F0 types vars e).2]):=by
 have hvr:=L8 hn
 have hfr:=Jz hn
 refine Ax.body (n:=69) Ai Tryz.func115 rfl rfl rfl fun H=>?_
 refine Ah (Qp La (Qp Av (Qp Av (Ag (AW.seq (Ah (Qp Kv (Qp Bt (Qp A7 ?_)))))))))
 refine Ag (A5 (fun hc1=>?_) fun hc1=>?_)
 ·
  refine Ah (Qp Jr (Qp Jr (Qp Bt (Qp Av (Qp Av (Ag (Du ?_)))))))
  refine Ko (Iq _) (Iq _) ?_
  simp only [Ad,F0]
  try simp only [hfl]
  try simp only [hka]
  (first | rw [if_pos hc1] | skip)
  first | done | rfl
 ·
  refine Bz (AW.seq (Ah (Qp Yy (Qp Bt (Qp C6 ?_)))))
  refine Qp (Ak (n:=vars.length) Ai rfl rfl rfl (by simp)) ?_
  refine Qp N7 (Ag (A5 (fun hc2=>?_) fun hc2=>?_))
  ·
   refine Ah (Qp Av (Qp Av (Ag (Du ?_))))
   refine Ko (Iq _) (Iq _) ?_
   simp only [Ad,F0]
   try simp only [hfl]
   try simp only [hka]
   (first | rw [iN hc1] | skip);(first | rw [if_pos hc2] | skip)
   first | done | rfl
  ·
   refine Bz (AW.seq (Ah (Qp Kv (Qp Bt (Qp A7 (Qp Br (Qg [] Qw Kv (Qg [(25,_)] Qw Bt (Qg [(26,_)] Qw A7 ?_)))))))))
   refine Qp E5 (Ag (A5 (fun hc3=>?_) fun hc3=>?_))
   ·
    refine Ah (Qp Av (Qp Av (Ag (Du ?_))))
    refine Ko (Iq _) (Iq _) ?_
    simp only [Ad,F0]
    try simp only [hfl]
    try simp only [hka]
    (first | rw [iN hc1] | skip);(first | rw [iN hc2] | skip);(first | rw [if_pos hc3] | skip)
    first | done | rfl
   ·
    refine (Hv (l:=vars) hvr.1 (by simp at hc2;omega)).elim fun v hv1=>?_
    have hvt:=hv v (List.mem_of_getElem? hv1)
    refine (Hv (l:=types) hvt.1 hvt.2).elim fun s hs1=>?_
    have hfl:Fu types vars e.var=s.fields:=by simp [Fu,hv1,hs1]
    refine Bz (Ah (Qp C6 (Qp C6 (Qp Yy (Qp Bt ?_)))))
    refine Qp (Af (c:=[.str _,Iq _]) Ai rfl rfl rfl rfl rfl rfl (hvr.1) (Bj hv1)) ?_
    refine Qp (Qf [Iq _]) (Qp Bt ?_)
    refine Qp (Af (c:=[.str _,_]) Ai rfl rfl rfl rfl rfl rfl (hvt.1) (Bj hs1)) ?_
    refine Qp (Qf [_]) (Qp Dm (Qp Vy (Ag (AW.seq (Ah (Qp Qt (Qp Bt (Qp C6 ?_))))))))
    refine Qp (Ak (n:=s.fields.length) Ai rfl rfl rfl (by simp)) ?_
    refine Qp N7 (Ag (A5 (fun hc4=>?_) fun hc4=>?_))
    ·
     refine Ah (Qp Av (Qp Av (Ag (Du ?_))))
     refine Ko (Iq _) (Iq _) ?_
     simp only [Ad,F0]
     try simp only [hfl]
     try simp only [hka]
     (first | rw [iN hc1] | skip);(first | rw [iN hc2] | skip);(first | rw [iN hc3] | skip);(first | rw [if_pos hc4] | skip)
     first | done | rfl
    ·
     refine (Hv (l:=s.fields) hfr (by simp at hc4;omega)).elim fun f hf1=>?_
     have hka:Hs s.fields e.field=f.kind:=by simp [Hs,hf1]
     refine Bz (Ah (Qp C6 (Qp Qt (Qp Bt ?_))))
     refine Qp (Af (c:=[.str _,Iq _]) Ai rfl rfl rfl rfl rfl rfl (hfr) (Bj hf1)) ?_
     refine Qp (Qf [Iq _]) (Qp Bt (Qp Av (Ag (AW.seq (Ah (Qp Kv (Qp Bt (Qp A7 (Qp Br ?_)))))))))
     refine Qg [] Qw A2 (Qg [] Qw Jr (Qg [(55,_)] Qw Jr (Qg [(56,_)] Qw Bt ?_)))
     refine AOL.Aa6 (y:=.bool _) _ [(54,_),(57,_)] rfl (sF.all ⟨Ent.Aa3 _ _,Ent.Aa3 _ _,trivial⟩) (fun hG=>Ou rfl rfl) rfl ?_
     refine Qg [(58,_)] Qw Br (Qg [] Qw R0 (Qg [(60,_)] Qw Bt (Qg [] Qw A2 (Qg [(62,_)] Qw (Et [Iq _,Iq _,.str _]) ?_))))
     refine AOL.Aa6 (y:=.bool _) _ [(61,_),(63,_)] rfl (sF.all ⟨Ent.Aa3 _ _,Ent.Aa3 _ _,trivial⟩) (fun hG=>C8 (by kernel_rfl) rfl rfl (c101 _ ⟨_,_,_⟩)) rfl ?_
     refine Qg [(64,_)] Qw Gt (Qg [(59,_),(65,_)] Qw E5 (Qp E3 (Ag (A5 (fun hc5=>?_) fun hc5=>?_))))
     ·
      rw [rs_es hn] at hc5
      refine Ah (Qp Av (Qp Av (Ag (Du ?_))))
      refine Ko (Iq _) (Iq _) ?_
      simp only [Ad,F0]
      try simp only [hfl]
      try simp only [hka]
      (first | rw [iN hc1] | skip);(first | rw [iN hc2] | skip);(first | rw [iN hc3] | skip);(first | rw [iN hc4] | skip);(first | rw [if_pos hc5] | skip)
      first | done | rfl
     ·
      rw [rs_es hn] at hc5
      refine Bz (Ah (Qp A2 (Qp Av (Qp Av (Ag (AW.ret ?_))))))
      refine Ko (Iq _) (Iq _) ?_
      simp only [Ad,F0]
      try simp only [hfl]
      try simp only [hka]
      (first | rw [iN hc1] | skip);(first | rw [iN hc2] | skip);(first | rw [iN hc3] | skip);(first | rw [iN hc4] | skip);(first | rw [iN hc5] | skip)
      first | done | rfl
theorem c90 (op:Int):Ax Tryz.prog 117 [.int .i64 op] (.int .i64 (Xd op)):=by
 refine Ax.body (n:=9) Ai Tryz.func117 rfl rfl rfl fun H=>?_
 refine Ah (Qp Av (Ag (AW.seq (Ah (Qp A2 (Qp A7 (Qp Br (Qg [] Qw A2 (Qg [(6,_)] Qw A7 ?_)))))))))
 refine Qp E5 (Ag (A5 (fun hc1=>?_) fun hc1=>?_))
 ·
  refine Ah (Qp Av (Ag (Du ?_)))
  refine Qr (Iq _) ?_
  simp only [Ad,Xd]
  (first | rw [if_pos hc1] | skip)
 ·
  refine Bz (Ah (Qp Av (Ag (AW.ret ?_))))
  refine Qr (Iq _) ?_
  simp only [Ad,Xd]
  (first | rw [iN hc1] | skip)
theorem c58 (types:List Sc)(vars:List Va)(hv:Jv types vars)(e:Ex)(hn:C4 e=0)(hs:At e≤1048576):Ax Tryz.prog 133 [.agg (cT types vars),.agg (cE e)] (.tuple [.int .i64 (Cc types vars e).1,.int .i64 (Cc types vars e).2]):=by
 revert hn hs
 induction e using Ex.Abb
 rename_i e ih
 intro hn hs
 have hz:=Be hn
 have hal:=Na e hs
 refine Ax.body (n:=57) Ai Tryz.func133 rfl rfl rfl fun H=>?_
 refine Ah (Qp (F5 [_,_]) (Qp La (Qp Av (Qp Av (Ag (AW.seq (Ah (Qp K7 (Qp Dm ?_)))))))))
 refine Qp (Ak (n:=e.args.length) Ai rfl rfl rfl (by simp)) ?_
 refine Qp A7 (Ag (A5 (fun hc1=>?_) fun hc1=>?_))
 ·
  refine Ah (Qp (Cm [_,_]) (Qp D1 ?_))
  refine Qp (Qc rfl (c86 types vars hv e hz.1)) ?_
  refine Qp Jq (Qp Jq (Qp Av (Qp Av (Ag (Du ?_)))))
  refine Ko (Iq _) (Iq _) ?_
  rw [Ei types vars e,if_pos (by simpa [List.isEmpty_iff] using hc1)];rfl
 ·
  refine Bz (Ah (Qp N8 ?_))
  refine AOL.ghost (GS.row (t:=6) 3 1 rfl) ?_
  refine Ag (AW.seq (Ah (Qp K7 (Qp Dm ?_))))
  refine Qp (Ak (n:=e.args.length) Ai rfl rfl rfl (by simp)) ?_
  refine Qp A2 (Ag (AW.block ?_))
  refine AW.Aa5 (fun (p:Nat×List (List AV)×Value)=>(⟨[(2,.ptr (cT types vars)),(3,.ptr (cE e)),(6,.row p.2.2 1 p.2.1),(22,.sl 8 (e.args.map Fv)),(23,.int .i64 e.args.length),(24,.int .i64 (p.1:Int))],.row p.2.2 p.2.1.length 3 1::H,57⟩:St)) (fun (p:Nat×List (List AV)×Value)=>p.1≤e.args.length∧Aq (fun a=>(Cc types vars a).2) e.args=Aq (fun a=>(Cc types vars a).2) (e.args.drop p.1)∧p.2.1=((e.args.take p.1).map (fun a=>(Cc types vars a).1)).map (fun k=>[AV.int .i64 k])) (fun (p:Nat×List (List AV)×Value)=>e.args.length-p.1) ((0,[],.slice none 0 0)) ?_ (GS.weaken ⟨rfl,rfl,rfl,rfl,rfl,rfl,trivial⟩ (.refl _)) ?_
  · exact ⟨Nat.zero_le _,by simp,by simp⟩
  ·
   rintro p hR
   refine Ah (Qp Cl (Ag (AW.seq (A5 (fun hc2=>?_) fun hc2=>?_))))
   ·
    obtain ⟨a,ha⟩:=B4 hc2
    have hlt:=Bb ha
    have hm:=List.mem_of_getElem? ha
    have hsc:∀c∈p.2.1,Bh c=true:=by rw [hR.2.2];exact Fo fun _=>rfl
    refine Bz (AW.seq (AW.block (Ah ?_)))
    refine Qp (Af (c:=[Iq _,_,Iq _,Iq _,Iq _,Iq _,Iq _,.str _]) Ai rfl rfl rfl rfl rfl rfl (by omega) (Fb ha)) ?_
    refine Qp D1 ?_
    refine Qe (Al (l:=[.int .i64 0,.sl 8 [],.int .i64 0,.int .i64 0,.int .i64 0,.int .i64 0,.int .i64 0,.str []]) (by kernel_rfl)) ?_
    rintro _ _ ⟨b8,rfl,rfl⟩
    refine Co 0 [Iq _,_,Iq _,Iq _,Iq _,Iq _,Iq _,.str _] (_::_::_) ?_
    refine AOL.ghost (GS.Aa4 (t:=8) 0 rfl rfl) ?_
    refine Dh (Qp (Cm [_,_]) (Qp D1 ?_))
    refine Qp (Qc rfl (ih a hm (hz.2 a hm) (by have:=Gu hm;omega))) ?_
    refine Qp Mx (Qp Jq (Qp Jq (Qp Av (Qp Av (Ag (AW.seq (Ah (Qp A2 (Qp Ct ?_)))))))))
    refine Ag (A5 (fun hc3=>?_) fun hc3=>?_)
    ·
     refine Ah (Qp A2 (Qp Av (Qp Av (Ag (Du (Bc (Aj (Aj (Bc ?_)))))))))
     refine Aj ?_
     refine ⟨.inr rfl,[Iq _,Iq _],.cons (.tmp _ _ rfl) <| .cons (.tmp _ _ rfl) <| .nil,.cons _ (.refl _),?_⟩
     have hne:¬e.args.isEmpty=true:=by simpa [List.isEmpty_iff] using hc1
     have hfe:Aq (fun a=>(Cc types vars a).2) e.args=(Cc types vars a).2:=by rw [hR.2.1,Ba ha,Aq,if_pos hc3]
     rw [Ei types vars e,if_neg hne,hfe,if_pos hc3];rfl
    ·
     refine Bz (AW.region ?_)
     refine Qp (Bl (v:=.row _ _ _) rfl) ?_
     refine Qp A2 ?_
     refine Qp (A1 (es:=[[Iq _]]) Ai rfl rfl rfl rfl rfl rfl rfl rfl rfl) ?_
     refine Qe (Dn (k:=0) Ai rfl rfl rfl rfl rfl rfl rfl rfl (Hg rfl) (hsc) (by simp [hR.2.2];omega) (by simp [hR.2.2,maxLen];omega)) ?_
     rintro _ _ ⟨v40,rfl,rfl⟩
     refine Qp (C3 (v:=.row _ _ _) rfl) ?_
     refine AOL.nil (Bs (Ae (AW.region (Qp Fx (Qp A2 (Ag ?_))))))
     refine ⟨(p.1+1,p.2.1 ++ [[.int .i64 (Cc types vars a).1]],v40),?_,?_,GS.weaken ⟨rfl,rfl,rfl,rfl,rfl,rfl,trivial⟩ (.refl _)⟩
     · simp only;exact ⟨hlt,by rw [hR.2.1,Ba ha,Aq,if_neg (by simpa using hc3)],by rw [Cu ha,hR.2.2];simp⟩
     · first | omega | (simp only;omega)
   ·
    have hte:=C5 hc2
    have hd:=Di hc2
    have hf:Aq (fun a=>(Cc types vars a).2) e.args=0:=by rw [hR.2.1,hd];rfl
    obtain ⟨k,es,rv⟩:=p
    simp only at hR hte
    have h6:es=(e.args.map (fun a=>(Cc types vars a).1)).map (fun k=>[AV.int .i64 k]):=by rw [hR.2.2,hte]
    subst h6
    refine AW.exit ?_
    refine A8 (A8 (Bw (Ae (AW.seq (Ah (Qp Kv (Qp Bt ?_)))))))
    refine AOL.ghost (GS.unrow 6 rfl) ?_
    refine Qp C6 ?_
    refine Qp (Qc rfl (c71 e.op (e.args.map (fun a=>(Cc types vars a).1)))) ?_
    refine Qp Av (Dh (Qp A2 (Qp Ct (Ag (A5 (fun hc4=>?_) fun hc4=>?_)))))
    ·
     refine Ah (Qp A2 (Qp Av (Qp Av (Ag (Du ?_)))))
     refine ⟨.inr rfl,[Iq _,Iq _],.cons (.tmp _ _ rfl) <| .cons (.tmp _ _ rfl) <| .nil,.cons _ (.refl _),?_⟩
     have hne:¬e.args.isEmpty=true:=by simpa [List.isEmpty_iff] using hc1
     rw [Ei types vars e,if_neg hne,hf,if_neg (show ¬((0:Int) != 0)=true by decide),if_pos hc4];rfl
    ·
     refine Bz (AW.seq (Ah (Qp Kv (Qp Bt (Qp A7 (Qp Br (Qg [] Qw Kv (Qg [(53,_)] Qw Bt (Qg [(54,_)] Qw A7 ?_)))))))))
     refine Qp E5 (Ag (A5 (fun hc5=>?_) fun hc5=>?_))
     ·
      refine Ah (Qp Av (Qp Av (Ag (Du ?_))))
      refine ⟨.inr rfl,[Iq _,Iq _],.cons (.tmp _ _ rfl) <| .cons (.tmp _ _ rfl) <| .nil,.cons _ (.refl _),?_⟩
      have hne:¬e.args.isEmpty=true:=by simpa [List.isEmpty_iff] using hc1
      rw [Ei types vars e,if_neg hne,hf,if_neg (show ¬((0:Int) != 0)=true by decide),iN hc4];unfold Xd;first | (rw [if_pos hc5];rfl) | (rw [iN hc5];rfl)
     ·
      refine Bz (Ah (Qp Av (Qp Av (Ag (AW.ret ?_)))))
      refine ⟨.inr rfl,[Iq _,Iq _],.cons (.tmp _ _ rfl) <| .cons (.tmp _ _ rfl) <| .nil,.cons _ (.refl _),?_⟩
      have hne:¬e.args.isEmpty=true:=by simpa [List.isEmpty_iff] using hc1
      rw [Ei types vars e,if_neg hne,hf,if_neg (show ¬((0:Int) != 0)=true by decide),iN hc4];unfold Xd;first | (rw [if_pos hc5];rfl) | (rw [iN hc5];rfl)
theorem c61 (types:List Sc)(vars:List Va)(hv:Jv types vars)(e:Ex)(hn:C4 e=0)(hs:At e≤1048576):Ax Tryz.prog 75 [.sl 2 (types.map N1),.sl 2 (vars.map U8),.agg (cE e)] (.tuple [.int .i64 (Cc types vars e).1,.int .i64 (Cc types vars e).2]):=by
 revert hn hs
 induction e using Ex.Abb
 rename_i e ih
 intro hn hs
 have hz:=Be hn
 have hal:=Na e hs
 refine Ax.body (n:=58) Ai Tryz.func75 rfl rfl rfl fun H=>?_
 refine Ah (Qp La (Qp Av (Qp Av (Ag (AW.seq (Ah (Qp K7 (Qp Dm ?_))))))))
 refine Qp (Ak (n:=e.args.length) Ai rfl rfl rfl (by simp)) ?_
 refine Qp A7 (Ag (A5 (fun hc1=>?_) fun hc1=>?_))
 ·
  refine Ah (Qp C6 (Qp C6 (Qp D1 ?_)))
  refine Qp (Qc rfl (c89 types vars hv e hz.1)) ?_
  refine Qp Jq (Qp Jq (Qp Av (Qp Av (Ag (Du ?_)))))
  refine Ko (Iq _) (Iq _) ?_
  rw [Ei types vars e,if_pos (by simpa [List.isEmpty_iff] using hc1)];rfl
 ·
  refine Bz (Ah (Qp N8 ?_))
  refine AOL.ghost (GS.row (t:=8) 3 1 rfl) ?_
  refine Ag (AW.seq (Ah (Qp Av (Ag (AW.block ?_)))))
  refine AW.Aa5 (fun (p:Nat×List (List AV)×Value)=>(⟨[(0,.sl 2 (types.map N1)),(1,.sl 2 (vars.map U8)),(5,.ptr (cE e)),(8,.row p.2.2 1 p.2.1),(9,.int .i64 (p.1:Int))],.row p.2.2 p.2.1.length 3 1::H,58⟩:St)) (fun (p:Nat×List (List AV)×Value)=>p.1≤e.args.length∧Aq (fun a=>(Cc types vars a).2) e.args=Aq (fun a=>(Cc types vars a).2) (e.args.drop p.1)∧p.2.1=((e.args.take p.1).map (fun a=>(Cc types vars a).1)).map (fun k=>[AV.int .i64 k])) (fun (p:Nat×List (List AV)×Value)=>e.args.length-p.1) ((0,[],.slice none 0 0)) ?_ (GS.weaken ⟨rfl,rfl,rfl,rfl,rfl,trivial⟩ (.refl _)) ?_
  · exact ⟨Nat.zero_le _,by simp,by simp⟩
  ·
   rintro p hR
   refine AW.seq (Ah (Qp A2 (Qp K7 (Qp Dm ?_))))
   refine Qp (Ak (n:=e.args.length) Ai rfl rfl rfl (by simp)) ?_
   refine Qp Cl (Ag (A5 (fun hc2=>?_) fun hc2=>?_))
   ·
    obtain ⟨a,ha⟩:=B4 hc2
    have hlt:=Bb ha
    have hm:=List.mem_of_getElem? ha
    have hsc:∀c∈p.2.1,Bh c=true:=by rw [hR.2.2];exact Fo fun _=>rfl
    refine Bz (AW.seq (AW.block (Ah (Qp C6 (Qp C6 (Qp K7 (Qp Dm (Qp A2 ?_))))))))
    refine Qp (Af (c:=[Iq _,_,Iq _,Iq _,Iq _,Iq _,Iq _,.str _]) Ai rfl rfl rfl rfl rfl rfl (by omega) (Fb ha)) ?_
    refine Qp D1 ?_
    refine Qp (Qc rfl (ih a hm (hz.2 a hm) (by have:=Gu hm;omega))) ?_
    refine Qp Mx (Qp Jq (Qp Jq (Qp Av (Qp Av (Ag (AW.seq (Ah (Qp A2 (Qp Ct ?_)))))))))
    refine Ag (A5 (fun hc3=>?_) fun hc3=>?_)
    ·
     refine Ah (Qp A2 (Qp Av (Qp Av (Ag (Du (Bc (Aj (Aj (Bc ?_)))))))))
     refine Aj ?_
     refine ⟨.inr rfl,[Iq _,Iq _],.cons (.tmp _ _ rfl) <| .cons (.tmp _ _ rfl) <| .nil,.cons _ (.refl _),?_⟩
     have hne:¬e.args.isEmpty=true:=by simpa [List.isEmpty_iff] using hc1
     have hfe:Aq (fun a=>(Cc types vars a).2) e.args=(Cc types vars a).2:=by rw [hR.2.1,Ba ha,Aq,if_pos hc3]
     rw [Ei types vars e,if_neg hne,hfe,if_pos hc3];rfl
    ·
     refine Bz (AW.region ?_)
     refine Qp (Bl (v:=.row _ _ _) rfl) ?_
     refine Qp A2 ?_
     refine Qp (A1 (es:=[[Iq _]]) Ai rfl rfl rfl rfl rfl rfl rfl rfl rfl) ?_
     refine Qe (Dn (k:=0) Ai rfl rfl rfl rfl rfl rfl rfl rfl (Hg rfl) (hsc) (by simp [hR.2.2];omega) (by simp [hR.2.2,maxLen];omega)) ?_
     rintro _ _ ⟨v47,rfl,rfl⟩
     refine Qp (C3 (v:=.row _ _ _) rfl) ?_
     refine AOL.nil (Bs (Ae (AW.region (Qp A2 (Qp Fx (Qp Av (Ag ?_)))))))
     refine ⟨(p.1+1,p.2.1 ++ [[.int .i64 (Cc types vars a).1]],v47),?_,?_,GS.weaken ⟨rfl,rfl,rfl,rfl,rfl,trivial⟩ (.refl _)⟩
     · simp only;exact ⟨hlt,by rw [hR.2.1,Ba ha,Aq,if_neg (by simpa using hc3)],by rw [Cu ha,hR.2.2];simp⟩
     · first | omega | (simp only;omega)
   ·
    have hte:=C5 hc2
    have hd:=Di hc2
    have hf:Aq (fun a=>(Cc types vars a).2) e.args=0:=by rw [hR.2.1,hd];rfl
    obtain ⟨k,es,rv⟩:=p
    simp only at hR hte
    have h6:es=(e.args.map (fun a=>(Cc types vars a).1)).map (fun k=>[AV.int .i64 k]):=by rw [hR.2.2,hte]
    subst h6
    refine AW.exit ?_
    refine A8 (A8 (Bw (Ae (AW.seq (Ah (Qp Kv (Qp Bt ?_)))))))
    refine AOL.ghost (GS.unrow 8 rfl) ?_
    refine Qp C6 ?_
    refine Qp (Qc rfl (c73 e.op (e.args.map (fun a=>(Cc types vars a).1)))) ?_
    refine Qp Av (Dh (Qp A2 (Qp Ct (Ag (A5 (fun hc4=>?_) fun hc4=>?_)))))
    ·
     refine Ah (Qp A2 (Qp Av (Qp Av (Ag (Du ?_)))))
     refine ⟨.inr rfl,[Iq _,Iq _],.cons (.tmp _ _ rfl) <| .cons (.tmp _ _ rfl) <| .nil,.cons _ (.refl _),?_⟩
     have hne:¬e.args.isEmpty=true:=by simpa [List.isEmpty_iff] using hc1
     rw [Ei types vars e,if_neg hne,hf,if_neg (show ¬((0:Int) != 0)=true by decide),if_pos hc4];rfl
    ·
     refine Bz (Ah (Qp Kv (Qp Bt ?_)))
     refine Qp (Qc rfl (c90 _)) ?_
     refine Qp Av (Qp Av (Ag (AW.ret ?_)))
     refine ⟨.inr rfl,[Iq _,Iq _],.cons (.tmp _ _ rfl) <| .cons (.tmp _ _ rfl) <| .nil,.cons _ (.refl _),?_⟩
     have hne:¬e.args.isEmpty=true:=by simpa [List.isEmpty_iff] using hc1
     rw [Ei types vars e,if_neg hne,hf,if_neg (show ¬((0:Int) != 0)=true by decide),iN hc4];rfl
theorem c60 (types:List Sc)(vars:List Va)(hvl:vars.length≤1048576):Ax Tryz.prog 74 [.sl 2 (types.map N1),.sl 2 (vars.map U8)] (.int .i64 (Hy types vars)):=by
 refine Ax.body (n:=31) Ai Tryz.func74 rfl rfl rfl fun H=>?_
 refine Ah (Qp Av (Ag (AW.seq (Ah (Qp C6 ?_)))))
 refine Qp (Ak (n:=vars.length) Ai rfl rfl rfl (by simp)) ?_
 refine Qp Hi (Ag (A5 (fun hc1=>?_) fun hc1=>?_))
 ·
  refine Ah (Qp Av (Ag (Du ?_)))
  refine Qr (Iq _) ?_
  rw [Hy,if_pos hc1];rfl
 ·
  refine Bz (AW.seq (Ah (Qp Av (Ag (AW.block ?_)))))
  refine AW.Aa5 (fun (p:Nat)=>(⟨[(0,.sl 2 (types.map N1)),(1,.sl 2 (vars.map U8)),(5,.int .i64 (p:Int))],H,31⟩:St)) (fun (p:Nat)=>p≤vars.length∧Aq (Pl types.length) vars=Aq (Pl types.length) (vars.drop p)) (fun (p:Nat)=>vars.length-p) (0) ?_ (GS.weaken ⟨rfl,rfl,rfl,trivial⟩ (.refl _)) ?_
  · exact ⟨Nat.zero_le _,rfl⟩
  ·
   rintro p hR
   refine AW.seq (Ah (Qp A2 (Qp C6 ?_)))
   refine Qp (Ak (n:=vars.length) Ai rfl rfl rfl (by simp)) ?_
   refine Qp Cl (Ag (A5 (fun hc2=>?_) fun hc2=>?_))
   ·
    obtain ⟨a,ha⟩:=B4 hc2
    have hlt:=Bb ha
    have hm:=List.mem_of_getElem? ha
    refine Bz (AW.seq (AW.block (Ah (Qp C6 (Qp A2 ?_)))))
    refine Qp (Af (c:=[.str _,Iq _]) Ai rfl rfl rfl rfl rfl rfl (by omega) (Bj ha)) ?_
    refine Qp (Qf [Iq _]) (Qp Bt (Qp Cl (Qp Br (Qg [] Qw C6 (Qg [] Qw A2 ?_)))))
    refine AOL.Aa6 (y:=.ptr _) _ [(22,_),(23,_)] rfl (sF.all ⟨Ent.Aa3 _ _,Ent.Aa3 _ _,trivial⟩) (fun hG=>Af (c:=[.str _,Iq _]) Ai rfl rfl rfl rfl rfl rfl (by omega) (Bj ha)) rfl ?_
    refine Qg [(24,_)] Qw (Qf [Iq _]) (Qg [(25,_)] Qw Bt (Qg [] Qw C6 ?_))
    refine AOL.Aa6 (y:=Iq _) _ [(27,_)] rfl (sF.all ⟨Ent.Aa3 _ _,trivial⟩) (fun hG=>Ak (n:=types.length) Ai rfl rfl rfl (by simp)) rfl ?_
    refine AOL.Aa6 (y:=.bool _) _ [(26,_),(28,_)] rfl (sF.all ⟨Ent.Aa3 _ _,Ent.Aa3 _ _,trivial⟩) (fun hG=>Uo rfl rfl) rfl ?_
    refine Qp E5 (Ag (A5 (fun hc3=>?_) fun hc3=>?_))
    ·
     have he:Pl types.length a=6:=by unfold Pl;rw [if_pos hc3]
     refine Ah (Qp Av (Ag (AW.ret (Bc (Aj (Aj (Bc (Aj ?_))))))))
     refine Qr (Iq _) ?_
     rw [Hy,iN hc1,hR.2,Ba ha,Aq,he,if_pos (by decide)];rfl
    ·
     have he:Pl types.length a=0:=by unfold Pl;rw [if_neg (by simpa using hc3)]
     refine AW.skip (Bs (Ae (AW.region (Qp A2 (Qp Fx (Qp Av (Ag ?_)))))))
     refine ⟨p+1,?_,?_,GS.weaken ⟨rfl,rfl,rfl,trivial⟩ (.refl _)⟩
     · exact ⟨hlt,by rw [hR.2,Ba ha,Aq,if_neg (by rw [he];decide)]⟩
     · omega
   ·
    have hd:=Di hc2
    refine AW.exit ?_
    refine A8 (A8 (Bw (Ae (Ah (Qp Av (Ag (AW.ret ?_)))))))
    refine Qr (Iq _) ?_
    rw [Hy,iN hc1,hR.2,hd];rfl
theorem c31 (types:List Sc)(hl:types.length≤1048576)(hs:∀s∈types,Jn s)(vars:List Va)(hvl:vars.length≤1048576)(e:Ex)(hse:At e≤1048576):Ax Tryz.prog 82 [.sl 2 (types.map N1),.sl 2 (vars.map U8),.agg (cE e)] (.tuple [.int .i64 (Dd types vars e).1,.int .i64 (Dd types vars e).2]):=by
 refine Ax.body (n:=49) Ai Tryz.func82 rfl rfl rfl fun H=>?_
 refine Ah (Qp La (Qp Av (Qp Av (Ag (AW.seq (Ah (Qp C6 ?_)))))))
 refine Qp (Qc rfl (c57 types hl hs)) ?_
 refine Qp Av (Dh (Qp A2 (Qp Ct (Ag (A5 (fun hc1=>?_) fun hc1=>?_)))))
 ·
  refine Ah (Qp A2 (Qp Av (Qp Av (Ag (Du ?_)))))
  refine Ko (Iq _) (Iq _) ?_
  rw [Dd,if_pos hc1];rfl
 ·
  refine Bz (AW.seq (Ah (Qp C6 ?_)))
  refine Qp (Ak (n:=vars.length) Ai rfl rfl rfl (by simp)) ?_
  refine Qp Hi (Ag (A5 (fun hc2=>?_) fun hc2=>?_))
  ·
   refine Ah (Qp Av (Qp Av (Ag (Du ?_))))
   refine Ko (Iq _) (Iq _) ?_
   have hve:Hy types vars=5:=by rw [Hy,if_pos hc2]
   rw [Dd,iN hc1,hve,if_pos (by decide)];rfl
  ·
   refine Bz (AW.seq (Ah (Qp C6 ?_)))
   refine Qp (Ak (n:=vars.length) Ai rfl rfl rfl (by simp)) ?_
   refine Qp A2 (Ag (AW.block ?_))
   refine AW.Aa5 (fun (p:Nat)=>(⟨[(0,.sl 2 (types.map N1)),(1,.sl 2 (vars.map U8)),(5,.ptr (cE e)),(20,.sl 2 (vars.map U8)),(21,.int .i64 vars.length),(22,.int .i64 (p:Int))],H,49⟩:St)) (fun (p:Nat)=>p≤vars.length∧Aq (Pl types.length) vars=Aq (Pl types.length) (vars.drop p)) (fun (p:Nat)=>vars.length-p) (0) ?_ (GS.weaken ⟨rfl,rfl,rfl,rfl,rfl,rfl,trivial⟩ (.refl _)) ?_
   · exact ⟨Nat.zero_le _,rfl⟩
   ·
    rintro p hR
    refine Ah (Qp Cl (Ag (AW.seq (A5 (fun hc3=>?_) fun hc3=>?_))))
    ·
     obtain ⟨a,ha⟩:=B4 hc3
     have hlt:=Bb ha
     have hm:=List.mem_of_getElem? ha
     refine Bz (AW.seq (AW.block (Ah ?_)))
     refine Qp (Af (c:=[.str _,Iq _]) Ai rfl rfl rfl rfl rfl rfl (by omega) (Bj ha)) ?_
     refine Qp (Cm [.str _,Iq _]) ?_
     refine Qe (Al (l:=[.str [],.int .i64 0]) (by kernel_rfl)) ?_
     rintro _ _ ⟨b10,rfl,rfl⟩
     refine Co 0 [.str _,Iq _] (_::_) ?_
     refine AOL.ghost (GS.Aa4 (t:=10) 0 rfl rfl) ?_
     refine Dh (Qp (Qf [Iq _]) (Qp Bt (Qp Cl (Qp Br (Qg [] Qw (Qf [Iq _]) (Qg [(30,_)] Qw Bt (Qg [] Qw C6 ?_)))))))
     refine AOL.Aa6 (y:=Iq _) _ [(32,_)] rfl (sF.all ⟨Ent.Aa3 _ _,trivial⟩) (fun hG=>Ak (n:=types.length) Ai rfl rfl rfl (by simp)) rfl ?_
     refine AOL.Aa6 (y:=.bool _) _ [(31,_),(33,_)] rfl (sF.all ⟨Ent.Aa3 _ _,Ent.Aa3 _ _,trivial⟩) (fun hG=>Uo rfl rfl) rfl ?_
     refine Qp E5 (Ag (A5 (fun hc4=>?_) fun hc4=>?_))
     ·
      have he:Pl types.length a=6:=by unfold Pl;rw [if_pos hc4]
      refine Ah (Qp Av (Qp Av (Ag (AW.ret (Bc (Aj (Aj (Bc (Aj ?_)))))))))
      refine Ko (Iq _) (Iq _) ?_
      have hve:Hy types vars=6:=by rw [Hy,iN hc2,hR.2,Ba ha,Aq,he,if_pos (by decide)]
      rw [Dd,iN hc1,hve,if_pos (by decide)];rfl
     ·
      have he:Pl types.length a=0:=by unfold Pl;rw [if_neg (by simpa using hc4)]
      refine AW.skip (Bs (Ae (AW.region (Qp Fx (Qp A2 (Ag ?_))))))
      refine ⟨p+1,?_,?_,GS.weaken ⟨rfl,rfl,rfl,rfl,rfl,rfl,trivial⟩ (.refl _)⟩
      · exact ⟨hlt,by rw [hR.2,Ba ha,Aq,if_neg (by rw [he];decide)]⟩
      · omega
    ·
     have hd:=Di hc3
     have hf0:Aq (Pl types.length) vars=0:=by rw [hR.2,hd];rfl
     have hty:=cP hf0
     have hvz:Hy types vars=0:=by rw [Hy,if_neg (by simpa using hc2),hf0]
     refine AW.exit ?_
     refine A8 (A8 (Bw (Ae (AW.seq (Ah (Qp D1 ?_))))))
     refine Qp (Qc rfl (c21 e hse)) ?_
     refine Qp Av (Dh (Qp A2 (Qp Ct (Ag (A5 (fun hc5=>?_) fun hc5=>?_)))))
     ·
      refine Ah (Qp A2 (Qp Av (Qp Av (Ag (Du ?_)))))
      refine Ko (Iq _) (Iq _) ?_
      rw [Dd,iN hc1,hvz,if_neg (show ¬((0:Int) != 0)=true by decide),if_pos hc5];rfl
     ·
      refine Bz (Ah (Qp C6 (Qp C6 (Qp (Et [_,_]) (Qp D1 ?_)))))
      refine Qp (Qc rfl (c58 types vars hty e (Pe (by simpa using hc5)) hse)) ?_
      refine Qp Jq (Qp Jq (Qp Av (Qp Av (Ag (AW.ret ?_)))))
      refine Ko (Iq _) (Iq _) ?_
      rw [Dd,iN hc1,hvz,if_neg (show ¬((0:Int) != 0)=true by decide),iN hc5];rfl
theorem c32 (types:List Sc)(hl:types.length≤1048576)(hs:∀s∈types,Jn s)(vars:List Va)(hvl:vars.length≤1048576)(e:Ex)(hse:At e≤1048576):Ax Tryz.prog 35 [.sl 2 (types.map N1),.sl 2 (vars.map U8),.agg (cE e)] (.tuple [.int .i64 (Dd types vars e).1,.int .i64 (Dd types vars e).2]):=by
 refine Ax.body (n:=33) Ai Tryz.func35 rfl rfl rfl fun H=>?_
 refine Ah (Qp La (Qp Av (Qp Av (Ag (AW.seq (Ah (Qp C6 ?_)))))))
 refine Qp (Qc rfl (c59 types hl hs)) ?_
 refine Qp Av (Dh (Qp A2 (Qp Ct (Ag (A5 (fun hc1=>?_) fun hc1=>?_)))))
 ·
  refine Ah (Qp A2 (Qp Av (Qp Av (Ag (Du ?_)))))
  refine Ko (Iq _) (Iq _) ?_
  simp only [Ad,Dd]
  (first | rw [if_pos hc1] | skip)
  first | done | rfl
 ·
  refine Bz (AW.seq (Ah (Qp C6 (Qp C6 ?_))))
  refine Qp (Qc rfl (c60 types vars hvl)) ?_
  refine Qp Av (Dh (Qp A2 (Qp Ct (Ag (A5 (fun hc2=>?_) fun hc2=>?_)))))
  ·
   refine Ah (Qp A2 (Qp Av (Qp Av (Ag (Du ?_)))))
   refine Ko (Iq _) (Iq _) ?_
   simp only [Ad,Dd]
   (first | rw [iN hc1] | skip);(first | rw [if_pos hc2] | skip)
   first | done | rfl
  ·
   have hty:Jv types vars:=cP (Xj (by simpa using hc2))
   refine Bz (AW.seq (Ah (Qp D1 ?_)))
   refine Qp (Qc rfl (c25 e hse)) ?_
   refine Qp Av (Dh (Qp A2 (Qp Ct (Ag (A5 (fun hc3=>?_) fun hc3=>?_)))))
   ·
    refine Ah (Qp A2 (Qp Av (Qp Av (Ag (Du ?_)))))
    refine Ko (Iq _) (Iq _) ?_
    simp only [Ad,Dd]
    (first | rw [iN hc1] | skip);(first | rw [iN hc2] | skip);(first | rw [if_pos hc3] | skip)
    first | done | rfl
   ·
    refine Bz (Ah (Qp C6 (Qp C6 (Qp D1 ?_))))
    refine Qp (Qc rfl (c61 types vars hty e (Pe (by simpa using hc3)) hse)) ?_
    refine Qp Jq (Qp Jq (Qp Av (Qp Av (Ag (AW.ret ?_)))))
    refine Ko (Iq _) (Iq _) ?_
    simp only [Ad,Dd]
    (first | rw [iN hc1] | skip);(first | rw [iN hc2] | skip);(first | rw [iN hc3] | skip)
    first | done | rfl


def Cq (T:List Sc)(V:List Va):List AV:=[.sl 2 (T.map N1),.sl 2 (V.map U8)]
/-- a well-typed expression -/
structure KOK (T:List Sc) (V:List Va) (e:Ex):Prop where
 ty:Jv T V
 nodes:C4 e=0
 kind:(Cc T V e).2=0
theorem O6 {T:List Sc}{V:List Va}{e:Ex}(h:KOK T V e)(hp:e.args≠[]):Aq (fun a=>(Cc T V a).2) e.args=0∧Dk e.op (e.args.map fun a=>(Cc T V a).1)=0∧(Cc T V e).1=Xd e.op:=by
 have hk:=h.kind
 rw [Ei] at hk ⊢
 have hi:e.args.isEmpty=false:=by simpa using hp
 rw [hi] at hk ⊢
 simp only [Bool.false_eq_true,if_false] at hk ⊢
 by_cases h1:(Aq (fun a=>(Cc T V a).2) e.args != 0)=true
 · rw [if_pos h1] at hk;simp only at hk;rw [hk] at h1;cases h1
 ·
  rw [if_neg h1] at hk ⊢
  by_cases h2:(Dk e.op (e.args.map fun a=>(Cc T V a).1) != 0)=true
  · rw [if_pos h2] at hk;simp only at hk;rw [hk] at h2;cases h2
  ·
   rw [if_neg h2]
   exact ⟨by simpa using h1,by simpa using h2,rfl⟩
theorem A3 {T:List Sc}{V:List Va}{e a:Ex}(h:KOK T V e)(ha:a∈e.args):KOK T V a:=by
 have hp:e.args≠[]:=by intro hn;rw [hn] at ha;cases ha
 exact ⟨h.ty,(Be h.nodes).2 a ha,Hf (O6 h hp).1 a ha⟩
theorem Sb {T:List Sc}{V:List Va}{e:Ex}(h:KOK T V e)(ho:e.op<5):Cc T V e=F0 T V e:=by
 rw [Ei,Wq (Be h.nodes).1 ho];rfl
theorem kok_ne {T:List Sc}{V:List Va}{e:Ex}(h:KOK T V e)(ho:5≤e.op):e.args≠[]:=by
 obtain ⟨h0,h1,h2⟩:=Hc (Be h.nodes).1
 intro hn
 rw [hn] at h2
 unfold D6 at h2
 rw [if_neg (by omega),if_neg (by omega)] at h2
 split at h2 <;> simp at h2
theorem F4 {T:List Sc}{V:List Va}{e:Ex}(h:KOK T V e):(Cc T V e).1=Am T V e:=by
  obtain ⟨h0,h1,h2⟩:=Hc (Be h.nodes).1
  by_cases ho:e.op<5
  · have hk:=h.kind
    rw [Sb h ho] at hk ⊢
    unfold F0 Am at *
    by_cases c0:(e.op==0)=true
    · rw [if_pos c0,if_pos (by rw [c0];rfl)]
    · rw [if_neg c0] at hk ⊢
      by_cases c1:decide ((V.length:Int)≤e.var)=true
      · rw [if_pos c1] at hk;cases hk
      · rw [if_neg c1] at hk ⊢
        by_cases c2:(e.op==2||e.op==3)=true
        · rw [if_pos c2]
          have c2':e.op=2∨e.op=3:=by simpa using c2
          rcases c2' with c | c <;> rw [c] <;> rfl
        · rw [if_neg c2] at hk ⊢
          by_cases c3:decide (((Fu T V e.var).length:Int)≤e.field)=true
          · rw [if_pos c3] at hk;cases hk
          · rw [if_neg c3] at hk ⊢
            have c2':e.op≠2∧e.op≠3:=by simpa using c2
            have c0':e.op≠0:=by simpa using c0
            have:e.op=1∨e.op=4:=by omega
            rcases this with c | c
            · by_cases c4:(e.op==4&&(Hs (Fu T V e.var) e.field != e.val.kind || !Dw e.kind ⟨Hs (Fu T V e.var) e.field,0,[]⟩))=true
              · rw [c] at c4;cases c4
              · rw [if_neg c4,c];rfl
            · by_cases c4:(e.op==4&&(Hs (Fu T V e.var) e.field != e.val.kind || !Dw e.kind ⟨Hs (Fu T V e.var) e.field,0,[]⟩))=true
              · rw [if_pos c4] at hk;cases hk
              · rw [if_neg c4]
                have:Hs (Fu T V e.var) e.field=e.val.kind:=by
                  rw [c] at c4
                  simp at c4
                  exact c4.1
                rw [this,c];rfl
  · rw [(O6 h (kok_ne h (by omega))).2.2]
    have c0:(e.op==0||e.op==4)=false:=by simp;omega
    have c1:(e.op==1)=false:=by simp;omega
    unfold Am Xd
    rw [Ck c0,Ck c1]
    by_cases c:(e.op==5||e.op==6)=true
    · rw [if_pos c,if_pos (by simp at c ⊢;omega)]
    · rw [if_neg c,if_neg (by simp at c ⊢;omega)]
theorem pR {T:List Sc}{V:List Va}{e:Ex}(h:KOK T V e)(ho:e.op=1∨e.op=2∨e.op=3∨e.op=4):0≤e.var∧e.var<(V.length:Int):=by
 have hk:=h.kind
 rw [Sb h (by omega)] at hk
 have hv:=L8 (Be h.nodes).1
 unfold F0 at hk
 rw [Ck (by simp;omega)] at hk
 by_cases c1:decide ((V.length:Int)≤e.var)=true
 · rw [if_pos c1] at hk;cases hk
 ·
  simp at c1
  have hn:=(Be h.nodes).1
  refine ⟨?_,by omega⟩
  unfold By at hn
  split at hn
  · cases hn
  split at hn
  · cases hn
  split at hn
  · cases hn
  rename_i h3
  have hu:(Dp e.op).1=true:=by rcases ho with ho | ho | ho | ho <;> rw [ho] <;> rfl
  rw [hu] at h3
  simp at h3
  omega
theorem sX {T:List Sc}{V:List Va}{e:Ex}(h:KOK T V e)(ho:e.op=1∨e.op=4):0≤e.field∧e.field<((Fu T V e.var).length:Int):=by
 have hk:=h.kind
 rw [Sb h (by omega)] at hk
 have hv:=pR h (by omega)
 unfold F0 at hk
 rw [Ck (by simp;omega),Ck (by simp;omega),Ck (by simp;omega)] at hk
 by_cases c1:decide (((Fu T V e.var).length:Int)≤e.field)=true
 · rw [if_pos c1] at hk;cases hk
 ·
  simp at c1
  have hn:=(Be h.nodes).1
  refine ⟨?_,by omega⟩
  unfold By at hn
  split at hn
  · cases hn
  split at hn
  · cases hn
  split at hn
  · cases hn
  rename_i h3
  have hu:(Dp e.op).2=true:=by rcases ho with ho | ho <;> rw [ho] <;> rfl
  rw [hu] at h3
  simp at h3
  omega
/-- where a field's kind stands -/
theorem mT {T:List Sc}{V:List Va}{e:Ex}(h:KOK T V e)(ho:e.op=1):∃v s f,0≤e.var∧V[e.var.toNat]? = some v∧0≤v.type∧T[v.type.toNat]? = some s∧0≤e.field∧s.fields[e.field.toNat]? = some f∧Am T V e=f.kind:=by
 have hv:=pR h (by omega)
 have hf:=sX h (by omega)
 have hl:e.var.toNat<V.length:=by omega
 have hvm:=h.ty _ (List.getElem_mem hl)
 have hl2:(V[e.var.toNat]).type.toNat<T.length:=by omega
 have hfl:Fu T V e.var=(T[(V[e.var.toNat]).type.toNat]).fields:=by
  unfold Fu
  rw [List.getElem?_eq_getElem hl]
  simp only [Option.getD_some]
  rw [List.getElem?_eq_getElem hl2];rfl
 have hl3:e.field.toNat<(T[(V[e.var.toNat]).type.toNat]).fields.length:=by rw [hfl] at hf;omega
 refine ⟨_,_,_,hv.1,List.getElem?_eq_getElem hl,hvm.1,List.getElem?_eq_getElem hl2,hf.1,List.getElem?_eq_getElem hl3,?_⟩
 unfold Am Hs
 rw [Ck (by simp;omega),if_pos (by simp;omega),hfl,List.getElem?_eq_getElem hl3];rfl
theorem aC {T:List Sc}{V:List Va}{e:Ex}(h:(Dd T V e).2=0):KOK T V e∧(Dd T V e).1=Am T V e:=by
 unfold Dd at h ⊢
 by_cases h1:(Ed T != 0)=true
 · rw [if_pos h1] at h;simp only at h;rw [h] at h1;cases h1
 rw [if_neg h1] at h ⊢
 by_cases h2:(Hy T V != 0)=true
 · rw [if_pos h2] at h;simp only at h;rw [h] at h2;cases h2
 rw [if_neg h2] at h ⊢
 by_cases h3:(Bx e != 0)=true
 · rw [if_pos h3] at h;simp only at h;rw [h] at h3;cases h3
 rw [if_neg h3] at h ⊢
 have hk:KOK T V e:=⟨cP (Xj (by simpa using h2)),Sl (by simpa using h3),h⟩
 exact ⟨hk,F4 hk⟩
theorem oU {T:List Sc}{V:List Va}{e:Ex}(h:((Dd T V e).2 != 0)=true):Ec T V e=(Dd T V e).2:=by rw [Ec,if_pos h]
theorem pK {T:List Sc}{V:List Va}{e:Ex}(h:((Dd T V e).2 != 0)=false)(h2:((Dd T V e).1 != 1)=true):Ec T V e=9:=by rw [Ec,Ck h,if_pos h2]
theorem nS {T:List Sc}{V:List Va}{e:Ex}(h:((Dd T V e).2 != 0)=false)(h2:((Dd T V e).1 != 1)=false):Ec T V e=0:=by rw [Ec,Ck h,Ck h2]
theorem g9 {T:List Sc}{V:List Va}{e:Ex}(hk:KOK T V e)(hG:Ip [(e.op==9,true)]):1<e.args.length:=by
 have h:=eq_of_beq (hG _ (List.mem_singleton.2 rfl))
 exact Dj (Be hk.nodes).1 (by omega)
theorem l9 {T:List Sc}{V:List Va}{e:Ex}(hk:KOK T V e)(h:(e.op==9)=true):1<e.args.length:=by
 have h:=eq_of_beq h
 exact Dj (Be hk.nodes).1 (by omega)
end Go.Proofs.YtkddpedfbicbeaaGreatDoor

namespace Go.Aw
section
variable {P:Program} {T:List (Nat×TD)} {d:Option Nat} {ty:TypeId} {pos:String} {aft:Array Edge} {gd:Option (Nat×Bool)} {ρ:Operand→AV}
/-- What a map in the making holds at a key, and whether it holds it: a Nu. -/
theorem P3 {t:TypeId}{m k:Operand}{kt et b i:Nat}{td tk te:TD}{gs:List (Nat×Nat×Bool×Nat)}{n:List AV}{es:List (List AV×AV)}{eq:List AV→Bool}{r:Bool}{x:AV}{ok:Bool}(hT:Hr P T)(ht:Bu T t=some td)(hk:td.kind = .map kt et)(htk:Bu T kt=some tk)(hkk:tk.kind = .struct gs)
    (hte:Bu T et=some te) (hzs:Qv P et=true) (hm:ρ m = .val (.map (some b))) (hkey:ρ k = .agg n) (hnn:He T gs n n=some r) (heq:∀p∈es,He T gs n p.1=some (eq p.1)) (hx:match Hl eq es with | some y=>y=x | none=>te.zero = [x]) (hok:(Hl eq es).isSome=ok) :
    Dl P ⟨d,.lookup t m k true,ty,pos,aft,gd⟩ ρ (fun H=>H[i]? = some (.kmap b es)) (.tuple [x,.bool ok]):=by
  subst hok
  intro g w a H next Q hr hHK hH hn
  have h1:=(hm▸hr m (by simp [Op.operands]):Rep g w _ _).inv_val
  obtain ⟨us,h2,hus⟩:=(hkey▸hr k (by simp [Op.operands]):Rep g w _ _).inv_agg
  obtain ⟨hg,ms,clock,hheap,hl,⟨hclk,hbn⟩,hks,hvs⟩:=hHK.ok _ (List.mem_of_getElem? hH)
  have hu:=Iw (hT t td ht) hk
  have hget:(getObj b).run P w = .ok (.map ms clock) w:=by simp [getObj,Sem.run,hheap]
  have hck:=Hd hT htk hkk hus hnn (em:=ms.isEmpty) (m:=9997)
  have hf:=I8 hT htk hkk hus (eq:=eq) ms.toList es 0 (by simpa using hl) (fun j k x hj=>by simpa using hks j k x hj) heq
  rw [←Fp hT htk hkk] at hf
  have tup:∀(v:Value) (y:AV) (o:Bool),Rep g w v y→Rep g w (.tuple #[v,.bool o]) (.tuple [y,.bool o]):=fun v y o hv=>.tuple _ _ rfl fun j z hj=>by
    match j,hj with
    | 0,hj=>cases hj;exact hv
    | 1,hj=>cases hj;exact .bool _
    | j+2,hj=>cases hj
  unfold Oper.wp
  cases hs:Ls eq es with
  | some j=>
    obtain ⟨k',y,hj,hg2⟩:=V8 hs
    rw [hs] at hf
    have hrep:Rep g w (ms.toList.getD j default).val y:=by simpa using hvs j k' y hj
    simp only [Option.map_some] at hf
    simp only [execOp,Instr.lookup,Sem.run_bind,A9 hu,Result.andThen_ok,h1,hget,Sem.run_pure,h2,hck,hf,if_true]
    refine hn g w _ ?_ hHK (Ext.refl g w)
    rw [hg2] at hx ⊢
    simp only at hx
    subst hx
    exact tup _ _ _ hrep
  | none=>
    rw [hs] at hf
    simp only [Option.map_none] at hf
    obtain ⟨z,hz1,hz2,hz3⟩:=Mc (hT et te hte) w
    simp only [execOp,Instr.lookup,Sem.run_bind,A9 hu,Result.andThen_ok,h1,hget,Sem.run_pure,h2,hck,hf,hz1,if_true]
    refine hn g w _ ?_ hHK (Ext.refl g w)
    rw [Qj.1 hs] at hx ⊢
    simp only at hx
    have hz4:=hz3 g w
    rw [hx] at hz4
    have hna:∀vs,z≠.agg vs:=by
      rintro vs rfl
      obtain ⟨it,hit,_,_,zv,hzv,_⟩:=(hT et te hte).info
      have hzz:(zeroValue et).run P w = .ok zv w:=by simp [zeroValue,Hk hit,hzv]
      rw [hzz] at hz1
      cases hz1
      simp [Qv,hit,hzv] at hzs
    have hcell:z.cells = #[z]:=by cases z <;> first | rfl | exact absurd rfl (hna _)
    rw [hcell] at hz4
    exact tup _ _ _ (hz4.2 0 x rfl)

/-- A guarded operation that writes; where it is not carried out, the heap is already of the form that it leaves. -/
theorem AOL.geX {ops:Array Oper}{KK:St→Prop}{s:St}{o:Oper}{r:List Oper}{x:AV}{α:Type}{F:α→List HO}(G:List (Bool×Bool))(L:List (Nat×AV))(hw:Ih ops o s.sl=some G)
  (hL:∀p∈L,tZ G (get s.sl p.1) p.2) (h:Ip G→Le P o (Hb (L++s.sl)) s.H fun x' H'=>x'=x∧∃v,H'=F v) (hn:¬Ip G→∃v,s.H=F v) (hd:Od o.dst s.n=true)
  (k:∀v,AOL P ops KK r ⟨Fs o.dst (.opt G x) s.sl,F v,s.n⟩):AOL P ops KK (o::r) s:=by
 refine ⟨fun Q g a w hG hQ=>?_⟩
 obtain ⟨h1,h2⟩:=L1 (ops:=ops) (o:=o) (sl:=s.sl) hw (g:=g) (w:=w) (a:=a) (fun d _=>hG.sl d)
 unfold yJ
 by_cases hg:Ip G
 ·
  rw [if_pos (h1 hg)]
  refine h hg g w a _ _ (fun y _=>wP hG hg hL y) hG.heap fun g' w' v x' H' ⟨e1,u,e2⟩ hv hH hx=>?_
  subst e1;subst e2
  exact (k u).run Q g' _ w' (hG.put hx hd (.opt _ _ _ (fun _=>hv) (fun h=>absurd hg h)) hH) fun g'' s'' a'' w'' q1 q2 q3=>hQ g'' s'' a'' w'' q1 (hx.trans q2) q3
 ·
  rw [if_neg (by rw [h2 hg];decide)]
  obtain ⟨u,hu⟩:=hn hg
  have hH:HOK g w (F u):=by have:=hG.heap;rwa [hu] at this
  exact (k u).run Q g _ w (hG.put (Ext.refl g w) hd (.opt _ _ _ (fun h=>absurd h hg) (fun _=>rfl)) hH) hQ

/-- A buffer as the variable that it is made of, and back. -/
theorem tB {g:Gh}{w:World}{H:List HO}{k:Nat}{v:Value}{es:List (List AV)}{E z:Nat}(hH:HOK g w H)(hk:H[k]? = some (.buf v es E z)) :
  (v = .slice none 0 0∧es = [])∨∃b cap J,v = .slice (some ⟨b,0,none⟩) es.length cap∧es.length≤cap∧cap≤maxLen∧J.length=(cap-es.length)*z∧(∀e∈es,e.length=z)∧HOK g w (H.set k (.box b E (es.flatten++J))):=by
 rcases hH.ok _ (List.mem_of_getElem? hk) with h | ⟨b,cap,cur,e1,hg,hcur,hcsz,hcap,hcmax,hz1,hrep⟩
 · exact .inl h
 ·
  have hfl:es.flatten.length=es.length*z:=El hz1
  have hle:es.length*z≤cur.size:=by rw [hcsz];exact Nat.mul_le_mul_right z hcap
  refine .inr ⟨b,cap,List.replicate ((cap-es.length)*z) .junk,e1,hcap,hcmax,List.length_replicate,hz1,?_⟩
  refine hH.set (Ext.refl g w) hk (fun c hc=>.inl (by rw [e1];exact hc)) ⟨hg,cur,hcur,?_,fun i x hi=>?_⟩ (fun _ _ _ _=>⟨rfl,rfl⟩)
  ·
   rw [List.length_append,List.length_replicate,hfl,hcsz,Nat.sub_mul]
   have:=Nat.mul_le_mul_right z hcap
   omega
  ·
   rw [List.getElem?_append] at hi
   split at hi
   · exact hrep i x hi
   ·
    have:=List.eq_of_mem_replicate (List.mem_of_getElem? hi)
    rw [this];exact .junk _
theorem AW.unbuf {c:Code}{Q:Exit→St→Prop}{sl:List (Nat×AV)}{H:List HO}{n:Nat}(k:Nat){v:Value}{es:List (List AV)}{E z:Nat}(hk:H[k]? = some (.buf v es E z))(hne:es≠[])
  (h:∀b cap J,v = .slice (some ⟨b,0,none⟩) es.length cap→es.length≤cap→cap≤maxLen→J.length=(cap-es.length)*z→(∀e∈es,e.length=z)→AW P c Q ⟨sl,H.set k (.box b E (es.flatten++J)),n⟩):AW P c Q ⟨sl,H,n⟩:=fun Q' g a w hG hQ=>by
 rcases tB hG.heap hk with ⟨_,h2⟩ | ⟨b,cap,J,h1,h2,h3,h4,h5,h6⟩
 · exact absurd h2 hne
 · exact h b cap J h1 h2 h3 h4 h5 Q' g a w ⟨hG.size,hG.defers,hG.sl,h6⟩ hQ
theorem GS.rebuf {sl:List (Nat×AV)}{H H2:List HO}{n:Nat}(k:Nat){b cap E z:Nat}{cs:List AV}(es:List (List AV))(J:List AV){m:Nat}(hm:es.length=m)(hk:H[k]? = some (.box b E cs))(hcs:cs=es.flatten++J)(hcap:es.length≤cap)(hcm:cap≤maxLen)(hJ:J.length=(cap-es.length)*z)(hz:∀e∈es,e.length=z)
  (hH2:H.set k (.buf (.slice (some ⟨b,0,none⟩) m cap) es E z)=H2):GS ⟨sl,H,n⟩ ⟨sl,H2,n⟩:=fun g a w hG=>by
 subst hcs;subst hH2;subst hm
 obtain ⟨hg,vs,hvs,h3⟩:=hG.heap.ok _ (List.mem_of_getElem? hk)
 have hfl:es.flatten.length=es.length*z:=El hz
 refine ⟨g,⟨hG.size,hG.defers,hG.sl,?_⟩,Ext.refl g w⟩
 refine hG.heap.set (Ext.refl g w) hk (fun c hc=>.inl hc) (.inr ⟨b,cap,vs,rfl,hg,hvs,?_,hcap,hcm,hz,fun i x hi=>?_⟩) (fun _ _ _ _=>⟨rfl,rfl⟩)
 ·
  rw [h3.1,List.length_append,hfl,hJ,Nat.sub_mul]
  have:=Nat.mul_le_mul_right z hcap
  omega
 ·
  refine h3.2 i x ?_
  rw [List.getElem?_append_left (List.getElem?_eq_some_iff.1 hi).1];exact hi

/-- the value of a buffer is one cell -/
theorem HO.buf_one {g:Gh}{w:World}{v:Value}{es:List (List AV)}{E z:Nat}(h:HO.ok g w (.buf v es E z)):v.oneCell'=true:=by
 rcases h with ⟨rfl,_⟩ | ⟨b,cap,cur,rfl,_⟩ <;> rfl
theorem AW.bufOne {c:Code}{Q:Exit→St→Prop}{sl:List (Nat×AV)}{H:List HO}{n:Nat}{v:Value}{es:List (List AV)}{E z:Nat}(k:Nat)(hk:H[k]? = some (.buf v es E z))(h:v.oneCell'=true→AW P c Q ⟨sl,H,n⟩):AW P c Q ⟨sl,H,n⟩:=fun Q' g a w hG hQ=>
 h (HO.buf_one (hG.heap.ok _ (List.mem_of_getElem? hk))) Q' g a w hG hQ
def Aap (H:List HO):Prop:=∀v es E z,HO.buf v es E z∈H→v.oneCell'=true
theorem Le.bufs {o:Oper}{H:List HO}{R:AV→List HO→Prop}(h:Le P o ρ H R):Le P o ρ H (fun r H'=>R r H'∧Aap H'):=by
 intro g w a next Q hr hHK hn
 exact h g w a next Q hr hHK fun g' w' v x H' h1 h2 h3 h4=>hn g' w' v x H' ⟨h1,fun v es E z hm=>HO.buf_one (h3.ok _ hm)⟩ h2 h3 h4

theorem Dl.weakV {o:Oper}{K:List HO→Prop}{x x':AV}(h:Dl P o ρ K x)(hw:∀g w u,Rep g w u x→Rep g w u x'):Dl P o ρ K x':=
 fun g w a H next Q hr hH hK hn=>h g w a H next Q hr hH hK fun g' w' v hv hH' hx=>hn g' w' v (hw _ _ _ hv) hH' hx
/-- A buffer is written no more. -/
theorem Qx {g:Gh}{w:World}{H:List HO}{k:Nat}{v:Value}{es:List (List AV)}{E z:Nat}(hH:HOK g w H)(hk:H[k]? = some (.buf v es E z)):∃g',Ext g w g' w∧HOK g' w (H.eraseIdx k)∧Rep g' w v (.sl z es):=by
 have hok:=hH.ok _ (List.mem_of_getElem? hk)
 rcases hok with ⟨rfl,rfl⟩ | ⟨b,cap,cur,rfl,hg,hcur,hcsz,hcap,hcmax,hz1,hrep⟩
 · exact ⟨g,Ext.refl g w,hH.sub (List.eraseIdx_sublist ..),.sl0 _ _ _ (Nat.zero_le _)⟩
 ·
  have hx:Ext g w (g.put b none) w:=by
   refine ⟨rfl,rfl,rfl,Nat.le_refl _,fun c hc hgc=>⟨?_,rfl⟩,fun c m hc hgc=>⟨fun m' hm=>?_,fun _ _=>rfl⟩⟩
   ·
    by_cases e:c=b
    · subst e;exact Gh.Aa7 _ _ _
    · rw [Gh.Aba _ _ e];exact hgc
   ·
    by_cases e:c=b
    · subst e;rw [Gh.Aa7] at hm;cases hm
    · rw [Gh.Aba _ _ e,hgc] at hm;cases hm;exact Nat.le_refl _
  refine ⟨g.put b none,hx,?_,?_⟩
  ·
   have hsub:(H.eraseIdx k).Sublist H:=List.eraseIdx_sublist ..
   refine ⟨(hH.sub hsub).nodup,fun o ho=>?_,hH.glob.mono hx⟩
   obtain ⟨j,hj⟩:=List.getElem?_of_mem ho
   rw [List.getElem?_eraseIdx] at hj
   obtain ⟨j',hjk,hj'⟩:∃j',j'≠k∧H[j']? = some o:=by
    split at hj
    · exact ⟨j,by omega,hj⟩
    · exact ⟨j+1,by omega,hj⟩
   have hok:=hH.ok o (List.mem_of_getElem? hj')
   refine HO.ok_of_same hx hok fun c hc=>⟨Gh.Aba _ _ fun e=>hjk (hH.nodup_blk hj' hk (e▸hc) rfl),rfl⟩
  ·
   refine .sl b 0 es.length cap z es rfl hcap hcmax hz1 (fun i j=>cur.getD (i*z+j) undef) (fun i e hi j y hj=>⟨by unfold D4;rw [Gh.Aa7];trivial,?_⟩) (fun i e hi j y hj=>?_)
   ·
    have h3:=G7 hz1 hi hj
    have hlt:i*z+j<cur.size:=by
     have h4:=(List.getElem?_eq_some_iff.1 h3).1
     rw [El hz1] at h4
     have:=Nat.mul_le_mul_right z hcap
     omega
    rw [Nat.zero_add,Ch hcur];simp [hlt]
   · exact (hrep _ _ (G7 hz1 hi hj)).mono hx
theorem Dx.front3 {f:FuncId}{args:List AV}{H R:List HO}{Q:AV→List HO→Prop}{o1 o2 o3:HO}(k3 k2 k1:Nat)(hk3:H[k3]? = some o3)(hk2:(H.eraseIdx k3)[k2]? = some o2)(hk1:((H.eraseIdx k3).eraseIdx k2)[k1]? = some o1)(hR:((H.eraseIdx k3).eraseIdx k2).eraseIdx k1=R)
  (h:Dx P f (o1::o2::o3::R) args Q):Dx P f H args Q:=by
 subst hR
 refine h.perm ?_
 have h1:=Ig hk3
 have h2:=Ig hk2
 have h3:=Ig hk1
 refine h1.trans ((h2.cons o3).trans (((h3.cons o2).cons o3).trans ?_))
 exact (List.Perm.swap o2 o3 _).trans (((List.Perm.swap o1 o3 _).cons o2).trans (List.Perm.swap o1 o2 _))
theorem GS.heapTo {sl:List (Nat×AV)}{H H2:List HO}{n:Nat}(h:H=H2):GS ⟨sl,H,n⟩ ⟨sl,H2,n⟩:=by subst h;exact GS.refl _
end
end Go.Aw
