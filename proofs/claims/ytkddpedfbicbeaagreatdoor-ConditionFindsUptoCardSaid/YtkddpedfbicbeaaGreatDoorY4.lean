/-
  Walks of layer 11: sums. No condition.
-/
import Derived.Test.YtkddpedfbicbeaaGreatDoorAz
import Derived.Test.YtkddpedfbicbeaaGreatDoorK14
import Derived.Test.YtkddpedfbicbeaaGreatDoorK27
import Derived.KernelRfl
namespace Go.Proofs.YtkddpedfbicbeaaGreatDoor
open Go Go.Aw
set_option maxHeartbeats 3200000
set_option maxRecDepth 20000
set_option linter.unusedVariables false
set_option linter.unusedSimpArgs false

theorem d_add (m bs:Nat)(R:List HO)(e:Ex)(hn:C1 e=0)(n:Nat)(b:Int)(hb:b=1∨b = -1)(s:Su)(hs:suOK n s)(hm:n+Ar e≤1048576)(v:Value):Dv Tryz.prog 157 (N4 m bs v s R) [.val (.pointer (some ⟨bs,0,none⟩)),.agg (cE e),.int .i64 b] (fun r H'=>r = .bool (Bn e b s).2∧∃v',H'=N4 m bs v' (Bn e b s).1 R):=by
 revert n b s v hn
 induction e using Ex.Aak
 rename_i e ih
 intro hn n b hb s hs hm v
 have hz:=Bb hn
 have hsr:=hs.rest
 have hsl:=hs.len
 have hsp:1≤Ar e:=by rw [D5];omega
 refine Dv.body (n:=104) Ai Tryz.func157 rfl rfl rfl ?_
 refine Ah (Qp K8 (Qp Be (Ag (AW.seq (Ah (Qp Ks (Qp Bs (Ag (AW.block ?_)))))))))
 refine Ah (Qp A5 (Qp Be (Ag (A3 (fun hc1=>?_) fun hc1=>?_))))
 ·
  refine AW.seq ?_
  have hcn:=Tv hz.1 (eq_of_beq ‹(e.op==0)=true›)
  have hmul:b*e.val.num=e.val.num∨b*e.val.num = - e.val.num:=by rcases hb with rfl | rfl <;> omega
  refine AW.draw mixed (fun H'=>_∈H') (List.mem_of_getElem? (i:=1) rfl) (by kernel_rfl) ?_
  refine Qn 0 rfl H0 ?_
  refine Qn 1 rfl (Bl rfl) ?_
  refine Qn 2 rfl Ir ?_
  refine Qn 3 rfl (OpP.Aah (fun k=>Ax (k:=k) (c:=Iq _) Ai rfl rfl rfl rfl) (fun _ h=>h)) ?_
  refine Qn 4 rfl A0 (Qn 5 rfl Jp (Qn 6 rfl Wi (Qn 7 rfl Bs ?_)))
  refine Qn 8 rfl (vX rfl rfl rfl (by constructor <;> omega)) ?_
  refine Qn 9 rfl Fv ?_
  refine Qn 10 rfl (Bl rfl) ?_
  refine Qn 11 rfl Ir ?_
  refine Jv.last _ _ 12 _ _ rfl (by kernel_rfl) rfl rfl (C6 (k:=1) (v:=Iq _) (cs':=[_,_,Iq _]) (H2:=_::_::_::_) Ai rfl rfl rfl rfl (rfl) rfl rfl rfl rfl) (by kernel_rfl) ?_
  rintro _ _ ⟨rfl,rfl⟩
  refine Ae (Ah (Qp Be (Ag (AW.ret (Ba (Aj ?_))))))
  refine ⟨.inr rfl,[.bool _],.cons (.tmp _ _ rfl) <| .nil,_,.refl _,?_⟩
  first
   | exact absurd (‹(e.op==1)=true›.symm.trans ‹(e.op==1)=false›) (by decide)
   | exact absurd (‹(e.op==2)=true›.symm.trans ‹(e.op==2)=false›) (by decide)
   | exact Bm (Fw ‹(e.op==0)=true›) ⟨rfl,_,rfl⟩
   | exact Bm (B6 ‹(e.op==0)=false› (bB ‹(e.op==1)=true›)) ⟨rfl,_,Gi hnew⟩
   | exact Bm (B6 ‹(e.op==0)=false› (bB ‹(e.op==1)=true›)) ⟨rfl,_,Gc hj3⟩
   | exact Bm (B6 ‹(e.op==0)=false› (aW ‹(e.op==2)=true›)) ⟨rfl,_,Gi hnew⟩
   | exact Bm (B6 ‹(e.op==0)=false› (aW ‹(e.op==2)=true›)) ⟨rfl,_,Gc hj3⟩
   | exact ⟨congrArg AV.bool (De hl2 (.inl ⟨ho,rfl⟩)),_,rfl⟩
   | exact ⟨congrArg AV.bool (De hl2 (.inr ⟨ho,rfl⟩)),_,rfl⟩
   | exact Bm (Gt ‹(e.op==0)=false› (bH ‹(e.op==1)=false› ‹(e.op==2)=false›) ‹(e.op==5)=false› ‹(e.op==6)=false›) ⟨rfl,_,rfl⟩
 ·
  refine AW.seq (Ah (Qp A5 (Qp Be (Ag (A3 (fun hc2=>?_) fun hc2=>?_)))))
  ·
   refine Bx (A3 (fun hc3=>?_) fun hc3=>?_)
   ·
    refine AW.seq ?_
    have hsc:∀c∈(s.ts.map fun p=>H9 p.1),Bf c=true:=Fm fun _=>rfl
    refine AW.region (Qp Ks (Qp Bs (Qp Xo (Qp Bs (Qp Q2 (Qp Bs (Qp (Ep [Iq _,Iq _,Iq _]) ?_)))))))
    refine Qe (Al (l:=[.int .i64 0,.int .i64 0,.int .i64 0]) (by kernel_rfl)) ?_
    rintro _ _ ⟨b7,rfl,rfl⟩
    refine Cm 0 [Iq _,Iq _,Iq _] (_::_::_::_::_) ?_
    refine AOL.ghost (GS.Aad (t:=7) 0 rfl rfl) ?_
    refine Ag (AW.seq (AW.seq ?_))
    refine AW.draw mixed (fun H'=>_∈H'∧_∈H') ⟨(List.mem_of_getElem? (i:=1) rfl),(List.mem_of_getElem? (i:=2) rfl)⟩ (by kernel_rfl) ?_
    refine Qn 0 rfl H0 ?_
    refine Qn 1 rfl (Bl rfl) ?_
    refine Qn 2 rfl Ir ?_
    refine Qn 3 rfl (OpP.Aah (fun k=>Ax (k:=k) (c:=.val _) Ai rfl rfl rfl rfl) (fun _ h=>h.1)) ?_
    refine Qn 4 rfl (Ck [Iq _,Iq _,Iq _]) ?_
    refine Qn 5 rfl (OpP.Aah (fun k=>Pm (i:=k) (eq:=Hr (D1 e)) Ai rfl rfl rfl rfl rfl (by kernel_rfl) rfl rfl (rfl) (Iu (D1 e) s.ts) (Pj (D1 e) s.ts) (has_t (D1 e) s.ts)) (fun _ h=>h.2)) ?_
    refine Qn 6 rfl Mv (Qn 7 rfl Jn (Qn 8 rfl eN (Qn 9 rfl At (Qn 10 rfl Be ?_))))
    refine Jv.done _ _ (by kernel_rfl) ?_
    refine Ae (Ah (Qp Bp (Qp Ge (Ag (A3 (fun hc4=>?_) fun hc4=>?_)))))
    ·
     have hnew:Rl (D1 e) s.ts=false:=by simpa using hc4
     refine AW.draw mixed (fun H'=>_∈H') (List.mem_of_getElem? (i:=1) rfl) (by kernel_rfl) ?_
     refine Qn 0 rfl H0 (Qn 1 rfl H0 ?_)
     refine Qn 2 rfl (Bl rfl) ?_
     refine Qn 3 rfl Ir ?_
     refine Qn 4 rfl (OpP.Aah (fun k=>Ax (k:=k) (c:=.row _ _ _) Ai rfl rfl rfl rfl) (fun _ h=>h)) ?_
     refine Qn 5 rfl (Ck [Iq _,Iq _,Iq _]) ?_
     refine Qn 6 rfl (Az (es:=[[Iq _,Iq _,Iq _]]) Ai rfl rfl rfl rfl rfl rfl rfl rfl rfl) ?_
     refine Jv.eff _ _ 7 _ _ rfl (by kernel_rfl) rfl rfl (Dm (k:=0) Ai rfl rfl rfl rfl rfl rfl rfl rfl (Hd rfl) (hsc) (by simp;omega) (by simp [maxLen];omega)) (by rintro _ _ ⟨v54,rfl,rfl⟩;simp) ?_
     rintro _ _ ⟨v54,rfl,rfl⟩
     refine Qn 8 rfl (Bl rfl) ?_
     refine Qn 9 rfl Ir ?_
     refine Jv.last _ _ 10 _ _ rfl (by kernel_rfl) rfl rfl (C6 (k:=1) (v:=.row _ _ _) (cs':=[_,_,Iq _]) (H2:=_::_::_::_) Ai rfl rfl rfl rfl (rfl) rfl rfl rfl rfl) (by kernel_rfl) ?_
     rintro _ _ ⟨rfl,rfl⟩
     refine Ae (AW.seq ?_)
     have hcf:=V6 hs (D1 e)
     have htt:=hnew
     refine AW.draw mixed (fun H'=>_∈H'∧(HO.kmap m (Gs s.ts)∈H'∨HO.kmap m (Gs s.ts ++ [([.int .i64 e.op,.int .i64 e.var,.int .i64 e.field],AV.int .i64 0)])∈H')) ⟨(List.mem_of_getElem? (i:=1) rfl),.inl (List.mem_of_getElem? (i:=2) rfl)⟩ (by kernel_rfl) ?_
     refine Qn 0 rfl H0 ?_
     refine Qn 1 rfl (Bl rfl) ?_
     refine Qn 2 rfl Ir ?_
     refine Qn 3 rfl (OpP.Aah (fun k=>Ax (k:=k) (c:=.val _) Ai rfl rfl rfl rfl) (fun _ h=>h.1)) ?_
     refine Qn 4 rfl (Ck [Iq _,Iq _,Iq _]) ?_
     refine Qn 5 rfl (nZ (fun k=>Ja (i:=k) (eq:=Hr (D1 e)) Ai rfl rfl rfl rfl rfl (by kernel_rfl) rfl rfl (rfl) (Iu (D1 e) s.ts) (Pj (D1 e) s.ts)) (fun k=>Ja (i:=k) (eq:=Hr (D1 e)) Ai rfl rfl rfl rfl rfl (by kernel_rfl) rfl rfl (rfl) (jD (D1 e) s.ts) (mZ hnew)) (fun _ h=>h.2)) ?_
     refine Qn 6 rfl A0 (Qn 7 rfl Fv ?_)
     refine Jv.eff _ _ 8 _ _ rfl (by kernel_rfl) rfl rfl (Q0 (i:=2) (eq:=Hr (D1 e)) Ai rfl rfl rfl rfl rfl rfl rfl (fun _ _ _ h=>h) rfl rfl rfl (Iu (D1 e) s.ts) rfl (jL hnew)) (by rintro _ _ ⟨rfl,rfl⟩;simp) ?_
     rintro _ _ ⟨rfl,rfl⟩
     refine Qn 9 rfl Jn ?_
     refine Jv.last _ _ 10 _ _ rfl (by kernel_rfl) rfl rfl (Kz (i:=2) (j:=(Gs s.ts).length) (H2:=_::_::_::_) rfl rfl rfl rfl (iV (t:=D1 e)) rfl) (by kernel_rfl) ?_
     rintro _ _ ⟨rfl,rfl⟩
     refine Ae (Ah (Qp Be (Ag (AW.ret (Ba (Aj ?_))))))
     refine ⟨.inr rfl,[.bool _],.cons (.tmp _ _ rfl) <| .nil,_,.refl _,?_⟩
     first
      | exact absurd (‹(e.op==1)=true›.symm.trans ‹(e.op==1)=false›) (by decide)
      | exact absurd (‹(e.op==2)=true›.symm.trans ‹(e.op==2)=false›) (by decide)
      | exact Bm (Fw ‹(e.op==0)=true›) ⟨rfl,_,rfl⟩
      | exact Bm (B6 ‹(e.op==0)=false› (bB ‹(e.op==1)=true›)) ⟨rfl,_,Gi hnew⟩
      | exact Bm (B6 ‹(e.op==0)=false› (bB ‹(e.op==1)=true›)) ⟨rfl,_,Gc hj3⟩
      | exact Bm (B6 ‹(e.op==0)=false› (aW ‹(e.op==2)=true›)) ⟨rfl,_,Gi hnew⟩
      | exact Bm (B6 ‹(e.op==0)=false› (aW ‹(e.op==2)=true›)) ⟨rfl,_,Gc hj3⟩
      | exact ⟨congrArg AV.bool (De hl2 (.inl ⟨ho,rfl⟩)),_,rfl⟩
      | exact ⟨congrArg AV.bool (De hl2 (.inr ⟨ho,rfl⟩)),_,rfl⟩
      | exact Bm (Gt ‹(e.op==0)=false› (bH ‹(e.op==1)=false› ‹(e.op==2)=false›) ‹(e.op==5)=false› ‹(e.op==6)=false›) ⟨rfl,_,rfl⟩
    ·
     refine Bx (AW.seq ?_)
     have hcf:=V6 hs (D1 e)
     refine (bU (b:=b) (by simpa using hc4:Rl (D1 e) s.ts=true)).elim fun j hj=>?_
     have hj1:=hj.1
     have hj2:=hj.2.1
     have hj3:=hj.2.2
     refine AW.draw mixed (fun H'=>_∈H'∧_∈H') ⟨(List.mem_of_getElem? (i:=1) rfl),(List.mem_of_getElem? (i:=2) rfl)⟩ (by kernel_rfl) ?_
     refine Qn 0 rfl H0 ?_
     refine Qn 1 rfl (Bl rfl) ?_
     refine Qn 2 rfl Ir ?_
     refine Qn 3 rfl (OpP.Aah (fun k=>Ax (k:=k) (c:=.val _) Ai rfl rfl rfl rfl) (fun _ h=>h.1)) ?_
     refine Qn 4 rfl (Ck [Iq _,Iq _,Iq _]) ?_
     refine Qn 5 rfl (OpP.Aah (fun k=>Ja (i:=k) (eq:=Hr (D1 e)) Ai rfl rfl rfl rfl rfl (by kernel_rfl) rfl rfl (rfl) (Iu (D1 e) s.ts) (Pj (D1 e) s.ts)) (fun _ h=>h.2)) ?_
     refine Qn 6 rfl A0 (Qn 7 rfl Fv ?_)
     refine Jv.eff _ _ 8 _ _ rfl (by kernel_rfl) rfl rfl (Wt (i:=2) (eq:=Hr (D1 e)) Ai rfl rfl rfl rfl rfl rfl rfl (Iu (D1 e) s.ts) rfl (by rw [lG];exact hj1) (Vy hj2) rfl) (by rintro _ _ ⟨rfl,rfl⟩;simp) ?_
     rintro _ _ ⟨rfl,rfl⟩
     refine Qn 9 rfl Jn ?_
     refine Jv.last _ _ 10 _ _ rfl (by kernel_rfl) rfl rfl (Kz (i:=2) (j:=j) (H2:=_::_::_::_) rfl rfl rfl rfl (Vy hj2) rfl) (by kernel_rfl) ?_
     rintro _ _ ⟨rfl,rfl⟩
     refine Ae (Ah (Qp Be (Ag (AW.ret (Ba (Aj ?_))))))
     refine ⟨.inr rfl,[.bool _],.cons (.tmp _ _ rfl) <| .nil,_,.refl _,?_⟩
     first
      | exact absurd (‹(e.op==1)=true›.symm.trans ‹(e.op==1)=false›) (by decide)
      | exact absurd (‹(e.op==2)=true›.symm.trans ‹(e.op==2)=false›) (by decide)
      | exact Bm (Fw ‹(e.op==0)=true›) ⟨rfl,_,rfl⟩
      | exact Bm (B6 ‹(e.op==0)=false› (bB ‹(e.op==1)=true›)) ⟨rfl,_,Gi hnew⟩
      | exact Bm (B6 ‹(e.op==0)=false› (bB ‹(e.op==1)=true›)) ⟨rfl,_,Gc hj3⟩
      | exact Bm (B6 ‹(e.op==0)=false› (aW ‹(e.op==2)=true›)) ⟨rfl,_,Gi hnew⟩
      | exact Bm (B6 ‹(e.op==0)=false› (aW ‹(e.op==2)=true›)) ⟨rfl,_,Gc hj3⟩
      | exact ⟨congrArg AV.bool (De hl2 (.inl ⟨ho,rfl⟩)),_,rfl⟩
      | exact ⟨congrArg AV.bool (De hl2 (.inr ⟨ho,rfl⟩)),_,rfl⟩
      | exact Bm (Gt ‹(e.op==0)=false› (bH ‹(e.op==1)=false› ‹(e.op==2)=false›) ‹(e.op==5)=false› ‹(e.op==6)=false›) ⟨rfl,_,rfl⟩
   ·
    exact absurd (hc3.symm.trans hc2) (by decide)
  ·
   refine AW.region (Qp A5 (Qp Be (Ag (A3 (fun hc5=>?_) fun hc5=>?_))))
   ·
    refine AW.seq ?_
    have hsc:∀c∈(s.ts.map fun p=>H9 p.1),Bf c=true:=Fm fun _=>rfl
    refine AW.region (Qp Ks (Qp Bs (Qp Xo (Qp Bs (Qp Q2 (Qp Bs (Qp (Ep [Iq _,Iq _,Iq _]) ?_)))))))
    refine Qe (Al (l:=[.int .i64 0,.int .i64 0,.int .i64 0]) (by kernel_rfl)) ?_
    rintro _ _ ⟨b7,rfl,rfl⟩
    refine Cm 0 [Iq _,Iq _,Iq _] (_::_::_::_::_) ?_
    refine AOL.ghost (GS.Aad (t:=7) 0 rfl rfl) ?_
    refine Ag (AW.seq (AW.seq ?_))
    refine AW.draw mixed (fun H'=>_∈H'∧_∈H') ⟨(List.mem_of_getElem? (i:=1) rfl),(List.mem_of_getElem? (i:=2) rfl)⟩ (by kernel_rfl) ?_
    refine Qn 0 rfl H0 ?_
    refine Qn 1 rfl (Bl rfl) ?_
    refine Qn 2 rfl Ir ?_
    refine Qn 3 rfl (OpP.Aah (fun k=>Ax (k:=k) (c:=.val _) Ai rfl rfl rfl rfl) (fun _ h=>h.1)) ?_
    refine Qn 4 rfl (Ck [Iq _,Iq _,Iq _]) ?_
    refine Qn 5 rfl (OpP.Aah (fun k=>Pm (i:=k) (eq:=Hr (D1 e)) Ai rfl rfl rfl rfl rfl (by kernel_rfl) rfl rfl (rfl) (Iu (D1 e) s.ts) (Pj (D1 e) s.ts) (has_t (D1 e) s.ts)) (fun _ h=>h.2)) ?_
    refine Qn 6 rfl Mv (Qn 7 rfl Jn (Qn 8 rfl eN (Qn 9 rfl At (Qn 10 rfl Be ?_))))
    refine Jv.done _ _ (by kernel_rfl) ?_
    refine Ae (Ah (Qp Bp (Qp Ge (Ag (A3 (fun hc6=>?_) fun hc6=>?_)))))
    ·
     have hnew:Rl (D1 e) s.ts=false:=by simpa using hc6
     refine AW.draw mixed (fun H'=>_∈H') (List.mem_of_getElem? (i:=1) rfl) (by kernel_rfl) ?_
     refine Qn 0 rfl H0 (Qn 1 rfl H0 ?_)
     refine Qn 2 rfl (Bl rfl) ?_
     refine Qn 3 rfl Ir ?_
     refine Qn 4 rfl (OpP.Aah (fun k=>Ax (k:=k) (c:=.row _ _ _) Ai rfl rfl rfl rfl) (fun _ h=>h)) ?_
     refine Qn 5 rfl (Ck [Iq _,Iq _,Iq _]) ?_
     refine Qn 6 rfl (Az (es:=[[Iq _,Iq _,Iq _]]) Ai rfl rfl rfl rfl rfl rfl rfl rfl rfl) ?_
     refine Jv.eff _ _ 7 _ _ rfl (by kernel_rfl) rfl rfl (Dm (k:=0) Ai rfl rfl rfl rfl rfl rfl rfl rfl (Hd rfl) (hsc) (by simp;omega) (by simp [maxLen];omega)) (by rintro _ _ ⟨v54,rfl,rfl⟩;simp) ?_
     rintro _ _ ⟨v54,rfl,rfl⟩
     refine Qn 8 rfl (Bl rfl) ?_
     refine Qn 9 rfl Ir ?_
     refine Jv.last _ _ 10 _ _ rfl (by kernel_rfl) rfl rfl (C6 (k:=1) (v:=.row _ _ _) (cs':=[_,_,Iq _]) (H2:=_::_::_::_) Ai rfl rfl rfl rfl (rfl) rfl rfl rfl rfl) (by kernel_rfl) ?_
     rintro _ _ ⟨rfl,rfl⟩
     refine Ae (AW.seq ?_)
     have hcf:=V6 hs (D1 e)
     have htt:=hnew
     refine AW.draw mixed (fun H'=>_∈H'∧(HO.kmap m (Gs s.ts)∈H'∨HO.kmap m (Gs s.ts ++ [([.int .i64 e.op,.int .i64 e.var,.int .i64 e.field],AV.int .i64 0)])∈H')) ⟨(List.mem_of_getElem? (i:=1) rfl),.inl (List.mem_of_getElem? (i:=2) rfl)⟩ (by kernel_rfl) ?_
     refine Qn 0 rfl H0 ?_
     refine Qn 1 rfl (Bl rfl) ?_
     refine Qn 2 rfl Ir ?_
     refine Qn 3 rfl (OpP.Aah (fun k=>Ax (k:=k) (c:=.val _) Ai rfl rfl rfl rfl) (fun _ h=>h.1)) ?_
     refine Qn 4 rfl (Ck [Iq _,Iq _,Iq _]) ?_
     refine Qn 5 rfl (nZ (fun k=>Ja (i:=k) (eq:=Hr (D1 e)) Ai rfl rfl rfl rfl rfl (by kernel_rfl) rfl rfl (rfl) (Iu (D1 e) s.ts) (Pj (D1 e) s.ts)) (fun k=>Ja (i:=k) (eq:=Hr (D1 e)) Ai rfl rfl rfl rfl rfl (by kernel_rfl) rfl rfl (rfl) (jD (D1 e) s.ts) (mZ hnew)) (fun _ h=>h.2)) ?_
     refine Qn 6 rfl A0 (Qn 7 rfl Fv ?_)
     refine Jv.eff _ _ 8 _ _ rfl (by kernel_rfl) rfl rfl (Q0 (i:=2) (eq:=Hr (D1 e)) Ai rfl rfl rfl rfl rfl rfl rfl (fun _ _ _ h=>h) rfl rfl rfl (Iu (D1 e) s.ts) rfl (jL hnew)) (by rintro _ _ ⟨rfl,rfl⟩;simp) ?_
     rintro _ _ ⟨rfl,rfl⟩
     refine Qn 9 rfl Jn ?_
     refine Jv.last _ _ 10 _ _ rfl (by kernel_rfl) rfl rfl (Kz (i:=2) (j:=(Gs s.ts).length) (H2:=_::_::_::_) rfl rfl rfl rfl (iV (t:=D1 e)) rfl) (by kernel_rfl) ?_
     rintro _ _ ⟨rfl,rfl⟩
     refine Ae (Ah (Qp Be (Ag (AW.ret (Ba (Aj ?_))))))
     refine ⟨.inr rfl,[.bool _],.cons (.tmp _ _ rfl) <| .nil,_,.refl _,?_⟩
     first
      | exact absurd (‹(e.op==1)=true›.symm.trans ‹(e.op==1)=false›) (by decide)
      | exact absurd (‹(e.op==2)=true›.symm.trans ‹(e.op==2)=false›) (by decide)
      | exact Bm (Fw ‹(e.op==0)=true›) ⟨rfl,_,rfl⟩
      | exact Bm (B6 ‹(e.op==0)=false› (bB ‹(e.op==1)=true›)) ⟨rfl,_,Gi hnew⟩
      | exact Bm (B6 ‹(e.op==0)=false› (bB ‹(e.op==1)=true›)) ⟨rfl,_,Gc hj3⟩
      | exact Bm (B6 ‹(e.op==0)=false› (aW ‹(e.op==2)=true›)) ⟨rfl,_,Gi hnew⟩
      | exact Bm (B6 ‹(e.op==0)=false› (aW ‹(e.op==2)=true›)) ⟨rfl,_,Gc hj3⟩
      | exact ⟨congrArg AV.bool (De hl2 (.inl ⟨ho,rfl⟩)),_,rfl⟩
      | exact ⟨congrArg AV.bool (De hl2 (.inr ⟨ho,rfl⟩)),_,rfl⟩
      | exact Bm (Gt ‹(e.op==0)=false› (bH ‹(e.op==1)=false› ‹(e.op==2)=false›) ‹(e.op==5)=false› ‹(e.op==6)=false›) ⟨rfl,_,rfl⟩
    ·
     refine Bx (AW.seq ?_)
     have hcf:=V6 hs (D1 e)
     refine (bU (b:=b) (by simpa using hc6:Rl (D1 e) s.ts=true)).elim fun j hj=>?_
     have hj1:=hj.1
     have hj2:=hj.2.1
     have hj3:=hj.2.2
     refine AW.draw mixed (fun H'=>_∈H'∧_∈H') ⟨(List.mem_of_getElem? (i:=1) rfl),(List.mem_of_getElem? (i:=2) rfl)⟩ (by kernel_rfl) ?_
     refine Qn 0 rfl H0 ?_
     refine Qn 1 rfl (Bl rfl) ?_
     refine Qn 2 rfl Ir ?_
     refine Qn 3 rfl (OpP.Aah (fun k=>Ax (k:=k) (c:=.val _) Ai rfl rfl rfl rfl) (fun _ h=>h.1)) ?_
     refine Qn 4 rfl (Ck [Iq _,Iq _,Iq _]) ?_
     refine Qn 5 rfl (OpP.Aah (fun k=>Ja (i:=k) (eq:=Hr (D1 e)) Ai rfl rfl rfl rfl rfl (by kernel_rfl) rfl rfl (rfl) (Iu (D1 e) s.ts) (Pj (D1 e) s.ts)) (fun _ h=>h.2)) ?_
     refine Qn 6 rfl A0 (Qn 7 rfl Fv ?_)
     refine Jv.eff _ _ 8 _ _ rfl (by kernel_rfl) rfl rfl (Wt (i:=2) (eq:=Hr (D1 e)) Ai rfl rfl rfl rfl rfl rfl rfl (Iu (D1 e) s.ts) rfl (by rw [lG];exact hj1) (Vy hj2) rfl) (by rintro _ _ ⟨rfl,rfl⟩;simp) ?_
     rintro _ _ ⟨rfl,rfl⟩
     refine Qn 9 rfl Jn ?_
     refine Jv.last _ _ 10 _ _ rfl (by kernel_rfl) rfl rfl (Kz (i:=2) (j:=j) (H2:=_::_::_::_) rfl rfl rfl rfl (Vy hj2) rfl) (by kernel_rfl) ?_
     rintro _ _ ⟨rfl,rfl⟩
     refine Ae (Ah (Qp Be (Ag (AW.ret (Ba (Aj ?_))))))
     refine ⟨.inr rfl,[.bool _],.cons (.tmp _ _ rfl) <| .nil,_,.refl _,?_⟩
     first
      | exact absurd (‹(e.op==1)=true›.symm.trans ‹(e.op==1)=false›) (by decide)
      | exact absurd (‹(e.op==2)=true›.symm.trans ‹(e.op==2)=false›) (by decide)
      | exact Bm (Fw ‹(e.op==0)=true›) ⟨rfl,_,rfl⟩
      | exact Bm (B6 ‹(e.op==0)=false› (bB ‹(e.op==1)=true›)) ⟨rfl,_,Gi hnew⟩
      | exact Bm (B6 ‹(e.op==0)=false› (bB ‹(e.op==1)=true›)) ⟨rfl,_,Gc hj3⟩
      | exact Bm (B6 ‹(e.op==0)=false› (aW ‹(e.op==2)=true›)) ⟨rfl,_,Gi hnew⟩
      | exact Bm (B6 ‹(e.op==0)=false› (aW ‹(e.op==2)=true›)) ⟨rfl,_,Gc hj3⟩
      | exact ⟨congrArg AV.bool (De hl2 (.inl ⟨ho,rfl⟩)),_,rfl⟩
      | exact ⟨congrArg AV.bool (De hl2 (.inr ⟨ho,rfl⟩)),_,rfl⟩
      | exact Bm (Gt ‹(e.op==0)=false› (bH ‹(e.op==1)=false› ‹(e.op==2)=false›) ‹(e.op==5)=false› ‹(e.op==6)=false›) ⟨rfl,_,rfl⟩
   ·
    refine Ah (Qp A5 (Qp Be (Ag (A3 (fun hc7=>?_) fun hc7=>?_))))
    ·
     refine AW.seq ?_
     have ho:=eq_of_beq ‹(e.op==5)=true›
     have hl2:=Dg hz.1 (by omega)
     have h00:0<e.args.length:=by omega
     have hsz:=Dx hl2
     have hs0:=Xf _ (hz.2 _ (A4 h00)) hb hs
     refine AW.region (Qp H0 (Qp K5 (Qp Dk ?_)))
     refine Qp (Af (c:=[Iq _,_,Iq _,Iq _,Iq _,Iq _,Iq _,.str _]) Ai rfl rfl rfl rfl rfl rfl (by decide) (Fp h00)) ?_
     refine Qp D0 (Qp A0 ?_)
     refine Qe (Fo (by kernel_rfl) rfl rfl (ih _ (A4 h00) (hz.2 _ (A4 h00)) n b hb s hs (by omega) v)) ?_
     rintro _ _ ⟨rfl,u0,rfl⟩
     refine Qp Bp (Qg [] Qw H0 (Qg [] Qw K5 (Qg [(78,_)] Qw Dk ?_)))
     refine AOL.Aaf (y:=.ptr _) _ [(79,_)] rfl (rX.all ⟨Ent.Aac _ _,trivial⟩) (fun hG=>Af (c:=[Iq _,_,Iq _,Iq _,Iq _,Iq _,Iq _,.str _]) Ai rfl rfl rfl rfl rfl rfl (by decide) (Ie hl2)) rfl ?_
     refine Qg [(80,_)] Qw D0 (Qg [] Qw A0 ?_)
     refine AOL.geX (F:=fun u=>N4 m bs u (Bn e b s).1 R) _ [(77,_),(81,_),(82,_)] rfl (rX.all ⟨Ent.Aac _ _,Ent.Aac _ _,Ent.Aac _ _,trivial⟩) (fun hG=>Fo (by kernel_rfl) rfl rfl (gH hl2 (.inl ⟨ho,rfl⟩) hG (ih _ (Bi hl2) (hz.2 _ (Bi hl2)) (n+Ar (Ao e)) b hb _ hs0 (by omega) u0))) (fun hG=>Z8 hl2 (.inl ⟨ho,rfl⟩) hG) rfl fun u1=>?_
     refine Qp E1 (Qp Be (Ag (AW.ret (Ba (Aj ?_)))))
     refine ⟨.inr rfl,[.bool _],.cons (.tmp _ _ rfl) <| .nil,_,.refl _,?_⟩
     first
      | exact absurd (‹(e.op==1)=true›.symm.trans ‹(e.op==1)=false›) (by decide)
      | exact absurd (‹(e.op==2)=true›.symm.trans ‹(e.op==2)=false›) (by decide)
      | exact Bm (Fw ‹(e.op==0)=true›) ⟨rfl,_,rfl⟩
      | exact Bm (B6 ‹(e.op==0)=false› (bB ‹(e.op==1)=true›)) ⟨rfl,_,Gi hnew⟩
      | exact Bm (B6 ‹(e.op==0)=false› (bB ‹(e.op==1)=true›)) ⟨rfl,_,Gc hj3⟩
      | exact Bm (B6 ‹(e.op==0)=false› (aW ‹(e.op==2)=true›)) ⟨rfl,_,Gi hnew⟩
      | exact Bm (B6 ‹(e.op==0)=false› (aW ‹(e.op==2)=true›)) ⟨rfl,_,Gc hj3⟩
      | exact ⟨congrArg AV.bool (De hl2 (.inl ⟨ho,rfl⟩)),_,rfl⟩
      | exact ⟨congrArg AV.bool (De hl2 (.inr ⟨ho,rfl⟩)),_,rfl⟩
      | exact Bm (Gt ‹(e.op==0)=false› (bH ‹(e.op==1)=false› ‹(e.op==2)=false›) ‹(e.op==5)=false› ‹(e.op==6)=false›) ⟨rfl,_,rfl⟩
    ·
     refine Ah (Qp A5 (Qp Be (Ag (A3 (fun hc8=>?_) fun hc8=>?_))))
     ·
      refine AW.seq ?_
      have ho:=eq_of_beq ‹(e.op==6)=true›
      have hl2:=Dg hz.1 (by omega)
      have h00:0<e.args.length:=by omega
      have hsz:=Dx hl2
      have hs0:=Xf _ (hz.2 _ (A4 h00)) hb hs
      refine AW.region (Qp H0 (Qp K5 (Qp Dk ?_)))
      refine Qp (Af (c:=[Iq _,_,Iq _,Iq _,Iq _,Iq _,Iq _,.str _]) Ai rfl rfl rfl rfl rfl rfl (by decide) (Fp h00)) ?_
      refine Qp D0 (Qp A0 ?_)
      refine Qe (Fo (by kernel_rfl) rfl rfl (ih _ (A4 h00) (hz.2 _ (A4 h00)) n b hb s hs (by omega) v)) ?_
      rintro _ _ ⟨rfl,u0,rfl⟩
      refine Qp Bp (Qg [] Qw H0 (Qg [] Qw K5 (Qg [(96,_)] Qw Dk ?_)))
      refine AOL.Aaf (y:=.ptr _) _ [(97,_)] rfl (rX.all ⟨Ent.Aac _ _,trivial⟩) (fun hG=>Af (c:=[Iq _,_,Iq _,Iq _,Iq _,Iq _,Iq _,.str _]) Ai rfl rfl rfl rfl rfl rfl (by decide) (Ie hl2)) rfl ?_
      refine Qg [(98,_)] Qw D0 (Qg [] Qw A0 ?_)
      refine AOL.Aaf (y:=Iq _) _ [(100,_)] rfl (rX.all ⟨Ent.Aac _ _,trivial⟩) (fun hG=>Xv rfl rfl (by constructor <;> omega)) rfl ?_
      refine AOL.geX (F:=fun u=>N4 m bs u (Bn e b s).1 R) _ [(95,_),(99,_),(101,_)] rfl (rX.all ⟨Ent.Aac _ _,Ent.Aac _ _,Ent.Aac _ _,trivial⟩) (fun hG=>Fo (by kernel_rfl) rfl rfl (gH hl2 (.inr ⟨ho,rfl⟩) hG (ih _ (Bi hl2) (hz.2 _ (Bi hl2)) (n+Ar (Ao e)) (0-b) (by omega) _ hs0 (by omega) u0))) (fun hG=>Z8 hl2 (.inr ⟨ho,rfl⟩) hG) rfl fun u1=>?_
      refine Qp E1 (Qp Be (Ag (AW.ret (Ba (Aj ?_)))))
      refine ⟨.inr rfl,[.bool _],.cons (.tmp _ _ rfl) <| .nil,_,.refl _,?_⟩
      first
       | exact absurd (‹(e.op==1)=true›.symm.trans ‹(e.op==1)=false›) (by decide)
       | exact absurd (‹(e.op==2)=true›.symm.trans ‹(e.op==2)=false›) (by decide)
       | exact Bm (Fw ‹(e.op==0)=true›) ⟨rfl,_,rfl⟩
       | exact Bm (B6 ‹(e.op==0)=false› (bB ‹(e.op==1)=true›)) ⟨rfl,_,Gi hnew⟩
       | exact Bm (B6 ‹(e.op==0)=false› (bB ‹(e.op==1)=true›)) ⟨rfl,_,Gc hj3⟩
       | exact Bm (B6 ‹(e.op==0)=false› (aW ‹(e.op==2)=true›)) ⟨rfl,_,Gi hnew⟩
       | exact Bm (B6 ‹(e.op==0)=false› (aW ‹(e.op==2)=true›)) ⟨rfl,_,Gc hj3⟩
       | exact ⟨congrArg AV.bool (De hl2 (.inl ⟨ho,rfl⟩)),_,rfl⟩
       | exact ⟨congrArg AV.bool (De hl2 (.inr ⟨ho,rfl⟩)),_,rfl⟩
       | exact Bm (Gt ‹(e.op==0)=false› (bH ‹(e.op==1)=false› ‹(e.op==2)=false›) ‹(e.op==5)=false› ‹(e.op==6)=false›) ⟨rfl,_,rfl⟩
     ·
      refine AW.skip (Bq (Ae (Ah (Qp Be (Ag (AW.ret ?_))))))
      refine ⟨.inr rfl,[.bool _],.cons (.tmp _ _ rfl) <| .nil,_,.refl _,?_⟩
      first
       | exact absurd (‹(e.op==1)=true›.symm.trans ‹(e.op==1)=false›) (by decide)
       | exact absurd (‹(e.op==2)=true›.symm.trans ‹(e.op==2)=false›) (by decide)
       | exact Bm (Fw ‹(e.op==0)=true›) ⟨rfl,_,rfl⟩
       | exact Bm (B6 ‹(e.op==0)=false› (bB ‹(e.op==1)=true›)) ⟨rfl,_,Gi hnew⟩
       | exact Bm (B6 ‹(e.op==0)=false› (bB ‹(e.op==1)=true›)) ⟨rfl,_,Gc hj3⟩
       | exact Bm (B6 ‹(e.op==0)=false› (aW ‹(e.op==2)=true›)) ⟨rfl,_,Gi hnew⟩
       | exact Bm (B6 ‹(e.op==0)=false› (aW ‹(e.op==2)=true›)) ⟨rfl,_,Gc hj3⟩
       | exact ⟨congrArg AV.bool (De hl2 (.inl ⟨ho,rfl⟩)),_,rfl⟩
       | exact ⟨congrArg AV.bool (De hl2 (.inr ⟨ho,rfl⟩)),_,rfl⟩
       | exact Bm (Gt ‹(e.op==0)=false› (bH ‹(e.op==1)=false› ‹(e.op==2)=false›) ‹(e.op==5)=false› ‹(e.op==6)=false›) ⟨rfl,_,rfl⟩

end Go.Proofs.YtkddpedfbicbeaaGreatDoor
