/-
  Walks of layer 11: sums. No condition.
-/
import Derived.Test.YtjedflcpjlgokaaGreatDoorAz
import Derived.Test.YtjedflcpjlgokaaGreatDoorK11
import Derived.Test.YtjedflcpjlgokaaGreatDoorK23
import Derived.KernelRfl
namespace Go.Proofs.YtjedflcpjlgokaaGreatDoor
open Go Go.Aw
set_option maxHeartbeats 3200000
set_option maxRecDepth 20000
set_option linter.unusedVariables false
set_option linter.unusedSimpArgs false

theorem xY (m bs:Nat)(R:List HO)(e:Ex)(hn:Ci e=0)(n:Nat)(b:Int)(hb:b=1∨b = -1)(s:Su)(hs:suOK n s)(hm:n+Av e≤1048576)(v:Value):C7 Tryz.prog 121 (Mr m bs v s R) [.val (.pointer (some ⟨bs,0,none⟩)),.agg (cE e),.int .i64 b] (fun r H'=>r = .bool (A5 e b s).2∧∃v',H'=Mr m bs v' (A5 e b s).1 R):=by
 revert n b s v hn
 induction e using Ex.Aa8
 rename_i e ih
 intro hn n b hb s hs hm v
 have hz:=A9 hn
 have hsr:=hs.rest
 have hsl:=hs.len
 have hsp:1≤Av e:=by rw [Dj];omega
 refine C7.body (n:=104) Aj Tryz.func121 rfl rfl rfl ?_
 refine Ah (Qp Mt (Qp Bb (Ag (AW.seq (Ah (Qp Lm (Qp B2 (Ag (AW.block ?_)))))))))
 refine Ah (Qp Ba (Qp Bb (Ag (A4 (fun hc1=>?_) fun hc1=>?_))))
 ·
  refine AW.seq ?_
  have hcn:=Rt hz.1 (eq_of_beq ‹(e.op==0)=true›)
  have hmul:b*e.val.num=e.val.num∨b*e.val.num = - e.val.num:=by rcases hb with rfl | rfl <;> omega
  refine AW.draw mixed (fun H'=>_∈H') (List.mem_of_getElem? (i:=1) rfl) (by kernel_rfl) ?_
  refine Qn 0 rfl Gn ?_
  refine Qn 1 rfl (Bc rfl) ?_
  refine Qn 2 rfl Ia ?_
  refine Qn 3 rfl (OpP.Aa4 (fun k=>Am (k:=k) (c:=Iq _) Aj rfl rfl rfl rfl) (fun _ h=>h)) ?_
  refine Qn 4 rfl Az (Qn 5 rfl Mv (Qn 6 rfl mK (Qn 7 rfl B2 ?_)))
  refine Qn 8 rfl (yZ rfl rfl rfl (by constructor <;> omega)) ?_
  refine Qn 9 rfl Fb ?_
  refine Qn 10 rfl (Bc rfl) ?_
  refine Qn 11 rfl Ia ?_
  refine Iu.last _ _ 12 _ _ rfl (by kernel_rfl) rfl rfl (Dc (k:=1) (v:=Iq _) (cs':=[_,_,Iq _]) (H2:=_::_::_::_) Aj rfl rfl rfl rfl (rfl) rfl rfl rfl rfl) (by kernel_rfl) ?_
  rintro _ _ ⟨rfl,rfl⟩
  refine Ad (Ah (Qp Bb (Ag (AW.ret (A6 (Ai ?_))))))
  refine ⟨.inr rfl,[.bool _],.cons (.tmp _ _ rfl) <| .nil,_,.refl _,?_⟩
  first
   | exact absurd (‹(e.op==1)=true›.symm.trans ‹(e.op==1)=false›) (by decide)
   | exact absurd (‹(e.op==2)=true›.symm.trans ‹(e.op==2)=false›) (by decide)
   | exact Be (D2 ‹(e.op==0)=true›) ⟨rfl,_,rfl⟩
   | exact Be (Bs ‹(e.op==0)=false› (Yk ‹(e.op==1)=true›)) ⟨rfl,_,Fj hnew⟩
   | exact Be (Bs ‹(e.op==0)=false› (Yk ‹(e.op==1)=true›)) ⟨rfl,_,Fm hj3⟩
   | exact Be (Bs ‹(e.op==0)=false› (Yo ‹(e.op==2)=true›)) ⟨rfl,_,Fj hnew⟩
   | exact Be (Bs ‹(e.op==0)=false› (Yo ‹(e.op==2)=true›)) ⟨rfl,_,Fm hj3⟩
   | exact ⟨congrArg AV.bool (Cv hl2 (.inl ⟨ho,rfl⟩)),_,rfl⟩
   | exact ⟨congrArg AV.bool (Cv hl2 (.inr ⟨ho,rfl⟩)),_,rfl⟩
   | exact Be (Eb ‹(e.op==0)=false› (Zo ‹(e.op==1)=false› ‹(e.op==2)=false›) ‹(e.op==5)=false› ‹(e.op==6)=false›) ⟨rfl,_,rfl⟩
 ·
  refine AW.seq (Ah (Qp Ba (Qp Bb (Ag (A4 (fun hc2=>?_) fun hc2=>?_)))))
  ·
   refine Bx (A4 (fun hc3=>?_) fun hc3=>?_)
   ·
    refine AW.seq ?_
    have hsc:∀c∈(s.ts.map fun p=>G2 p.1),Bg c=true:=F2 fun _=>rfl
    refine AW.region (Qp Lm (Qp B2 (Qp aW (Qp B2 (Qp aV (Qp B2 (Qp (Ij [Iq _,Iq _,Iq _]) ?_)))))))
    refine Qe (A0 (l:=[.int .i64 0,.int .i64 0,.int .i64 0]) (by kernel_rfl)) ?_
    rintro _ _ ⟨b7,rfl,rfl⟩
    refine Eu 0 [Iq _,Iq _,Iq _] (_::_::_::_::_) ?_
    refine AOL.ghost (GS.Aa2 (t:=7) 0 rfl rfl) ?_
    refine Ag (AW.seq (AW.seq ?_))
    refine AW.draw mixed (fun H'=>_∈H'∧_∈H') ⟨(List.mem_of_getElem? (i:=1) rfl),(List.mem_of_getElem? (i:=2) rfl)⟩ (by kernel_rfl) ?_
    refine Qn 0 rfl Gn ?_
    refine Qn 1 rfl (Bc rfl) ?_
    refine Qn 2 rfl Ia ?_
    refine Qn 3 rfl (OpP.Aa4 (fun k=>Am (k:=k) (c:=.val _) Aj rfl rfl rfl rfl) (fun _ h=>h.1)) ?_
    refine Qn 4 rfl (C8 [Iq _,Iq _,Iq _]) ?_
    refine Qn 5 rfl (OpP.Aa4 (fun k=>N4 (i:=k) (eq:=Gc (Dh e)) Aj rfl rfl rfl rfl rfl (by kernel_rfl) rfl rfl (rfl) (Ho (Dh e) s.ts) (Nt (Dh e) s.ts) (yL (Dh e) s.ts)) (fun _ h=>h.2)) ?_
    refine Qn 6 rfl Om (Qn 7 rfl Kn (Qn 8 rfl X9 (Qn 9 rfl Aq (Qn 10 rfl Bb ?_))))
    refine Iu.done _ _ (by kernel_rfl) ?_
    refine Ad (Ah (Qp Bt (Qp Gj (Ag (A4 (fun hc4=>?_) fun hc4=>?_)))))
    ·
     have hnew:Pe (Dh e) s.ts=false:=by simpa using hc4
     refine AW.draw mixed (fun H'=>_∈H') (List.mem_of_getElem? (i:=1) rfl) (by kernel_rfl) ?_
     refine Qn 0 rfl Gn (Qn 1 rfl Gn ?_)
     refine Qn 2 rfl (Bc rfl) ?_
     refine Qn 3 rfl Ia ?_
     refine Qn 4 rfl (OpP.Aa4 (fun k=>Am (k:=k) (c:=.row _ _ _) Aj rfl rfl rfl rfl) (fun _ h=>h)) ?_
     refine Qn 5 rfl (C8 [Iq _,Iq _,Iq _]) ?_
     refine Qn 6 rfl (A3 (es:=[[Iq _,Iq _,Iq _]]) Aj rfl rfl rfl rfl rfl rfl rfl rfl rfl) ?_
     refine Iu.eff _ _ 7 _ _ rfl (by kernel_rfl) rfl rfl (Dr (k:=0) Aj rfl rfl rfl rfl rfl rfl rfl rfl (Hw rfl) (hsc) (by simp;omega) (by simp [maxLen];omega)) (by rintro _ _ ⟨v54,rfl,rfl⟩;simp) ?_
     rintro _ _ ⟨v54,rfl,rfl⟩
     refine Qn 8 rfl (Bc rfl) ?_
     refine Qn 9 rfl Ia ?_
     refine Iu.last _ _ 10 _ _ rfl (by kernel_rfl) rfl rfl (Dc (k:=1) (v:=.row _ _ _) (cs':=[_,_,Iq _]) (H2:=_::_::_::_) Aj rfl rfl rfl rfl (rfl) rfl rfl rfl rfl) (by kernel_rfl) ?_
     rintro _ _ ⟨rfl,rfl⟩
     refine Ad (AW.seq ?_)
     have hcf:=Tq hs (Dh e)
     have htt:=hnew
     refine AW.draw mixed (fun H'=>_∈H'∧(HO.kmap m (Fr s.ts)∈H'∨HO.kmap m (Fr s.ts ++ [([.int .i64 e.op,.int .i64 e.var,.int .i64 e.field],AV.int .i64 0)])∈H')) ⟨(List.mem_of_getElem? (i:=1) rfl),.inl (List.mem_of_getElem? (i:=2) rfl)⟩ (by kernel_rfl) ?_
     refine Qn 0 rfl Gn ?_
     refine Qn 1 rfl (Bc rfl) ?_
     refine Qn 2 rfl Ia ?_
     refine Qn 3 rfl (OpP.Aa4 (fun k=>Am (k:=k) (c:=.val _) Aj rfl rfl rfl rfl) (fun _ h=>h.1)) ?_
     refine Qn 4 rfl (C8 [Iq _,Iq _,Iq _]) ?_
     refine Qn 5 rfl (iO (fun k=>Ii (i:=k) (eq:=Gc (Dh e)) Aj rfl rfl rfl rfl rfl (by kernel_rfl) rfl rfl (rfl) (Ho (Dh e) s.ts) (Nt (Dh e) s.ts)) (fun k=>Ii (i:=k) (eq:=Gc (Dh e)) Aj rfl rfl rfl rfl rfl (by kernel_rfl) rfl rfl (rfl) (eX (Dh e) s.ts) (jS hnew)) (fun _ h=>h.2)) ?_
     refine Qn 6 rfl Az (Qn 7 rfl Fb ?_)
     refine Iu.eff _ _ 8 _ _ rfl (by kernel_rfl) rfl rfl (O3 (i:=2) (eq:=Gc (Dh e)) Aj rfl rfl rfl rfl rfl rfl rfl (fun _ _ _ h=>h) rfl rfl rfl (Ho (Dh e) s.ts) rfl (dN hnew)) (by rintro _ _ ⟨rfl,rfl⟩;simp) ?_
     rintro _ _ ⟨rfl,rfl⟩
     refine Qn 9 rfl Kn ?_
     refine Iu.last _ _ 10 _ _ rfl (by kernel_rfl) rfl rfl (Jq (i:=2) (j:=(Fr s.ts).length) (H2:=_::_::_::_) rfl rfl rfl rfl (bT (t:=Dh e)) rfl) (by kernel_rfl) ?_
     rintro _ _ ⟨rfl,rfl⟩
     refine Ad (Ah (Qp Bb (Ag (AW.ret (A6 (Ai ?_))))))
     refine ⟨.inr rfl,[.bool _],.cons (.tmp _ _ rfl) <| .nil,_,.refl _,?_⟩
     first
      | exact absurd (‹(e.op==1)=true›.symm.trans ‹(e.op==1)=false›) (by decide)
      | exact absurd (‹(e.op==2)=true›.symm.trans ‹(e.op==2)=false›) (by decide)
      | exact Be (D2 ‹(e.op==0)=true›) ⟨rfl,_,rfl⟩
      | exact Be (Bs ‹(e.op==0)=false› (Yk ‹(e.op==1)=true›)) ⟨rfl,_,Fj hnew⟩
      | exact Be (Bs ‹(e.op==0)=false› (Yk ‹(e.op==1)=true›)) ⟨rfl,_,Fm hj3⟩
      | exact Be (Bs ‹(e.op==0)=false› (Yo ‹(e.op==2)=true›)) ⟨rfl,_,Fj hnew⟩
      | exact Be (Bs ‹(e.op==0)=false› (Yo ‹(e.op==2)=true›)) ⟨rfl,_,Fm hj3⟩
      | exact ⟨congrArg AV.bool (Cv hl2 (.inl ⟨ho,rfl⟩)),_,rfl⟩
      | exact ⟨congrArg AV.bool (Cv hl2 (.inr ⟨ho,rfl⟩)),_,rfl⟩
      | exact Be (Eb ‹(e.op==0)=false› (Zo ‹(e.op==1)=false› ‹(e.op==2)=false›) ‹(e.op==5)=false› ‹(e.op==6)=false›) ⟨rfl,_,rfl⟩
    ·
     refine Bx (AW.seq ?_)
     have hcf:=Tq hs (Dh e)
     refine (Z7 (b:=b) (by simpa using hc4:Pe (Dh e) s.ts=true)).elim fun j hj=>?_
     have hj1:=hj.1
     have hj2:=hj.2.1
     have hj3:=hj.2.2
     refine AW.draw mixed (fun H'=>_∈H'∧_∈H') ⟨(List.mem_of_getElem? (i:=1) rfl),(List.mem_of_getElem? (i:=2) rfl)⟩ (by kernel_rfl) ?_
     refine Qn 0 rfl Gn ?_
     refine Qn 1 rfl (Bc rfl) ?_
     refine Qn 2 rfl Ia ?_
     refine Qn 3 rfl (OpP.Aa4 (fun k=>Am (k:=k) (c:=.val _) Aj rfl rfl rfl rfl) (fun _ h=>h.1)) ?_
     refine Qn 4 rfl (C8 [Iq _,Iq _,Iq _]) ?_
     refine Qn 5 rfl (OpP.Aa4 (fun k=>Ii (i:=k) (eq:=Gc (Dh e)) Aj rfl rfl rfl rfl rfl (by kernel_rfl) rfl rfl (rfl) (Ho (Dh e) s.ts) (Nt (Dh e) s.ts)) (fun _ h=>h.2)) ?_
     refine Qn 6 rfl Az (Qn 7 rfl Fb ?_)
     refine Iu.eff _ _ 8 _ _ rfl (by kernel_rfl) rfl rfl (T8 (i:=2) (eq:=Gc (Dh e)) Aj rfl rfl rfl rfl rfl rfl rfl (Ho (Dh e) s.ts) rfl (by rw [hM];exact hj1) (Tw hj2) rfl) (by rintro _ _ ⟨rfl,rfl⟩;simp) ?_
     rintro _ _ ⟨rfl,rfl⟩
     refine Qn 9 rfl Kn ?_
     refine Iu.last _ _ 10 _ _ rfl (by kernel_rfl) rfl rfl (Jq (i:=2) (j:=j) (H2:=_::_::_::_) rfl rfl rfl rfl (Tw hj2) rfl) (by kernel_rfl) ?_
     rintro _ _ ⟨rfl,rfl⟩
     refine Ad (Ah (Qp Bb (Ag (AW.ret (A6 (Ai ?_))))))
     refine ⟨.inr rfl,[.bool _],.cons (.tmp _ _ rfl) <| .nil,_,.refl _,?_⟩
     first
      | exact absurd (‹(e.op==1)=true›.symm.trans ‹(e.op==1)=false›) (by decide)
      | exact absurd (‹(e.op==2)=true›.symm.trans ‹(e.op==2)=false›) (by decide)
      | exact Be (D2 ‹(e.op==0)=true›) ⟨rfl,_,rfl⟩
      | exact Be (Bs ‹(e.op==0)=false› (Yk ‹(e.op==1)=true›)) ⟨rfl,_,Fj hnew⟩
      | exact Be (Bs ‹(e.op==0)=false› (Yk ‹(e.op==1)=true›)) ⟨rfl,_,Fm hj3⟩
      | exact Be (Bs ‹(e.op==0)=false› (Yo ‹(e.op==2)=true›)) ⟨rfl,_,Fj hnew⟩
      | exact Be (Bs ‹(e.op==0)=false› (Yo ‹(e.op==2)=true›)) ⟨rfl,_,Fm hj3⟩
      | exact ⟨congrArg AV.bool (Cv hl2 (.inl ⟨ho,rfl⟩)),_,rfl⟩
      | exact ⟨congrArg AV.bool (Cv hl2 (.inr ⟨ho,rfl⟩)),_,rfl⟩
      | exact Be (Eb ‹(e.op==0)=false› (Zo ‹(e.op==1)=false› ‹(e.op==2)=false›) ‹(e.op==5)=false› ‹(e.op==6)=false›) ⟨rfl,_,rfl⟩
   ·
    exact absurd (hc3.symm.trans hc2) (by decide)
  ·
   refine AW.region (Qp Ba (Qp Bb (Ag (A4 (fun hc5=>?_) fun hc5=>?_))))
   ·
    refine AW.seq ?_
    have hsc:∀c∈(s.ts.map fun p=>G2 p.1),Bg c=true:=F2 fun _=>rfl
    refine AW.region (Qp Lm (Qp B2 (Qp aW (Qp B2 (Qp aV (Qp B2 (Qp (Ij [Iq _,Iq _,Iq _]) ?_)))))))
    refine Qe (A0 (l:=[.int .i64 0,.int .i64 0,.int .i64 0]) (by kernel_rfl)) ?_
    rintro _ _ ⟨b7,rfl,rfl⟩
    refine Eu 0 [Iq _,Iq _,Iq _] (_::_::_::_::_) ?_
    refine AOL.ghost (GS.Aa2 (t:=7) 0 rfl rfl) ?_
    refine Ag (AW.seq (AW.seq ?_))
    refine AW.draw mixed (fun H'=>_∈H'∧_∈H') ⟨(List.mem_of_getElem? (i:=1) rfl),(List.mem_of_getElem? (i:=2) rfl)⟩ (by kernel_rfl) ?_
    refine Qn 0 rfl Gn ?_
    refine Qn 1 rfl (Bc rfl) ?_
    refine Qn 2 rfl Ia ?_
    refine Qn 3 rfl (OpP.Aa4 (fun k=>Am (k:=k) (c:=.val _) Aj rfl rfl rfl rfl) (fun _ h=>h.1)) ?_
    refine Qn 4 rfl (C8 [Iq _,Iq _,Iq _]) ?_
    refine Qn 5 rfl (OpP.Aa4 (fun k=>N4 (i:=k) (eq:=Gc (Dh e)) Aj rfl rfl rfl rfl rfl (by kernel_rfl) rfl rfl (rfl) (Ho (Dh e) s.ts) (Nt (Dh e) s.ts) (yL (Dh e) s.ts)) (fun _ h=>h.2)) ?_
    refine Qn 6 rfl Om (Qn 7 rfl Kn (Qn 8 rfl X9 (Qn 9 rfl Aq (Qn 10 rfl Bb ?_))))
    refine Iu.done _ _ (by kernel_rfl) ?_
    refine Ad (Ah (Qp Bt (Qp Gj (Ag (A4 (fun hc6=>?_) fun hc6=>?_)))))
    ·
     have hnew:Pe (Dh e) s.ts=false:=by simpa using hc6
     refine AW.draw mixed (fun H'=>_∈H') (List.mem_of_getElem? (i:=1) rfl) (by kernel_rfl) ?_
     refine Qn 0 rfl Gn (Qn 1 rfl Gn ?_)
     refine Qn 2 rfl (Bc rfl) ?_
     refine Qn 3 rfl Ia ?_
     refine Qn 4 rfl (OpP.Aa4 (fun k=>Am (k:=k) (c:=.row _ _ _) Aj rfl rfl rfl rfl) (fun _ h=>h)) ?_
     refine Qn 5 rfl (C8 [Iq _,Iq _,Iq _]) ?_
     refine Qn 6 rfl (A3 (es:=[[Iq _,Iq _,Iq _]]) Aj rfl rfl rfl rfl rfl rfl rfl rfl rfl) ?_
     refine Iu.eff _ _ 7 _ _ rfl (by kernel_rfl) rfl rfl (Dr (k:=0) Aj rfl rfl rfl rfl rfl rfl rfl rfl (Hw rfl) (hsc) (by simp;omega) (by simp [maxLen];omega)) (by rintro _ _ ⟨v54,rfl,rfl⟩;simp) ?_
     rintro _ _ ⟨v54,rfl,rfl⟩
     refine Qn 8 rfl (Bc rfl) ?_
     refine Qn 9 rfl Ia ?_
     refine Iu.last _ _ 10 _ _ rfl (by kernel_rfl) rfl rfl (Dc (k:=1) (v:=.row _ _ _) (cs':=[_,_,Iq _]) (H2:=_::_::_::_) Aj rfl rfl rfl rfl (rfl) rfl rfl rfl rfl) (by kernel_rfl) ?_
     rintro _ _ ⟨rfl,rfl⟩
     refine Ad (AW.seq ?_)
     have hcf:=Tq hs (Dh e)
     have htt:=hnew
     refine AW.draw mixed (fun H'=>_∈H'∧(HO.kmap m (Fr s.ts)∈H'∨HO.kmap m (Fr s.ts ++ [([.int .i64 e.op,.int .i64 e.var,.int .i64 e.field],AV.int .i64 0)])∈H')) ⟨(List.mem_of_getElem? (i:=1) rfl),.inl (List.mem_of_getElem? (i:=2) rfl)⟩ (by kernel_rfl) ?_
     refine Qn 0 rfl Gn ?_
     refine Qn 1 rfl (Bc rfl) ?_
     refine Qn 2 rfl Ia ?_
     refine Qn 3 rfl (OpP.Aa4 (fun k=>Am (k:=k) (c:=.val _) Aj rfl rfl rfl rfl) (fun _ h=>h.1)) ?_
     refine Qn 4 rfl (C8 [Iq _,Iq _,Iq _]) ?_
     refine Qn 5 rfl (iO (fun k=>Ii (i:=k) (eq:=Gc (Dh e)) Aj rfl rfl rfl rfl rfl (by kernel_rfl) rfl rfl (rfl) (Ho (Dh e) s.ts) (Nt (Dh e) s.ts)) (fun k=>Ii (i:=k) (eq:=Gc (Dh e)) Aj rfl rfl rfl rfl rfl (by kernel_rfl) rfl rfl (rfl) (eX (Dh e) s.ts) (jS hnew)) (fun _ h=>h.2)) ?_
     refine Qn 6 rfl Az (Qn 7 rfl Fb ?_)
     refine Iu.eff _ _ 8 _ _ rfl (by kernel_rfl) rfl rfl (O3 (i:=2) (eq:=Gc (Dh e)) Aj rfl rfl rfl rfl rfl rfl rfl (fun _ _ _ h=>h) rfl rfl rfl (Ho (Dh e) s.ts) rfl (dN hnew)) (by rintro _ _ ⟨rfl,rfl⟩;simp) ?_
     rintro _ _ ⟨rfl,rfl⟩
     refine Qn 9 rfl Kn ?_
     refine Iu.last _ _ 10 _ _ rfl (by kernel_rfl) rfl rfl (Jq (i:=2) (j:=(Fr s.ts).length) (H2:=_::_::_::_) rfl rfl rfl rfl (bT (t:=Dh e)) rfl) (by kernel_rfl) ?_
     rintro _ _ ⟨rfl,rfl⟩
     refine Ad (Ah (Qp Bb (Ag (AW.ret (A6 (Ai ?_))))))
     refine ⟨.inr rfl,[.bool _],.cons (.tmp _ _ rfl) <| .nil,_,.refl _,?_⟩
     first
      | exact absurd (‹(e.op==1)=true›.symm.trans ‹(e.op==1)=false›) (by decide)
      | exact absurd (‹(e.op==2)=true›.symm.trans ‹(e.op==2)=false›) (by decide)
      | exact Be (D2 ‹(e.op==0)=true›) ⟨rfl,_,rfl⟩
      | exact Be (Bs ‹(e.op==0)=false› (Yk ‹(e.op==1)=true›)) ⟨rfl,_,Fj hnew⟩
      | exact Be (Bs ‹(e.op==0)=false› (Yk ‹(e.op==1)=true›)) ⟨rfl,_,Fm hj3⟩
      | exact Be (Bs ‹(e.op==0)=false› (Yo ‹(e.op==2)=true›)) ⟨rfl,_,Fj hnew⟩
      | exact Be (Bs ‹(e.op==0)=false› (Yo ‹(e.op==2)=true›)) ⟨rfl,_,Fm hj3⟩
      | exact ⟨congrArg AV.bool (Cv hl2 (.inl ⟨ho,rfl⟩)),_,rfl⟩
      | exact ⟨congrArg AV.bool (Cv hl2 (.inr ⟨ho,rfl⟩)),_,rfl⟩
      | exact Be (Eb ‹(e.op==0)=false› (Zo ‹(e.op==1)=false› ‹(e.op==2)=false›) ‹(e.op==5)=false› ‹(e.op==6)=false›) ⟨rfl,_,rfl⟩
    ·
     refine Bx (AW.seq ?_)
     have hcf:=Tq hs (Dh e)
     refine (Z7 (b:=b) (by simpa using hc6:Pe (Dh e) s.ts=true)).elim fun j hj=>?_
     have hj1:=hj.1
     have hj2:=hj.2.1
     have hj3:=hj.2.2
     refine AW.draw mixed (fun H'=>_∈H'∧_∈H') ⟨(List.mem_of_getElem? (i:=1) rfl),(List.mem_of_getElem? (i:=2) rfl)⟩ (by kernel_rfl) ?_
     refine Qn 0 rfl Gn ?_
     refine Qn 1 rfl (Bc rfl) ?_
     refine Qn 2 rfl Ia ?_
     refine Qn 3 rfl (OpP.Aa4 (fun k=>Am (k:=k) (c:=.val _) Aj rfl rfl rfl rfl) (fun _ h=>h.1)) ?_
     refine Qn 4 rfl (C8 [Iq _,Iq _,Iq _]) ?_
     refine Qn 5 rfl (OpP.Aa4 (fun k=>Ii (i:=k) (eq:=Gc (Dh e)) Aj rfl rfl rfl rfl rfl (by kernel_rfl) rfl rfl (rfl) (Ho (Dh e) s.ts) (Nt (Dh e) s.ts)) (fun _ h=>h.2)) ?_
     refine Qn 6 rfl Az (Qn 7 rfl Fb ?_)
     refine Iu.eff _ _ 8 _ _ rfl (by kernel_rfl) rfl rfl (T8 (i:=2) (eq:=Gc (Dh e)) Aj rfl rfl rfl rfl rfl rfl rfl (Ho (Dh e) s.ts) rfl (by rw [hM];exact hj1) (Tw hj2) rfl) (by rintro _ _ ⟨rfl,rfl⟩;simp) ?_
     rintro _ _ ⟨rfl,rfl⟩
     refine Qn 9 rfl Kn ?_
     refine Iu.last _ _ 10 _ _ rfl (by kernel_rfl) rfl rfl (Jq (i:=2) (j:=j) (H2:=_::_::_::_) rfl rfl rfl rfl (Tw hj2) rfl) (by kernel_rfl) ?_
     rintro _ _ ⟨rfl,rfl⟩
     refine Ad (Ah (Qp Bb (Ag (AW.ret (A6 (Ai ?_))))))
     refine ⟨.inr rfl,[.bool _],.cons (.tmp _ _ rfl) <| .nil,_,.refl _,?_⟩
     first
      | exact absurd (‹(e.op==1)=true›.symm.trans ‹(e.op==1)=false›) (by decide)
      | exact absurd (‹(e.op==2)=true›.symm.trans ‹(e.op==2)=false›) (by decide)
      | exact Be (D2 ‹(e.op==0)=true›) ⟨rfl,_,rfl⟩
      | exact Be (Bs ‹(e.op==0)=false› (Yk ‹(e.op==1)=true›)) ⟨rfl,_,Fj hnew⟩
      | exact Be (Bs ‹(e.op==0)=false› (Yk ‹(e.op==1)=true›)) ⟨rfl,_,Fm hj3⟩
      | exact Be (Bs ‹(e.op==0)=false› (Yo ‹(e.op==2)=true›)) ⟨rfl,_,Fj hnew⟩
      | exact Be (Bs ‹(e.op==0)=false› (Yo ‹(e.op==2)=true›)) ⟨rfl,_,Fm hj3⟩
      | exact ⟨congrArg AV.bool (Cv hl2 (.inl ⟨ho,rfl⟩)),_,rfl⟩
      | exact ⟨congrArg AV.bool (Cv hl2 (.inr ⟨ho,rfl⟩)),_,rfl⟩
      | exact Be (Eb ‹(e.op==0)=false› (Zo ‹(e.op==1)=false› ‹(e.op==2)=false›) ‹(e.op==5)=false› ‹(e.op==6)=false›) ⟨rfl,_,rfl⟩
   ·
    refine Ah (Qp Ba (Qp Bb (Ag (A4 (fun hc7=>?_) fun hc7=>?_))))
    ·
     refine AW.seq ?_
     have ho:=eq_of_beq ‹(e.op==5)=true›
     have hl2:=Ea hz.1 (by omega)
     have h00:0<e.args.length:=by omega
     have hsz:=Da hl2
     have hs0:=Uy _ (hz.2 _ (Ax h00)) hb hs
     refine AW.region (Qp Gn (Qp Oi (Qp D1 ?_)))
     refine Qp (Af (c:=[Iq _,_,Iq _,Iq _,Iq _,Iq _,Iq _,.str _]) Aj rfl rfl rfl rfl rfl rfl (by decide) (Gf h00)) ?_
     refine Qp E2 (Qp Az ?_)
     refine Qe (Ey (by kernel_rfl) rfl rfl (ih _ (Ax h00) (hz.2 _ (Ax h00)) n b hb s hs (by omega) v)) ?_
     rintro _ _ ⟨rfl,u0,rfl⟩
     refine Qp Bt (Qg [] Qw Gn (Qg [] Qw Oi (Qg [(78,_)] Qw D1 ?_)))
     refine AOL.Aa5 (y:=.ptr _) _ [(79,_)] rfl (nI.all ⟨Ent.Aa1 _ _,trivial⟩) (fun hG=>Af (c:=[Iq _,_,Iq _,Iq _,Iq _,Iq _,Iq _,.str _]) Aj rfl rfl rfl rfl rfl rfl (by decide) (Jw hl2)) rfl ?_
     refine Qg [(80,_)] Qw E2 (Qg [] Qw Az ?_)
     refine AOL.geX (F:=fun u=>Mr m bs u (A5 e b s).1 R) _ [(77,_),(81,_),(82,_)] rfl (nI.all ⟨Ent.Aa1 _ _,Ent.Aa1 _ _,Ent.Aa1 _ _,trivial⟩) (fun hG=>Ey (by kernel_rfl) rfl rfl (cS hl2 (.inl ⟨ho,rfl⟩) hG (ih _ (Bf hl2) (hz.2 _ (Bf hl2)) (n+Av (Ap e)) b hb _ hs0 (by omega) u0))) (fun hG=>Yf hl2 (.inl ⟨ho,rfl⟩) hG) rfl fun u1=>?_
     refine Qp G1 (Qp Bb (Ag (AW.ret (A6 (Ai ?_)))))
     refine ⟨.inr rfl,[.bool _],.cons (.tmp _ _ rfl) <| .nil,_,.refl _,?_⟩
     first
      | exact absurd (‹(e.op==1)=true›.symm.trans ‹(e.op==1)=false›) (by decide)
      | exact absurd (‹(e.op==2)=true›.symm.trans ‹(e.op==2)=false›) (by decide)
      | exact Be (D2 ‹(e.op==0)=true›) ⟨rfl,_,rfl⟩
      | exact Be (Bs ‹(e.op==0)=false› (Yk ‹(e.op==1)=true›)) ⟨rfl,_,Fj hnew⟩
      | exact Be (Bs ‹(e.op==0)=false› (Yk ‹(e.op==1)=true›)) ⟨rfl,_,Fm hj3⟩
      | exact Be (Bs ‹(e.op==0)=false› (Yo ‹(e.op==2)=true›)) ⟨rfl,_,Fj hnew⟩
      | exact Be (Bs ‹(e.op==0)=false› (Yo ‹(e.op==2)=true›)) ⟨rfl,_,Fm hj3⟩
      | exact ⟨congrArg AV.bool (Cv hl2 (.inl ⟨ho,rfl⟩)),_,rfl⟩
      | exact ⟨congrArg AV.bool (Cv hl2 (.inr ⟨ho,rfl⟩)),_,rfl⟩
      | exact Be (Eb ‹(e.op==0)=false› (Zo ‹(e.op==1)=false› ‹(e.op==2)=false›) ‹(e.op==5)=false› ‹(e.op==6)=false›) ⟨rfl,_,rfl⟩
    ·
     refine Ah (Qp Ba (Qp Bb (Ag (A4 (fun hc8=>?_) fun hc8=>?_))))
     ·
      refine AW.seq ?_
      have ho:=eq_of_beq ‹(e.op==6)=true›
      have hl2:=Ea hz.1 (by omega)
      have h00:0<e.args.length:=by omega
      have hsz:=Da hl2
      have hs0:=Uy _ (hz.2 _ (Ax h00)) hb hs
      refine AW.region (Qp Gn (Qp Oi (Qp D1 ?_)))
      refine Qp (Af (c:=[Iq _,_,Iq _,Iq _,Iq _,Iq _,Iq _,.str _]) Aj rfl rfl rfl rfl rfl rfl (by decide) (Gf h00)) ?_
      refine Qp E2 (Qp Az ?_)
      refine Qe (Ey (by kernel_rfl) rfl rfl (ih _ (Ax h00) (hz.2 _ (Ax h00)) n b hb s hs (by omega) v)) ?_
      rintro _ _ ⟨rfl,u0,rfl⟩
      refine Qp Bt (Qg [] Qw Gn (Qg [] Qw Oi (Qg [(96,_)] Qw D1 ?_)))
      refine AOL.Aa5 (y:=.ptr _) _ [(97,_)] rfl (nI.all ⟨Ent.Aa1 _ _,trivial⟩) (fun hG=>Af (c:=[Iq _,_,Iq _,Iq _,Iq _,Iq _,Iq _,.str _]) Aj rfl rfl rfl rfl rfl rfl (by decide) (Jw hl2)) rfl ?_
      refine Qg [(98,_)] Qw E2 (Qg [] Qw Az ?_)
      refine AOL.Aa5 (y:=Iq _) _ [(100,_)] rfl (nI.all ⟨Ent.Aa1 _ _,trivial⟩) (fun hG=>W7 rfl rfl (by constructor <;> omega)) rfl ?_
      refine AOL.geX (F:=fun u=>Mr m bs u (A5 e b s).1 R) _ [(95,_),(99,_),(101,_)] rfl (nI.all ⟨Ent.Aa1 _ _,Ent.Aa1 _ _,Ent.Aa1 _ _,trivial⟩) (fun hG=>Ey (by kernel_rfl) rfl rfl (cS hl2 (.inr ⟨ho,rfl⟩) hG (ih _ (Bf hl2) (hz.2 _ (Bf hl2)) (n+Av (Ap e)) (0-b) (by omega) _ hs0 (by omega) u0))) (fun hG=>Yf hl2 (.inr ⟨ho,rfl⟩) hG) rfl fun u1=>?_
      refine Qp G1 (Qp Bb (Ag (AW.ret (A6 (Ai ?_)))))
      refine ⟨.inr rfl,[.bool _],.cons (.tmp _ _ rfl) <| .nil,_,.refl _,?_⟩
      first
       | exact absurd (‹(e.op==1)=true›.symm.trans ‹(e.op==1)=false›) (by decide)
       | exact absurd (‹(e.op==2)=true›.symm.trans ‹(e.op==2)=false›) (by decide)
       | exact Be (D2 ‹(e.op==0)=true›) ⟨rfl,_,rfl⟩
       | exact Be (Bs ‹(e.op==0)=false› (Yk ‹(e.op==1)=true›)) ⟨rfl,_,Fj hnew⟩
       | exact Be (Bs ‹(e.op==0)=false› (Yk ‹(e.op==1)=true›)) ⟨rfl,_,Fm hj3⟩
       | exact Be (Bs ‹(e.op==0)=false› (Yo ‹(e.op==2)=true›)) ⟨rfl,_,Fj hnew⟩
       | exact Be (Bs ‹(e.op==0)=false› (Yo ‹(e.op==2)=true›)) ⟨rfl,_,Fm hj3⟩
       | exact ⟨congrArg AV.bool (Cv hl2 (.inl ⟨ho,rfl⟩)),_,rfl⟩
       | exact ⟨congrArg AV.bool (Cv hl2 (.inr ⟨ho,rfl⟩)),_,rfl⟩
       | exact Be (Eb ‹(e.op==0)=false› (Zo ‹(e.op==1)=false› ‹(e.op==2)=false›) ‹(e.op==5)=false› ‹(e.op==6)=false›) ⟨rfl,_,rfl⟩
     ·
      refine AW.skip (Bn (Ad (Ah (Qp Bb (Ag (AW.ret ?_))))))
      refine ⟨.inr rfl,[.bool _],.cons (.tmp _ _ rfl) <| .nil,_,.refl _,?_⟩
      first
       | exact absurd (‹(e.op==1)=true›.symm.trans ‹(e.op==1)=false›) (by decide)
       | exact absurd (‹(e.op==2)=true›.symm.trans ‹(e.op==2)=false›) (by decide)
       | exact Be (D2 ‹(e.op==0)=true›) ⟨rfl,_,rfl⟩
       | exact Be (Bs ‹(e.op==0)=false› (Yk ‹(e.op==1)=true›)) ⟨rfl,_,Fj hnew⟩
       | exact Be (Bs ‹(e.op==0)=false› (Yk ‹(e.op==1)=true›)) ⟨rfl,_,Fm hj3⟩
       | exact Be (Bs ‹(e.op==0)=false› (Yo ‹(e.op==2)=true›)) ⟨rfl,_,Fj hnew⟩
       | exact Be (Bs ‹(e.op==0)=false› (Yo ‹(e.op==2)=true›)) ⟨rfl,_,Fm hj3⟩
       | exact ⟨congrArg AV.bool (Cv hl2 (.inl ⟨ho,rfl⟩)),_,rfl⟩
       | exact ⟨congrArg AV.bool (Cv hl2 (.inr ⟨ho,rfl⟩)),_,rfl⟩
       | exact Be (Eb ‹(e.op==0)=false› (Zo ‹(e.op==1)=false› ‹(e.op==2)=false›) ‹(e.op==5)=false› ‹(e.op==6)=false›) ⟨rfl,_,rfl⟩

end Go.Proofs.YtjedflcpjlgokaaGreatDoor
