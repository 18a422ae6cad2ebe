/-
  Walks of layer 11: sums. No condition.
-/
import Derived.Test.YtjedflcpjlgokaaGreatDoorAz
import Derived.Test.YtjedflcpjlgokaaGreatDoorK15
import Derived.Test.YtjedflcpjlgokaaGreatDoorK27
import Derived.KernelRfl
namespace Go.Proofs.YtjedflcpjlgokaaGreatDoor
open Go Go.Aw
set_option maxHeartbeats 3200000
set_option maxRecDepth 20000
set_option linter.unusedVariables false
set_option linter.unusedSimpArgs false

theorem d_add (m bs:Nat)(R:List HO)(e:Ex)(hn:Ca e=0)(n:Nat)(b:Int)(hb:b=1∨b = -1)(s:Su)(hs:suOK n s)(hm:n+Ar e≤1048576)(v:Value):Dk Tryz.prog 121 (N7 m bs v s R) [.val (.pointer (some ⟨bs,0,none⟩)),.agg (cE e),.int .i64 b] (fun r H'=>r = .bool (Bg e b s).2∧∃v',H'=N7 m bs v' (Bg e b s).1 R):=by
 revert n b s v hn
 induction e using Ex.Aav
 rename_i e ih
 intro hn n b hb s hs hm v
 have hz:=Bc hn
 have hsr:=hs.rest
 have hsl:=hs.len
 have hsp:1≤Ar e:=by rw [Dp];omega
 refine Dk.body (n:=104) Ah Tryz.func121 rfl rfl rfl ?_
 refine Ai (Qp Kx (Qp Bl (Ag (AW.seq (Ai (Qp Jl (Qp Bp (Ag (AW.block ?_)))))))))
 refine Ai (Qp A9 (Qp Bl (Ag (A6 (fun hc1=>?_) fun hc1=>?_))))
 ·
  refine AW.seq ?_
  have hcn:=L7 hz.1 (eq_of_beq ‹(e.op==0)=true›)
  have hmul:b*e.val.num=e.val.num∨b*e.val.num = - e.val.num:=by rcases hb with rfl | rfl <;> omega
  refine AW.draw mixed (fun H'=>_∈H') (List.mem_of_getElem? (i:=1) rfl) (by kernel_rfl) ?_
  refine Qn 0 rfl Gr ?_
  refine Qn 1 rfl (Bn rfl) ?_
  refine Qn 2 rfl Gc ?_
  refine Qn 3 rfl (OpP.Aaq (fun k=>Am (k:=k) (c:=Iq _) Ah rfl rfl rfl rfl) (fun _ h=>h)) ?_
  refine Qn 4 rfl Az (Qn 5 rfl Jq (Qn 6 rfl U7 (Qn 7 rfl Bp ?_)))
  refine Qn 8 rfl (mG rfl rfl rfl (by constructor <;> omega)) ?_
  refine Qn 9 rfl Ey ?_
  refine Qn 10 rfl (Bn rfl) ?_
  refine Qn 11 rfl Gc ?_
  refine Jn.last _ _ 12 _ _ rfl (by kernel_rfl) rfl rfl (B2 (k:=1) (v:=Iq _) (cs':=[_,_,Iq _]) (H2:=_::_::_::_) Ah rfl rfl rfl rfl (rfl) rfl rfl rfl rfl) (by kernel_rfl) ?_
  rintro _ _ ⟨rfl,rfl⟩
  refine Ad (Ai (Qp Bl (Ag (AW.ret (Bb (Aj ?_))))))
  refine ⟨.inr rfl,[.bool _],.cons (.tmp _ _ rfl) <| .nil,_,.refl _,?_⟩
  first
   | exact absurd (‹(e.op==1)=true›.symm.trans ‹(e.op==1)=false›) (by decide)
   | exact absurd (‹(e.op==2)=true›.symm.trans ‹(e.op==2)=false›) (by decide)
   | exact Bo (Fa ‹(e.op==0)=true›) ⟨rfl,_,rfl⟩
   | exact Bo (B8 ‹(e.op==0)=false› (Xu ‹(e.op==1)=true›)) ⟨rfl,_,Gg hnew⟩
   | exact Bo (B8 ‹(e.op==0)=false› (Xu ‹(e.op==1)=true›)) ⟨rfl,_,Gb hj3⟩
   | exact Bo (B8 ‹(e.op==0)=false› (Xt ‹(e.op==2)=true›)) ⟨rfl,_,Gg hnew⟩
   | exact Bo (B8 ‹(e.op==0)=false› (Xt ‹(e.op==2)=true›)) ⟨rfl,_,Gb hj3⟩
   | exact ⟨congrArg AV.bool (De hl2 (.inl ⟨ho,rfl⟩)),_,rfl⟩
   | exact ⟨congrArg AV.bool (De hl2 (.inr ⟨ho,rfl⟩)),_,rfl⟩
   | exact Bo (F4 ‹(e.op==0)=false› (Ur ‹(e.op==1)=false› ‹(e.op==2)=false›) ‹(e.op==5)=false› ‹(e.op==6)=false›) ⟨rfl,_,rfl⟩
 ·
  refine AW.seq (Ai (Qp A9 (Qp Bl (Ag (A6 (fun hc2=>?_) fun hc2=>?_)))))
  ·
   refine By (A6 (fun hc3=>?_) fun hc3=>?_)
   ·
    refine AW.seq ?_
    have hsc:∀c∈(s.ts.map fun p=>Hw p.1),Be c=true:=Ed fun _=>rfl
    refine AW.region (Qp Jl (Qp Bp (Qp Te (Qp Bp (Qp Oq (Qp Bp (Qp (Fz [Iq _,Iq _,Iq _]) ?_)))))))
    refine Qe (Ak (l:=[.int .i64 0,.int .i64 0,.int .i64 0]) (by kernel_rfl)) ?_
    rintro _ _ ⟨b7,rfl,rfl⟩
    refine Cv 0 [Iq _,Iq _,Iq _] (_::_::_::_::_) ?_
    refine AOL.ghost (GS.Aan (t:=7) 0 rfl rfl) ?_
    refine Ag (AW.seq (AW.seq ?_))
    refine AW.draw mixed (fun H'=>_∈H'∧_∈H') ⟨(List.mem_of_getElem? (i:=1) rfl),(List.mem_of_getElem? (i:=2) rfl)⟩ (by kernel_rfl) ?_
    refine Qn 0 rfl Gr ?_
    refine Qn 1 rfl (Bn rfl) ?_
    refine Qn 2 rfl Gc ?_
    refine Qn 3 rfl (OpP.Aaq (fun k=>Am (k:=k) (c:=.val _) Ah rfl rfl rfl rfl) (fun _ h=>h.1)) ?_
    refine Qn 4 rfl (Cq [Iq _,Iq _,Iq _]) ?_
    refine Qn 5 rfl (OpP.Aaq (fun k=>Pt (i:=k) (eq:=Hf (Dv e)) Ah rfl rfl rfl rfl rfl (by kernel_rfl) rfl rfl (rfl) (Im (Dv e) s.ts) (Oe (Dv e) s.ts) (has_t (Dv e) s.ts)) (fun _ h=>h.2)) ?_
    refine Qn 6 rfl N6 (Qn 7 rfl Ke (Qn 8 rfl bB (Qn 9 rfl Ap (Qn 10 rfl Bl ?_))))
    refine Jn.done _ _ (by kernel_rfl) ?_
    refine Ad (Ai (Qp B0 (Qp Hc (Ag (A6 (fun hc4=>?_) fun hc4=>?_)))))
    ·
     have hnew:Qu (Dv e) s.ts=false:=by simpa using hc4
     refine AW.draw mixed (fun H'=>_∈H') (List.mem_of_getElem? (i:=1) rfl) (by kernel_rfl) ?_
     refine Qn 0 rfl Gr (Qn 1 rfl Gr ?_)
     refine Qn 2 rfl (Bn rfl) ?_
     refine Qn 3 rfl Gc ?_
     refine Qn 4 rfl (OpP.Aaq (fun k=>Am (k:=k) (c:=.row _ _ _) Ah rfl rfl rfl rfl) (fun _ h=>h)) ?_
     refine Qn 5 rfl (Cq [Iq _,Iq _,Iq _]) ?_
     refine Qn 6 rfl (A1 (es:=[[Iq _,Iq _,Iq _]]) Ah rfl rfl rfl rfl rfl rfl rfl rfl rfl) ?_
     refine Jn.eff _ _ 7 _ _ rfl (by kernel_rfl) rfl rfl (C3 (k:=0) Ah rfl rfl rfl rfl rfl rfl rfl rfl (Ff rfl) (hsc) (by simp;omega) (by simp [maxLen];omega)) (by rintro _ _ ⟨v54,rfl,rfl⟩;simp) ?_
     rintro _ _ ⟨v54,rfl,rfl⟩
     refine Qn 8 rfl (Bn rfl) ?_
     refine Qn 9 rfl Gc ?_
     refine Jn.last _ _ 10 _ _ rfl (by kernel_rfl) rfl rfl (B2 (k:=1) (v:=.row _ _ _) (cs':=[_,_,Iq _]) (H2:=_::_::_::_) Ah rfl rfl rfl rfl (rfl) rfl rfl rfl rfl) (by kernel_rfl) ?_
     rintro _ _ ⟨rfl,rfl⟩
     refine Ad (AW.seq ?_)
     have hcf:=U4 hs (Dv e)
     have htt:=hnew
     refine AW.draw mixed (fun H'=>_∈H'∧(HO.kmap m (Gl s.ts)∈H'∨HO.kmap m (Gl s.ts ++ [([.int .i64 e.op,.int .i64 e.var,.int .i64 e.field],AV.int .i64 0)])∈H')) ⟨(List.mem_of_getElem? (i:=1) rfl),.inl (List.mem_of_getElem? (i:=2) rfl)⟩ (by kernel_rfl) ?_
     refine Qn 0 rfl Gr ?_
     refine Qn 1 rfl (Bn rfl) ?_
     refine Qn 2 rfl Gc ?_
     refine Qn 3 rfl (OpP.Aaq (fun k=>Am (k:=k) (c:=.val _) Ah rfl rfl rfl rfl) (fun _ h=>h.1)) ?_
     refine Qn 4 rfl (Cq [Iq _,Iq _,Iq _]) ?_
     refine Qn 5 rfl (lS (fun k=>I7 (i:=k) (eq:=Hf (Dv e)) Ah rfl rfl rfl rfl rfl (by kernel_rfl) rfl rfl (rfl) (Im (Dv e) s.ts) (Oe (Dv e) s.ts)) (fun k=>I7 (i:=k) (eq:=Hf (Dv e)) Ah rfl rfl rfl rfl rfl (by kernel_rfl) rfl rfl (rfl) (gM (Dv e) s.ts) (mC hnew)) (fun _ h=>h.2)) ?_
     refine Qn 6 rfl Az (Qn 7 rfl Ey ?_)
     refine Jn.eff _ _ 8 _ _ rfl (by kernel_rfl) rfl rfl (Qb (i:=2) (eq:=Hf (Dv e)) Ah rfl rfl rfl rfl rfl rfl rfl (fun _ _ _ h=>h) rfl rfl rfl (Im (Dv e) s.ts) rfl (fR hnew)) (by rintro _ _ ⟨rfl,rfl⟩;simp) ?_
     rintro _ _ ⟨rfl,rfl⟩
     refine Qn 9 rfl Ke ?_
     refine Jn.last _ _ 10 _ _ rfl (by kernel_rfl) rfl rfl (Kt (i:=2) (j:=(Gl s.ts).length) (H2:=_::_::_::_) rfl rfl rfl rfl (cW (t:=Dv e)) rfl) (by kernel_rfl) ?_
     rintro _ _ ⟨rfl,rfl⟩
     refine Ad (Ai (Qp Bl (Ag (AW.ret (Bb (Aj ?_))))))
     refine ⟨.inr rfl,[.bool _],.cons (.tmp _ _ rfl) <| .nil,_,.refl _,?_⟩
     first
      | exact absurd (‹(e.op==1)=true›.symm.trans ‹(e.op==1)=false›) (by decide)
      | exact absurd (‹(e.op==2)=true›.symm.trans ‹(e.op==2)=false›) (by decide)
      | exact Bo (Fa ‹(e.op==0)=true›) ⟨rfl,_,rfl⟩
      | exact Bo (B8 ‹(e.op==0)=false› (Xu ‹(e.op==1)=true›)) ⟨rfl,_,Gg hnew⟩
      | exact Bo (B8 ‹(e.op==0)=false› (Xu ‹(e.op==1)=true›)) ⟨rfl,_,Gb hj3⟩
      | exact Bo (B8 ‹(e.op==0)=false› (Xt ‹(e.op==2)=true›)) ⟨rfl,_,Gg hnew⟩
      | exact Bo (B8 ‹(e.op==0)=false› (Xt ‹(e.op==2)=true›)) ⟨rfl,_,Gb hj3⟩
      | exact ⟨congrArg AV.bool (De hl2 (.inl ⟨ho,rfl⟩)),_,rfl⟩
      | exact ⟨congrArg AV.bool (De hl2 (.inr ⟨ho,rfl⟩)),_,rfl⟩
      | exact Bo (F4 ‹(e.op==0)=false› (Ur ‹(e.op==1)=false› ‹(e.op==2)=false›) ‹(e.op==5)=false› ‹(e.op==6)=false›) ⟨rfl,_,rfl⟩
    ·
     refine By (AW.seq ?_)
     have hcf:=U4 hs (Dv e)
     refine (bY (b:=b) (by simpa using hc4:Qu (Dv e) s.ts=true)).elim fun j hj=>?_
     have hj1:=hj.1
     have hj2:=hj.2.1
     have hj3:=hj.2.2
     refine AW.draw mixed (fun H'=>_∈H'∧_∈H') ⟨(List.mem_of_getElem? (i:=1) rfl),(List.mem_of_getElem? (i:=2) rfl)⟩ (by kernel_rfl) ?_
     refine Qn 0 rfl Gr ?_
     refine Qn 1 rfl (Bn rfl) ?_
     refine Qn 2 rfl Gc ?_
     refine Qn 3 rfl (OpP.Aaq (fun k=>Am (k:=k) (c:=.val _) Ah rfl rfl rfl rfl) (fun _ h=>h.1)) ?_
     refine Qn 4 rfl (Cq [Iq _,Iq _,Iq _]) ?_
     refine Qn 5 rfl (OpP.Aaq (fun k=>I7 (i:=k) (eq:=Hf (Dv e)) Ah rfl rfl rfl rfl rfl (by kernel_rfl) rfl rfl (rfl) (Im (Dv e) s.ts) (Oe (Dv e) s.ts)) (fun _ h=>h.2)) ?_
     refine Qn 6 rfl Az (Qn 7 rfl Ey ?_)
     refine Jn.eff _ _ 8 _ _ rfl (by kernel_rfl) rfl rfl (Wp (i:=2) (eq:=Hf (Dv e)) Ah rfl rfl rfl rfl rfl rfl rfl (Im (Dv e) s.ts) rfl (by rw [iY];exact hj1) (U8 hj2) rfl) (by rintro _ _ ⟨rfl,rfl⟩;simp) ?_
     rintro _ _ ⟨rfl,rfl⟩
     refine Qn 9 rfl Ke ?_
     refine Jn.last _ _ 10 _ _ rfl (by kernel_rfl) rfl rfl (Kt (i:=2) (j:=j) (H2:=_::_::_::_) rfl rfl rfl rfl (U8 hj2) rfl) (by kernel_rfl) ?_
     rintro _ _ ⟨rfl,rfl⟩
     refine Ad (Ai (Qp Bl (Ag (AW.ret (Bb (Aj ?_))))))
     refine ⟨.inr rfl,[.bool _],.cons (.tmp _ _ rfl) <| .nil,_,.refl _,?_⟩
     first
      | exact absurd (‹(e.op==1)=true›.symm.trans ‹(e.op==1)=false›) (by decide)
      | exact absurd (‹(e.op==2)=true›.symm.trans ‹(e.op==2)=false›) (by decide)
      | exact Bo (Fa ‹(e.op==0)=true›) ⟨rfl,_,rfl⟩
      | exact Bo (B8 ‹(e.op==0)=false› (Xu ‹(e.op==1)=true›)) ⟨rfl,_,Gg hnew⟩
      | exact Bo (B8 ‹(e.op==0)=false› (Xu ‹(e.op==1)=true›)) ⟨rfl,_,Gb hj3⟩
      | exact Bo (B8 ‹(e.op==0)=false› (Xt ‹(e.op==2)=true›)) ⟨rfl,_,Gg hnew⟩
      | exact Bo (B8 ‹(e.op==0)=false› (Xt ‹(e.op==2)=true›)) ⟨rfl,_,Gb hj3⟩
      | exact ⟨congrArg AV.bool (De hl2 (.inl ⟨ho,rfl⟩)),_,rfl⟩
      | exact ⟨congrArg AV.bool (De hl2 (.inr ⟨ho,rfl⟩)),_,rfl⟩
      | exact Bo (F4 ‹(e.op==0)=false› (Ur ‹(e.op==1)=false› ‹(e.op==2)=false›) ‹(e.op==5)=false› ‹(e.op==6)=false›) ⟨rfl,_,rfl⟩
   ·
    exact absurd (hc3.symm.trans hc2) (by decide)
  ·
   refine AW.region (Qp A9 (Qp Bl (Ag (A6 (fun hc5=>?_) fun hc5=>?_))))
   ·
    refine AW.seq ?_
    have hsc:∀c∈(s.ts.map fun p=>Hw p.1),Be c=true:=Ed fun _=>rfl
    refine AW.region (Qp Jl (Qp Bp (Qp Te (Qp Bp (Qp Oq (Qp Bp (Qp (Fz [Iq _,Iq _,Iq _]) ?_)))))))
    refine Qe (Ak (l:=[.int .i64 0,.int .i64 0,.int .i64 0]) (by kernel_rfl)) ?_
    rintro _ _ ⟨b7,rfl,rfl⟩
    refine Cv 0 [Iq _,Iq _,Iq _] (_::_::_::_::_) ?_
    refine AOL.ghost (GS.Aan (t:=7) 0 rfl rfl) ?_
    refine Ag (AW.seq (AW.seq ?_))
    refine AW.draw mixed (fun H'=>_∈H'∧_∈H') ⟨(List.mem_of_getElem? (i:=1) rfl),(List.mem_of_getElem? (i:=2) rfl)⟩ (by kernel_rfl) ?_
    refine Qn 0 rfl Gr ?_
    refine Qn 1 rfl (Bn rfl) ?_
    refine Qn 2 rfl Gc ?_
    refine Qn 3 rfl (OpP.Aaq (fun k=>Am (k:=k) (c:=.val _) Ah rfl rfl rfl rfl) (fun _ h=>h.1)) ?_
    refine Qn 4 rfl (Cq [Iq _,Iq _,Iq _]) ?_
    refine Qn 5 rfl (OpP.Aaq (fun k=>Pt (i:=k) (eq:=Hf (Dv e)) Ah rfl rfl rfl rfl rfl (by kernel_rfl) rfl rfl (rfl) (Im (Dv e) s.ts) (Oe (Dv e) s.ts) (has_t (Dv e) s.ts)) (fun _ h=>h.2)) ?_
    refine Qn 6 rfl N6 (Qn 7 rfl Ke (Qn 8 rfl bB (Qn 9 rfl Ap (Qn 10 rfl Bl ?_))))
    refine Jn.done _ _ (by kernel_rfl) ?_
    refine Ad (Ai (Qp B0 (Qp Hc (Ag (A6 (fun hc6=>?_) fun hc6=>?_)))))
    ·
     have hnew:Qu (Dv e) s.ts=false:=by simpa using hc6
     refine AW.draw mixed (fun H'=>_∈H') (List.mem_of_getElem? (i:=1) rfl) (by kernel_rfl) ?_
     refine Qn 0 rfl Gr (Qn 1 rfl Gr ?_)
     refine Qn 2 rfl (Bn rfl) ?_
     refine Qn 3 rfl Gc ?_
     refine Qn 4 rfl (OpP.Aaq (fun k=>Am (k:=k) (c:=.row _ _ _) Ah rfl rfl rfl rfl) (fun _ h=>h)) ?_
     refine Qn 5 rfl (Cq [Iq _,Iq _,Iq _]) ?_
     refine Qn 6 rfl (A1 (es:=[[Iq _,Iq _,Iq _]]) Ah rfl rfl rfl rfl rfl rfl rfl rfl rfl) ?_
     refine Jn.eff _ _ 7 _ _ rfl (by kernel_rfl) rfl rfl (C3 (k:=0) Ah rfl rfl rfl rfl rfl rfl rfl rfl (Ff rfl) (hsc) (by simp;omega) (by simp [maxLen];omega)) (by rintro _ _ ⟨v54,rfl,rfl⟩;simp) ?_
     rintro _ _ ⟨v54,rfl,rfl⟩
     refine Qn 8 rfl (Bn rfl) ?_
     refine Qn 9 rfl Gc ?_
     refine Jn.last _ _ 10 _ _ rfl (by kernel_rfl) rfl rfl (B2 (k:=1) (v:=.row _ _ _) (cs':=[_,_,Iq _]) (H2:=_::_::_::_) Ah rfl rfl rfl rfl (rfl) rfl rfl rfl rfl) (by kernel_rfl) ?_
     rintro _ _ ⟨rfl,rfl⟩
     refine Ad (AW.seq ?_)
     have hcf:=U4 hs (Dv e)
     have htt:=hnew
     refine AW.draw mixed (fun H'=>_∈H'∧(HO.kmap m (Gl s.ts)∈H'∨HO.kmap m (Gl s.ts ++ [([.int .i64 e.op,.int .i64 e.var,.int .i64 e.field],AV.int .i64 0)])∈H')) ⟨(List.mem_of_getElem? (i:=1) rfl),.inl (List.mem_of_getElem? (i:=2) rfl)⟩ (by kernel_rfl) ?_
     refine Qn 0 rfl Gr ?_
     refine Qn 1 rfl (Bn rfl) ?_
     refine Qn 2 rfl Gc ?_
     refine Qn 3 rfl (OpP.Aaq (fun k=>Am (k:=k) (c:=.val _) Ah rfl rfl rfl rfl) (fun _ h=>h.1)) ?_
     refine Qn 4 rfl (Cq [Iq _,Iq _,Iq _]) ?_
     refine Qn 5 rfl (lS (fun k=>I7 (i:=k) (eq:=Hf (Dv e)) Ah rfl rfl rfl rfl rfl (by kernel_rfl) rfl rfl (rfl) (Im (Dv e) s.ts) (Oe (Dv e) s.ts)) (fun k=>I7 (i:=k) (eq:=Hf (Dv e)) Ah rfl rfl rfl rfl rfl (by kernel_rfl) rfl rfl (rfl) (gM (Dv e) s.ts) (mC hnew)) (fun _ h=>h.2)) ?_
     refine Qn 6 rfl Az (Qn 7 rfl Ey ?_)
     refine Jn.eff _ _ 8 _ _ rfl (by kernel_rfl) rfl rfl (Qb (i:=2) (eq:=Hf (Dv e)) Ah rfl rfl rfl rfl rfl rfl rfl (fun _ _ _ h=>h) rfl rfl rfl (Im (Dv e) s.ts) rfl (fR hnew)) (by rintro _ _ ⟨rfl,rfl⟩;simp) ?_
     rintro _ _ ⟨rfl,rfl⟩
     refine Qn 9 rfl Ke ?_
     refine Jn.last _ _ 10 _ _ rfl (by kernel_rfl) rfl rfl (Kt (i:=2) (j:=(Gl s.ts).length) (H2:=_::_::_::_) rfl rfl rfl rfl (cW (t:=Dv e)) rfl) (by kernel_rfl) ?_
     rintro _ _ ⟨rfl,rfl⟩
     refine Ad (Ai (Qp Bl (Ag (AW.ret (Bb (Aj ?_))))))
     refine ⟨.inr rfl,[.bool _],.cons (.tmp _ _ rfl) <| .nil,_,.refl _,?_⟩
     first
      | exact absurd (‹(e.op==1)=true›.symm.trans ‹(e.op==1)=false›) (by decide)
      | exact absurd (‹(e.op==2)=true›.symm.trans ‹(e.op==2)=false›) (by decide)
      | exact Bo (Fa ‹(e.op==0)=true›) ⟨rfl,_,rfl⟩
      | exact Bo (B8 ‹(e.op==0)=false› (Xu ‹(e.op==1)=true›)) ⟨rfl,_,Gg hnew⟩
      | exact Bo (B8 ‹(e.op==0)=false› (Xu ‹(e.op==1)=true›)) ⟨rfl,_,Gb hj3⟩
      | exact Bo (B8 ‹(e.op==0)=false› (Xt ‹(e.op==2)=true›)) ⟨rfl,_,Gg hnew⟩
      | exact Bo (B8 ‹(e.op==0)=false› (Xt ‹(e.op==2)=true›)) ⟨rfl,_,Gb hj3⟩
      | exact ⟨congrArg AV.bool (De hl2 (.inl ⟨ho,rfl⟩)),_,rfl⟩
      | exact ⟨congrArg AV.bool (De hl2 (.inr ⟨ho,rfl⟩)),_,rfl⟩
      | exact Bo (F4 ‹(e.op==0)=false› (Ur ‹(e.op==1)=false› ‹(e.op==2)=false›) ‹(e.op==5)=false› ‹(e.op==6)=false›) ⟨rfl,_,rfl⟩
    ·
     refine By (AW.seq ?_)
     have hcf:=U4 hs (Dv e)
     refine (bY (b:=b) (by simpa using hc6:Qu (Dv e) s.ts=true)).elim fun j hj=>?_
     have hj1:=hj.1
     have hj2:=hj.2.1
     have hj3:=hj.2.2
     refine AW.draw mixed (fun H'=>_∈H'∧_∈H') ⟨(List.mem_of_getElem? (i:=1) rfl),(List.mem_of_getElem? (i:=2) rfl)⟩ (by kernel_rfl) ?_
     refine Qn 0 rfl Gr ?_
     refine Qn 1 rfl (Bn rfl) ?_
     refine Qn 2 rfl Gc ?_
     refine Qn 3 rfl (OpP.Aaq (fun k=>Am (k:=k) (c:=.val _) Ah rfl rfl rfl rfl) (fun _ h=>h.1)) ?_
     refine Qn 4 rfl (Cq [Iq _,Iq _,Iq _]) ?_
     refine Qn 5 rfl (OpP.Aaq (fun k=>I7 (i:=k) (eq:=Hf (Dv e)) Ah rfl rfl rfl rfl rfl (by kernel_rfl) rfl rfl (rfl) (Im (Dv e) s.ts) (Oe (Dv e) s.ts)) (fun _ h=>h.2)) ?_
     refine Qn 6 rfl Az (Qn 7 rfl Ey ?_)
     refine Jn.eff _ _ 8 _ _ rfl (by kernel_rfl) rfl rfl (Wp (i:=2) (eq:=Hf (Dv e)) Ah rfl rfl rfl rfl rfl rfl rfl (Im (Dv e) s.ts) rfl (by rw [iY];exact hj1) (U8 hj2) rfl) (by rintro _ _ ⟨rfl,rfl⟩;simp) ?_
     rintro _ _ ⟨rfl,rfl⟩
     refine Qn 9 rfl Ke ?_
     refine Jn.last _ _ 10 _ _ rfl (by kernel_rfl) rfl rfl (Kt (i:=2) (j:=j) (H2:=_::_::_::_) rfl rfl rfl rfl (U8 hj2) rfl) (by kernel_rfl) ?_
     rintro _ _ ⟨rfl,rfl⟩
     refine Ad (Ai (Qp Bl (Ag (AW.ret (Bb (Aj ?_))))))
     refine ⟨.inr rfl,[.bool _],.cons (.tmp _ _ rfl) <| .nil,_,.refl _,?_⟩
     first
      | exact absurd (‹(e.op==1)=true›.symm.trans ‹(e.op==1)=false›) (by decide)
      | exact absurd (‹(e.op==2)=true›.symm.trans ‹(e.op==2)=false›) (by decide)
      | exact Bo (Fa ‹(e.op==0)=true›) ⟨rfl,_,rfl⟩
      | exact Bo (B8 ‹(e.op==0)=false› (Xu ‹(e.op==1)=true›)) ⟨rfl,_,Gg hnew⟩
      | exact Bo (B8 ‹(e.op==0)=false› (Xu ‹(e.op==1)=true›)) ⟨rfl,_,Gb hj3⟩
      | exact Bo (B8 ‹(e.op==0)=false› (Xt ‹(e.op==2)=true›)) ⟨rfl,_,Gg hnew⟩
      | exact Bo (B8 ‹(e.op==0)=false› (Xt ‹(e.op==2)=true›)) ⟨rfl,_,Gb hj3⟩
      | exact ⟨congrArg AV.bool (De hl2 (.inl ⟨ho,rfl⟩)),_,rfl⟩
      | exact ⟨congrArg AV.bool (De hl2 (.inr ⟨ho,rfl⟩)),_,rfl⟩
      | exact Bo (F4 ‹(e.op==0)=false› (Ur ‹(e.op==1)=false› ‹(e.op==2)=false›) ‹(e.op==5)=false› ‹(e.op==6)=false›) ⟨rfl,_,rfl⟩
   ·
    refine Ai (Qp A9 (Qp Bl (Ag (A6 (fun hc7=>?_) fun hc7=>?_))))
    ·
     refine AW.seq ?_
     have ho:=eq_of_beq ‹(e.op==5)=true›
     have hl2:=Ei hz.1 (by omega)
     have h00:0<e.args.length:=by omega
     have hsz:=Db hl2
     have hs0:=Wj _ (hz.2 _ (A0 h00)) hb hs
     refine AW.region (Qp Gr (Qp Lp (Qp Dy ?_)))
     refine Qp (Af (c:=[Iq _,_,Iq _,Iq _,Iq _,Iq _,Iq _,.str _]) Ah rfl rfl rfl rfl rfl rfl (by decide) (E4 h00)) ?_
     refine Qp El (Qp Az ?_)
     refine Qe (Dj (by kernel_rfl) rfl rfl (ih _ (A0 h00) (hz.2 _ (A0 h00)) n b hb s hs (by omega) v)) ?_
     rintro _ _ ⟨rfl,u0,rfl⟩
     refine Qp B0 (Qg [] Qw Gr (Qg [] Qw Lp (Qg [(78,_)] Qw Dy ?_)))
     refine AOL.Aar (y:=.ptr _) _ [(79,_)] rfl (nC.all ⟨Ent.Aam _ _,trivial⟩) (fun hG=>Af (c:=[Iq _,_,Iq _,Iq _,Iq _,Iq _,Iq _,.str _]) Ah rfl rfl rfl rfl rfl rfl (by decide) (H7 hl2)) rfl ?_
     refine Qg [(80,_)] Qw El (Qg [] Qw Az ?_)
     refine AOL.geX (F:=fun u=>N7 m bs u (Bg e b s).1 R) _ [(77,_),(81,_),(82,_)] rfl (nC.all ⟨Ent.Aam _ _,Ent.Aam _ _,Ent.Aam _ _,trivial⟩) (fun hG=>Dj (by kernel_rfl) rfl rfl (fT hl2 (.inl ⟨ho,rfl⟩) hG (ih _ (Bk hl2) (hz.2 _ (Bk hl2)) (n+Ar (Av e)) b hb _ hs0 (by omega) u0))) (fun hG=>Ze hl2 (.inl ⟨ho,rfl⟩) hG) rfl fun u1=>?_
     refine Qp F7 (Qp Bl (Ag (AW.ret (Bb (Aj ?_)))))
     refine ⟨.inr rfl,[.bool _],.cons (.tmp _ _ rfl) <| .nil,_,.refl _,?_⟩
     first
      | exact absurd (‹(e.op==1)=true›.symm.trans ‹(e.op==1)=false›) (by decide)
      | exact absurd (‹(e.op==2)=true›.symm.trans ‹(e.op==2)=false›) (by decide)
      | exact Bo (Fa ‹(e.op==0)=true›) ⟨rfl,_,rfl⟩
      | exact Bo (B8 ‹(e.op==0)=false› (Xu ‹(e.op==1)=true›)) ⟨rfl,_,Gg hnew⟩
      | exact Bo (B8 ‹(e.op==0)=false› (Xu ‹(e.op==1)=true›)) ⟨rfl,_,Gb hj3⟩
      | exact Bo (B8 ‹(e.op==0)=false› (Xt ‹(e.op==2)=true›)) ⟨rfl,_,Gg hnew⟩
      | exact Bo (B8 ‹(e.op==0)=false› (Xt ‹(e.op==2)=true›)) ⟨rfl,_,Gb hj3⟩
      | exact ⟨congrArg AV.bool (De hl2 (.inl ⟨ho,rfl⟩)),_,rfl⟩
      | exact ⟨congrArg AV.bool (De hl2 (.inr ⟨ho,rfl⟩)),_,rfl⟩
      | exact Bo (F4 ‹(e.op==0)=false› (Ur ‹(e.op==1)=false› ‹(e.op==2)=false›) ‹(e.op==5)=false› ‹(e.op==6)=false›) ⟨rfl,_,rfl⟩
    ·
     refine Ai (Qp A9 (Qp Bl (Ag (A6 (fun hc8=>?_) fun hc8=>?_))))
     ·
      refine AW.seq ?_
      have ho:=eq_of_beq ‹(e.op==6)=true›
      have hl2:=Ei hz.1 (by omega)
      have h00:0<e.args.length:=by omega
      have hsz:=Db hl2
      have hs0:=Wj _ (hz.2 _ (A0 h00)) hb hs
      refine AW.region (Qp Gr (Qp Lp (Qp Dy ?_)))
      refine Qp (Af (c:=[Iq _,_,Iq _,Iq _,Iq _,Iq _,Iq _,.str _]) Ah rfl rfl rfl rfl rfl rfl (by decide) (E4 h00)) ?_
      refine Qp El (Qp Az ?_)
      refine Qe (Dj (by kernel_rfl) rfl rfl (ih _ (A0 h00) (hz.2 _ (A0 h00)) n b hb s hs (by omega) v)) ?_
      rintro _ _ ⟨rfl,u0,rfl⟩
      refine Qp B0 (Qg [] Qw Gr (Qg [] Qw Lp (Qg [(96,_)] Qw Dy ?_)))
      refine AOL.Aar (y:=.ptr _) _ [(97,_)] rfl (nC.all ⟨Ent.Aam _ _,trivial⟩) (fun hG=>Af (c:=[Iq _,_,Iq _,Iq _,Iq _,Iq _,Iq _,.str _]) Ah rfl rfl rfl rfl rfl rfl (by decide) (H7 hl2)) rfl ?_
      refine Qg [(98,_)] Qw El (Qg [] Qw Az ?_)
      refine AOL.Aar (y:=Iq _) _ [(100,_)] rfl (nC.all ⟨Ent.Aam _ _,trivial⟩) (fun hG=>Tq rfl rfl (by constructor <;> omega)) rfl ?_
      refine AOL.geX (F:=fun u=>N7 m bs u (Bg e b s).1 R) _ [(95,_),(99,_),(101,_)] rfl (nC.all ⟨Ent.Aam _ _,Ent.Aam _ _,Ent.Aam _ _,trivial⟩) (fun hG=>Dj (by kernel_rfl) rfl rfl (fT hl2 (.inr ⟨ho,rfl⟩) hG (ih _ (Bk hl2) (hz.2 _ (Bk hl2)) (n+Ar (Av e)) (0-b) (by omega) _ hs0 (by omega) u0))) (fun hG=>Ze hl2 (.inr ⟨ho,rfl⟩) hG) rfl fun u1=>?_
      refine Qp F7 (Qp Bl (Ag (AW.ret (Bb (Aj ?_)))))
      refine ⟨.inr rfl,[.bool _],.cons (.tmp _ _ rfl) <| .nil,_,.refl _,?_⟩
      first
       | exact absurd (‹(e.op==1)=true›.symm.trans ‹(e.op==1)=false›) (by decide)
       | exact absurd (‹(e.op==2)=true›.symm.trans ‹(e.op==2)=false›) (by decide)
       | exact Bo (Fa ‹(e.op==0)=true›) ⟨rfl,_,rfl⟩
       | exact Bo (B8 ‹(e.op==0)=false› (Xu ‹(e.op==1)=true›)) ⟨rfl,_,Gg hnew⟩
       | exact Bo (B8 ‹(e.op==0)=false› (Xu ‹(e.op==1)=true›)) ⟨rfl,_,Gb hj3⟩
       | exact Bo (B8 ‹(e.op==0)=false› (Xt ‹(e.op==2)=true›)) ⟨rfl,_,Gg hnew⟩
       | exact Bo (B8 ‹(e.op==0)=false› (Xt ‹(e.op==2)=true›)) ⟨rfl,_,Gb hj3⟩
       | exact ⟨congrArg AV.bool (De hl2 (.inl ⟨ho,rfl⟩)),_,rfl⟩
       | exact ⟨congrArg AV.bool (De hl2 (.inr ⟨ho,rfl⟩)),_,rfl⟩
       | exact Bo (F4 ‹(e.op==0)=false› (Ur ‹(e.op==1)=false› ‹(e.op==2)=false›) ‹(e.op==5)=false› ‹(e.op==6)=false›) ⟨rfl,_,rfl⟩
     ·
      refine AW.skip (Bu (Ad (Ai (Qp Bl (Ag (AW.ret ?_))))))
      refine ⟨.inr rfl,[.bool _],.cons (.tmp _ _ rfl) <| .nil,_,.refl _,?_⟩
      first
       | exact absurd (‹(e.op==1)=true›.symm.trans ‹(e.op==1)=false›) (by decide)
       | exact absurd (‹(e.op==2)=true›.symm.trans ‹(e.op==2)=false›) (by decide)
       | exact Bo (Fa ‹(e.op==0)=true›) ⟨rfl,_,rfl⟩
       | exact Bo (B8 ‹(e.op==0)=false› (Xu ‹(e.op==1)=true›)) ⟨rfl,_,Gg hnew⟩
       | exact Bo (B8 ‹(e.op==0)=false› (Xu ‹(e.op==1)=true›)) ⟨rfl,_,Gb hj3⟩
       | exact Bo (B8 ‹(e.op==0)=false› (Xt ‹(e.op==2)=true›)) ⟨rfl,_,Gg hnew⟩
       | exact Bo (B8 ‹(e.op==0)=false› (Xt ‹(e.op==2)=true›)) ⟨rfl,_,Gb hj3⟩
       | exact ⟨congrArg AV.bool (De hl2 (.inl ⟨ho,rfl⟩)),_,rfl⟩
       | exact ⟨congrArg AV.bool (De hl2 (.inr ⟨ho,rfl⟩)),_,rfl⟩
       | exact Bo (F4 ‹(e.op==0)=false› (Ur ‹(e.op==1)=false› ‹(e.op==2)=false›) ‹(e.op==5)=false› ‹(e.op==6)=false›) ⟨rfl,_,rfl⟩

end Go.Proofs.YtjedflcpjlgokaaGreatDoor
