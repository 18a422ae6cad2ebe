/-
  Walks of layer 11: sums. No condition.
-/
import Derived.Test.YtjedflcpjlgokaaGreatDoorAz
import Derived.Test.YtjedflcpjlgokaaGreatDoorK14
import Derived.Test.YtjedflcpjlgokaaGreatDoorK27
import Derived.KernelRfl
namespace Go.Proofs.YtjedflcpjlgokaaGreatDoor
open Go Go.Aw
set_option maxHeartbeats 3200000
set_option maxRecDepth 20000
set_option linter.unusedVariables false
set_option linter.unusedSimpArgs false

theorem zJ (m bs:Nat)(R:List HO)(e:Ex)(hn:Dc e=0)(n:Nat)(b:Int)(hb:b=1∨b = -1)(s:Su)(hs:suOK n s)(hm:n+At e≤1048576)(v:Value):Dj Tryz.prog 121 (Ng m bs v s R) [.val (.pointer (some ⟨bs,0,none⟩)),.agg (cE e),.int .i64 b] (fun r H'=>r = .bool (Bh e b s).2∧∃v',H'=Ng m bs v' (Bh e b s).1 R):=by
 revert n b s v hn
 induction e using Ex.Aaj
 rename_i e ih
 intro hn n b hb s hs hm v
 have hz:=A8 hn
 have hsr:=hs.rest
 have hsl:=hs.len
 have hsp:1≤At e:=by rw [Ek];omega
 refine Dj.body (n:=104) Ai Tryz.func121 rfl rfl rfl ?_
 refine Ah (Qp Nc (Qp Bm (Ag (AW.seq (Ah (Qp K9 (Qp Bp (Ag (AW.block ?_)))))))))
 refine Ah (Qp A6 (Qp Bm (Ag (A3 (fun hc1=>?_) fun hc1=>?_))))
 ·
  refine AW.seq ?_
  have hcn:=Sw hz.1 (eq_of_beq ‹(e.op==0)=true›)
  have hmul:b*e.val.num=e.val.num∨b*e.val.num = - e.val.num:=by rcases hb with rfl | rfl <;> omega
  refine AW.draw mixed (fun H'=>_∈H') (List.mem_of_getElem? (i:=1) rfl) (by kernel_rfl) ?_
  refine Qn 0 rfl Ho ?_
  refine Qn 1 rfl (Be rfl) ?_
  refine Qn 2 rfl H9 ?_
  refine Qn 3 rfl (OpP.Aag (fun k=>Ao (k:=k) (c:=Iq _) Ai rfl rfl rfl rfl) (fun _ h=>h)) ?_
  refine Qn 4 rfl A0 (Qn 5 rfl J2 (Qn 6 rfl V1 (Qn 7 rfl Bp ?_)))
  refine Qn 8 rfl (sR rfl rfl rfl (by constructor <;> omega)) ?_
  refine Qn 9 rfl F7 ?_
  refine Qn 10 rfl (Be rfl) ?_
  refine Qn 11 rfl H9 ?_
  refine Jb.last _ _ 12 _ _ rfl (by kernel_rfl) rfl rfl (Df (k:=1) (v:=Iq _) (cs':=[_,_,Iq _]) (H2:=_::_::_::_) Ai rfl rfl rfl rfl (rfl) rfl rfl rfl rfl) (by kernel_rfl) ?_
  rintro _ _ ⟨rfl,rfl⟩
  refine Ae (Ah (Qp Bm (Ag (AW.ret (A7 (Aj ?_))))))
  refine ⟨.inr rfl,[.bool _],.cons (.tmp _ _ rfl) <| .nil,_,.refl _,?_⟩
  first
   | exact absurd (‹(e.op==1)=true›.symm.trans ‹(e.op==1)=false›) (by decide)
   | exact absurd (‹(e.op==2)=true›.symm.trans ‹(e.op==2)=false›) (by decide)
   | exact Bf (Fe ‹(e.op==0)=true›) ⟨rfl,_,rfl⟩
   | exact Bf (B2 ‹(e.op==0)=false› (X5 ‹(e.op==1)=true›)) ⟨rfl,_,Fy hnew⟩
   | exact Bf (B2 ‹(e.op==0)=false› (X5 ‹(e.op==1)=true›)) ⟨rfl,_,Fx hj3⟩
   | exact Bf (B2 ‹(e.op==0)=false› (Zi ‹(e.op==2)=true›)) ⟨rfl,_,Fy hnew⟩
   | exact Bf (B2 ‹(e.op==0)=false› (Zi ‹(e.op==2)=true›)) ⟨rfl,_,Fx hj3⟩
   | exact ⟨congrArg AV.bool (C2 hl2 (.inl ⟨ho,rfl⟩)),_,rfl⟩
   | exact ⟨congrArg AV.bool (C2 hl2 (.inr ⟨ho,rfl⟩)),_,rfl⟩
   | exact Bf (Ge ‹(e.op==0)=false› (aU ‹(e.op==1)=false› ‹(e.op==2)=false›) ‹(e.op==5)=false› ‹(e.op==6)=false›) ⟨rfl,_,rfl⟩
 ·
  refine AW.seq (Ah (Qp A6 (Qp Bm (Ag (A3 (fun hc2=>?_) fun hc2=>?_)))))
  ·
   refine By (A3 (fun hc3=>?_) fun hc3=>?_)
   ·
    refine AW.seq ?_
    have hsc:∀c∈(s.ts.map fun p=>Hz p.1),Bc c=true:=Fc fun _=>rfl
    refine AW.region (Qp K9 (Qp Bp (Qp Xs (Qp Bp (Qp Qv (Qp Bp (Qp (Fr [Iq _,Iq _,Iq _]) ?_)))))))
    refine Qe (Am (l:=[.int .i64 0,.int .i64 0,.int .i64 0]) (by kernel_rfl)) ?_
    rintro _ _ ⟨b7,rfl,rfl⟩
    refine Cz 0 [Iq _,Iq _,Iq _] (_::_::_::_::_) ?_
    refine AOL.ghost (GS.Aac (t:=7) 0 rfl rfl) ?_
    refine Ag (AW.seq (AW.seq ?_))
    refine AW.draw mixed (fun H'=>_∈H'∧_∈H') ⟨(List.mem_of_getElem? (i:=1) rfl),(List.mem_of_getElem? (i:=2) rfl)⟩ (by kernel_rfl) ?_
    refine Qn 0 rfl Ho ?_
    refine Qn 1 rfl (Be rfl) ?_
    refine Qn 2 rfl H9 ?_
    refine Qn 3 rfl (OpP.Aag (fun k=>Ao (k:=k) (c:=.val _) Ai rfl rfl rfl rfl) (fun _ h=>h.1)) ?_
    refine Qn 4 rfl (Cv [Iq _,Iq _,Iq _]) ?_
    refine Qn 5 rfl (OpP.Aag (fun k=>Ox (i:=k) (eq:=G4 (Dp e)) Ai rfl rfl rfl rfl rfl (by kernel_rfl) rfl rfl (rfl) (Ib (Dp e) s.ts) (Nl (Dp e) s.ts) (has_t (Dp e) s.ts)) (fun _ h=>h.2)) ?_
    refine Qn 6 rfl Nb (Qn 7 rfl I6 (Qn 8 rfl eR (Qn 9 rfl Ar (Qn 10 rfl Bm ?_))))
    refine Jb.done _ _ (by kernel_rfl) ?_
    refine Ae (Ah (Qp Bu (Qp Hp (Ag (A3 (fun hc4=>?_) fun hc4=>?_)))))
    ·
     have hnew:Qb (Dp e) s.ts=false:=by simpa using hc4
     refine AW.draw mixed (fun H'=>_∈H') (List.mem_of_getElem? (i:=1) rfl) (by kernel_rfl) ?_
     refine Qn 0 rfl Ho (Qn 1 rfl Ho ?_)
     refine Qn 2 rfl (Be rfl) ?_
     refine Qn 3 rfl H9 ?_
     refine Qn 4 rfl (OpP.Aag (fun k=>Ao (k:=k) (c:=.row _ _ _) Ai rfl rfl rfl rfl) (fun _ h=>h)) ?_
     refine Qn 5 rfl (Cv [Iq _,Iq _,Iq _]) ?_
     refine Qn 6 rfl (A2 (es:=[[Iq _,Iq _,Iq _]]) Ai rfl rfl rfl rfl rfl rfl rfl rfl rfl) ?_
     refine Jb.eff _ _ 7 _ _ rfl (by kernel_rfl) rfl rfl (Dh (k:=0) Ai rfl rfl rfl rfl rfl rfl rfl rfl (G5 rfl) (hsc) (by simp;omega) (by simp [maxLen];omega)) (by rintro _ _ ⟨v54,rfl,rfl⟩;simp) ?_
     rintro _ _ ⟨v54,rfl,rfl⟩
     refine Qn 8 rfl (Be rfl) ?_
     refine Qn 9 rfl H9 ?_
     refine Jb.last _ _ 10 _ _ rfl (by kernel_rfl) rfl rfl (Df (k:=1) (v:=.row _ _ _) (cs':=[_,_,Iq _]) (H2:=_::_::_::_) Ai rfl rfl rfl rfl (rfl) rfl rfl rfl rfl) (by kernel_rfl) ?_
     rintro _ _ ⟨rfl,rfl⟩
     refine Ae (AW.seq ?_)
     have hcf:=U1 hs (Dp e)
     have htt:=hnew
     refine AW.draw mixed (fun H'=>_∈H'∧(HO.kmap m (F8 s.ts)∈H'∨HO.kmap m (F8 s.ts ++ [([.int .i64 e.op,.int .i64 e.var,.int .i64 e.field],AV.int .i64 0)])∈H')) ⟨(List.mem_of_getElem? (i:=1) rfl),.inl (List.mem_of_getElem? (i:=2) rfl)⟩ (by kernel_rfl) ?_
     refine Qn 0 rfl Ho ?_
     refine Qn 1 rfl (Be rfl) ?_
     refine Qn 2 rfl H9 ?_
     refine Qn 3 rfl (OpP.Aag (fun k=>Ao (k:=k) (c:=.val _) Ai rfl rfl rfl rfl) (fun _ h=>h.1)) ?_
     refine Qn 4 rfl (Cv [Iq _,Iq _,Iq _]) ?_
     refine Qn 5 rfl (lN (fun k=>I0 (i:=k) (eq:=G4 (Dp e)) Ai rfl rfl rfl rfl rfl (by kernel_rfl) rfl rfl (rfl) (Ib (Dp e) s.ts) (Nl (Dp e) s.ts)) (fun k=>I0 (i:=k) (eq:=G4 (Dp e)) Ai rfl rfl rfl rfl rfl (by kernel_rfl) rfl rfl (rfl) (dS (Dp e) s.ts) (lS hnew)) (fun _ h=>h.2)) ?_
     refine Qn 6 rfl A0 (Qn 7 rfl F7 ?_)
     refine Jb.eff _ _ 8 _ _ rfl (by kernel_rfl) rfl rfl (Pp (i:=2) (eq:=G4 (Dp e)) Ai rfl rfl rfl rfl rfl rfl rfl (fun _ _ _ h=>h) rfl rfl rfl (Ib (Dp e) s.ts) rfl (cY hnew)) (by rintro _ _ ⟨rfl,rfl⟩;simp) ?_
     rintro _ _ ⟨rfl,rfl⟩
     refine Qn 9 rfl I6 ?_
     refine Jb.last _ _ 10 _ _ rfl (by kernel_rfl) rfl rfl (Kn (i:=2) (j:=(F8 s.ts).length) (H2:=_::_::_::_) rfl rfl rfl rfl (fO (t:=Dp e)) rfl) (by kernel_rfl) ?_
     rintro _ _ ⟨rfl,rfl⟩
     refine Ae (Ah (Qp Bm (Ag (AW.ret (A7 (Aj ?_))))))
     refine ⟨.inr rfl,[.bool _],.cons (.tmp _ _ rfl) <| .nil,_,.refl _,?_⟩
     first
      | exact absurd (‹(e.op==1)=true›.symm.trans ‹(e.op==1)=false›) (by decide)
      | exact absurd (‹(e.op==2)=true›.symm.trans ‹(e.op==2)=false›) (by decide)
      | exact Bf (Fe ‹(e.op==0)=true›) ⟨rfl,_,rfl⟩
      | exact Bf (B2 ‹(e.op==0)=false› (X5 ‹(e.op==1)=true›)) ⟨rfl,_,Fy hnew⟩
      | exact Bf (B2 ‹(e.op==0)=false› (X5 ‹(e.op==1)=true›)) ⟨rfl,_,Fx hj3⟩
      | exact Bf (B2 ‹(e.op==0)=false› (Zi ‹(e.op==2)=true›)) ⟨rfl,_,Fy hnew⟩
      | exact Bf (B2 ‹(e.op==0)=false› (Zi ‹(e.op==2)=true›)) ⟨rfl,_,Fx hj3⟩
      | exact ⟨congrArg AV.bool (C2 hl2 (.inl ⟨ho,rfl⟩)),_,rfl⟩
      | exact ⟨congrArg AV.bool (C2 hl2 (.inr ⟨ho,rfl⟩)),_,rfl⟩
      | exact Bf (Ge ‹(e.op==0)=false› (aU ‹(e.op==1)=false› ‹(e.op==2)=false›) ‹(e.op==5)=false› ‹(e.op==6)=false›) ⟨rfl,_,rfl⟩
    ·
     refine By (AW.seq ?_)
     have hcf:=U1 hs (Dp e)
     refine (bL (b:=b) (by simpa using hc4:Qb (Dp e) s.ts=true)).elim fun j hj=>?_
     have hj1:=hj.1
     have hj2:=hj.2.1
     have hj3:=hj.2.2
     refine AW.draw mixed (fun H'=>_∈H'∧_∈H') ⟨(List.mem_of_getElem? (i:=1) rfl),(List.mem_of_getElem? (i:=2) rfl)⟩ (by kernel_rfl) ?_
     refine Qn 0 rfl Ho ?_
     refine Qn 1 rfl (Be rfl) ?_
     refine Qn 2 rfl H9 ?_
     refine Qn 3 rfl (OpP.Aag (fun k=>Ao (k:=k) (c:=.val _) Ai rfl rfl rfl rfl) (fun _ h=>h.1)) ?_
     refine Qn 4 rfl (Cv [Iq _,Iq _,Iq _]) ?_
     refine Qn 5 rfl (OpP.Aag (fun k=>I0 (i:=k) (eq:=G4 (Dp e)) Ai rfl rfl rfl rfl rfl (by kernel_rfl) rfl rfl (rfl) (Ib (Dp e) s.ts) (Nl (Dp e) s.ts)) (fun _ h=>h.2)) ?_
     refine Qn 6 rfl A0 (Qn 7 rfl F7 ?_)
     refine Jb.eff _ _ 8 _ _ rfl (by kernel_rfl) rfl rfl (Xk (i:=2) (eq:=G4 (Dp e)) Ai rfl rfl rfl rfl rfl rfl rfl (Ib (Dp e) s.ts) rfl (by rw [jF];exact hj1) (Us hj2) rfl) (by rintro _ _ ⟨rfl,rfl⟩;simp) ?_
     rintro _ _ ⟨rfl,rfl⟩
     refine Qn 9 rfl I6 ?_
     refine Jb.last _ _ 10 _ _ rfl (by kernel_rfl) rfl rfl (Kn (i:=2) (j:=j) (H2:=_::_::_::_) rfl rfl rfl rfl (Us hj2) rfl) (by kernel_rfl) ?_
     rintro _ _ ⟨rfl,rfl⟩
     refine Ae (Ah (Qp Bm (Ag (AW.ret (A7 (Aj ?_))))))
     refine ⟨.inr rfl,[.bool _],.cons (.tmp _ _ rfl) <| .nil,_,.refl _,?_⟩
     first
      | exact absurd (‹(e.op==1)=true›.symm.trans ‹(e.op==1)=false›) (by decide)
      | exact absurd (‹(e.op==2)=true›.symm.trans ‹(e.op==2)=false›) (by decide)
      | exact Bf (Fe ‹(e.op==0)=true›) ⟨rfl,_,rfl⟩
      | exact Bf (B2 ‹(e.op==0)=false› (X5 ‹(e.op==1)=true›)) ⟨rfl,_,Fy hnew⟩
      | exact Bf (B2 ‹(e.op==0)=false› (X5 ‹(e.op==1)=true›)) ⟨rfl,_,Fx hj3⟩
      | exact Bf (B2 ‹(e.op==0)=false› (Zi ‹(e.op==2)=true›)) ⟨rfl,_,Fy hnew⟩
      | exact Bf (B2 ‹(e.op==0)=false› (Zi ‹(e.op==2)=true›)) ⟨rfl,_,Fx hj3⟩
      | exact ⟨congrArg AV.bool (C2 hl2 (.inl ⟨ho,rfl⟩)),_,rfl⟩
      | exact ⟨congrArg AV.bool (C2 hl2 (.inr ⟨ho,rfl⟩)),_,rfl⟩
      | exact Bf (Ge ‹(e.op==0)=false› (aU ‹(e.op==1)=false› ‹(e.op==2)=false›) ‹(e.op==5)=false› ‹(e.op==6)=false›) ⟨rfl,_,rfl⟩
   ·
    exact absurd (hc3.symm.trans hc2) (by decide)
  ·
   refine AW.region (Qp A6 (Qp Bm (Ag (A3 (fun hc5=>?_) fun hc5=>?_))))
   ·
    refine AW.seq ?_
    have hsc:∀c∈(s.ts.map fun p=>Hz p.1),Bc c=true:=Fc fun _=>rfl
    refine AW.region (Qp K9 (Qp Bp (Qp Xs (Qp Bp (Qp Qv (Qp Bp (Qp (Fr [Iq _,Iq _,Iq _]) ?_)))))))
    refine Qe (Am (l:=[.int .i64 0,.int .i64 0,.int .i64 0]) (by kernel_rfl)) ?_
    rintro _ _ ⟨b7,rfl,rfl⟩
    refine Cz 0 [Iq _,Iq _,Iq _] (_::_::_::_::_) ?_
    refine AOL.ghost (GS.Aac (t:=7) 0 rfl rfl) ?_
    refine Ag (AW.seq (AW.seq ?_))
    refine AW.draw mixed (fun H'=>_∈H'∧_∈H') ⟨(List.mem_of_getElem? (i:=1) rfl),(List.mem_of_getElem? (i:=2) rfl)⟩ (by kernel_rfl) ?_
    refine Qn 0 rfl Ho ?_
    refine Qn 1 rfl (Be rfl) ?_
    refine Qn 2 rfl H9 ?_
    refine Qn 3 rfl (OpP.Aag (fun k=>Ao (k:=k) (c:=.val _) Ai rfl rfl rfl rfl) (fun _ h=>h.1)) ?_
    refine Qn 4 rfl (Cv [Iq _,Iq _,Iq _]) ?_
    refine Qn 5 rfl (OpP.Aag (fun k=>Ox (i:=k) (eq:=G4 (Dp e)) Ai rfl rfl rfl rfl rfl (by kernel_rfl) rfl rfl (rfl) (Ib (Dp e) s.ts) (Nl (Dp e) s.ts) (has_t (Dp e) s.ts)) (fun _ h=>h.2)) ?_
    refine Qn 6 rfl Nb (Qn 7 rfl I6 (Qn 8 rfl eR (Qn 9 rfl Ar (Qn 10 rfl Bm ?_))))
    refine Jb.done _ _ (by kernel_rfl) ?_
    refine Ae (Ah (Qp Bu (Qp Hp (Ag (A3 (fun hc6=>?_) fun hc6=>?_)))))
    ·
     have hnew:Qb (Dp e) s.ts=false:=by simpa using hc6
     refine AW.draw mixed (fun H'=>_∈H') (List.mem_of_getElem? (i:=1) rfl) (by kernel_rfl) ?_
     refine Qn 0 rfl Ho (Qn 1 rfl Ho ?_)
     refine Qn 2 rfl (Be rfl) ?_
     refine Qn 3 rfl H9 ?_
     refine Qn 4 rfl (OpP.Aag (fun k=>Ao (k:=k) (c:=.row _ _ _) Ai rfl rfl rfl rfl) (fun _ h=>h)) ?_
     refine Qn 5 rfl (Cv [Iq _,Iq _,Iq _]) ?_
     refine Qn 6 rfl (A2 (es:=[[Iq _,Iq _,Iq _]]) Ai rfl rfl rfl rfl rfl rfl rfl rfl rfl) ?_
     refine Jb.eff _ _ 7 _ _ rfl (by kernel_rfl) rfl rfl (Dh (k:=0) Ai rfl rfl rfl rfl rfl rfl rfl rfl (G5 rfl) (hsc) (by simp;omega) (by simp [maxLen];omega)) (by rintro _ _ ⟨v54,rfl,rfl⟩;simp) ?_
     rintro _ _ ⟨v54,rfl,rfl⟩
     refine Qn 8 rfl (Be rfl) ?_
     refine Qn 9 rfl H9 ?_
     refine Jb.last _ _ 10 _ _ rfl (by kernel_rfl) rfl rfl (Df (k:=1) (v:=.row _ _ _) (cs':=[_,_,Iq _]) (H2:=_::_::_::_) Ai rfl rfl rfl rfl (rfl) rfl rfl rfl rfl) (by kernel_rfl) ?_
     rintro _ _ ⟨rfl,rfl⟩
     refine Ae (AW.seq ?_)
     have hcf:=U1 hs (Dp e)
     have htt:=hnew
     refine AW.draw mixed (fun H'=>_∈H'∧(HO.kmap m (F8 s.ts)∈H'∨HO.kmap m (F8 s.ts ++ [([.int .i64 e.op,.int .i64 e.var,.int .i64 e.field],AV.int .i64 0)])∈H')) ⟨(List.mem_of_getElem? (i:=1) rfl),.inl (List.mem_of_getElem? (i:=2) rfl)⟩ (by kernel_rfl) ?_
     refine Qn 0 rfl Ho ?_
     refine Qn 1 rfl (Be rfl) ?_
     refine Qn 2 rfl H9 ?_
     refine Qn 3 rfl (OpP.Aag (fun k=>Ao (k:=k) (c:=.val _) Ai rfl rfl rfl rfl) (fun _ h=>h.1)) ?_
     refine Qn 4 rfl (Cv [Iq _,Iq _,Iq _]) ?_
     refine Qn 5 rfl (lN (fun k=>I0 (i:=k) (eq:=G4 (Dp e)) Ai rfl rfl rfl rfl rfl (by kernel_rfl) rfl rfl (rfl) (Ib (Dp e) s.ts) (Nl (Dp e) s.ts)) (fun k=>I0 (i:=k) (eq:=G4 (Dp e)) Ai rfl rfl rfl rfl rfl (by kernel_rfl) rfl rfl (rfl) (dS (Dp e) s.ts) (lS hnew)) (fun _ h=>h.2)) ?_
     refine Qn 6 rfl A0 (Qn 7 rfl F7 ?_)
     refine Jb.eff _ _ 8 _ _ rfl (by kernel_rfl) rfl rfl (Pp (i:=2) (eq:=G4 (Dp e)) Ai rfl rfl rfl rfl rfl rfl rfl (fun _ _ _ h=>h) rfl rfl rfl (Ib (Dp e) s.ts) rfl (cY hnew)) (by rintro _ _ ⟨rfl,rfl⟩;simp) ?_
     rintro _ _ ⟨rfl,rfl⟩
     refine Qn 9 rfl I6 ?_
     refine Jb.last _ _ 10 _ _ rfl (by kernel_rfl) rfl rfl (Kn (i:=2) (j:=(F8 s.ts).length) (H2:=_::_::_::_) rfl rfl rfl rfl (fO (t:=Dp e)) rfl) (by kernel_rfl) ?_
     rintro _ _ ⟨rfl,rfl⟩
     refine Ae (Ah (Qp Bm (Ag (AW.ret (A7 (Aj ?_))))))
     refine ⟨.inr rfl,[.bool _],.cons (.tmp _ _ rfl) <| .nil,_,.refl _,?_⟩
     first
      | exact absurd (‹(e.op==1)=true›.symm.trans ‹(e.op==1)=false›) (by decide)
      | exact absurd (‹(e.op==2)=true›.symm.trans ‹(e.op==2)=false›) (by decide)
      | exact Bf (Fe ‹(e.op==0)=true›) ⟨rfl,_,rfl⟩
      | exact Bf (B2 ‹(e.op==0)=false› (X5 ‹(e.op==1)=true›)) ⟨rfl,_,Fy hnew⟩
      | exact Bf (B2 ‹(e.op==0)=false› (X5 ‹(e.op==1)=true›)) ⟨rfl,_,Fx hj3⟩
      | exact Bf (B2 ‹(e.op==0)=false› (Zi ‹(e.op==2)=true›)) ⟨rfl,_,Fy hnew⟩
      | exact Bf (B2 ‹(e.op==0)=false› (Zi ‹(e.op==2)=true›)) ⟨rfl,_,Fx hj3⟩
      | exact ⟨congrArg AV.bool (C2 hl2 (.inl ⟨ho,rfl⟩)),_,rfl⟩
      | exact ⟨congrArg AV.bool (C2 hl2 (.inr ⟨ho,rfl⟩)),_,rfl⟩
      | exact Bf (Ge ‹(e.op==0)=false› (aU ‹(e.op==1)=false› ‹(e.op==2)=false›) ‹(e.op==5)=false› ‹(e.op==6)=false›) ⟨rfl,_,rfl⟩
    ·
     refine By (AW.seq ?_)
     have hcf:=U1 hs (Dp e)
     refine (bL (b:=b) (by simpa using hc6:Qb (Dp e) s.ts=true)).elim fun j hj=>?_
     have hj1:=hj.1
     have hj2:=hj.2.1
     have hj3:=hj.2.2
     refine AW.draw mixed (fun H'=>_∈H'∧_∈H') ⟨(List.mem_of_getElem? (i:=1) rfl),(List.mem_of_getElem? (i:=2) rfl)⟩ (by kernel_rfl) ?_
     refine Qn 0 rfl Ho ?_
     refine Qn 1 rfl (Be rfl) ?_
     refine Qn 2 rfl H9 ?_
     refine Qn 3 rfl (OpP.Aag (fun k=>Ao (k:=k) (c:=.val _) Ai rfl rfl rfl rfl) (fun _ h=>h.1)) ?_
     refine Qn 4 rfl (Cv [Iq _,Iq _,Iq _]) ?_
     refine Qn 5 rfl (OpP.Aag (fun k=>I0 (i:=k) (eq:=G4 (Dp e)) Ai rfl rfl rfl rfl rfl (by kernel_rfl) rfl rfl (rfl) (Ib (Dp e) s.ts) (Nl (Dp e) s.ts)) (fun _ h=>h.2)) ?_
     refine Qn 6 rfl A0 (Qn 7 rfl F7 ?_)
     refine Jb.eff _ _ 8 _ _ rfl (by kernel_rfl) rfl rfl (Xk (i:=2) (eq:=G4 (Dp e)) Ai rfl rfl rfl rfl rfl rfl rfl (Ib (Dp e) s.ts) rfl (by rw [jF];exact hj1) (Us hj2) rfl) (by rintro _ _ ⟨rfl,rfl⟩;simp) ?_
     rintro _ _ ⟨rfl,rfl⟩
     refine Qn 9 rfl I6 ?_
     refine Jb.last _ _ 10 _ _ rfl (by kernel_rfl) rfl rfl (Kn (i:=2) (j:=j) (H2:=_::_::_::_) rfl rfl rfl rfl (Us hj2) rfl) (by kernel_rfl) ?_
     rintro _ _ ⟨rfl,rfl⟩
     refine Ae (Ah (Qp Bm (Ag (AW.ret (A7 (Aj ?_))))))
     refine ⟨.inr rfl,[.bool _],.cons (.tmp _ _ rfl) <| .nil,_,.refl _,?_⟩
     first
      | exact absurd (‹(e.op==1)=true›.symm.trans ‹(e.op==1)=false›) (by decide)
      | exact absurd (‹(e.op==2)=true›.symm.trans ‹(e.op==2)=false›) (by decide)
      | exact Bf (Fe ‹(e.op==0)=true›) ⟨rfl,_,rfl⟩
      | exact Bf (B2 ‹(e.op==0)=false› (X5 ‹(e.op==1)=true›)) ⟨rfl,_,Fy hnew⟩
      | exact Bf (B2 ‹(e.op==0)=false› (X5 ‹(e.op==1)=true›)) ⟨rfl,_,Fx hj3⟩
      | exact Bf (B2 ‹(e.op==0)=false› (Zi ‹(e.op==2)=true›)) ⟨rfl,_,Fy hnew⟩
      | exact Bf (B2 ‹(e.op==0)=false› (Zi ‹(e.op==2)=true›)) ⟨rfl,_,Fx hj3⟩
      | exact ⟨congrArg AV.bool (C2 hl2 (.inl ⟨ho,rfl⟩)),_,rfl⟩
      | exact ⟨congrArg AV.bool (C2 hl2 (.inr ⟨ho,rfl⟩)),_,rfl⟩
      | exact Bf (Ge ‹(e.op==0)=false› (aU ‹(e.op==1)=false› ‹(e.op==2)=false›) ‹(e.op==5)=false› ‹(e.op==6)=false›) ⟨rfl,_,rfl⟩
   ·
    refine Ah (Qp A6 (Qp Bm (Ag (A3 (fun hc7=>?_) fun hc7=>?_))))
    ·
     refine AW.seq ?_
     have ho:=eq_of_beq ‹(e.op==5)=true›
     have hl2:=Fh hz.1 (by omega)
     have h00:0<e.args.length:=by omega
     have hsz:=Dl hl2
     have hs0:=Vp _ (hz.2 _ (Ba h00)) hb hs
     refine AW.region (Qp Ho (Qp Oy (Qp Ee ?_)))
     refine Qp (Af (c:=[Iq _,_,Iq _,Iq _,Iq _,Iq _,Iq _,.str _]) Ai rfl rfl rfl rfl rfl rfl (by decide) (I3 h00)) ?_
     refine Qp E7 (Qp A0 ?_)
     refine Qe (E5 (by kernel_rfl) rfl rfl (ih _ (Ba h00) (hz.2 _ (Ba h00)) n b hb s hs (by omega) v)) ?_
     rintro _ _ ⟨rfl,u0,rfl⟩
     refine Qp Bu (Qg [] Qw Ho (Qg [] Qw Oy (Qg [(78,_)] Qw Ee ?_)))
     refine AOL.Aaf (y:=.ptr _) _ [(79,_)] rfl (oE.all ⟨Ent.Aab _ _,trivial⟩) (fun hG=>Af (c:=[Iq _,_,Iq _,Iq _,Iq _,Iq _,Iq _,.str _]) Ai rfl rfl rfl rfl rfl rfl (by decide) (Kh hl2)) rfl ?_
     refine Qg [(80,_)] Qw E7 (Qg [] Qw A0 ?_)
     refine AOL.geX (F:=fun u=>Ng m bs u (Bh e b s).1 R) _ [(77,_),(81,_),(82,_)] rfl (oE.all ⟨Ent.Aab _ _,Ent.Aab _ _,Ent.Aab _ _,trivial⟩) (fun hG=>E5 (by kernel_rfl) rfl rfl (dQ hl2 (.inl ⟨ho,rfl⟩) hG (ih _ (Bw hl2) (hz.2 _ (Bw hl2)) (n+At (Ap e)) b hb _ hs0 (by omega) u0))) (fun hG=>Zj hl2 (.inl ⟨ho,rfl⟩) hG) rfl fun u1=>?_
     refine Qp Gg (Qp Bm (Ag (AW.ret (A7 (Aj ?_)))))
     refine ⟨.inr rfl,[.bool _],.cons (.tmp _ _ rfl) <| .nil,_,.refl _,?_⟩
     first
      | exact absurd (‹(e.op==1)=true›.symm.trans ‹(e.op==1)=false›) (by decide)
      | exact absurd (‹(e.op==2)=true›.symm.trans ‹(e.op==2)=false›) (by decide)
      | exact Bf (Fe ‹(e.op==0)=true›) ⟨rfl,_,rfl⟩
      | exact Bf (B2 ‹(e.op==0)=false› (X5 ‹(e.op==1)=true›)) ⟨rfl,_,Fy hnew⟩
      | exact Bf (B2 ‹(e.op==0)=false› (X5 ‹(e.op==1)=true›)) ⟨rfl,_,Fx hj3⟩
      | exact Bf (B2 ‹(e.op==0)=false› (Zi ‹(e.op==2)=true›)) ⟨rfl,_,Fy hnew⟩
      | exact Bf (B2 ‹(e.op==0)=false› (Zi ‹(e.op==2)=true›)) ⟨rfl,_,Fx hj3⟩
      | exact ⟨congrArg AV.bool (C2 hl2 (.inl ⟨ho,rfl⟩)),_,rfl⟩
      | exact ⟨congrArg AV.bool (C2 hl2 (.inr ⟨ho,rfl⟩)),_,rfl⟩
      | exact Bf (Ge ‹(e.op==0)=false› (aU ‹(e.op==1)=false› ‹(e.op==2)=false›) ‹(e.op==5)=false› ‹(e.op==6)=false›) ⟨rfl,_,rfl⟩
    ·
     refine Ah (Qp A6 (Qp Bm (Ag (A3 (fun hc8=>?_) fun hc8=>?_))))
     ·
      refine AW.seq ?_
      have ho:=eq_of_beq ‹(e.op==6)=true›
      have hl2:=Fh hz.1 (by omega)
      have h00:0<e.args.length:=by omega
      have hsz:=Dl hl2
      have hs0:=Vp _ (hz.2 _ (Ba h00)) hb hs
      refine AW.region (Qp Ho (Qp Oy (Qp Ee ?_)))
      refine Qp (Af (c:=[Iq _,_,Iq _,Iq _,Iq _,Iq _,Iq _,.str _]) Ai rfl rfl rfl rfl rfl rfl (by decide) (I3 h00)) ?_
      refine Qp E7 (Qp A0 ?_)
      refine Qe (E5 (by kernel_rfl) rfl rfl (ih _ (Ba h00) (hz.2 _ (Ba h00)) n b hb s hs (by omega) v)) ?_
      rintro _ _ ⟨rfl,u0,rfl⟩
      refine Qp Bu (Qg [] Qw Ho (Qg [] Qw Oy (Qg [(96,_)] Qw Ee ?_)))
      refine AOL.Aaf (y:=.ptr _) _ [(97,_)] rfl (oE.all ⟨Ent.Aab _ _,trivial⟩) (fun hG=>Af (c:=[Iq _,_,Iq _,Iq _,Iq _,Iq _,Iq _,.str _]) Ai rfl rfl rfl rfl rfl rfl (by decide) (Kh hl2)) rfl ?_
      refine Qg [(98,_)] Qw E7 (Qg [] Qw A0 ?_)
      refine AOL.Aaf (y:=Iq _) _ [(100,_)] rfl (oE.all ⟨Ent.Aab _ _,trivial⟩) (fun hG=>V5 rfl rfl (by constructor <;> omega)) rfl ?_
      refine AOL.geX (F:=fun u=>Ng m bs u (Bh e b s).1 R) _ [(95,_),(99,_),(101,_)] rfl (oE.all ⟨Ent.Aab _ _,Ent.Aab _ _,Ent.Aab _ _,trivial⟩) (fun hG=>E5 (by kernel_rfl) rfl rfl (dQ hl2 (.inr ⟨ho,rfl⟩) hG (ih _ (Bw hl2) (hz.2 _ (Bw hl2)) (n+At (Ap e)) (0-b) (by omega) _ hs0 (by omega) u0))) (fun hG=>Zj hl2 (.inr ⟨ho,rfl⟩) hG) rfl fun u1=>?_
      refine Qp Gg (Qp Bm (Ag (AW.ret (A7 (Aj ?_)))))
      refine ⟨.inr rfl,[.bool _],.cons (.tmp _ _ rfl) <| .nil,_,.refl _,?_⟩
      first
       | exact absurd (‹(e.op==1)=true›.symm.trans ‹(e.op==1)=false›) (by decide)
       | exact absurd (‹(e.op==2)=true›.symm.trans ‹(e.op==2)=false›) (by decide)
       | exact Bf (Fe ‹(e.op==0)=true›) ⟨rfl,_,rfl⟩
       | exact Bf (B2 ‹(e.op==0)=false› (X5 ‹(e.op==1)=true›)) ⟨rfl,_,Fy hnew⟩
       | exact Bf (B2 ‹(e.op==0)=false› (X5 ‹(e.op==1)=true›)) ⟨rfl,_,Fx hj3⟩
       | exact Bf (B2 ‹(e.op==0)=false› (Zi ‹(e.op==2)=true›)) ⟨rfl,_,Fy hnew⟩
       | exact Bf (B2 ‹(e.op==0)=false› (Zi ‹(e.op==2)=true›)) ⟨rfl,_,Fx hj3⟩
       | exact ⟨congrArg AV.bool (C2 hl2 (.inl ⟨ho,rfl⟩)),_,rfl⟩
       | exact ⟨congrArg AV.bool (C2 hl2 (.inr ⟨ho,rfl⟩)),_,rfl⟩
       | exact Bf (Ge ‹(e.op==0)=false› (aU ‹(e.op==1)=false› ‹(e.op==2)=false›) ‹(e.op==5)=false› ‹(e.op==6)=false›) ⟨rfl,_,rfl⟩
     ·
      refine AW.skip (Bv (Ae (Ah (Qp Bm (Ag (AW.ret ?_))))))
      refine ⟨.inr rfl,[.bool _],.cons (.tmp _ _ rfl) <| .nil,_,.refl _,?_⟩
      first
       | exact absurd (‹(e.op==1)=true›.symm.trans ‹(e.op==1)=false›) (by decide)
       | exact absurd (‹(e.op==2)=true›.symm.trans ‹(e.op==2)=false›) (by decide)
       | exact Bf (Fe ‹(e.op==0)=true›) ⟨rfl,_,rfl⟩
       | exact Bf (B2 ‹(e.op==0)=false› (X5 ‹(e.op==1)=true›)) ⟨rfl,_,Fy hnew⟩
       | exact Bf (B2 ‹(e.op==0)=false› (X5 ‹(e.op==1)=true›)) ⟨rfl,_,Fx hj3⟩
       | exact Bf (B2 ‹(e.op==0)=false› (Zi ‹(e.op==2)=true›)) ⟨rfl,_,Fy hnew⟩
       | exact Bf (B2 ‹(e.op==0)=false› (Zi ‹(e.op==2)=true›)) ⟨rfl,_,Fx hj3⟩
       | exact ⟨congrArg AV.bool (C2 hl2 (.inl ⟨ho,rfl⟩)),_,rfl⟩
       | exact ⟨congrArg AV.bool (C2 hl2 (.inr ⟨ho,rfl⟩)),_,rfl⟩
       | exact Bf (Ge ‹(e.op==0)=false› (aU ‹(e.op==1)=false› ‹(e.op==2)=false›) ‹(e.op==5)=false› ‹(e.op==6)=false›) ⟨rfl,_,rfl⟩

end Go.Proofs.YtjedflcpjlgokaaGreatDoor
