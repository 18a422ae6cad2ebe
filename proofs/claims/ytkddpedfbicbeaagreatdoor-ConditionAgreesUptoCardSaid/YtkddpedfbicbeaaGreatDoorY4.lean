/-
  Walks of layer 11: sums. No condition.
-/
import Derived.Test.YtkddpedfbicbeaaGreatDoorAz
import Derived.Test.YtkddpedfbicbeaaGreatDoorK15
import Derived.Test.YtkddpedfbicbeaaGreatDoorY3
import Derived.KernelRfl
namespace Go.Proofs.YtkddpedfbicbeaaGreatDoor
open Go Go.Aw
set_option maxHeartbeats 3200000
set_option maxRecDepth 20000
set_option linter.unusedVariables false
set_option linter.unusedSimpArgs false

theorem d_add (m bs:Nat)(R:List HO)(e:Ex)(hn:C0 e=0)(n:Nat)(b:Int)(hb:b=1∨b = -1)(s:Su)(hs:suOK n s)(hm:n+Av e≤1048576)(v:Value):Dr Tryz.prog 157 (Oh m bs v s R) [.val (.pointer (some ⟨bs,0,none⟩)),.agg (cE e),.int .i64 b] (fun r H'=>r = .bool (Bb e b s).2∧∃v',H'=Oh m bs v' (Bb e b s).1 R):=by
 revert n b s v hn
 induction e using Ex.Aa0
 rename_i e ih
 intro hn n b hb s hs hm v
 have hz:=Ba hn
 have hsr:=hs.rest
 have hsl:=hs.len
 have hsp:1≤Av e:=by rw [Ef];omega
 refine Dr.body (n:=104) Ai Tryz.func157 rfl rfl rfl ?_
 refine Ah (Qp K3 (Qp Bc (Ag (AW.seq (Ah (Qp Kw (Qp Br (Ag (AW.block ?_)))))))))
 refine Ah (Qp A6 (Qp Bc (Ag (A2 (fun hc1=>?_) fun hc1=>?_))))
 ·
  refine AW.seq ?_
  have hcn:=To hz.1 (eq_of_beq ‹(e.op==0)=true›)
  have hmul:b*e.val.num=e.val.num∨b*e.val.num = - e.val.num:=by rcases hb with rfl | rfl <;> omega
  refine AW.draw mixed (fun H'=>_∈H') (List.mem_of_getElem? (i:=1) rfl) (by kernel_rfl) ?_
  refine Qn 0 rfl Hw ?_
  refine Qn 1 rfl (Bh rfl) ?_
  refine Qn 2 rfl Iu ?_
  refine Qn 3 rfl (OpP.Aax (fun k=>At (k:=k) (c:=Iq _) Ai rfl rfl rfl rfl) (fun _ h=>h)) ?_
  refine Qn 4 rfl Az (Qn 5 rfl J2 (Qn 6 rfl Ys (Qn 7 rfl Br ?_)))
  refine Qn 8 rfl (tU rfl rfl rfl (by constructor <;> omega)) ?_
  refine Qn 9 rfl Fu ?_
  refine Qn 10 rfl (Bh rfl) ?_
  refine Qn 11 rfl Iu ?_
  refine Js.last _ _ 12 _ _ rfl (by kernel_rfl) rfl rfl (C6 (k:=1) (v:=Iq _) (cs':=[_,_,Iq _]) (H2:=_::_::_::_) Ai rfl rfl rfl rfl (rfl) rfl rfl rfl rfl) (by kernel_rfl) ?_
  rintro _ _ ⟨rfl,rfl⟩
  refine Ae (Ah (Qp Bc (Ag (AW.ret (A9 (Al ?_))))))
  refine ⟨.inr rfl,[.bool _],.cons (.tmp _ _ rfl) <| .nil,_,.refl _,?_⟩
  first
   | exact absurd (‹(e.op==1)=true›.symm.trans ‹(e.op==1)=false›) (by decide)
   | exact absurd (‹(e.op==2)=true›.symm.trans ‹(e.op==2)=false›) (by decide)
   | exact Bi (Ei ‹(e.op==0)=true›) ⟨rfl,_,rfl⟩
   | exact Bi (B0 ‹(e.op==0)=false› (bB ‹(e.op==1)=true›)) ⟨rfl,_,Gd hnew⟩
   | exact Bi (B0 ‹(e.op==0)=false› (bB ‹(e.op==1)=true›)) ⟨rfl,_,Gf hj3⟩
   | exact Bi (B0 ‹(e.op==0)=false› (aT ‹(e.op==2)=true›)) ⟨rfl,_,Gd hnew⟩
   | exact Bi (B0 ‹(e.op==0)=false› (aT ‹(e.op==2)=true›)) ⟨rfl,_,Gf hj3⟩
   | exact ⟨congrArg AV.bool (De hl2 (.inl ⟨ho,rfl⟩)),_,rfl⟩
   | exact ⟨congrArg AV.bool (De hl2 (.inr ⟨ho,rfl⟩)),_,rfl⟩
   | exact Bi (E2 ‹(e.op==0)=false› (bT ‹(e.op==1)=false› ‹(e.op==2)=false›) ‹(e.op==5)=false› ‹(e.op==6)=false›) ⟨rfl,_,rfl⟩
 ·
  refine AW.seq (Ah (Qp A6 (Qp Bc (Ag (A2 (fun hc2=>?_) fun hc2=>?_)))))
  ·
   refine Bv (A2 (fun hc3=>?_) fun hc3=>?_)
   ·
    refine AW.seq ?_
    have hsc:∀c∈(s.ts.map fun p=>Hz p.1),Bf c=true:=Ff fun _=>rfl
    refine AW.region (Qp Kw (Qp Br (Qp Ym (Qp Br (Qp Qv (Qp Br (Qp (El [Iq _,Iq _,Iq _]) ?_)))))))
    refine Qe (Aj (l:=[.int .i64 0,.int .i64 0,.int .i64 0]) (by kernel_rfl)) ?_
    rintro _ _ ⟨b7,rfl,rfl⟩
    refine Cq 0 [Iq _,Iq _,Iq _] (_::_::_::_::_) ?_
    refine AOL.ghost (GS.Aat (t:=7) 0 rfl rfl) ?_
    refine Ag (AW.seq (AW.seq ?_))
    refine AW.draw mixed (fun H'=>_∈H'∧_∈H') ⟨(List.mem_of_getElem? (i:=1) rfl),(List.mem_of_getElem? (i:=2) rfl)⟩ (by kernel_rfl) ?_
    refine Qn 0 rfl Hw ?_
    refine Qn 1 rfl (Bh rfl) ?_
    refine Qn 2 rfl Iu ?_
    refine Qn 3 rfl (OpP.Aax (fun k=>At (k:=k) (c:=.val _) Ai rfl rfl rfl rfl) (fun _ h=>h.1)) ?_
    refine Qn 4 rfl (Cd [Iq _,Iq _,Iq _]) ?_
    refine Qn 5 rfl (OpP.Aax (fun k=>P5 (i:=k) (eq:=Hi (Dy e)) Ai rfl rfl rfl rfl rfl (by kernel_rfl) rfl rfl (rfl) (Ir (Dy e) s.ts) (Ow (Dy e) s.ts) (has_t (Dy e) s.ts)) (fun _ h=>h.2)) ?_
    refine Qn 6 rfl Lv (Qn 7 rfl Ih (Qn 8 rfl dK (Qn 9 rfl Ap (Qn 10 rfl Bc ?_))))
    refine Js.done _ _ (by kernel_rfl) ?_
    refine Ae (Ah (Qp Bm (Qp Ge (Ag (A2 (fun hc4=>?_) fun hc4=>?_)))))
    ·
     have hnew:Qy (Dy e) s.ts=false:=by simpa using hc4
     refine AW.draw mixed (fun H'=>_∈H') (List.mem_of_getElem? (i:=1) rfl) (by kernel_rfl) ?_
     refine Qn 0 rfl Hw (Qn 1 rfl Hw ?_)
     refine Qn 2 rfl (Bh rfl) ?_
     refine Qn 3 rfl Iu ?_
     refine Qn 4 rfl (OpP.Aax (fun k=>At (k:=k) (c:=.row _ _ _) Ai rfl rfl rfl rfl) (fun _ h=>h)) ?_
     refine Qn 5 rfl (Cd [Iq _,Iq _,Iq _]) ?_
     refine Qn 6 rfl (A0 (es:=[[Iq _,Iq _,Iq _]]) Ai rfl rfl rfl rfl rfl rfl rfl rfl rfl) ?_
     refine Js.eff _ _ 7 _ _ rfl (by kernel_rfl) rfl rfl (Dj (k:=0) Ai rfl rfl rfl rfl rfl rfl rfl rfl (G2 rfl) (hsc) (by simp;omega) (by simp [maxLen];omega)) (by rintro _ _ ⟨v54,rfl,rfl⟩;simp) ?_
     rintro _ _ ⟨v54,rfl,rfl⟩
     refine Qn 8 rfl (Bh rfl) ?_
     refine Qn 9 rfl Iu ?_
     refine Js.last _ _ 10 _ _ rfl (by kernel_rfl) rfl rfl (C6 (k:=1) (v:=.row _ _ _) (cs':=[_,_,Iq _]) (H2:=_::_::_::_) Ai rfl rfl rfl rfl (rfl) rfl rfl rfl rfl) (by kernel_rfl) ?_
     rintro _ _ ⟨rfl,rfl⟩
     refine Ae (AW.seq ?_)
     have hcf:=Wj hs (Dy e)
     have htt:=hnew
     refine AW.draw mixed (fun H'=>_∈H'∧(HO.kmap m (Gr s.ts)∈H'∨HO.kmap m (Gr s.ts ++ [([.int .i64 e.op,.int .i64 e.var,.int .i64 e.field],AV.int .i64 0)])∈H')) ⟨(List.mem_of_getElem? (i:=1) rfl),.inl (List.mem_of_getElem? (i:=2) rfl)⟩ (by kernel_rfl) ?_
     refine Qn 0 rfl Hw ?_
     refine Qn 1 rfl (Bh rfl) ?_
     refine Qn 2 rfl Iu ?_
     refine Qn 3 rfl (OpP.Aax (fun k=>At (k:=k) (c:=.val _) Ai rfl rfl rfl rfl) (fun _ h=>h.1)) ?_
     refine Qn 4 rfl (Cd [Iq _,Iq _,Iq _]) ?_
     refine Qn 5 rfl (nZ (fun k=>Jk (i:=k) (eq:=Hi (Dy e)) Ai rfl rfl rfl rfl rfl (by kernel_rfl) rfl rfl (rfl) (Ir (Dy e) s.ts) (Ow (Dy e) s.ts)) (fun k=>Jk (i:=k) (eq:=Hi (Dy e)) Ai rfl rfl rfl rfl rfl (by kernel_rfl) rfl rfl (rfl) (fL (Dy e) s.ts) (oW hnew)) (fun _ h=>h.2)) ?_
     refine Qn 6 rfl Az (Qn 7 rfl Fu ?_)
     refine Js.eff _ _ 8 _ _ rfl (by kernel_rfl) rfl rfl (Qq (i:=2) (eq:=Hi (Dy e)) Ai rfl rfl rfl rfl rfl rfl rfl (fun _ _ _ h=>h) rfl rfl rfl (Ir (Dy e) s.ts) rfl (fV hnew)) (by rintro _ _ ⟨rfl,rfl⟩;simp) ?_
     rintro _ _ ⟨rfl,rfl⟩
     refine Qn 9 rfl Ih ?_
     refine Js.last _ _ 10 _ _ rfl (by kernel_rfl) rfl rfl (Kx (i:=2) (j:=(Gr s.ts).length) (H2:=_::_::_::_) rfl rfl rfl rfl (eR (t:=Dy e)) rfl) (by kernel_rfl) ?_
     rintro _ _ ⟨rfl,rfl⟩
     refine Ae (Ah (Qp Bc (Ag (AW.ret (A9 (Al ?_))))))
     refine ⟨.inr rfl,[.bool _],.cons (.tmp _ _ rfl) <| .nil,_,.refl _,?_⟩
     first
      | exact absurd (‹(e.op==1)=true›.symm.trans ‹(e.op==1)=false›) (by decide)
      | exact absurd (‹(e.op==2)=true›.symm.trans ‹(e.op==2)=false›) (by decide)
      | exact Bi (Ei ‹(e.op==0)=true›) ⟨rfl,_,rfl⟩
      | exact Bi (B0 ‹(e.op==0)=false› (bB ‹(e.op==1)=true›)) ⟨rfl,_,Gd hnew⟩
      | exact Bi (B0 ‹(e.op==0)=false› (bB ‹(e.op==1)=true›)) ⟨rfl,_,Gf hj3⟩
      | exact Bi (B0 ‹(e.op==0)=false› (aT ‹(e.op==2)=true›)) ⟨rfl,_,Gd hnew⟩
      | exact Bi (B0 ‹(e.op==0)=false› (aT ‹(e.op==2)=true›)) ⟨rfl,_,Gf hj3⟩
      | exact ⟨congrArg AV.bool (De hl2 (.inl ⟨ho,rfl⟩)),_,rfl⟩
      | exact ⟨congrArg AV.bool (De hl2 (.inr ⟨ho,rfl⟩)),_,rfl⟩
      | exact Bi (E2 ‹(e.op==0)=false› (bT ‹(e.op==1)=false› ‹(e.op==2)=false›) ‹(e.op==5)=false› ‹(e.op==6)=false›) ⟨rfl,_,rfl⟩
    ·
     refine Bv (AW.seq ?_)
     have hcf:=Wj hs (Dy e)
     refine (cW (b:=b) (by simpa using hc4:Qy (Dy e) s.ts=true)).elim fun j hj=>?_
     have hj1:=hj.1
     have hj2:=hj.2.1
     have hj3:=hj.2.2
     refine AW.draw mixed (fun H'=>_∈H'∧_∈H') ⟨(List.mem_of_getElem? (i:=1) rfl),(List.mem_of_getElem? (i:=2) rfl)⟩ (by kernel_rfl) ?_
     refine Qn 0 rfl Hw ?_
     refine Qn 1 rfl (Bh rfl) ?_
     refine Qn 2 rfl Iu ?_
     refine Qn 3 rfl (OpP.Aax (fun k=>At (k:=k) (c:=.val _) Ai rfl rfl rfl rfl) (fun _ h=>h.1)) ?_
     refine Qn 4 rfl (Cd [Iq _,Iq _,Iq _]) ?_
     refine Qn 5 rfl (OpP.Aax (fun k=>Jk (i:=k) (eq:=Hi (Dy e)) Ai rfl rfl rfl rfl rfl (by kernel_rfl) rfl rfl (rfl) (Ir (Dy e) s.ts) (Ow (Dy e) s.ts)) (fun _ h=>h.2)) ?_
     refine Qn 6 rfl Az (Qn 7 rfl Fu ?_)
     refine Js.eff _ _ 8 _ _ rfl (by kernel_rfl) rfl rfl (Wv (i:=2) (eq:=Hi (Dy e)) Ai rfl rfl rfl rfl rfl rfl rfl (Ir (Dy e) s.ts) rfl (by rw [lD];exact hj1) (Vw hj2) rfl) (by rintro _ _ ⟨rfl,rfl⟩;simp) ?_
     rintro _ _ ⟨rfl,rfl⟩
     refine Qn 9 rfl Ih ?_
     refine Js.last _ _ 10 _ _ rfl (by kernel_rfl) rfl rfl (Kx (i:=2) (j:=j) (H2:=_::_::_::_) rfl rfl rfl rfl (Vw hj2) rfl) (by kernel_rfl) ?_
     rintro _ _ ⟨rfl,rfl⟩
     refine Ae (Ah (Qp Bc (Ag (AW.ret (A9 (Al ?_))))))
     refine ⟨.inr rfl,[.bool _],.cons (.tmp _ _ rfl) <| .nil,_,.refl _,?_⟩
     first
      | exact absurd (‹(e.op==1)=true›.symm.trans ‹(e.op==1)=false›) (by decide)
      | exact absurd (‹(e.op==2)=true›.symm.trans ‹(e.op==2)=false›) (by decide)
      | exact Bi (Ei ‹(e.op==0)=true›) ⟨rfl,_,rfl⟩
      | exact Bi (B0 ‹(e.op==0)=false› (bB ‹(e.op==1)=true›)) ⟨rfl,_,Gd hnew⟩
      | exact Bi (B0 ‹(e.op==0)=false› (bB ‹(e.op==1)=true›)) ⟨rfl,_,Gf hj3⟩
      | exact Bi (B0 ‹(e.op==0)=false› (aT ‹(e.op==2)=true›)) ⟨rfl,_,Gd hnew⟩
      | exact Bi (B0 ‹(e.op==0)=false› (aT ‹(e.op==2)=true›)) ⟨rfl,_,Gf hj3⟩
      | exact ⟨congrArg AV.bool (De hl2 (.inl ⟨ho,rfl⟩)),_,rfl⟩
      | exact ⟨congrArg AV.bool (De hl2 (.inr ⟨ho,rfl⟩)),_,rfl⟩
      | exact Bi (E2 ‹(e.op==0)=false› (bT ‹(e.op==1)=false› ‹(e.op==2)=false›) ‹(e.op==5)=false› ‹(e.op==6)=false›) ⟨rfl,_,rfl⟩
   ·
    exact absurd (hc3.symm.trans hc2) (by decide)
  ·
   refine AW.region (Qp A6 (Qp Bc (Ag (A2 (fun hc5=>?_) fun hc5=>?_))))
   ·
    refine AW.seq ?_
    have hsc:∀c∈(s.ts.map fun p=>Hz p.1),Bf c=true:=Ff fun _=>rfl
    refine AW.region (Qp Kw (Qp Br (Qp Ym (Qp Br (Qp Qv (Qp Br (Qp (El [Iq _,Iq _,Iq _]) ?_)))))))
    refine Qe (Aj (l:=[.int .i64 0,.int .i64 0,.int .i64 0]) (by kernel_rfl)) ?_
    rintro _ _ ⟨b7,rfl,rfl⟩
    refine Cq 0 [Iq _,Iq _,Iq _] (_::_::_::_::_) ?_
    refine AOL.ghost (GS.Aat (t:=7) 0 rfl rfl) ?_
    refine Ag (AW.seq (AW.seq ?_))
    refine AW.draw mixed (fun H'=>_∈H'∧_∈H') ⟨(List.mem_of_getElem? (i:=1) rfl),(List.mem_of_getElem? (i:=2) rfl)⟩ (by kernel_rfl) ?_
    refine Qn 0 rfl Hw ?_
    refine Qn 1 rfl (Bh rfl) ?_
    refine Qn 2 rfl Iu ?_
    refine Qn 3 rfl (OpP.Aax (fun k=>At (k:=k) (c:=.val _) Ai rfl rfl rfl rfl) (fun _ h=>h.1)) ?_
    refine Qn 4 rfl (Cd [Iq _,Iq _,Iq _]) ?_
    refine Qn 5 rfl (OpP.Aax (fun k=>P5 (i:=k) (eq:=Hi (Dy e)) Ai rfl rfl rfl rfl rfl (by kernel_rfl) rfl rfl (rfl) (Ir (Dy e) s.ts) (Ow (Dy e) s.ts) (has_t (Dy e) s.ts)) (fun _ h=>h.2)) ?_
    refine Qn 6 rfl Lv (Qn 7 rfl Ih (Qn 8 rfl dK (Qn 9 rfl Ap (Qn 10 rfl Bc ?_))))
    refine Js.done _ _ (by kernel_rfl) ?_
    refine Ae (Ah (Qp Bm (Qp Ge (Ag (A2 (fun hc6=>?_) fun hc6=>?_)))))
    ·
     have hnew:Qy (Dy e) s.ts=false:=by simpa using hc6
     refine AW.draw mixed (fun H'=>_∈H') (List.mem_of_getElem? (i:=1) rfl) (by kernel_rfl) ?_
     refine Qn 0 rfl Hw (Qn 1 rfl Hw ?_)
     refine Qn 2 rfl (Bh rfl) ?_
     refine Qn 3 rfl Iu ?_
     refine Qn 4 rfl (OpP.Aax (fun k=>At (k:=k) (c:=.row _ _ _) Ai rfl rfl rfl rfl) (fun _ h=>h)) ?_
     refine Qn 5 rfl (Cd [Iq _,Iq _,Iq _]) ?_
     refine Qn 6 rfl (A0 (es:=[[Iq _,Iq _,Iq _]]) Ai rfl rfl rfl rfl rfl rfl rfl rfl rfl) ?_
     refine Js.eff _ _ 7 _ _ rfl (by kernel_rfl) rfl rfl (Dj (k:=0) Ai rfl rfl rfl rfl rfl rfl rfl rfl (G2 rfl) (hsc) (by simp;omega) (by simp [maxLen];omega)) (by rintro _ _ ⟨v54,rfl,rfl⟩;simp) ?_
     rintro _ _ ⟨v54,rfl,rfl⟩
     refine Qn 8 rfl (Bh rfl) ?_
     refine Qn 9 rfl Iu ?_
     refine Js.last _ _ 10 _ _ rfl (by kernel_rfl) rfl rfl (C6 (k:=1) (v:=.row _ _ _) (cs':=[_,_,Iq _]) (H2:=_::_::_::_) Ai rfl rfl rfl rfl (rfl) rfl rfl rfl rfl) (by kernel_rfl) ?_
     rintro _ _ ⟨rfl,rfl⟩
     refine Ae (AW.seq ?_)
     have hcf:=Wj hs (Dy e)
     have htt:=hnew
     refine AW.draw mixed (fun H'=>_∈H'∧(HO.kmap m (Gr s.ts)∈H'∨HO.kmap m (Gr s.ts ++ [([.int .i64 e.op,.int .i64 e.var,.int .i64 e.field],AV.int .i64 0)])∈H')) ⟨(List.mem_of_getElem? (i:=1) rfl),.inl (List.mem_of_getElem? (i:=2) rfl)⟩ (by kernel_rfl) ?_
     refine Qn 0 rfl Hw ?_
     refine Qn 1 rfl (Bh rfl) ?_
     refine Qn 2 rfl Iu ?_
     refine Qn 3 rfl (OpP.Aax (fun k=>At (k:=k) (c:=.val _) Ai rfl rfl rfl rfl) (fun _ h=>h.1)) ?_
     refine Qn 4 rfl (Cd [Iq _,Iq _,Iq _]) ?_
     refine Qn 5 rfl (nZ (fun k=>Jk (i:=k) (eq:=Hi (Dy e)) Ai rfl rfl rfl rfl rfl (by kernel_rfl) rfl rfl (rfl) (Ir (Dy e) s.ts) (Ow (Dy e) s.ts)) (fun k=>Jk (i:=k) (eq:=Hi (Dy e)) Ai rfl rfl rfl rfl rfl (by kernel_rfl) rfl rfl (rfl) (fL (Dy e) s.ts) (oW hnew)) (fun _ h=>h.2)) ?_
     refine Qn 6 rfl Az (Qn 7 rfl Fu ?_)
     refine Js.eff _ _ 8 _ _ rfl (by kernel_rfl) rfl rfl (Qq (i:=2) (eq:=Hi (Dy e)) Ai rfl rfl rfl rfl rfl rfl rfl (fun _ _ _ h=>h) rfl rfl rfl (Ir (Dy e) s.ts) rfl (fV hnew)) (by rintro _ _ ⟨rfl,rfl⟩;simp) ?_
     rintro _ _ ⟨rfl,rfl⟩
     refine Qn 9 rfl Ih ?_
     refine Js.last _ _ 10 _ _ rfl (by kernel_rfl) rfl rfl (Kx (i:=2) (j:=(Gr s.ts).length) (H2:=_::_::_::_) rfl rfl rfl rfl (eR (t:=Dy e)) rfl) (by kernel_rfl) ?_
     rintro _ _ ⟨rfl,rfl⟩
     refine Ae (Ah (Qp Bc (Ag (AW.ret (A9 (Al ?_))))))
     refine ⟨.inr rfl,[.bool _],.cons (.tmp _ _ rfl) <| .nil,_,.refl _,?_⟩
     first
      | exact absurd (‹(e.op==1)=true›.symm.trans ‹(e.op==1)=false›) (by decide)
      | exact absurd (‹(e.op==2)=true›.symm.trans ‹(e.op==2)=false›) (by decide)
      | exact Bi (Ei ‹(e.op==0)=true›) ⟨rfl,_,rfl⟩
      | exact Bi (B0 ‹(e.op==0)=false› (bB ‹(e.op==1)=true›)) ⟨rfl,_,Gd hnew⟩
      | exact Bi (B0 ‹(e.op==0)=false› (bB ‹(e.op==1)=true›)) ⟨rfl,_,Gf hj3⟩
      | exact Bi (B0 ‹(e.op==0)=false› (aT ‹(e.op==2)=true›)) ⟨rfl,_,Gd hnew⟩
      | exact Bi (B0 ‹(e.op==0)=false› (aT ‹(e.op==2)=true›)) ⟨rfl,_,Gf hj3⟩
      | exact ⟨congrArg AV.bool (De hl2 (.inl ⟨ho,rfl⟩)),_,rfl⟩
      | exact ⟨congrArg AV.bool (De hl2 (.inr ⟨ho,rfl⟩)),_,rfl⟩
      | exact Bi (E2 ‹(e.op==0)=false› (bT ‹(e.op==1)=false› ‹(e.op==2)=false›) ‹(e.op==5)=false› ‹(e.op==6)=false›) ⟨rfl,_,rfl⟩
    ·
     refine Bv (AW.seq ?_)
     have hcf:=Wj hs (Dy e)
     refine (cW (b:=b) (by simpa using hc6:Qy (Dy e) s.ts=true)).elim fun j hj=>?_
     have hj1:=hj.1
     have hj2:=hj.2.1
     have hj3:=hj.2.2
     refine AW.draw mixed (fun H'=>_∈H'∧_∈H') ⟨(List.mem_of_getElem? (i:=1) rfl),(List.mem_of_getElem? (i:=2) rfl)⟩ (by kernel_rfl) ?_
     refine Qn 0 rfl Hw ?_
     refine Qn 1 rfl (Bh rfl) ?_
     refine Qn 2 rfl Iu ?_
     refine Qn 3 rfl (OpP.Aax (fun k=>At (k:=k) (c:=.val _) Ai rfl rfl rfl rfl) (fun _ h=>h.1)) ?_
     refine Qn 4 rfl (Cd [Iq _,Iq _,Iq _]) ?_
     refine Qn 5 rfl (OpP.Aax (fun k=>Jk (i:=k) (eq:=Hi (Dy e)) Ai rfl rfl rfl rfl rfl (by kernel_rfl) rfl rfl (rfl) (Ir (Dy e) s.ts) (Ow (Dy e) s.ts)) (fun _ h=>h.2)) ?_
     refine Qn 6 rfl Az (Qn 7 rfl Fu ?_)
     refine Js.eff _ _ 8 _ _ rfl (by kernel_rfl) rfl rfl (Wv (i:=2) (eq:=Hi (Dy e)) Ai rfl rfl rfl rfl rfl rfl rfl (Ir (Dy e) s.ts) rfl (by rw [lD];exact hj1) (Vw hj2) rfl) (by rintro _ _ ⟨rfl,rfl⟩;simp) ?_
     rintro _ _ ⟨rfl,rfl⟩
     refine Qn 9 rfl Ih ?_
     refine Js.last _ _ 10 _ _ rfl (by kernel_rfl) rfl rfl (Kx (i:=2) (j:=j) (H2:=_::_::_::_) rfl rfl rfl rfl (Vw hj2) rfl) (by kernel_rfl) ?_
     rintro _ _ ⟨rfl,rfl⟩
     refine Ae (Ah (Qp Bc (Ag (AW.ret (A9 (Al ?_))))))
     refine ⟨.inr rfl,[.bool _],.cons (.tmp _ _ rfl) <| .nil,_,.refl _,?_⟩
     first
      | exact absurd (‹(e.op==1)=true›.symm.trans ‹(e.op==1)=false›) (by decide)
      | exact absurd (‹(e.op==2)=true›.symm.trans ‹(e.op==2)=false›) (by decide)
      | exact Bi (Ei ‹(e.op==0)=true›) ⟨rfl,_,rfl⟩
      | exact Bi (B0 ‹(e.op==0)=false› (bB ‹(e.op==1)=true›)) ⟨rfl,_,Gd hnew⟩
      | exact Bi (B0 ‹(e.op==0)=false› (bB ‹(e.op==1)=true›)) ⟨rfl,_,Gf hj3⟩
      | exact Bi (B0 ‹(e.op==0)=false› (aT ‹(e.op==2)=true›)) ⟨rfl,_,Gd hnew⟩
      | exact Bi (B0 ‹(e.op==0)=false› (aT ‹(e.op==2)=true›)) ⟨rfl,_,Gf hj3⟩
      | exact ⟨congrArg AV.bool (De hl2 (.inl ⟨ho,rfl⟩)),_,rfl⟩
      | exact ⟨congrArg AV.bool (De hl2 (.inr ⟨ho,rfl⟩)),_,rfl⟩
      | exact Bi (E2 ‹(e.op==0)=false› (bT ‹(e.op==1)=false› ‹(e.op==2)=false›) ‹(e.op==5)=false› ‹(e.op==6)=false›) ⟨rfl,_,rfl⟩
   ·
    refine Ah (Qp A6 (Qp Bc (Ag (A2 (fun hc7=>?_) fun hc7=>?_))))
    ·
     refine AW.seq ?_
     have ho:=eq_of_beq ‹(e.op==5)=true›
     have hl2:=E1 hz.1 (by omega)
     have h00:0<e.args.length:=by omega
     have hsz:=Dd hl2
     have hs0:=Yp _ (hz.2 _ (A4 h00)) hb hs
     refine AW.region (Qp Hw (Qp Mr (Qp Dg ?_)))
     refine Qp (Af (c:=[Iq _,_,Iq _,Iq _,Iq _,Iq _,Iq _,.str _]) Ai rfl rfl rfl rfl rfl rfl (by decide) (Id h00)) ?_
     refine Qp Dh (Qp Az ?_)
     refine Qe (Fp (by kernel_rfl) rfl rfl (ih _ (A4 h00) (hz.2 _ (A4 h00)) n b hb s hs (by omega) v)) ?_
     rintro _ _ ⟨rfl,u0,rfl⟩
     refine Qp Bm (Qg [] Qw Hw (Qg [] Qw Mr (Qg [(78,_)] Qw Dg ?_)))
     refine AOL.Aav (y:=.ptr _) _ [(79,_)] rfl (sB.all ⟨tO.self _ _,trivial⟩) (fun hG=>Af (c:=[Iq _,_,Iq _,Iq _,Iq _,Iq _,Iq _,.str _]) Ai rfl rfl rfl rfl rfl rfl (by decide) (Ky hl2)) rfl ?_
     refine Qg [(80,_)] Qw Dh (Qg [] Qw Az ?_)
     refine AOL.geX (F:=fun u=>Oh m bs u (Bb e b s).1 R) _ [(77,_),(81,_),(82,_)] rfl (sB.all ⟨tO.self _ _,tO.self _ _,tO.self _ _,trivial⟩) (fun hG=>Fp (by kernel_rfl) rfl rfl (gF hl2 (.inl ⟨ho,rfl⟩) hG (ih _ (Bn hl2) (hz.2 _ (Bn hl2)) (n+Av (Ao e)) b hb _ hs0 (by omega) u0))) (fun hG=>Zu hl2 (.inl ⟨ho,rfl⟩) hG) rfl fun u1=>?_
     refine Qp Em (Qp Bc (Ag (AW.ret (A9 (Al ?_)))))
     refine ⟨.inr rfl,[.bool _],.cons (.tmp _ _ rfl) <| .nil,_,.refl _,?_⟩
     first
      | exact absurd (‹(e.op==1)=true›.symm.trans ‹(e.op==1)=false›) (by decide)
      | exact absurd (‹(e.op==2)=true›.symm.trans ‹(e.op==2)=false›) (by decide)
      | exact Bi (Ei ‹(e.op==0)=true›) ⟨rfl,_,rfl⟩
      | exact Bi (B0 ‹(e.op==0)=false› (bB ‹(e.op==1)=true›)) ⟨rfl,_,Gd hnew⟩
      | exact Bi (B0 ‹(e.op==0)=false› (bB ‹(e.op==1)=true›)) ⟨rfl,_,Gf hj3⟩
      | exact Bi (B0 ‹(e.op==0)=false› (aT ‹(e.op==2)=true›)) ⟨rfl,_,Gd hnew⟩
      | exact Bi (B0 ‹(e.op==0)=false› (aT ‹(e.op==2)=true›)) ⟨rfl,_,Gf hj3⟩
      | exact ⟨congrArg AV.bool (De hl2 (.inl ⟨ho,rfl⟩)),_,rfl⟩
      | exact ⟨congrArg AV.bool (De hl2 (.inr ⟨ho,rfl⟩)),_,rfl⟩
      | exact Bi (E2 ‹(e.op==0)=false› (bT ‹(e.op==1)=false› ‹(e.op==2)=false›) ‹(e.op==5)=false› ‹(e.op==6)=false›) ⟨rfl,_,rfl⟩
    ·
     refine Ah (Qp A6 (Qp Bc (Ag (A2 (fun hc8=>?_) fun hc8=>?_))))
     ·
      refine AW.seq ?_
      have ho:=eq_of_beq ‹(e.op==6)=true›
      have hl2:=E1 hz.1 (by omega)
      have h00:0<e.args.length:=by omega
      have hsz:=Dd hl2
      have hs0:=Yp _ (hz.2 _ (A4 h00)) hb hs
      refine AW.region (Qp Hw (Qp Mr (Qp Dg ?_)))
      refine Qp (Af (c:=[Iq _,_,Iq _,Iq _,Iq _,Iq _,Iq _,.str _]) Ai rfl rfl rfl rfl rfl rfl (by decide) (Id h00)) ?_
      refine Qp Dh (Qp Az ?_)
      refine Qe (Fp (by kernel_rfl) rfl rfl (ih _ (A4 h00) (hz.2 _ (A4 h00)) n b hb s hs (by omega) v)) ?_
      rintro _ _ ⟨rfl,u0,rfl⟩
      refine Qp Bm (Qg [] Qw Hw (Qg [] Qw Mr (Qg [(96,_)] Qw Dg ?_)))
      refine AOL.Aav (y:=.ptr _) _ [(97,_)] rfl (sB.all ⟨tO.self _ _,trivial⟩) (fun hG=>Af (c:=[Iq _,_,Iq _,Iq _,Iq _,Iq _,Iq _,.str _]) Ai rfl rfl rfl rfl rfl rfl (by decide) (Ky hl2)) rfl ?_
      refine Qg [(98,_)] Qw Dh (Qg [] Qw Az ?_)
      refine AOL.Aav (y:=Iq _) _ [(100,_)] rfl (sB.all ⟨tO.self _ _,trivial⟩) (fun hG=>Yg rfl rfl (by constructor <;> omega)) rfl ?_
      refine AOL.geX (F:=fun u=>Oh m bs u (Bb e b s).1 R) _ [(95,_),(99,_),(101,_)] rfl (sB.all ⟨tO.self _ _,tO.self _ _,tO.self _ _,trivial⟩) (fun hG=>Fp (by kernel_rfl) rfl rfl (gF hl2 (.inr ⟨ho,rfl⟩) hG (ih _ (Bn hl2) (hz.2 _ (Bn hl2)) (n+Av (Ao e)) (0-b) (by omega) _ hs0 (by omega) u0))) (fun hG=>Zu hl2 (.inr ⟨ho,rfl⟩) hG) rfl fun u1=>?_
      refine Qp Em (Qp Bc (Ag (AW.ret (A9 (Al ?_)))))
      refine ⟨.inr rfl,[.bool _],.cons (.tmp _ _ rfl) <| .nil,_,.refl _,?_⟩
      first
       | exact absurd (‹(e.op==1)=true›.symm.trans ‹(e.op==1)=false›) (by decide)
       | exact absurd (‹(e.op==2)=true›.symm.trans ‹(e.op==2)=false›) (by decide)
       | exact Bi (Ei ‹(e.op==0)=true›) ⟨rfl,_,rfl⟩
       | exact Bi (B0 ‹(e.op==0)=false› (bB ‹(e.op==1)=true›)) ⟨rfl,_,Gd hnew⟩
       | exact Bi (B0 ‹(e.op==0)=false› (bB ‹(e.op==1)=true›)) ⟨rfl,_,Gf hj3⟩
       | exact Bi (B0 ‹(e.op==0)=false› (aT ‹(e.op==2)=true›)) ⟨rfl,_,Gd hnew⟩
       | exact Bi (B0 ‹(e.op==0)=false› (aT ‹(e.op==2)=true›)) ⟨rfl,_,Gf hj3⟩
       | exact ⟨congrArg AV.bool (De hl2 (.inl ⟨ho,rfl⟩)),_,rfl⟩
       | exact ⟨congrArg AV.bool (De hl2 (.inr ⟨ho,rfl⟩)),_,rfl⟩
       | exact Bi (E2 ‹(e.op==0)=false› (bT ‹(e.op==1)=false› ‹(e.op==2)=false›) ‹(e.op==5)=false› ‹(e.op==6)=false›) ⟨rfl,_,rfl⟩
     ·
      refine AW.skip (Bp (Ae (Ah (Qp Bc (Ag (AW.ret ?_))))))
      refine ⟨.inr rfl,[.bool _],.cons (.tmp _ _ rfl) <| .nil,_,.refl _,?_⟩
      first
       | exact absurd (‹(e.op==1)=true›.symm.trans ‹(e.op==1)=false›) (by decide)
       | exact absurd (‹(e.op==2)=true›.symm.trans ‹(e.op==2)=false›) (by decide)
       | exact Bi (Ei ‹(e.op==0)=true›) ⟨rfl,_,rfl⟩
       | exact Bi (B0 ‹(e.op==0)=false› (bB ‹(e.op==1)=true›)) ⟨rfl,_,Gd hnew⟩
       | exact Bi (B0 ‹(e.op==0)=false› (bB ‹(e.op==1)=true›)) ⟨rfl,_,Gf hj3⟩
       | exact Bi (B0 ‹(e.op==0)=false› (aT ‹(e.op==2)=true›)) ⟨rfl,_,Gd hnew⟩
       | exact Bi (B0 ‹(e.op==0)=false› (aT ‹(e.op==2)=true›)) ⟨rfl,_,Gf hj3⟩
       | exact ⟨congrArg AV.bool (De hl2 (.inl ⟨ho,rfl⟩)),_,rfl⟩
       | exact ⟨congrArg AV.bool (De hl2 (.inr ⟨ho,rfl⟩)),_,rfl⟩
       | exact Bi (E2 ‹(e.op==0)=false› (bT ‹(e.op==1)=false› ‹(e.op==2)=false›) ‹(e.op==5)=false› ‹(e.op==6)=false›) ⟨rfl,_,rfl⟩

end Go.Proofs.YtkddpedfbicbeaaGreatDoor
