/-
  Several texts in one: Y5, Y5b, Y5c, Y5d, Y6. No condition.
-/
import Derived.Test.YtkddpedfbicbeaaGreatDoorAz
import Derived.Test.YtkddpedfbicbeaaGreatDoorK15
import Derived.Test.YtkddpedfbicbeaaGreatDoorY4
import Derived.KernelRfl
set_option linter.unusedVariables false
set_option linter.unusedSimpArgs false
namespace Go.Proofs.YtkddpedfbicbeaaGreatDoor
open Go Go.Aw
set_option maxHeartbeats 3200000
set_option maxRecDepth 20000

theorem aI (a b:Ex)(hna:C1 a=0)(hnb:C1 b=0)(hs:Ar a+Ar b≤1048576):Av Tryz.prog 137 [.agg (cE a),.agg (cE b)] (.tuple [.agg (cGp (Ch a b).1),.bool (Ch a b).2]):=by
 have hok:=aV hna hnb
 have hnd:=dM hna hnb
 have htl:=hok.len
 refine Av.body (n:=75) Ai Tryz.func137 rfl rfl rfl fun H=>?_
 refine Ah (Qp K8 (Qp K8 ?_))
 refine Qe (Al (l:=[.sl 3 [],.sl 3 [],.int .i64 0]) (by kernel_rfl)) ?_
 rintro _ _ ⟨b4,rfl,rfl⟩
 refine Qp Be (Df ?_)
 refine Qe (Mz) ?_
 rintro _ _ ⟨b10,rfl,rfl⟩
 refine Qp (O7 (l0:=[.val (.map none),.val (.slice none 0 0),.int .i64 0]) (l:=[_,_,_]) Ai rfl rfl (by kernel_rfl) rfl) ?_
 refine Qe (U7 (v:=.agg _) (cs:=[_,_,Iq _]) rfl rfl (rfl)) ?_
 rintro _ _ ⟨b12,rfl,rfl⟩
 refine Qp N8 ?_
 refine AOL.ghost (GS.cellRow 0 1 143 3 rfl rfl rfl rfl) ?_
 refine Ag (AW.seq (Ah (Qp H0 (Qp D0 ?_))))
 refine Qe (Fo (by kernel_rfl) rfl rfl (d_add b10 b12 _ a hna 0 1 (.inl rfl) Kr kH (by omega) _)) ?_
 rintro _ _ ⟨rfl,u0,rfl⟩
 refine Qp Ge (Qp Bp (Qg [] Qw H0 (Qg [] Qw D0 ?_)))
 refine AOL.geX (F:=fun u=>N4 b10 b12 u (C8 a b) (.box b4 178 [.sl 3 [],.sl 3 [],.int .i64 0]::H)) _ [(18,_),(19,_)] rfl (rX.all ⟨Ent.Aac _ _,Ent.Aac _ _,trivial⟩) (fun hG=>Fo (by kernel_rfl) rfl rfl (xA hG (d_add b10 b12 _ b hnb (0+Ar a) (-1) (.inr rfl) _ (Xf a hna (.inl rfl) kH) (by omega) u0))) (fun hG=>btw_f (m:=b10) (bs:=b12) (v:=u0) (b:=b) (R:=(.box b4 178 [.sl 3 [],.sl 3 [],.int .i64 0]::H)) hG) rfl fun u1=>?_
 refine Qg [(20,_)] Qw Ge (Qp E2 (Ag (A3 (fun hc1=>?_) fun hc1=>?_)))
 ·
  refine Ah (Qp (Ep [_,_,Iq _]) ?_)
  refine Cm 3 [_,_,Iq _] (_::_::_::_::_) ?_
  refine Qp Be (Ag (Dr ?_))
  refine ⟨.inr rfl,[.agg [_,_,Iq _],.bool _],.cons (.box _ _ _ 3 _ _ _ _ rfl rfl rfl rfl rfl rfl) <| .cons (.tmp _ _ rfl) <| .nil,.cons _ (.cons _ (.cons _ (.cons _ (.refl _)))),?_⟩
  exact Eq.trans rfl (congrArg (fun q:Gp×Bool=>AV.tuple [.agg (cGp q.1),.bool q.2]) (btw_no hc1)).symm
 ·
  refine Bx (Ah (Qp H0 ?_))
  refine Qp (Bl rfl) ?_
  refine Qp Ir ?_
  refine AOL.Aai (Ax (k:=1) (c:=Iq _) Ai rfl rfl rfl rfl) rfl rfl ?_
  refine Qp (O7 (l0:=[.val (.slice none 0 0),.val (.slice none 0 0),.int .i64 0]) (l:=[_,_,_]) Ai rfl rfl (by kernel_rfl) rfl) ?_
  refine Qe (Al (l:=[.sl 3 [],.sl 3 [],.int .i64 0]) (by kernel_rfl)) ?_
  rintro _ _ ⟨b7,rfl,rfl⟩
  refine Cm 0 [_,_,Iq _] (_::_::_::_::_::_) ?_
  refine AOL.ghost (GS.cellRow 0 0 143 3 rfl rfl rfl rfl) ?_
  refine AOL.ghost (GS.cellRow 1 1 143 3 rfl rfl rfl rfl) ?_
  refine Ag (AW.seq (Ah (Qp H0 ?_)))
  refine Qp (Bl rfl) ?_
  refine Qp Ir ?_
  refine AOL.Aai (Ax (k:=4) (c:=.row _ _ _) Ai rfl rfl rfl rfl) rfl rfl ?_
  refine Qp (Md (n:=(C8 a b).ts.length) Ai rfl rfl rfl (by simp)) ?_
  refine Qp A0 (Ag (AW.block ?_))
  refine AW.Aae (fun (p:Nat×List Tm×List Tm×Value×Value×List (List AV)×List (List AV))=>(⟨[(2,.ptr (cE a)),(3,.ptr (cE b)),(4,.val (.pointer (some ⟨b4,0,none⟩))),(5,.bool false),(6,.val (.pointer (some ⟨b12,0,none⟩))),(7,.val (.pointer (some ⟨b7,0,none⟩))),(32,.row u1 3 ((C8 a b).ts.map fun p=>H9 p.1)),(33,.int .i64 (C8 a b).ts.length),(34,.int .i64 (p.1:Int))],.row p.2.2.2.2.1 p.2.2.2.2.2.2.length 143 3 :: .row p.2.2.2.1 p.2.2.2.2.2.1.length 143 3 :: .box b7 178 [.row p.2.2.2.1 3 p.2.2.2.2.2.1,.row p.2.2.2.2.1 3 p.2.2.2.2.2.2,.int .i64 (C8 a b).rest]::N4 b10 b12 u1 (C8 a b) (.box b4 178 [.sl 3 [],.sl 3 [],.int .i64 0]::H),75⟩:St)) (fun (p:Nat×List Tm×List Tm×Value×Value×List (List AV)×List (List AV))=>p.1≤(C8 a b).ts.length∧Dt (C8 a b).ts [] []=Dt ((C8 a b).ts.drop p.1) p.2.1 p.2.2.1∧p.2.1.length≤p.1∧p.2.2.1.length≤p.1∧p.2.2.2.2.2.1=p.2.1.map H9∧p.2.2.2.2.2.2=p.2.2.1.map H9) (fun (p:Nat×List Tm×List Tm×Value×Value×List (List AV)×List (List AV))=>(C8 a b).ts.length-p.1) ((0,[],[],.slice none 0 0,.slice none 0 0,[],[])) ?_ (GS.weaken ⟨rfl,rfl,rfl,rfl,rfl,rfl,rfl,rfl,rfl,trivial⟩ (.refl _)) ?_
  · exact ⟨Nat.zero_le _,rfl,Nat.le_refl _,Nat.le_refl _,rfl,rfl⟩
  ·
   rintro p hR
   have hpl:=hR.2.2.1
   have hml:=hR.2.2.2.1
   have hpe:=hR.2.2.2.2.1
   have hme:=hR.2.2.2.2.2
   have hpel:p.2.2.2.2.2.1.length=p.2.1.length:=by rw [hpe];simp
   have hmel:p.2.2.2.2.2.2.length=p.2.2.1.length:=by rw [hme];simp
   refine Ah (Qp Cj (Ag (AW.seq (A3 (fun hc2=>?_) fun hc2=>?_))))
   ·
    obtain ⟨q,hq⟩:=B2 hc2
    have hlt:=A9 hq
    have hdc:=A8 hq
    have hR2:=hR.2.1
    rw [hdc] at hR2
    refine Bx (AW.seq (AW.block (Ah ?_)))
    refine Qp (Kn (c:=[Iq _,Iq _,Iq _]) Ai rfl rfl rfl rfl rfl rfl (by omega) (Bh hq)) ?_
    refine Qp (Ck [Iq _,Iq _,Iq _]) ?_
    refine Qe (Al (l:=[.int .i64 0,.int .i64 0,.int .i64 0]) (by kernel_rfl)) ?_
    rintro _ _ ⟨b9,rfl,rfl⟩
    refine Cm 0 [Iq _,Iq _,Iq _] (_::_::_::_::_::_::_::_::_) ?_
    refine AOL.ghost (GS.Aad (t:=9) 0 rfl rfl) ?_
    refine Ag (AW.seq ?_)
    refine AW.draw mixed (fun H'=>_∈H'∧_∈H') ⟨(List.mem_of_getElem? (i:=4) rfl),(List.mem_of_getElem? (i:=5) rfl)⟩ (by kernel_rfl) ?_
    refine Qn 0 rfl H0 ?_
    refine Qn 1 rfl (Bl rfl) ?_
    refine Qn 2 rfl Ir ?_
    refine Qn 3 rfl (OpP.Aah (fun k=>Ax (k:=k) (c:=.val _) Ai rfl rfl rfl rfl) (fun _ h=>h.1)) ?_
    refine Qn 4 rfl (Ck [Iq _,Iq _,Iq _]) ?_
    refine Qn 5 rfl (OpP.Aah (fun k=>Ja (i:=k) (eq:=Hr q.1) Ai rfl rfl rfl rfl rfl (by kernel_rfl) rfl rfl (rfl) (Iu q.1 (C8 a b).ts) (zM hnd hq)) (fun _ h=>h.2)) ?_
    refine Jv.done _ _ (by kernel_rfl) ?_
    refine Ae (AW.block (Ah (Qp A5 (Qp Be (Ag (A3 (fun hc3=>?_) fun hc3=>?_))))))
    ·
     refine AW.skip (Bq (Bq (Ae (AW.region (Qp Fv (Qp A0 (Ag ?_)))))))
     refine ⟨(p.1+1,p.2.1,p.2.2.1,p.2.2.2.1,p.2.2.2.2.1,p.2.2.2.2.2.1,p.2.2.2.2.2.2),?_,?_,GS.weaken ⟨rfl,rfl,rfl,rfl,rfl,rfl,rfl,rfl,rfl,trivial⟩ (.refl _)⟩
     · exact ⟨hlt,by simp only;rw [hR2,parts_0 hc3],by simp only;omega,by simp only;omega,hpe,hme⟩
     · simp only;omega
    ·
     refine Ah (Qp A5 (Qp Be (Ag (A3 (fun hc4=>?_) fun hc4=>?_))))
     ·
      have hsc:∀c∈p.2.2.2.2.2.1,Bf c=true:=by rw [hpe];exact Fm fun _=>rfl
      refine AW.region (Qp Ir ?_)
      refine AOL.Aai (Ax (k:=2) (c:=.row _ _ _) Ai rfl rfl rfl rfl) rfl rfl ?_
      refine Qp (Ck [Iq _,Iq _,Iq _]) ?_
      refine Qp (Az (es:=[[Iq _,Iq _,Iq _]]) Ai rfl rfl rfl rfl rfl rfl rfl rfl rfl) ?_
      refine Qe (Dm (k:=1) Ai rfl rfl rfl rfl rfl rfl rfl rfl (Hd rfl) (hsc) (by simp;omega) (by simp [maxLen];omega)) ?_
      rintro _ _ ⟨v53,rfl,rfl⟩
      refine Qp Ir ?_
      refine Cm 2 [_,_,Iq _] (_::_::_::_::_::_::_::_) ?_
      refine AOL.nil (Bq (Bq (Ae (AW.region (Qp Fv (Qp A0 (Ag ?_)))))))
      refine ⟨(p.1+1,p.2.1 ++ [q.1],p.2.2.1,v53,p.2.2.2.2.1,p.2.2.2.2.2.1 ++ [H9 q.1],p.2.2.2.2.2.2),?_,?_,GS.weaken ⟨rfl,rfl,rfl,rfl,rfl,rfl,rfl,rfl,rfl,trivial⟩ (.refl _)⟩
      · exact ⟨hlt,by simp only;rw [hR2,parts_1 hc3 hc4],by simp only [List.length_append,List.length_singleton];omega,by simp only [List.length_append,List.length_singleton];omega,by simp [hpe],by simp [hme]⟩
      · simp only;omega
     ·
      refine Ah (Qp A5 (Qp Be (Ag (A3 (fun hc5=>?_) fun hc5=>?_))))
      ·
       have hsc:∀c∈p.2.2.2.2.2.2,Bf c=true:=by rw [hme];exact Fm fun _=>rfl
       refine AW.region (Qp Ir ?_)
       refine AOL.Aai (Ax (k:=2) (c:=.row _ _ _) Ai rfl rfl rfl rfl) rfl rfl ?_
       refine Qp (Ck [Iq _,Iq _,Iq _]) ?_
       refine Qp (Az (es:=[[Iq _,Iq _,Iq _]]) Ai rfl rfl rfl rfl rfl rfl rfl rfl rfl) ?_
       refine Qe (Dm (k:=0) Ai rfl rfl rfl rfl rfl rfl rfl rfl (Hd rfl) (hsc) (by simp;omega) (by simp [maxLen];omega)) ?_
       rintro _ _ ⟨v61,rfl,rfl⟩
       refine Qp Ir ?_
       refine Cm 2 [_,_,Iq _] (_::_::_::_::_::_::_::_) ?_
       refine AOL.nil (Bq (Bq (Ae (AW.region (Qp Fv (Qp A0 (Ag ?_)))))))
       refine ⟨(p.1+1,p.2.1,p.2.2.1 ++ [q.1],p.2.2.2.1,v61,p.2.2.2.2.2.1,p.2.2.2.2.2.2 ++ [H9 q.1]),?_,?_,GS.weaken ⟨rfl,rfl,rfl,rfl,rfl,rfl,rfl,rfl,rfl,trivial⟩ (.refl _)⟩
       · exact ⟨hlt,by simp only;rw [hR2,zQ hc3 hc4 hc5],by simp only [List.length_append,List.length_singleton];omega,by simp only [List.length_append,List.length_singleton];omega,by simp [hpe],by simp [hme]⟩
       · simp only;omega
      ·
       refine Ah (Qp (Ep [_,_,Iq _]) ?_)
       refine Cm 6 [_,_,Iq _] (_::_::_::_::_::_::_::_) ?_
       refine Qp Be (Ag (AW.ret (Ba (Ba (Aj (Aj (Ba (Aj ?_))))))))
       refine ⟨.inr rfl,[.agg [_,_,Iq _],.bool _],.cons (.box _ _ _ 6 _ _ _ _ rfl rfl rfl rfl rfl rfl) <| .cons (.tmp _ _ rfl) <| .nil,.cons _ (.cons _ (.cons _ (.cons _ (.cons _ (.cons _ (.cons _ (.refl _))))))),?_⟩
       exact Eq.trans rfl (congrArg (fun q:Gp×Bool=>AV.tuple [.agg (cGp q.1),.bool q.2]) (iT hc1 (hR2.trans (zY hc3 hc4 hc5)))).symm
   ·
    have hde:=Dh hc2
    have hR2:=hR.2.1
    rw [hde] at hR2
    refine AW.exit ?_
    refine A6 (A6 (Bv (Ae (AW.seq ?_))))
    refine AW.ghost (GS.cell 2 0 rfl rfl rfl rfl G8) ?_
    refine AW.ghost (GS.cell 2 1 rfl rfl rfl rfl G8) ?_
    refine AW.draw mixed (fun H'=>_∈H') (List.mem_of_getElem? (i:=2) rfl) (by kernel_rfl) ?_
    refine Qn 0 rfl (OpP.Aah (fun k=>Bz (k:=k) (l:=[_,_,Iq _]) Ai rfl rfl rfl rfl rfl) (fun _ h=>h)) ?_
    refine Qn 1 rfl Ir ?_
    refine Qn 2 rfl (OpP.Aah (fun k=>Ax (k:=k) (c:=.sl _ _) Ai rfl rfl rfl rfl) (fun _ h=>h)) ?_
    refine Qn 3 rfl (Ak (n:=p.2.1.length) Ai rfl rfl rfl (hpel)) ?_
    refine Qn 4 rfl Nx (Qn 5 rfl Bp (Qo 6 rfl [] Qw Ir ?_))
    refine Jv.pure _ _ 7 _ _ rfl (by kernel_rfl) (by kernel_rfl) rfl (.opt _ (.sl _ _) [(70,_)] rfl (rX.all ⟨Ent.Aac _ _,trivial⟩) (fun hG=>OpP.Aah (fun k=>Ax (k:=k) (c:=.sl _ _) Ai rfl rfl rfl rfl) (fun _ h=>h)) rfl) ?_
    refine Jv.pure _ _ 8 _ _ rfl (by kernel_rfl) (by kernel_rfl) rfl (.opt _ (Iq _) [(71,_)] rfl (rX.all ⟨Ent.Aac _ _,trivial⟩) (fun hG=>Ak (n:=p.2.2.1.length) Ai rfl rfl rfl (hmel)) rfl) ?_
    refine Qo 9 rfl [(72,_)] Qw Nx (Qn 10 rfl E1 ?_)
    refine Jv.eff _ _ 11 _ _ rfl (by kernel_rfl) rfl rfl (C6 (k:=6) (v:=.agg _) (cs':=[_,_,Iq _]) (H2:=_::_::_::_::_::_::_::_) Ai rfl rfl rfl rfl (rfl) rfl rfl rfl rfl) (by rintro _ _ ⟨rfl,rfl⟩;simp) ?_
    rintro _ _ ⟨rfl,rfl⟩
    refine Qn 12 rfl Be ?_
    refine Jv.done _ _ (by kernel_rfl) ?_
    refine Ae (AW.ret ?_)
    refine ⟨.inr rfl,[.agg [_,_,Iq _],.bool _],.cons (.box _ _ _ 6 _ _ _ _ rfl rfl rfl rfl rfl rfl) <| .cons (.tmp _ _ rfl) <| .nil,.cons _ (.cons _ (.cons _ (.cons _ (.cons _ (.cons _ (.cons _ (.refl _))))))),?_⟩
    rw [hpe,hme]
    exact Eq.trans rfl (congrArg (fun q:Gp×Bool=>AV.tuple [.agg (cGp q.1),.bool q.2]) (vY hc1 hR2)).symm

set_option maxHeartbeats 1600000
set_option maxRecDepth 20000

theorem R4 (T:List Sc)(V:List Va)(e:Ex)(hk:KOK T V e)(hse:Ar e≤1048576):Av Tryz.prog 84 [.agg (Co T V),.agg (cE e)] (.bool (B5 T V e)):=by
 refine Av.body (n:=47) Ai Tryz.func84 rfl rfl rfl fun H=>?_
 refine Ah (Qp (F5 [_,_]) (Qp K8 (Qp Be (Df ?_))))
 refine Qp (C2 (v:=.fn _ _ _) rfl) ?_
 refine Ag (AW.seq (AW.block (Ah (Qp Ks (Qp Bs (Qp A5 (Qp Be (Ag (A3 (fun hc1=>?_) fun hc1=>?_)))))))))
 ·
  refine Ah (Qp Be (Ag (AW.ret (Ba (Aj ?_)))))
  refine Qr (.bool _) ?_
  exact Eq.trans rfl (congrArg (fun q:Bool=>AV.bool q) (yJ hc1)).symm
 ·
  refine Ah (Qp D0 ?_)
  refine Qp (Qc rfl (W0 e)) ?_
  refine Qp Ge (Qp Be (Ag (A3 (fun hc2=>?_) fun hc2=>?_)))
  ·
   refine Ah (Qp Be (Ag (AW.ret (Ba (Aj ?_)))))
   refine Qr (.bool _) ?_
   exact Eq.trans rfl (congrArg (fun q:Bool=>AV.bool q) (jU hc1 hc2)).symm
  ·
   refine Ah (Qp (Ck [_,_]) (Qp D0 ?_))
   refine Qp (Qc rfl (Rx T V e hk)) ?_
   refine Qp Be (Ag (A3 (fun hc3=>?_) fun hc3=>?_))
   ·
    refine AW.seq ?_
    have hcmp:Cu e=true:=by simpa using ‹(!Cu e)=false›
    have h2:=Ky hk hcmp
    have h00:0<e.args.length:=by omega
    have hsz:=Dx h2
    have hk0:=A1 hk (A4 h00)
    have hk1:=A1 hk (Bi h2)
    refine AW.region ?_
    refine Qp (Bj (v:=.fn _ _ _) rfl) ?_
    refine Qp K5 (Qp Dk ?_)
    refine Qp (Af (c:=[Iq _,_,Iq _,Iq _,Iq _,Iq _,Iq _,.str _]) Ai rfl rfl rfl rfl rfl rfl (by decide) (Fp h00)) ?_
    refine Qp D0 ?_
    refine Qp (Dz (by kernel_rfl) rfl rfl rfl (jS (Ao e))) ?_
    refine Qp Bp ?_
    refine AOL.Aaf (y:=.fn _ _ _) _ [] rfl (rX.all trivial) (fun hG=>Bj (v:=.fn _ _ _) rfl) rfl ?_
    refine Qg [] Qw K5 (Qg [(28,_)] Qw Dk ?_)
    refine AOL.Aaf (y:=.ptr _) _ [(29,_)] rfl (rX.all ⟨Ent.Aac _ _,trivial⟩) (fun hG=>Af (c:=[Iq _,_,Iq _,Iq _,Iq _,Iq _,Iq _,.str _]) Ai rfl rfl rfl rfl rfl rfl (by decide) (Ie h2)) rfl ?_
    refine Qg [(30,_)] Qw D0 ?_
    refine AOL.Aaf (y:=.bool _) _ [(31,_),(27,_)] rfl (rX.all ⟨Ent.Aac _ _,Ent.Aac _ _,trivial⟩) (fun hG=>Dz (by kernel_rfl) rfl rfl rfl (jS (Bg e))) rfl ?_
    refine Qp E1 (Qp Be (Ag (AW.ret (Ba (Aj ?_)))))
    refine Qr (.bool _) ?_
    exact Eq.trans rfl (congrArg (fun q:Bool=>AV.bool q) (tS hc1 hc2 hc3)).symm
   ·
    refine AW.skip (Bq (Ae (AW.seq ?_)))
    have hcmp:Cu e=true:=by simpa using ‹(!Cu e)=false›
    have h2:=Ky hk hcmp
    have h00:0<e.args.length:=by omega
    have hsz:=Dx h2
    have hk0:=A1 hk (A4 h00)
    have hk1:=A1 hk (Bi h2)
    refine AW.draw mixed (fun _=>True) trivial (by kernel_rfl) ?_
    refine Qn 0 rfl K5 (Qn 1 rfl Dk ?_)
    refine Qn 2 rfl (Af (c:=[Iq _,_,Iq _,Iq _,Iq _,Iq _,Iq _,.str _]) Ai rfl rfl rfl rfl rfl rfl (by decide) (Fp h00)) ?_
    refine Qn 3 rfl D0 (Qn 4 rfl K5 (Qn 5 rfl Dk ?_))
    refine Qn 6 rfl (Af (c:=[Iq _,_,Iq _,Iq _,Iq _,Iq _,Iq _,.str _]) Ai rfl rfl rfl rfl rfl rfl (by decide) (Ie h2)) ?_
    refine Qn 7 rfl D0 ?_
    refine Qn 8 rfl (Qc rfl (aI _ _ hk0.nodes hk1.nodes (by omega))) ?_
    refine Qn 9 rfl Mv ?_
    refine Qn 10 rfl (Cb (v:=.agg [_,_,Iq _]) rfl rfl) ?_
    refine Qn 11 rfl eN ?_
    refine Jv.eff _ _ 12 _ _ rfl (by kernel_rfl) rfl rfl (Al (l:=[.sl 3 [],.sl 3 [],.int .i64 0]) (by kernel_rfl)) (fun _ _ _=>trivial) ?_
    rintro _ _ ⟨b6,rfl,rfl⟩
    refine Jv.eff _ _ 13 _ _ rfl (by kernel_rfl) rfl rfl (C6 (k:=0) (v:=.agg _) (cs':=[_,_,Iq _]) (H2:=_::_) Ai rfl rfl rfl rfl (rfl) rfl rfl rfl rfl) (fun _ _ _=>trivial) ?_
    rintro _ _ ⟨rfl,rfl⟩
    refine Qn 14 rfl Be ?_
    refine Jv.done _ _ (by kernel_rfl) ?_
    refine Ae ?_
    refine AW.ghost (GS.Aad (t:=6) 0 rfl rfl) ?_
    refine Ah (Qp Bp (Qp Be (Ag (AW.ret ?_))))
    refine Qr (.bool _) ?_
    exact Eq.trans rfl (congrArg (fun q:Bool=>AV.bool q) (vQ hc1 hc2 hc3)).symm


set_option maxHeartbeats 3200000
set_option maxRecDepth 20000

theorem sA (a b:List (List Lit))(hla:a.length≤512)(hlb:b.length≤512)(ha:∀x∈a,x.length≤1048576)(hb:∀x∈b,x.length≤1048576):Av Tryz.prog 106 [.sl 1 (a.map Pu),.sl 1 (b.map Pu)] (.tuple [.sl 1 ((Mc a b).1.map Pu),.bool (Mc a b).2]):=by
 refine Av.body (n:=40) Ai Tryz.func106 rfl rfl rfl fun H=>?_
 refine Ah ?_
 refine Qp (B0 (z:=1) rfl) ?_
 refine Qp Be (Ag (AW.seq (Ah (Qp C4 ?_))))
 refine Qp (Ak (n:=a.length) Ai rfl rfl rfl (by simp)) ?_
 refine Qp C4 ?_
 refine Qp (Ak (n:=b.length) Ai rfl rfl rfl (by simp)) ?_
 refine Qp (vX rfl rfl rfl (by constructor <;> (have h1:(0:Int)≤(a.length:Int)*(b.length:Int):=Int.mul_nonneg (by omega) (by omega);have h2:(a.length:Int)*(b.length:Int)≤512*512:=Int.mul_le_mul (by omega) (by omega) (by omega) (by omega);omega))) ?_
 refine Qp Hg (Ag (A3 (fun hc1=>?_) fun hc1=>?_))
 ·
  refine Ah ?_
  refine Qp (B0 (z:=1) rfl) ?_
  refine Qp Be (Ag (Dr ?_))
  refine Km (.sl _ _) (.bool _) ?_
  exact Eq.trans rfl (congrArg (fun q:Cs=>AV.tuple [.sl 1 (q.1.map Pu),.bool q.2]) (nH hc1)).symm
 ·
  refine Bx (Ah (Qp N8 ?_))
  refine AOL.ghost (GS.row (t:=6) 71 1 rfl) ?_
  refine Ag (AW.seq (Ah (Qp C4 ?_)))
  refine Qp (Ak (n:=a.length) Ai rfl rfl rfl (by simp)) ?_
  refine Qp A0 (Ag (AW.block ?_))
  refine AW.Aae (fun (p:Nat×List (List AV)×Value)=>(⟨[(0,.sl 1 (a.map Pu)),(1,.sl 1 (b.map Pu)),(5,.bool false),(6,.row p.2.2 1 p.2.1),(17,.sl 1 (a.map Pu)),(18,.int .i64 a.length),(19,.int .i64 (p.1:Int))],.row p.2.2 p.2.1.length 71 1::H,40⟩:St)) (fun (p:Nat×List (List AV)×Value)=>p.1≤a.length∧p.2.1=((a.take p.1).flatMap fun x=>b.map fun y=>x++y).map Pu) (fun (p:Nat×List (List AV)×Value)=>a.length-p.1) ((0,[],.slice none 0 0)) ?_ (GS.weaken ⟨rfl,rfl,rfl,rfl,rfl,rfl,rfl,trivial⟩ (.refl _)) ?_
  · exact ⟨Nat.zero_le _,rfl⟩
  ·
   rintro p hR
   refine Ah (Qp Cj (Ag (AW.seq (A3 (fun hc2=>?_) fun hc2=>?_))))
   ·
    obtain ⟨x,hx⟩:=B2 hc2
    have hlx:=A9 hx
    have hxl:=ha x (List.mem_of_getElem? hx)
    refine Bx (AW.seq (AW.block (Ah ?_)))
    refine Qp (Af (c:=[_]) Ai rfl rfl rfl rfl rfl rfl (by omega) (Bh hx)) ?_
    refine Qp Dk (Qp Wj (Df (Qp C4 ?_)))
    refine Qp (Ak (n:=b.length) Ai rfl rfl rfl (by simp)) ?_
    refine Qp A0 (Ag (AW.block ?_))
    refine AW.Aae (fun (q:Nat×List (List AV)×Value)=>(⟨[(0,.sl 1 (a.map Pu)),(1,.sl 1 (b.map Pu)),(5,.bool false),(6,.row q.2.2 1 q.2.1),(8,.sl 9 (x.map G3)),(17,.sl 1 (a.map Pu)),(18,.int .i64 a.length),(19,.int .i64 (p.1:Int)),(23,.sl 1 (b.map Pu)),(24,.int .i64 b.length),(25,.int .i64 (q.1:Int))],.row q.2.2 q.2.1.length 71 1::H,40⟩:St)) (fun (q:Nat×List (List AV)×Value)=>q.1≤b.length∧q.2.1=(((a.take p.1).flatMap fun x=>b.map fun y=>x++y)++(b.take q.1).map fun y=>x++y).map Pu∧True) (fun (q:Nat×List (List AV)×Value)=>b.length-q.1) ((0,p.2.1,p.2.2)) ?_ (GS.weaken ⟨rfl,rfl,rfl,rfl,rfl,rfl,rfl,rfl,rfl,rfl,rfl,trivial⟩ (.refl _)) ?_
    · exact ⟨Nat.zero_le _,by simp only [List.take_zero,List.map_nil,List.append_nil];exact hR.2,trivial⟩
    ·
     rintro q hQ
     refine Ah (Qp Cj (Ag (AW.seq (A3 (fun hc3=>?_) fun hc3=>?_))))
     ·
      obtain ⟨y,hy⟩:=B2 hc3
      have hly:=A9 hy
      have hyl:=hb y (List.mem_of_getElem? hy)
      have hple:=prod_le hlx hly hc1
      refine Bx (AW.seq (AW.block (Ah ?_)))
      refine Qp (Af (c:=[_]) Ai rfl rfl rfl rfl rfl rfl (by omega) (Bh hy)) ?_
      refine Qp Dk (Qp Wj (Ag ?_))
      have hsx:∀c∈(x.map G3),Bf c=true:=Fm fun _=>rfl
      have hsy:∀c∈(y.map G3),Bf c=true:=Fm fun _=>rfl
      have hscx:∀c∈(x.map G3++y.map G3),Bf c=true:=fun c hc=>(List.mem_append.1 hc).elim (hsx c) (hsy c)
      have hso:∀c∈q.2.1,Bf c=true:=by rw [hQ.2.1];exact Fm fun _=>rfl
      have hql:q.2.1.length<256:=by rw [hQ.2.1,List.length_map,List.length_append,jP,List.length_map,List.length_take,List.length_take,Nat.min_eq_left (Nat.le_of_lt hlx),Nat.min_eq_left (Nat.le_of_lt hly)];exact hple
      refine AW.region ?_
      refine Qp (Bj (v:=.row _ _ _) rfl) ?_
      refine Qe (S7 (es:=[]) Ai rfl rfl rfl rfl rfl rfl rfl rfl rfl) ?_
      rintro _ _ ⟨v30,rfl,rfl⟩
      refine Qp C4 ?_
      refine Qe (Dm (k:=0) Ai rfl rfl rfl rfl rfl rfl rfl rfl (hsx) (uI) (by simp;omega) (by simp [maxLen];omega)) ?_
      rintro _ _ ⟨v32,rfl,rfl⟩
      refine Qp C4 ?_
      refine Qe (Dm (k:=0) Ai rfl rfl rfl rfl rfl rfl rfl rfl (hsy) (hsx) (by simp;omega) (by simp [maxLen];omega)) ?_
      rintro _ _ ⟨v34,rfl,rfl⟩
      refine AOL.ghost (GS.unrow 34 rfl) ?_
      refine Qp (Az (es:=[[_]]) Ai rfl rfl rfl rfl rfl rfl rfl rfl rfl) ?_
      refine Qe (Dm (k:=1) Ai rfl rfl rfl rfl rfl rfl rfl rfl (Hd rfl) (hso) (by simp;omega) (by simp [maxLen];omega)) ?_
      rintro _ _ ⟨v36,rfl,rfl⟩
      refine Qp (C2 (v:=.row _ _ _) rfl) ?_
      refine AOL.nil (Bq (Ae (AW.region (Qp Fv (Qp A0 (Ag ?_))))))
      refine ⟨(q.1+1,q.2.1 ++ [[.sl 9 (x.map G3++y.map G3)]],v36),?_,?_,GS.weaken ⟨rfl,rfl,rfl,rfl,rfl,rfl,rfl,rfl,rfl,rfl,rfl,trivial⟩ (.cons _ (.refl _))⟩
      · exact ⟨hly,by simp only;rw [Cq hy,hQ.2.1];simp [Pu],trivial⟩
      · simp only;omega
     ·
      have hte:=C3 hc3
      have hall:=hQ.2.1
      rw [hte] at hall
      refine AW.exit ?_
      refine A6 (A6 (Bv (Bq (Ae (AW.region (Qp Fv (Qp A0 (Ag ?_))))))))
      refine ⟨(p.1+1,q.2.1,q.2.2),?_,?_,GS.weaken ⟨rfl,rfl,rfl,rfl,rfl,rfl,rfl,trivial⟩ (.refl _)⟩
      · exact ⟨hlx,by simp only;rw [sY hx];exact hall⟩
      · simp only;omega
   ·
    have hte:=C3 hc2
    have hall:=hR.2
    rw [hte] at hall
    refine AW.exit ?_
    refine A6 (A6 (Bv (Ae (Ah ?_))))
    refine Qp (Bj (v:=.row _ _ _) rfl) ?_
    refine AOL.ghost (GS.unrow 39 rfl) ?_
    refine Qp Wj (Qp Be (Ag (AW.ret ?_)))
    refine ⟨.inr rfl,[.sl _ _,.bool _],.cons (.tmp _ _ rfl) <| .cons (.tmp _ _ rfl) <| .nil,.cons _ (.refl _),?_⟩
    rw [hall]
    exact Eq.trans rfl (congrArg (fun q:Cs=>AV.tuple [.sl 1 (q.1.map Pu),.bool q.2]) (jK hc1)).symm
end Go.Proofs.YtkddpedfbicbeaaGreatDoor
