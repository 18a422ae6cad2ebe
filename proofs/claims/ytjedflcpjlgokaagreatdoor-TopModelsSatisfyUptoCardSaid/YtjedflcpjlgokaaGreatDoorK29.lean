/-
  Several texts in one: Y5, Y5b. No condition.
-/
import Derived.Test.YtjedflcpjlgokaaGreatDoorAz
import Derived.Test.YtjedflcpjlgokaaGreatDoorK15
import Derived.Test.YtjedflcpjlgokaaGreatDoorY4
import Derived.KernelRfl
set_option linter.unusedVariables false
set_option linter.unusedSimpArgs false
namespace Go.Proofs.YtjedflcpjlgokaaGreatDoor
open Go Go.Aw
set_option maxHeartbeats 3200000
set_option maxRecDepth 20000

theorem Y0 (a b:Ex)(hna:Ca a=0)(hnb:Ca b=0)(hs:Ar a+Ar b≤1048576):Ax Tryz.prog 92 [.agg (cE a),.agg (cE b)] (.tuple [.agg (cGp (B7 a b).1),.bool (B7 a b).2]):=by
 have hok:=Zh hna hnb
 have hnd:=bZ hna hnb
 have htl:=hok.len
 refine Ax.body (n:=75) Ah Tryz.func92 rfl rfl rfl fun H=>?_
 refine Ai (Qp Kx (Qp Kx ?_))
 refine Qe (Ak (l:=[.sl 3 [],.sl 3 [],.int .i64 0]) (by kernel_rfl)) ?_
 rintro _ _ ⟨b4,rfl,rfl⟩
 refine Qp Bl (Dm ?_)
 refine Qe (Ni) ?_
 rintro _ _ ⟨b10,rfl,rfl⟩
 refine Qp (Lk (l0:=[.val (.map none),.val (.slice none 0 0),.int .i64 0]) (l:=[_,_,_]) Ah rfl rfl (by kernel_rfl) rfl) ?_
 refine Qe (O8 (v:=.agg _) (cs:=[_,_,Iq _]) rfl rfl (rfl)) ?_
 rintro _ _ ⟨b12,rfl,rfl⟩
 refine Qp N4 ?_
 refine AOL.ghost (GS.cellRow 0 1 103 3 rfl rfl rfl rfl) ?_
 refine Ag (AW.seq (Ai (Qp Gr (Qp El ?_))))
 refine Qe (Dj (by kernel_rfl) rfl rfl (d_add b10 b12 _ a hna 0 1 (.inl rfl) Ir Nl (by omega) _)) ?_
 rintro _ _ ⟨rfl,u0,rfl⟩
 refine Qp Hc (Qp B0 (Qg [] Qw Gr (Qg [] Qw El ?_)))
 refine AOL.geX (F:=fun u=>N7 b10 b12 u (C9 a b) (.box b4 147 [.sl 3 [],.sl 3 [],.int .i64 0]::H)) _ [(18,_),(19,_)] rfl (nC.all ⟨Ent.Aam _ _,Ent.Aam _ _,trivial⟩) (fun hG=>Dj (by kernel_rfl) rfl rfl (uM hG (d_add b10 b12 _ b hnb (0+Ar a) (-1) (.inr rfl) _ (Wj a hna (.inl rfl) Nl) (by omega) u0))) (fun hG=>btw_f (m:=b10) (bs:=b12) (v:=u0) (b:=b) (R:=(.box b4 147 [.sl 3 [],.sl 3 [],.int .i64 0]::H)) hG) rfl fun u1=>?_
 refine Qg [(20,_)] Qw Hc (Qp E1 (Ag (A6 (fun hc1=>?_) fun hc1=>?_)))
 ·
  refine Ai (Qp (Fz [_,_,Iq _]) ?_)
  refine Cv 3 [_,_,Iq _] (_::_::_::_::_) ?_
  refine Qp Bl (Ag (Dw ?_))
  refine ⟨.inr rfl,[.agg [_,_,Iq _],.bool _],.cons (.box _ _ _ 3 _ _ _ _ rfl rfl rfl rfl rfl rfl) <| .cons (.tmp _ _ rfl) <| .nil,.cons _ (.cons _ (.cons _ (.cons _ (.refl _)))),?_⟩
  exact Eq.trans rfl (congrArg (fun q:Gp×Bool=>AV.tuple [.agg (cGp q.1),.bool q.2]) (btw_no hc1)).symm
 ·
  refine By (Ai (Qp Gr ?_))
  refine Qp (Bn rfl) ?_
  refine Qp Gc ?_
  refine AOL.Aas (Am (k:=1) (c:=Iq _) Ah rfl rfl rfl rfl) rfl rfl ?_
  refine Qp (Lk (l0:=[.val (.slice none 0 0),.val (.slice none 0 0),.int .i64 0]) (l:=[_,_,_]) Ah rfl rfl (by kernel_rfl) rfl) ?_
  refine Qe (Ak (l:=[.sl 3 [],.sl 3 [],.int .i64 0]) (by kernel_rfl)) ?_
  rintro _ _ ⟨b7,rfl,rfl⟩
  refine Cv 0 [_,_,Iq _] (_::_::_::_::_::_) ?_
  refine AOL.ghost (GS.cellRow 0 0 103 3 rfl rfl rfl rfl) ?_
  refine AOL.ghost (GS.cellRow 1 1 103 3 rfl rfl rfl rfl) ?_
  refine Ag (AW.seq (Ai (Qp Gr ?_)))
  refine Qp (Bn rfl) ?_
  refine Qp Gc ?_
  refine AOL.Aas (Am (k:=4) (c:=.row _ _ _) Ah rfl rfl rfl rfl) rfl rfl ?_
  refine Qp (K6 (n:=(C9 a b).ts.length) Ah rfl rfl rfl (by simp)) ?_
  refine Qp Az (Ag (AW.block ?_))
  refine AW.Aao (fun (p:Nat×List Tm×List Tm×Value×Value×List (List AV)×List (List AV))=>(⟨[(2,.ptr (cE a)),(3,.ptr (cE b)),(4,.val (.pointer (some ⟨b4,0,none⟩))),(5,.bool false),(6,.val (.pointer (some ⟨b12,0,none⟩))),(7,.val (.pointer (some ⟨b7,0,none⟩))),(32,.row u1 3 ((C9 a b).ts.map fun p=>Hw p.1)),(33,.int .i64 (C9 a b).ts.length),(34,.int .i64 (p.1:Int))],.row p.2.2.2.2.1 p.2.2.2.2.2.2.length 103 3 :: .row p.2.2.2.1 p.2.2.2.2.2.1.length 103 3 :: .box b7 147 [.row p.2.2.2.1 3 p.2.2.2.2.2.1,.row p.2.2.2.2.1 3 p.2.2.2.2.2.2,.int .i64 (C9 a b).rest]::N7 b10 b12 u1 (C9 a b) (.box b4 147 [.sl 3 [],.sl 3 [],.int .i64 0]::H),75⟩:St)) (fun (p:Nat×List Tm×List Tm×Value×Value×List (List AV)×List (List AV))=>p.1≤(C9 a b).ts.length∧C5 (C9 a b).ts [] []=C5 ((C9 a b).ts.drop p.1) p.2.1 p.2.2.1∧p.2.1.length≤p.1∧p.2.2.1.length≤p.1∧p.2.2.2.2.2.1=p.2.1.map Hw∧p.2.2.2.2.2.2=p.2.2.1.map Hw) (fun (p:Nat×List Tm×List Tm×Value×Value×List (List AV)×List (List AV))=>(C9 a b).ts.length-p.1) ((0,[],[],.slice none 0 0,.slice none 0 0,[],[])) ?_ (GS.weaken ⟨rfl,rfl,rfl,rfl,rfl,rfl,rfl,rfl,rfl,trivial⟩ (.refl _)) ?_
  · exact ⟨Nat.zero_le _,rfl,Nat.le_refl _,Nat.le_refl _,rfl,rfl⟩
  ·
   rintro p hR
   have hpl:=hR.2.2.1
   have hml:=hR.2.2.2.1
   have hpe:=hR.2.2.2.2.1
   have hme:=hR.2.2.2.2.2
   have hpel:p.2.2.2.2.2.1.length=p.2.1.length:=by rw [hpe];simp
   have hmel:p.2.2.2.2.2.2.length=p.2.2.1.length:=by rw [hme];simp
   refine Ai (Qp Ch (Ag (AW.seq (A6 (fun hc2=>?_) fun hc2=>?_))))
   ·
    obtain ⟨q,hq⟩:=B5 hc2
    have hlt:=A4 hq
    have hdc:=A8 hq
    have hR2:=hR.2.1
    rw [hdc] at hR2
    refine By (AW.seq (AW.block (Ai ?_)))
    refine Qp (Ip (c:=[Iq _,Iq _,Iq _]) Ah rfl rfl rfl rfl rfl rfl (by omega) (Bi hq)) ?_
    refine Qp (Cq [Iq _,Iq _,Iq _]) ?_
    refine Qe (Ak (l:=[.int .i64 0,.int .i64 0,.int .i64 0]) (by kernel_rfl)) ?_
    rintro _ _ ⟨b9,rfl,rfl⟩
    refine Cv 0 [Iq _,Iq _,Iq _] (_::_::_::_::_::_::_::_::_) ?_
    refine AOL.ghost (GS.Aan (t:=9) 0 rfl rfl) ?_
    refine Ag (AW.seq ?_)
    refine AW.draw mixed (fun H'=>_∈H'∧_∈H') ⟨(List.mem_of_getElem? (i:=4) rfl),(List.mem_of_getElem? (i:=5) rfl)⟩ (by kernel_rfl) ?_
    refine Qn 0 rfl Gr ?_
    refine Qn 1 rfl (Bn rfl) ?_
    refine Qn 2 rfl Gc ?_
    refine Qn 3 rfl (OpP.Aaq (fun k=>Am (k:=k) (c:=.val _) Ah rfl rfl rfl rfl) (fun _ h=>h.1)) ?_
    refine Qn 4 rfl (Cq [Iq _,Iq _,Iq _]) ?_
    refine Qn 5 rfl (OpP.Aaq (fun k=>I7 (i:=k) (eq:=Hf q.1) Ah rfl rfl rfl rfl rfl (by kernel_rfl) rfl rfl (rfl) (Im q.1 (C9 a b).ts) (zX hnd hq)) (fun _ h=>h.2)) ?_
    refine Jn.done _ _ (by kernel_rfl) ?_
    refine Ad (AW.block (Ai (Qp A9 (Qp Bl (Ag (A6 (fun hc3=>?_) fun hc3=>?_))))))
    ·
     refine AW.skip (Bu (Bu (Ad (AW.region (Qp Ey (Qp Az (Ag ?_)))))))
     refine ⟨(p.1+1,p.2.1,p.2.2.1,p.2.2.2.1,p.2.2.2.2.1,p.2.2.2.2.2.1,p.2.2.2.2.2.2),?_,?_,GS.weaken ⟨rfl,rfl,rfl,rfl,rfl,rfl,rfl,rfl,rfl,trivial⟩ (.refl _)⟩
     · exact ⟨hlt,by simp only;rw [hR2,mD hc3],by simp only;omega,by simp only;omega,hpe,hme⟩
     · simp only;omega
    ·
     refine Ai (Qp A9 (Qp Bl (Ag (A6 (fun hc4=>?_) fun hc4=>?_))))
     ·
      have hsc:∀c∈p.2.2.2.2.2.1,Be c=true:=by rw [hpe];exact Ed fun _=>rfl
      refine AW.region (Qp Gc ?_)
      refine AOL.Aas (Am (k:=2) (c:=.row _ _ _) Ah rfl rfl rfl rfl) rfl rfl ?_
      refine Qp (Cq [Iq _,Iq _,Iq _]) ?_
      refine Qp (A1 (es:=[[Iq _,Iq _,Iq _]]) Ah rfl rfl rfl rfl rfl rfl rfl rfl rfl) ?_
      refine Qe (C3 (k:=1) Ah rfl rfl rfl rfl rfl rfl rfl rfl (Ff rfl) (hsc) (by simp;omega) (by simp [maxLen];omega)) ?_
      rintro _ _ ⟨v53,rfl,rfl⟩
      refine Qp Gc ?_
      refine Cv 2 [_,_,Iq _] (_::_::_::_::_::_::_::_) ?_
      refine AOL.nil (Bu (Bu (Ad (AW.region (Qp Ey (Qp Az (Ag ?_)))))))
      refine ⟨(p.1+1,p.2.1 ++ [q.1],p.2.2.1,v53,p.2.2.2.2.1,p.2.2.2.2.2.1 ++ [Hw q.1],p.2.2.2.2.2.2),?_,?_,GS.weaken ⟨rfl,rfl,rfl,rfl,rfl,rfl,rfl,rfl,rfl,trivial⟩ (.refl _)⟩
      · exact ⟨hlt,by simp only;rw [hR2,lF hc3 hc4],by simp only [List.length_append,List.length_singleton];omega,by simp only [List.length_append,List.length_singleton];omega,by simp [hpe],by simp [hme]⟩
      · simp only;omega
     ·
      refine Ai (Qp A9 (Qp Bl (Ag (A6 (fun hc5=>?_) fun hc5=>?_))))
      ·
       have hsc:∀c∈p.2.2.2.2.2.2,Be c=true:=by rw [hme];exact Ed fun _=>rfl
       refine AW.region (Qp Gc ?_)
       refine AOL.Aas (Am (k:=2) (c:=.row _ _ _) Ah rfl rfl rfl rfl) rfl rfl ?_
       refine Qp (Cq [Iq _,Iq _,Iq _]) ?_
       refine Qp (A1 (es:=[[Iq _,Iq _,Iq _]]) Ah rfl rfl rfl rfl rfl rfl rfl rfl rfl) ?_
       refine Qe (C3 (k:=0) Ah rfl rfl rfl rfl rfl rfl rfl rfl (Ff rfl) (hsc) (by simp;omega) (by simp [maxLen];omega)) ?_
       rintro _ _ ⟨v61,rfl,rfl⟩
       refine Qp Gc ?_
       refine Cv 2 [_,_,Iq _] (_::_::_::_::_::_::_::_) ?_
       refine AOL.nil (Bu (Bu (Ad (AW.region (Qp Ey (Qp Az (Ag ?_)))))))
       refine ⟨(p.1+1,p.2.1,p.2.2.1 ++ [q.1],p.2.2.2.1,v61,p.2.2.2.2.2.1,p.2.2.2.2.2.2 ++ [Hw q.1]),?_,?_,GS.weaken ⟨rfl,rfl,rfl,rfl,rfl,rfl,rfl,rfl,rfl,trivial⟩ (.refl _)⟩
       · exact ⟨hlt,by simp only;rw [hR2,kY hc3 hc4 hc5],by simp only [List.length_append,List.length_singleton];omega,by simp only [List.length_append,List.length_singleton];omega,by simp [hpe],by simp [hme]⟩
       · simp only;omega
      ·
       refine Ai (Qp (Fz [_,_,Iq _]) ?_)
       refine Cv 6 [_,_,Iq _] (_::_::_::_::_::_::_::_) ?_
       refine Qp Bl (Ag (AW.ret (Bb (Bb (Aj (Aj (Bb (Aj ?_))))))))
       refine ⟨.inr rfl,[.agg [_,_,Iq _],.bool _],.cons (.box _ _ _ 6 _ _ _ _ rfl rfl rfl rfl rfl rfl) <| .cons (.tmp _ _ rfl) <| .nil,.cons _ (.cons _ (.cons _ (.cons _ (.cons _ (.cons _ (.cons _ (.refl _))))))),?_⟩
       exact Eq.trans rfl (congrArg (fun q:Gp×Bool=>AV.tuple [.agg (cGp q.1),.bool q.2]) (dL hc1 (hR2.trans (kZ hc3 hc4 hc5)))).symm
   ·
    have hde:=Dc hc2
    have hR2:=hR.2.1
    rw [hde] at hR2
    refine AW.exit ?_
    refine A5 (A5 (Bq (Ad (AW.seq ?_))))
    refine AW.ghost (GS.cell 2 0 rfl rfl rfl rfl Ej) ?_
    refine AW.ghost (GS.cell 2 1 rfl rfl rfl rfl Ej) ?_
    refine AW.draw mixed (fun H'=>_∈H') (List.mem_of_getElem? (i:=2) rfl) (by kernel_rfl) ?_
    refine Qn 0 rfl (OpP.Aaq (fun k=>A7 (k:=k) (l:=[_,_,Iq _]) Ah rfl rfl rfl rfl rfl) (fun _ h=>h)) ?_
    refine Qn 1 rfl Gc ?_
    refine Qn 2 rfl (OpP.Aaq (fun k=>Am (k:=k) (c:=.sl _ _) Ah rfl rfl rfl rfl) (fun _ h=>h)) ?_
    refine Qn 3 rfl (Al (n:=p.2.1.length) Ah rfl rfl rfl (hpel)) ?_
    refine Qn 4 rfl N8 (Qn 5 rfl B0 (Qo 6 rfl [] Qw Gc ?_))
    refine Jn.pure _ _ 7 _ _ rfl (by kernel_rfl) (by kernel_rfl) rfl (.opt _ (.sl _ _) [(70,_)] rfl (nC.all ⟨Ent.Aam _ _,trivial⟩) (fun hG=>OpP.Aaq (fun k=>Am (k:=k) (c:=.sl _ _) Ah rfl rfl rfl rfl) (fun _ h=>h)) rfl) ?_
    refine Jn.pure _ _ 8 _ _ rfl (by kernel_rfl) (by kernel_rfl) rfl (.opt _ (Iq _) [(71,_)] rfl (nC.all ⟨Ent.Aam _ _,trivial⟩) (fun hG=>Al (n:=p.2.2.1.length) Ah rfl rfl rfl (hmel)) rfl) ?_
    refine Qo 9 rfl [(72,_)] Qw N8 (Qn 10 rfl F7 ?_)
    refine Jn.eff _ _ 11 _ _ rfl (by kernel_rfl) rfl rfl (B2 (k:=6) (v:=.agg _) (cs':=[_,_,Iq _]) (H2:=_::_::_::_::_::_::_::_) Ah rfl rfl rfl rfl (rfl) rfl rfl rfl rfl) (by rintro _ _ ⟨rfl,rfl⟩;simp) ?_
    rintro _ _ ⟨rfl,rfl⟩
    refine Qn 12 rfl Bl ?_
    refine Jn.done _ _ (by kernel_rfl) ?_
    refine Ad (AW.ret ?_)
    refine ⟨.inr rfl,[.agg [_,_,Iq _],.bool _],.cons (.box _ _ _ 6 _ _ _ _ rfl rfl rfl rfl rfl rfl) <| .cons (.tmp _ _ rfl) <| .nil,.cons _ (.cons _ (.cons _ (.cons _ (.cons _ (.cons _ (.cons _ (.refl _))))))),?_⟩
    rw [hpe,hme]
    exact Eq.trans rfl (congrArg (fun q:Gp×Bool=>AV.tuple [.agg (cGp q.1),.bool q.2]) (qV hc1 hR2)).symm

set_option maxHeartbeats 1600000
set_option maxRecDepth 20000

theorem R5 (T:List Sc)(V:List Va)(e:Ex)(hk:KOK T V e)(hse:Ar e≤1048576):Ax Tryz.prog 57 [.agg (Cf T V),.agg (cE e)] (.bool (Ck T V e)):=by
 refine Ax.body (n:=47) Ah Tryz.func57 rfl rfl rfl fun H=>?_
 refine Ai (Qp (Gd [_,_]) (Qp Kx (Qp Bl (Dm ?_))))
 refine Qp (Dg (v:=.fn _ _ _) rfl) ?_
 refine Ag (AW.seq (AW.block (Ai (Qp Jl (Qp Bp (Qp A9 (Qp Bl (Ag (A6 (fun hc1=>?_) fun hc1=>?_)))))))))
 ·
  refine Ai (Qp Bl (Ag (AW.ret (Bb (Aj ?_)))))
  refine Qr (.bool _) ?_
  exact Eq.trans rfl (congrArg (fun q:Bool=>AV.bool q) (dD hc1)).symm
 ·
  refine Ai (Qp El ?_)
  refine Qp (Qc rfl (V2 e)) ?_
  refine Qp Hc (Qp Bl (Ag (A6 (fun hc2=>?_) fun hc2=>?_)))
  ·
   refine Ai (Qp Bl (Ag (AW.ret (Bb (Aj ?_)))))
   refine Qr (.bool _) ?_
   exact Eq.trans rfl (congrArg (fun q:Bool=>AV.bool q) (Vh hc1 hc2)).symm
  ·
   refine Ai (Qp (Cq [_,_]) (Qp El ?_))
   refine Qp (Qc rfl (R4 T V e hk)) ?_
   refine Qp Bl (Ag (A6 (fun hc3=>?_) fun hc3=>?_))
   ·
    refine AW.seq ?_
    have hcmp:Cb e=true:=by simpa using ‹(!Cb e)=false›
    have h2:=Je hk hcmp
    have h00:0<e.args.length:=by omega
    have hsz:=Db h2
    have hk0:=A2 hk (A0 h00)
    have hk1:=A2 hk (Bk h2)
    refine AW.region ?_
    refine Qp (Bm (v:=.fn _ _ _) rfl) ?_
    refine Qp Lp (Qp Dy ?_)
    refine Qp (Af (c:=[Iq _,_,Iq _,Iq _,Iq _,Iq _,Iq _,.str _]) Ah rfl rfl rfl rfl rfl rfl (by decide) (E4 h00)) ?_
    refine Qp El ?_
    refine Qp (Eg (by kernel_rfl) rfl rfl rfl (fY (Av e))) ?_
    refine Qp B0 ?_
    refine AOL.Aar (y:=.fn _ _ _) _ [] rfl (nC.all trivial) (fun hG=>Bm (v:=.fn _ _ _) rfl) rfl ?_
    refine Qg [] Qw Lp (Qg [(28,_)] Qw Dy ?_)
    refine AOL.Aar (y:=.ptr _) _ [(29,_)] rfl (nC.all ⟨Ent.Aam _ _,trivial⟩) (fun hG=>Af (c:=[Iq _,_,Iq _,Iq _,Iq _,Iq _,Iq _,.str _]) Ah rfl rfl rfl rfl rfl rfl (by decide) (H7 h2)) rfl ?_
    refine Qg [(30,_)] Qw El ?_
    refine AOL.Aar (y:=.bool _) _ [(31,_),(27,_)] rfl (nC.all ⟨Ent.Aam _ _,Ent.Aam _ _,trivial⟩) (fun hG=>Eg (by kernel_rfl) rfl rfl rfl (fY (Cc e))) rfl ?_
    refine Qp F7 (Qp Bl (Ag (AW.ret (Bb (Aj ?_)))))
    refine Qr (.bool _) ?_
    exact Eq.trans rfl (congrArg (fun q:Bool=>AV.bool q) (eO hc1 hc2 hc3)).symm
   ·
    refine AW.skip (Bu (Ad (AW.seq ?_)))
    have hcmp:Cb e=true:=by simpa using ‹(!Cb e)=false›
    have h2:=Je hk hcmp
    have h00:0<e.args.length:=by omega
    have hsz:=Db h2
    have hk0:=A2 hk (A0 h00)
    have hk1:=A2 hk (Bk h2)
    refine AW.draw mixed (fun _=>True) trivial (by kernel_rfl) ?_
    refine Qn 0 rfl Lp (Qn 1 rfl Dy ?_)
    refine Qn 2 rfl (Af (c:=[Iq _,_,Iq _,Iq _,Iq _,Iq _,Iq _,.str _]) Ah rfl rfl rfl rfl rfl rfl (by decide) (E4 h00)) ?_
    refine Qn 3 rfl El (Qn 4 rfl Lp (Qn 5 rfl Dy ?_))
    refine Qn 6 rfl (Af (c:=[Iq _,_,Iq _,Iq _,Iq _,Iq _,Iq _,.str _]) Ah rfl rfl rfl rfl rfl rfl (by decide) (H7 h2)) ?_
    refine Qn 7 rfl El ?_
    refine Qn 8 rfl (Qc rfl (Y0 _ _ hk0.nodes hk1.nodes (by omega))) ?_
    refine Qn 9 rfl N6 ?_
    refine Qn 10 rfl (Ci (v:=.agg [_,_,Iq _]) rfl rfl) ?_
    refine Qn 11 rfl bB ?_
    refine Jn.eff _ _ 12 _ _ rfl (by kernel_rfl) rfl rfl (Ak (l:=[.sl 3 [],.sl 3 [],.int .i64 0]) (by kernel_rfl)) (fun _ _ _=>trivial) ?_
    rintro _ _ ⟨b6,rfl,rfl⟩
    refine Jn.eff _ _ 13 _ _ rfl (by kernel_rfl) rfl rfl (B2 (k:=0) (v:=.agg _) (cs':=[_,_,Iq _]) (H2:=_::_) Ah rfl rfl rfl rfl (rfl) rfl rfl rfl rfl) (fun _ _ _=>trivial) ?_
    rintro _ _ ⟨rfl,rfl⟩
    refine Qn 14 rfl Bl ?_
    refine Jn.done _ _ (by kernel_rfl) ?_
    refine Ad ?_
    refine AW.ghost (GS.Aan (t:=6) 0 rfl rfl) ?_
    refine Ai (Qp B0 (Qp Bl (Ag (AW.ret ?_))))
    refine Qr (.bool _) ?_
    exact Eq.trans rfl (congrArg (fun q:Bool=>AV.bool q) (gA hc1 hc2 hc3)).symm
end Go.Proofs.YtjedflcpjlgokaaGreatDoor
