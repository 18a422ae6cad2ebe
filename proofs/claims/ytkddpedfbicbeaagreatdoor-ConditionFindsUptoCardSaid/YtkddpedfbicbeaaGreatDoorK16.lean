/-
  Several texts in one: Y7, Y7b. No condition.
-/
import Derived.Test.YtkddpedfbicbeaaGreatDoorK01
import Derived.Test.YtkddpedfbicbeaaGreatDoorK08
import Derived.Test.YtkddpedfbicbeaaGreatDoorK15
import Derived.KernelRfl
set_option linter.unusedVariables false
set_option linter.unusedSimpArgs false
namespace Go.Proofs.YtkddpedfbicbeaaGreatDoor
open Go Go.Aw
set_option maxHeartbeats 1600000
set_option maxRecDepth 20000

theorem Vo (T:List Sc)(hl:T.length≤1048576)(hst:∀s∈T,Jn s)(V:List Va)(hvl:V.length≤1048576):Ax Tryz.prog 102 [.agg (Cq T V)] (.int .i64 (Dd T V (Er true)).2):=by
 refine Ax.body (n:=15) Ai Tryz.func102 rfl rfl rfl fun H=>?_
 refine Ah (Qp (F5 [_,_]) (Qp Av (Ag (AW.seq ?_))))
 refine AW.draw mixed (fun _=>True) trivial (by kernel_rfl) ?_
 refine Qn 0 rfl (Qf [_,_]) (Qn 1 rfl Dm (Qn 2 rfl (Qf [_]) (Qn 3 rfl Dm ?_)))
 refine Qn 4 rfl (Qc rfl (pC true)) ?_
 refine Qn 5 rfl (Qc rfl (c31 T hl hst V hvl (Er true) (by rw [D7];simp [Er,Oz]))) ?_
 refine Qn 6 rfl Mx (Qn 7 rfl Jq (Qn 8 rfl Jq (Qn 9 rfl Av (Qn 10 rfl Av ?_))))
 refine Jx.done _ _ (by kernel_rfl) ?_
 refine Ae (Ah (Qp A2 (Qp Av (Ag (AW.ret ?_)))))
 refine Qr (Iq _) ?_
 rfl
theorem vO (T:List Sc)(hl:T.length≤1048576)(hst:∀s∈T,Jn s)(V:List Va)(hvl:V.length≤1048576)(l:List Lit)(hll:l.length≤1048576)(hls:∀c∈l,At c.cond≤1048576):Ax Tryz.prog 78 [.agg (Cq T V),.sl 9 (l.map G5)] (.int .i64 (Gs T V l)):=by
 refine Ax.body (n:=55) Ai Tryz.func78 rfl rfl rfl fun H=>?_
 refine Ah (Qp (F5 [_,_]) (Qp Av (Ag (AW.seq (Ah (Qp (Cm [_,_]) ?_))))))
 refine Qp (Qc rfl (Vo T hl hst V hvl)) ?_
 refine Qp Av (Dh (Qp A2 (Qp Ct (Ag (A5 (fun hc1=>?_) fun hc1=>?_)))))
 ·
  refine Ah (Qp A2 (Qp Av (Ag (Du ?_))))
  refine Qr (Iq _) ?_
  exact Eq.trans rfl (congrArg (fun q:Int=>AV.int .i64 q) (xW hc1)).symm
 ·
  refine Bz (AW.seq (Ah (Qp C6 ?_)))
  refine Qp (Ak (n:=l.length) Ai rfl rfl rfl (by simp)) ?_
  refine Qp Hi (Ag (A5 (fun hc2=>?_) fun hc2=>?_))
  ·
   refine Ah (Qp Av (Ag (Du ?_)))
   refine Qr (Iq _) ?_
   exact Eq.trans rfl (congrArg (fun q:Int=>AV.int .i64 q) (uZ hc1 hc2)).symm
  ·
   refine Bz (AW.seq (Ah (Qp C6 ?_)))
   refine Qp (Ak (n:=l.length) Ai rfl rfl rfl (by simp)) ?_
   refine Qp A2 (Ag (AW.block ?_))
   refine AW.Aa5 (fun (k:Nat)=>(⟨[(2,.ptr (Cq T V)),(4,.int .i64 0),(17,.sl 9 (l.map G5)),(18,.int .i64 l.length),(19,.int .i64 (k:Int))],H,55⟩:St)) (fun (k:Nat)=>k≤l.length∧Aq (Zj T V) (l.take k)=0) (fun (k:Nat)=>l.length-k) (0) ?_ (GS.weaken ⟨rfl,rfl,rfl,rfl,rfl,trivial⟩ (.refl _)) ?_
   · exact ⟨Nat.zero_le _,rfl⟩
   ·
    rintro k hR
    refine Ah (Qp Cl (Ag (AW.seq (A5 (fun hc3=>?_) fun hc3=>?_))))
    ·
     obtain ⟨c,hc⟩:=B4 hc3
     have hlt:=Bb hc
     have hcm:=List.mem_of_getElem? hc
     refine Bz (AW.seq (AW.block (Ah ?_)))
     refine Qp (Af (c:=[Iq _,_,Iq _,Iq _,Iq _,Iq _,Iq _,.str _,.bool _]) Ai rfl rfl rfl rfl rfl rfl (by omega) (Bj hc)) ?_
     refine Qp (Cm [Iq _,_,Iq _,Iq _,Iq _,Iq _,Iq _,.str _,.bool _]) ?_
     refine Qe (Al (l:=[.int .i64 0,.sl 8 [],.int .i64 0,.int .i64 0,.int .i64 0,.int .i64 0,.int .i64 0,.str [],.bool false]) (by kernel_rfl)) ?_
     rintro _ _ ⟨b7,rfl,rfl⟩
     refine Co 0 [Iq _,_,Iq _,Iq _,Iq _,Iq _,Iq _,.str _,.bool _] (_::_) ?_
     refine AOL.ghost (GS.Aa4 (t:=7) 0 rfl rfl) ?_
     refine Ag (AW.seq (Ah (Qp (Cm [_,_]) (Qp (Qf [Iq _,_,Iq _,Iq _,Iq _,Iq _,Iq _,.str _,.bool _]) (Qp D1 ?_)))))
     refine Qp (Qc rfl (Om T hl hst V hvl c.cond (hls c hcm))) ?_
     refine Qp Av (Dh (Qp A2 (Qp Ct (Ag (A5 (fun hc4=>?_) fun hc4=>?_)))))
     ·
      refine Ah (Qp A2 (Qp Av (Ag (Du (Bc (Aj (Aj (Bc (Aj ?_)))))))))
      refine Qr (Iq _) ?_
      exact Eq.trans rfl (congrArg (fun q:Int=>AV.int .i64 q) ((Xy hc1 hc2).trans ((M0 hR.2 hc (by rw [lit_1 hc4];simpa using hc4)).trans (lit_1 hc4)))).symm
     ·
      refine Bz (AW.seq ?_)
      refine AW.draw mixed (fun _=>True) trivial (by kernel_rfl) ?_
      refine Qn 0 rfl (Cm [_,_]) (Qn 1 rfl (Qf [Iq _,_,Iq _,Iq _,Iq _,Iq _,Iq _,.str _,.bool _]) (Qn 2 rfl D1 ?_))
      refine Qn 3 rfl (Qc rfl (kU T V c.cond (P0 hc4))) ?_
      refine Qn 4 rfl Br (Qo 5 rfl [] Qw (Qf [.bool _]) (Qo 6 rfl [(35,_)] Qw kE (Qo 7 rfl [(36,_)] Qw Br (Qo 8 rfl [] Qw (Qf [Iq _,_,Iq _,Iq _,Iq _,Iq _,Iq _,.str _,.bool _]) (Qo 9 rfl [(38,_)] Qw (Qf [Iq _,_,Iq _,Iq _,Iq _,Iq _,Iq _,.str _,.bool _]) (Qo 10 rfl [(39,_)] Qw Bt (Qo 11 rfl [(40,_)] Qw A7 (Qo 12 rfl [(37,_),(41,_)] Qw E3 (Qo 13 rfl [(42,_)] Qw Br ?_)))))))))
      refine Qo 14 rfl [] Qw (Cm [_,_]) (Qo 15 rfl [] Qw (Qf [Iq _,_,Iq _,Iq _,Iq _,Iq _,Iq _,.str _,.bool _]) (Qo 16 rfl [(45,_)] Qw (Qf [_,Iq _,Iq _,Iq _,Iq _,Iq _,.str _,.bool _]) (Qo 17 rfl [(46,_)] Qw Dm ?_)))
      refine Jx.pure _ _ 18 _ _ rfl (by kernel_rfl) (by kernel_rfl) rfl (.opt _ (.ptr _) [(47,_)] rfl (sF.all ⟨Ent.Aa3 _ _,trivial⟩) (fun hG=>Af (c:=[Iq _,_,Iq _,Iq _,Iq _,Iq _,Iq _,.str _]) Ai rfl rfl rfl rfl rfl rfl (by decide) (Fq (Nat.lt_of_succ_lt (g9c (P0 hc4) hG)))) rfl) ?_
      refine Qo 19 rfl [(48,_)] Qw D1 ?_
      refine Jx.pure _ _ 20 _ _ rfl (by kernel_rfl) (by kernel_rfl) rfl (.opt _ (Iq _) [(44,_),(49,_)] rfl (sF.all ⟨Ent.Aa3 _ _,Ent.Aa3 _ _,trivial⟩) (fun hG=>C8 (by kernel_rfl) rfl rfl (Yk T V _ (A3 (P0 hc4) (A6 (Nat.lt_of_succ_lt (g9c (P0 hc4) hG)))))) rfl) ?_
      refine Qo 21 rfl [(50,_)] Qw A7 (Qo 22 rfl [(43,_),(51,_)] Qw E3 (Qn 23 rfl E5 ?_))
      refine Jx.done _ _ (by kernel_rfl) ?_
      refine Ae (A5 (fun hc5=>?_) fun hc5=>?_)
      ·
       refine Ah (Qp Av (Ag (AW.ret (Bc (Aj (Aj (Bc (Aj ?_))))))))
       refine Qr (Iq _) ?_
       exact Eq.trans rfl (congrArg (fun q:Int=>AV.int .i64 q) ((Xy hc1 hc2).trans ((M0 hR.2 hc (by rw [lit_2 hc4 hc5];decide)).trans (lit_2 hc4 hc5)))).symm
      ·
       refine AW.skip (Bs (Ae (AW.region (Qp Fx (Qp A2 (Ag ?_))))))
       refine ⟨k+1,?_,?_,GS.weaken ⟨rfl,rfl,rfl,rfl,rfl,trivial⟩ (.refl _)⟩
       · exact ⟨hlt,Rk hR.2 hc (lit_3 hc4 hc5)⟩
       · omega
    ·
     have hte:=C5 hc3
     have hall:=hR.2
     rw [hte] at hall
     refine AW.exit ?_
     refine A8 (A8 (Bw (Ae (Ah (Qp Av (Ag (AW.ret ?_)))))))
     refine Qr (Iq _) ?_
     exact Eq.trans rfl (congrArg (fun q:Int=>AV.int .i64 q) ((Xy hc1 hc2).trans hall)).symm
theorem sP (T:List Sc)(V:List Va)(c:Lit)(hk:KOK T V c.cond)(hse:At c.cond≤64):Ax Tryz.prog 129 [.agg (Cq T V),.agg (G5 c)] (.tuple [.agg (cGp (Aa T V c).1),.bool (Aa T V c).2]):=by
 refine Ax.body (n:=41) Ai Tryz.func129 rfl rfl rfl fun H=>?_
 refine Ah (Qp (F5 [_,_]) (Qp (F5 [Iq _,_,Iq _,Iq _,Iq _,Iq _,Iq _,.str _,.bool _]) ?_))
 refine Qe (Al (l:=[.sl 3 [],.sl 3 [],.int .i64 0]) (by kernel_rfl)) ?_
 rintro _ _ ⟨b4,rfl,rfl⟩
 refine Qp Bg (Dh (Qp (Qf [Iq _,_,Iq _,Iq _,Iq _,Iq _,Iq _,.str _,.bool _]) (Qp D1 ?_)))
 refine Qe (Al (l:=[.int .i64 0,.sl 8 [],.int .i64 0,.int .i64 0,.int .i64 0,.int .i64 0,.int .i64 0,.str []]) (by kernel_rfl)) ?_
 rintro _ _ ⟨b6,rfl,rfl⟩
 refine Co 0 [Iq _,_,Iq _,Iq _,Iq _,Iq _,Iq _,.str _] (_::_::_) ?_
 refine AOL.ghost (GS.Aa4 (t:=6) 0 rfl rfl) ?_
 refine Ag (AW.seq (Ah (Qp Kv (Qp Bt (Qp A7 (Ag (A5 (fun hc1=>?_) fun hc1=>?_)))))))
 ·
  refine Ah (Qp Kv (Qp Bt (Qp Yy (Qp Bt (Qp Qt (Qp Bt (Qp (Et [Iq _,Iq _,Iq _]) ?_)))))))
  refine Qp (A1 (es:=[[Iq _,Iq _,Iq _]]) Ai rfl rfl rfl rfl rfl rfl rfl rfl rfl) ?_
  refine Qp (Et [_,_,Iq _]) (Co 0 [_,_,Iq _] (_::_) (Qp Bg (Ag (Du ?_))))
  refine ⟨.inr rfl,[.agg [_,_,Iq _],.bool _],.cons (.box _ _ _ 0 _ _ _ _ rfl rfl rfl rfl rfl rfl) <| .cons (.tmp _ _ rfl) <| .nil,.cons _ (.refl _),?_⟩
  exact Eq.trans rfl (congrArg (fun q:Gp×Bool=>AV.tuple [.agg (cGp q.1),.bool q.2]) (aD hc1)).symm
 ·
  refine Bz (AW.seq (Ah (Qp D1 ?_)))
  refine Qp (Qc rfl (X9 c.cond)) ?_
  refine Qp Gt (Qp Br (Qg [] Qw (Cm [_,_]) (Qg [] Qw D1 ?_)))
  refine AOL.Aa6 (y:=.bool _) _ [(25,_),(26,_)] rfl (sF.all ⟨Ent.Aa3 _ _,Ent.Aa3 _ _,trivial⟩) (fun hG=>C8 (by kernel_rfl) rfl rfl (R3 T V c.cond hk)) rfl ?_
  refine Qp E5 (Ag (A5 (fun hc2=>?_) fun hc2=>?_))
  ·
   refine Ah (Qp (Et [_,_,Iq _]) (Co 0 [_,_,Iq _] (_::_) (Qp Bg (Ag (Du ?_)))))
   refine ⟨.inr rfl,[.agg [_,_,Iq _],.bool _],.cons (.box _ _ _ 0 _ _ _ _ rfl rfl rfl rfl rfl rfl) <| .cons (.tmp _ _ rfl) <| .nil,.cons _ (.refl _),?_⟩
   exact Eq.trans rfl (congrArg (fun q:Gp×Bool=>AV.tuple [.agg (cGp q.1),.bool q.2]) (nA hc1 hc2)).symm
  ·
   refine Bz (AW.seq ?_)
   have h2:=K3 hk (V0 hc2)
   have h00:0<c.cond.args.length:=by omega
   have hsz:=Dy h2
   have hk0:=A3 hk (A6 h00)
   have hk1:=A3 hk (Bk h2)
   refine AW.draw mixed (fun _=>True) trivial (by kernel_rfl) ?_
   refine Qn 0 rfl K7 (Qn 1 rfl Dm ?_)
   refine Qn 2 rfl (Af (c:=[Iq _,_,Iq _,Iq _,Iq _,Iq _,Iq _,.str _]) Ai rfl rfl rfl rfl rfl rfl (by decide) (Fq h00)) ?_
   refine Qn 3 rfl D1 (Qn 4 rfl K7 (Qn 5 rfl Dm ?_))
   refine Qn 6 rfl (Af (c:=[Iq _,_,Iq _,Iq _,Iq _,Iq _,Iq _,.str _]) Ai rfl rfl rfl rfl rfl rfl (by decide) (Id h2)) ?_
   refine Qn 7 rfl D1 ?_
   refine Qn 8 rfl (Qc rfl (Z0 _ _ hk0.nodes hk1.nodes (by omega))) ?_
   refine Qn 9 rfl (Cd (v:=.agg [_,_,Iq _]) rfl rfl) ?_
   refine Qn 10 rfl kA ?_
   refine Jx.eff _ _ 11 _ _ rfl (by kernel_rfl) rfl rfl (C7 (k:=0) (v:=.agg _) (cs':=[_,_,Iq _]) (H2:=_::_) Ai rfl rfl rfl rfl (rfl) rfl rfl rfl rfl) (fun _ _ _=>trivial) ?_
   rintro _ _ ⟨rfl,rfl⟩
   refine Qn 12 rfl Bg ?_
   refine Jx.done _ _ (by kernel_rfl) ?_
   refine Ae (AW.ret ?_)
   refine ⟨.inr rfl,[.agg [_,_,Iq _],.bool _],.cons (.box _ _ _ 0 _ _ _ _ rfl rfl rfl rfl rfl rfl) <| .cons (.tmp _ _ rfl) <| .nil,.cons _ (.refl _),?_⟩
   exact Eq.trans rfl (congrArg (fun q:Gp×Bool=>AV.tuple [.agg (cGp q.1),.bool q.2]) (bH hc1 hc2)).symm
theorem wQ (T:List Sc)(V:List Va)(t:Tm)(hk:KOK T V (Hq t)):Ax Tryz.prog 131 [.agg (Cq T V),.agg (Ib t)] (.tuple [.int .i64 (C1 T V t).1,.int .i64 (C1 T V t).2]):=by
 refine Ax.body (n:=16) Ai Tryz.func131 rfl rfl rfl fun H=>?_
 refine Ah (Qp (F5 [_,_]) (Qp (F5 [Iq _,Iq _,Iq _]) (Qp Av (Qp Av (Ag (AW.seq (AW.block (Ah (Qp (Qf [Iq _,Iq _,Iq _]) ?_)))))))))
 refine Qp Bt (Qp A7 (Qp Bg (Ag (A5 (fun hc1=>?_) fun hc1=>?_))))
 ·
  refine Ah (Qp Av (Qp Av (Ag (AW.ret (Bc (Aj ?_))))))
  refine Ko (Iq _) (Iq _) ?_
  exact Eq.trans rfl (congrArg (fun q:Int×Int=>AV.tuple [.int .i64 q.1,.int .i64 q.2]) (zF hc1)).symm
 ·
  refine AW.seq ?_
  refine AW.draw mixed (fun _=>True) trivial (by kernel_rfl) ?_
  refine Qn 0 rfl (Cm [_,_]) (Qn 1 rfl (Cm [Iq _,Iq _,Iq _]) ?_)
  refine Qn 2 rfl (Qc rfl (uC t)) ?_
  refine Qn 3 rfl (Qc rfl (Yk T V _ hk)) ?_
  refine Qn 4 rfl A7 (Qn 5 rfl Bg ?_)
  refine Jx.done _ _ (by kernel_rfl) ?_
  refine Ae (A5 (fun hc2=>?_) fun hc2=>?_)
  ·
   refine Ah (Qp Av (Qp Av (Ag (AW.ret (Bc (Aj ?_))))))
   refine Ko (Iq _) (Iq _) ?_
   exact Eq.trans rfl (congrArg (fun q:Int×Int=>AV.tuple [.int .i64 q.1,.int .i64 q.2]) (yZ hc1 hc2)).symm
  ·
   refine AW.skip (Bs (Ae (Ah (Qp Av (Qp Av (Ag (AW.ret ?_)))))))
   refine Ko (Iq _) (Iq _) ?_
   exact Eq.trans rfl (congrArg (fun q:Int×Int=>AV.tuple [.int .i64 q.1,.int .i64 q.2]) (uD hc1 hc2)).symm
theorem lX (T:List Sc)(V:List Va)(l:List Lit):Ax Tryz.prog 80 [.ptr (tE T V l)] (.bool (Ja (C9 T V l))):=by
 refine Ax.body (n:=18) Ai Tryz.func80 rfl rfl rfl fun H=>?_
 refine Ah (Qp Bg (Dh (Qp zQ ?_)))
 refine Qp (G2 rfl) ?_
 refine Qp (Qf [Iq _,_,_,_]) (Qp (Qf [Iq _,_,_,_]) (Qp Bt (Qp Ng (Qp Br (Qg [] Qw zQ ?_)))))
 refine AOL.Aa6 (y:=.ptr _) _ [(10,_)] rfl (sF.all ⟨Ent.Aa3 _ _,trivial⟩) (fun hG=>G2 rfl) rfl ?_
 refine Qg [(11,_)] Qw (Qf [Iq _,_,_,_]) (Qg [(12,_)] Qw (Qf [_,_,_]) (Qg [(13,_)] Qw Dm ?_))
 refine AOL.Aa6 (y:=Iq _) _ [(14,_)] rfl (sF.all ⟨Ent.Aa3 _ _,trivial⟩) (fun hG=>Ak (n:=(C9 T V l).bs.length) Ai rfl rfl rfl (by simp)) rfl ?_
 refine Qg [(15,_)] Qw Ng (Qp E3 (Qp Bg (Ag (AW.ret ?_))))
 refine Qr (.bool _) ?_
 rfl
theorem Zq (m yb:Nat)(v:Value)(n0:Int)(c1:AV)(ts l:List Tm)(R:List HO)(hts:ts.length≤1048576):Dx Tryz.prog 130 (fJ m yb v (.int .i64 n0) c1 ts R) [.val (.pointer (some ⟨yb,0,none⟩)),.sl 3 (l.map Ib)] (fun r H'=>∃v',r = .int .i64 (B6 (A4 ts l) l)∧H'=fJ m yb v' (.int .i64 n0) c1 (A4 ts l) R):=by
 have hsc:∀c∈(ts.map Ib),Bh c=true:=Fo fun _=>rfl
 refine Dx.body (n:=55) Ai Tryz.func130 rfl rfl rfl ?_
 refine Ah (Qp Av (Ag (AW.seq (Ah (Qp C6 ?_)))))
 refine Qp (Ak (n:=l.length) Ai rfl rfl rfl (by simp)) ?_
 refine Qp A7 (Ag (A5 (fun hc1=>?_) fun hc1=>?_))
 ·
  have hnil:=nil_of hc1
  subst hnil
  refine Ah (Qp Av (Ag (Du ?_)))
  refine ⟨.inr rfl,[Iq _],.cons (.tmp _ _ rfl) <| .nil,_,.refl _,?_⟩
  exact ⟨_,rfl,rfl⟩
 ·
  obtain ⟨t,l,rfl⟩:=ne_cons hc1
  refine Bz ?_
  refine AW.cut (fun (w:Value)=>(⟨[(0,.val (.pointer (some ⟨yb,0,none⟩))),(1,.sl 3 ((t::l).map Ib))],fJ m yb w (.int .i64 n0) c1 (A4 ts (t::l)) R,55⟩:St)) (fun (w:Value)=>True) ?_ ?_
  ·
   refine AW.seq ?_
   refine AW.draw mixed (fun H'=>_∈H'∧_∈H') ⟨(List.mem_of_getElem? (i:=1) rfl),(List.mem_of_getElem? (i:=2) rfl)⟩ (by kernel_rfl) ?_
   refine Qn 0 rfl H4 ?_
   refine Qn 1 rfl (Bn rfl) ?_
   refine Qn 2 rfl Ir ?_
   refine Qn 3 rfl (OpP.Aa8 (fun k=>A0 (k:=k) (c:=.val _) Ai rfl rfl rfl rfl) (fun _ h=>h.1)) ?_
   refine Qn 4 rfl C6 ?_
   refine Qn 5 rfl (Af (c:=[Iq _,Iq _,Iq _]) Ai rfl rfl rfl rfl rfl rfl (by decide) (rfl)) ?_
   refine Qn 6 rfl (Cm [Iq _,Iq _,Iq _]) ?_
   refine Qn 7 rfl (OpP.Aa8 (fun k=>P3 (i:=k) (eq:=Ht t) Ai rfl rfl rfl rfl rfl (by kernel_rfl) rfl rfl (rfl) (cC t _) (zT t ts) (yK t ts)) (fun _ h=>h.2)) ?_
   refine Qn 8 rfl Mx (Qn 9 rfl Jq (Qn 10 rfl kA (Qn 11 rfl Av (Qn 12 rfl Bg ?_))))
   refine Jx.done _ _ (by kernel_rfl) ?_
   refine Ae (Ah (Qp Br (Qp Gt (Ag (A5 (fun hc2=>?_) fun hc2=>?_)))))
   ·
    have hnew:ts.contains t=false:=by simpa using hc2
    refine AW.seq ?_
    refine AW.draw mixed (fun H'=>_∈H') (List.mem_of_getElem? (i:=1) rfl) (by kernel_rfl) ?_
    refine Qn 0 rfl H4 (Qn 1 rfl H4 ?_)
    refine Qn 2 rfl (Bn rfl) ?_
    refine Qn 3 rfl Ir ?_
    refine Qn 4 rfl (OpP.Aa8 (fun k=>A0 (k:=k) (c:=.row _ _ _) Ai rfl rfl rfl rfl) (fun _ h=>h)) ?_
    refine Qn 5 rfl C6 ?_
    refine Qn 6 rfl (Af (c:=[Iq _,Iq _,Iq _]) Ai rfl rfl rfl rfl rfl rfl (by decide) (rfl)) ?_
    refine Qn 7 rfl (Cm [Iq _,Iq _,Iq _]) ?_
    refine Qn 8 rfl (A1 (es:=[[Iq _,Iq _,Iq _]]) Ai rfl rfl rfl rfl rfl rfl rfl rfl rfl) ?_
    refine Jx.eff _ _ 9 _ _ rfl (by kernel_rfl) rfl rfl (Dn (k:=0) Ai rfl rfl rfl rfl rfl rfl rfl rfl (Hg rfl) (hsc) (by simp;omega) (by simp [maxLen];omega)) (by rintro _ _ ⟨v32,rfl,rfl⟩;simp) ?_
    rintro _ _ ⟨v32,rfl,rfl⟩
    refine Qn 10 rfl (Bn rfl) ?_
    refine Qn 11 rfl Ir ?_
    refine Jx.last _ _ 12 _ _ rfl (by kernel_rfl) rfl rfl (C7 (k:=1) (v:=.row _ _ _) (cs':=[Iq _,_,_,_]) (H2:=_::_::_::_) Ai rfl rfl rfl rfl (rfl) rfl rfl rfl rfl) (by kernel_rfl) ?_
    rintro _ _ ⟨rfl,rfl⟩
    refine Ae ?_
    refine AW.draw mixed (fun H'=>_∈H') (List.mem_of_getElem? (i:=1) rfl) (by kernel_rfl) ?_
    refine Qn 0 rfl H4 ?_
    refine Qn 1 rfl (Bn rfl) ?_
    refine Qn 2 rfl Ir ?_
    refine Qn 3 rfl (OpP.Aa8 (fun k=>A0 (k:=k) (c:=.val _) Ai rfl rfl rfl rfl) (fun _ h=>h)) ?_
    refine Qn 4 rfl C6 ?_
    refine Qn 5 rfl (Af (c:=[Iq _,Iq _,Iq _]) Ai rfl rfl rfl rfl rfl rfl (by decide) (rfl)) ?_
    refine Qn 6 rfl (Cm [Iq _,Iq _,Iq _]) (Qn 7 rfl H4 ?_)
    refine Qn 8 rfl (Bn rfl) ?_
    refine Qn 9 rfl Ir ?_
    refine Qn 10 rfl (OpP.Aa8 (fun k=>A0 (k:=k) (c:=.row _ _ _) Ai rfl rfl rfl rfl) (fun _ h=>h)) ?_
    refine Qn 11 rfl (Mt (n:=ts.length+1) Ai rfl rfl rfl (by simp)) ?_
    refine Jx.last _ _ 12 _ _ rfl (by kernel_rfl) rfl rfl (Tl (i:=2) (eq:=Ht t) (H2:=_::_::_::_) Ai rfl rfl rfl rfl rfl rfl rfl (rfl) (cC t _) rfl (qS hnew) rfl) (by kernel_rfl) ?_
    rintro _ _ ⟨rfl,rfl⟩
    refine Ae ?_
    refine ⟨v32,?_,GS.trans (GS.heapTo (unk_new hnew)) (GS.weaken ⟨rfl,rfl,trivial⟩ (.refl _))⟩
    trivial
   ·
    have hold:ts.contains t=true:=by simpa using hc2
    refine Bz ?_
    refine ⟨v,?_,GS.trans (GS.heapTo (unk_old hold)) (GS.weaken ⟨rfl,rfl,trivial⟩ (.refl _))⟩
    trivial
  ·
   rintro w _
   refine AW.seq ?_
   refine AW.draw mixed (fun H'=>_∈H'∧_∈H') ⟨(List.mem_of_getElem? (i:=1) rfl),(List.mem_of_getElem? (i:=2) rfl)⟩ (by kernel_rfl) ?_
   refine Qn 0 rfl H4 ?_
   refine Qn 1 rfl (Bn rfl) ?_
   refine Qn 2 rfl Ir ?_
   refine Qn 3 rfl (OpP.Aa8 (fun k=>A0 (k:=k) (c:=.val _) Ai rfl rfl rfl rfl) (fun _ h=>h.1)) ?_
   refine Qn 4 rfl C6 ?_
   refine Qn 5 rfl (Af (c:=[Iq _,Iq _,Iq _]) Ai rfl rfl rfl rfl rfl rfl (by decide) (rfl)) ?_
   refine Qn 6 rfl (Cm [Iq _,Iq _,Iq _]) ?_
   refine Qn 7 rfl (OpP.Aa8 (fun k=>Jj (i:=k) (eq:=Ht t) Ai rfl rfl rfl rfl rfl (by kernel_rfl) rfl rfl (rfl) (cC t _) (look_y (Yb t l ts))) (fun _ h=>h.2)) ?_
   refine Qn 8 rfl Av ?_
   refine Jx.done _ _ (by kernel_rfl) ?_
   refine Ae (AW.ret ?_)
   refine ⟨.inr rfl,[Iq _],.cons (.tmp _ _ rfl) <| .nil,_,.refl _,?_⟩
   exact ⟨_,rfl,rfl⟩
theorem Ok (bb:Nat)(v:Value)(es:List (List AV))(R:List HO)(x z most:Int)(hel:es.length≤1048576)(hsc:∀c∈es,Bh c=true):Dx Tryz.prog 128 (.row v es.length 94 3 :: .box bb 88 [.row v 3 es]::R) [.int .i64 x,.int .i64 z,.int .i64 most,.val (.pointer (some ⟨bb,0,none⟩))] (fun r H'=>∃v',r = .tuple []∧H' = .row v' (es ++ [Rw ⟨x,z,most⟩]).length 94 3 :: .box bb 88 [.row v' 3 (es ++ [Rw ⟨x,z,most⟩])]::R):=by
 refine Dx.body (n:=14) Ai Tryz.func128 rfl rfl rfl ?_
 refine AW.region ?_
 refine AOL.Aa9 (A0 (k:=1) (c:=.row _ _ _) Ai rfl rfl rfl rfl) rfl rfl ?_
 refine Qp A2 (Qp A2 (Qp A2 (Qp (Et [Iq _,Iq _,Iq _]) ?_)))
 refine Qp (A1 (es:=[[Iq _,Iq _,Iq _]]) Ai rfl rfl rfl rfl rfl rfl rfl rfl rfl) ?_
 refine Qe (Dn (k:=0) Ai rfl rfl rfl rfl rfl rfl rfl rfl (Hg rfl) (hsc) (by simp;omega) (by simp [maxLen];omega)) ?_
 rintro _ _ ⟨v13,rfl,rfl⟩
 refine Co 1 [_] (_::_::_) (AOL.nil ?_)
 refine ⟨.inl rfl,[],.nil,_,.refl _,?_⟩
 exact ⟨_,rfl,rfl⟩

set_option maxHeartbeats 6400000
set_option maxRecDepth 20000

theorem fH (T:List Sc)(V:List Va)(l:List Lit)(hll:l.length≤4096)(hlk:Vk T V l):Ax Tryz.prog 79 [.agg (Cq T V),.sl 9 (l.map G5)] (.ptr (tE T V l)):=by
 have hgo:=Lp hlk
 have hgl:=hgo.len
 have hgb:=hgo.bnds
 refine Ax.body (n:=179) Ai Tryz.func79 rfl rfl rfl fun H=>?_
 refine Ah (Qp (F5 [_,_]) (Qp N8 (Dh ?_)))
 refine Qe (Nc) ?_
 rintro _ _ ⟨b19,rfl,rfl⟩
 refine Qp (Pg (l0:=[.int .i64 0,.val (.slice none 0 0),.val (.slice none 0 0),.val (.map none)]) (l:=[Iq _,_,_,_]) Ai rfl rfl (by kernel_rfl) rfl) ?_
 refine Qe (Vb (v:=.agg _) (cs:=[Iq _,_,_,_]) rfl rfl (rfl)) ?_
 rintro _ _ ⟨b21,rfl,rfl⟩
 refine Qp N8 ?_
 refine AOL.ghost (GS.cellRow 0 2 143 3 rfl rfl rfl rfl) ?_
 refine Dh ?_
 refine Qe (Al (l:=[.val (.slice none 0 0)]) (by kernel_rfl)) ?_
 rintro _ _ ⟨b6,rfl,rfl⟩
 refine AOL.ghost (GS.cellRow 0 0 94 3 rfl rfl rfl rfl) ?_
 refine Dh ?_
 refine Qp (Bf (l:=[]) (l':=[.val _]) rfl rfl) ?_
 refine Qp (C3 (v:=.fn _ _ _) rfl) ?_
 refine Ag (AW.seq (Ah (Qp C6 ?_)))
 refine Qp (Ak (n:=l.length) Ai rfl rfl rfl (by simp)) ?_
 refine Qp A2 (Ag (AW.block ?_))
 refine AW.Aa5 (fun (p:Nat×Sy×Value×Value×List (List AV))=>(⟨[(2,.ptr (Cq T V)),(5,.val (.pointer (some ⟨b21,0,none⟩))),(6,.val (.pointer (some ⟨b6,0,none⟩))),(7,.fn (.func 128) [] [.val (.pointer (some ⟨b6,0,none⟩))]),(23,.sl 9 (l.map G5)),(24,.int .i64 l.length),(25,.int .i64 (p.1:Int))],.row p.2.2.2.1 p.2.2.2.2.length 94 3 :: .box b6 88 [.row p.2.2.2.1 3 p.2.2.2.2]::fJ b19 b21 p.2.2.1 (.int .i64 0) (.val (.slice none 0 0)) p.2.1.ts H,179⟩:St)) (fun (p:Nat×Sy×Value×Value×List (List AV))=>p.1≤l.length∧p.2.1=Ci T V (l.take p.1)∧p.2.2.2.2=p.2.1.bs.map Rw) (fun (p:Nat×Sy×Value×Value×List (List AV))=>l.length-p.1) ((0,⟨[],[]⟩,.slice none 0 0,.slice none 0 0,[])) ?_ (GS.weaken ⟨rfl,rfl,rfl,rfl,rfl,rfl,rfl,trivial⟩ (.refl _)) ?_
 · exact ⟨Nat.zero_le _,rfl,rfl⟩
 ·
  rintro p hR
  have hok:=Lp (vR hlk p.1)
  rw [←hR.2.1] at hok
  have hkl:(l.take p.1).length≤4096:=by rw [List.length_take];omega
  have htl:=hok.len
  have hbl:=hok.bnds
  have hel:p.2.2.2.2.length≤8192:=by rw [hR.2.2,List.length_map];omega
  have hsb:∀c∈p.2.2.2.2,Bh c=true:=by rw [hR.2.2];exact Fo fun _=>rfl
  have hx:=tP (ts:=[]) (l:=[]) (n:=0)
  refine Ah (Qp Cl (Ag (AW.seq (A5 (fun hc1=>?_) fun hc1=>?_))))
  ·
   obtain ⟨c,hc⟩:=B4 hc1
   have hlt:=Bb hc
   have hcm:=List.mem_of_getElem? hc
   have hck:=(hlk c hcm).1
   have hcs:=(hlk c hcm).2
   have hgn:=Re hck hcs
   have hgr:=hgn.rest
   refine Bz (AW.seq (AW.block (Ah ?_)))
   refine Qp (Af (c:=[Iq _,_,Iq _,Iq _,Iq _,Iq _,Iq _,.str _,.bool _]) Ai rfl rfl rfl rfl rfl rfl (by omega) (Bj hc)) ?_
   refine Qp (Cm [Iq _,_,Iq _,Iq _,Iq _,Iq _,Iq _,.str _,.bool _]) ?_
   refine Qe (Al (l:=[.int .i64 0,.sl 8 [],.int .i64 0,.int .i64 0,.int .i64 0,.int .i64 0,.int .i64 0,.str [],.bool false]) (by kernel_rfl)) ?_
   rintro _ _ ⟨b9,rfl,rfl⟩
   refine Co 0 [Iq _,_,Iq _,Iq _,Iq _,Iq _,Iq _,.str _,.bool _] (_::_::_::_::_::_::_) ?_
   refine AOL.ghost (GS.Aa4 (t:=9) 0 rfl rfl) ?_
   refine Dh (Qp (Cm [_,_]) (Qp (Cm [Iq _,_,Iq _,Iq _,Iq _,Iq _,Iq _,.str _,.bool _]) ?_))
   refine Qp (Qc rfl (sP T V c hck hcs)) ?_
   refine Qp Mx ?_
   refine Qp (Cd (v:=.agg [_,_,Iq _]) rfl rfl) ?_
   refine Qp kA ?_
   refine Qe (Al (l:=[.sl 3 [],.sl 3 [],.int .i64 0]) (by kernel_rfl)) ?_
   rintro _ _ ⟨b10,rfl,rfl⟩
   refine Co 0 [_,_,Iq _] (_::_::_::_::_::_::_) (Qp Bg ?_)
   refine AOL.ghost (GS.Aa4 (t:=10) 0 rfl rfl) ?_
   refine Ag (AW.seq (Ah (Qp Br (Qp Gt (Ag (A5 (fun hc2=>?_) fun hc2=>?_))))))
   ·
    refine AW.exit ?_
    refine A8 (Bw (Ae (AW.region (Qp Fx (Qp A2 (Ag ?_))))))
    refine ⟨(p.1+1,p.2),?_,?_,GS.weaken ⟨rfl,rfl,rfl,rfl,rfl,rfl,rfl,trivial⟩ (.refl _)⟩
    · exact ⟨hlt,vS hc hR.2.1 hc2,hR.2.2⟩
    · simp only;omega
   ·
    have hnum:=hc2
    refine Bz (Ah (Qp H4 (Qp (Qf [_,_,Iq _]) (Qp Dm ?_))))
    refine Qe (Fr (by kernel_rfl) rfl rfl (Dx.front3 (R:=_::_::_) 4 3 2 rfl rfl rfl rfl (Zq b19 b21 _ 0 (.val (.slice none 0 0)) p.2.1.ts (Aa T V c).1.plus _ (by omega)))) ?_
    rintro _ _ ⟨w1,rfl,rfl⟩
    refine Qp Av (Dh (Qp H4 (Qp (Qf [_,Iq _]) (Qp Dm ?_))))
    refine Qe (Fr (by kernel_rfl) rfl rfl (Dx.front3 (R:=_::_::_) 2 1 0 rfl rfl rfl rfl (Zq b19 b21 _ 0 (.val (.slice none 0 0)) (A4 p.2.1.ts (Aa T V c).1.plus) (Aa T V c).1.minus _ (by have:=T5 p.2.1.ts (Aa T V c).1.plus;omega)))) ?_
    rintro _ _ ⟨w2,rfl,rfl⟩
    refine Qp Av (Dh (Qp (Qf [Iq _,_,Iq _,Iq _,Iq _,Iq _,Iq _,.str _,.bool _]) (Qp (Qf [Iq _,_,Iq _,Iq _,Iq _,Iq _,Iq _,.str _,.bool _]) (Qp Bt (Qp Av (Ag (AW.block (AW.seq (Ah ?_)))))))))
    refine Qp A2 (Qp A7 (Qp Br (Qg [] Qw (Qf [.bool _]) (Qg [(65,_)] Qw kE (Qp E3 (Qp Bg (Ag (A5 (fun hc3=>?_) fun hc3=>?_))))))))
    ·
     refine Bz (A5 (fun hc4=>?_) fun hc4=>?_)
     ·
      refine AW.region ?_
      refine Qp (Bl (v:=.fn _ _ _) rfl) ?_
      refine Qp A2 (Qp A2 (Qp (Qf [Iq _]) (Qp Bt ?_)))
      refine Qp (Xx rfl rfl (by constructor <;> omega)) ?_
      refine Qe (Jm (by kernel_rfl) rfl rfl rfl (Dx.front2 (R:=_::_::_::_) 4 3 rfl rfl rfl (Ok b6 _ p.2.2.2.2 _ (B6 (A4 p.2.1.ts (Aa T V c).1.plus) (Aa T V c).1.plus) (B6 (A4 (A4 p.2.1.ts (Aa T V c).1.plus) (Aa T V c).1.minus) (Aa T V c).1.minus) (0-(Aa T V c).1.rest) (Nat.le_trans hel (by decide)) hsb))) ?_
      rintro _ _ ⟨u1,rfl,rfl⟩
      refine AOL.nil (Bs (Bs (Ae (AW.region (Qp Fx (Qp A2 (Ag ?_)))))))
      refine ⟨(p.1+1,⟨(A4 (A4 p.2.1.ts (Aa T V c).1.plus) (Aa T V c).1.minus),p.2.1.bs ++ [⟨(B6 (A4 p.2.1.ts (Aa T V c).1.plus) (Aa T V c).1.plus),(B6 (A4 (A4 p.2.1.ts (Aa T V c).1.plus) (Aa T V c).1.minus) (Aa T V c).1.minus),0-(Aa T V c).1.rest⟩]⟩,w2,u1,(p.2.2.2.2 ++ [Rw ⟨(B6 (A4 p.2.1.ts (Aa T V c).1.plus) (Aa T V c).1.plus),(B6 (A4 (A4 p.2.1.ts (Aa T V c).1.plus) (Aa T V c).1.minus) (Aa T V c).1.minus),0-(Aa T V c).1.rest⟩])),?_,?_,GS.weaken ⟨rfl,rfl,rfl,rfl,rfl,rfl,rfl,trivial⟩ (.refl _)⟩
      · exact ⟨hlt,Lg hc hR.2.1 hnum (bd_1 ‹(c.cond.op==1&&c.neg)=true›),Me hR.2.2⟩
      · simp only;omega
     ·
      exact absurd (hc4.symm.trans hc3) (by decide)
    ·
     refine AW.region (Qp A2 (Qp A7 (Qp Br (Qg [] Qw (Qf [.bool _]) (Qg [(71,_)] Qw kE (Qg [(72,_)] Qw Gt (Qp E3 (Qp Bg (Ag (A5 (fun hc5=>?_) fun hc5=>?_))))))))))
     ·
      refine AW.region ?_
      refine Qp (Bl (v:=.fn _ _ _) rfl) ?_
      refine Qp A2 (Qp A2 (Qp (Qf [Iq _]) (Qp Bt ?_)))
      refine Qp (Xx rfl rfl (by constructor <;> omega)) ?_
      refine Qe (Jm (by kernel_rfl) rfl rfl rfl (Dx.front2 (R:=_::_::_::_) 4 3 rfl rfl rfl (Ok b6 _ p.2.2.2.2 _ (B6 (A4 p.2.1.ts (Aa T V c).1.plus) (Aa T V c).1.plus) (B6 (A4 (A4 p.2.1.ts (Aa T V c).1.plus) (Aa T V c).1.minus) (Aa T V c).1.minus) (0-(Aa T V c).1.rest) (Nat.le_trans hel (by decide)) hsb))) ?_
      rintro _ _ ⟨u1,rfl,rfl⟩
      refine AOL.nil (Bs (Bs (Ae (AW.region (Qp Fx (Qp A2 (Ag ?_)))))))
      refine ⟨(p.1+1,⟨(A4 (A4 p.2.1.ts (Aa T V c).1.plus) (Aa T V c).1.minus),p.2.1.bs ++ [⟨(B6 (A4 p.2.1.ts (Aa T V c).1.plus) (Aa T V c).1.plus),(B6 (A4 (A4 p.2.1.ts (Aa T V c).1.plus) (Aa T V c).1.minus) (Aa T V c).1.minus),0-(Aa T V c).1.rest⟩]⟩,w2,u1,(p.2.2.2.2 ++ [Rw ⟨(B6 (A4 p.2.1.ts (Aa T V c).1.plus) (Aa T V c).1.plus),(B6 (A4 (A4 p.2.1.ts (Aa T V c).1.plus) (Aa T V c).1.minus) (Aa T V c).1.minus),0-(Aa T V c).1.rest⟩])),?_,?_,GS.weaken ⟨rfl,rfl,rfl,rfl,rfl,rfl,rfl,trivial⟩ (.refl _)⟩
      · exact ⟨hlt,Lg hc hR.2.1 hnum (bd_2 ‹(c.cond.op==8 && !c.neg)=true›),Me hR.2.2⟩
      · simp only;omega
     ·
      refine AW.seq (Ah (Qp A2 (Qp A7 (Qp Bg (Ag (A5 (fun hc6=>?_) fun hc6=>?_))))))
      ·
       refine Bz (A5 (fun hc7=>?_) fun hc7=>?_)
       ·
        refine AW.region ?_
        refine Qp (Bl (v:=.fn _ _ _) rfl) ?_
        refine Qp A2 (Qp A2 (Qp (Qf [Iq _]) (Qp Bt ?_)))
        refine Qp (aA rfl rfl rfl (by constructor <;> omega)) ?_
        refine Qe (Jm (by kernel_rfl) rfl rfl rfl (Dx.front2 (R:=_::_::_::_) 4 3 rfl rfl rfl (Ok b6 _ p.2.2.2.2 _ (B6 (A4 (A4 p.2.1.ts (Aa T V c).1.plus) (Aa T V c).1.minus) (Aa T V c).1.minus) (B6 (A4 p.2.1.ts (Aa T V c).1.plus) (Aa T V c).1.plus) ((Aa T V c).1.rest-1) (Nat.le_trans hel (by decide)) hsb))) ?_
        rintro _ _ ⟨u1,rfl,rfl⟩
        refine AOL.nil (Bs (Bs (Ae (AW.region (Qp Fx (Qp A2 (Ag ?_)))))))
        refine ⟨(p.1+1,⟨(A4 (A4 p.2.1.ts (Aa T V c).1.plus) (Aa T V c).1.minus),p.2.1.bs ++ [⟨(B6 (A4 (A4 p.2.1.ts (Aa T V c).1.plus) (Aa T V c).1.minus) (Aa T V c).1.minus),(B6 (A4 p.2.1.ts (Aa T V c).1.plus) (Aa T V c).1.plus),(Aa T V c).1.rest-1⟩]⟩,w2,u1,(p.2.2.2.2 ++ [Rw ⟨(B6 (A4 (A4 p.2.1.ts (Aa T V c).1.plus) (Aa T V c).1.minus) (Aa T V c).1.minus),(B6 (A4 p.2.1.ts (Aa T V c).1.plus) (Aa T V c).1.plus),(Aa T V c).1.rest-1⟩])),?_,?_,GS.weaken ⟨rfl,rfl,rfl,rfl,rfl,rfl,rfl,trivial⟩ (.refl _)⟩
        · exact ⟨hlt,Lg hc hR.2.1 hnum (bd_3 ‹(c.cond.op==1&&c.neg)=false› ‹(c.cond.op==8 && !c.neg)=false› ‹(c.cond.op==1)=true›),Me hR.2.2⟩
        · simp only;omega
       ·
        exact absurd (hc7.symm.trans hc6) (by decide)
      ·
       refine AW.region (Qp A2 (Qp A7 (Qp Bg (Ag (A5 (fun hc8=>?_) fun hc8=>?_)))))
       ·
        refine AW.region ?_
        refine Qp (Bl (v:=.fn _ _ _) rfl) ?_
        refine Qp A2 (Qp A2 (Qp (Qf [Iq _]) (Qp Bt ?_)))
        refine Qp (aA rfl rfl rfl (by constructor <;> omega)) ?_
        refine Qe (Jm (by kernel_rfl) rfl rfl rfl (Dx.front2 (R:=_::_::_::_) 4 3 rfl rfl rfl (Ok b6 _ p.2.2.2.2 _ (B6 (A4 (A4 p.2.1.ts (Aa T V c).1.plus) (Aa T V c).1.minus) (Aa T V c).1.minus) (B6 (A4 p.2.1.ts (Aa T V c).1.plus) (Aa T V c).1.plus) ((Aa T V c).1.rest-1) (Nat.le_trans hel (by decide)) hsb))) ?_
        rintro _ _ ⟨u1,rfl,rfl⟩
        refine AOL.nil (Bs (Bs (Ae (AW.region (Qp Fx (Qp A2 (Ag ?_)))))))
        refine ⟨(p.1+1,⟨(A4 (A4 p.2.1.ts (Aa T V c).1.plus) (Aa T V c).1.minus),p.2.1.bs ++ [⟨(B6 (A4 (A4 p.2.1.ts (Aa T V c).1.plus) (Aa T V c).1.minus) (Aa T V c).1.minus),(B6 (A4 p.2.1.ts (Aa T V c).1.plus) (Aa T V c).1.plus),(Aa T V c).1.rest-1⟩]⟩,w2,u1,(p.2.2.2.2 ++ [Rw ⟨(B6 (A4 (A4 p.2.1.ts (Aa T V c).1.plus) (Aa T V c).1.minus) (Aa T V c).1.minus),(B6 (A4 p.2.1.ts (Aa T V c).1.plus) (Aa T V c).1.plus),(Aa T V c).1.rest-1⟩])),?_,?_,GS.weaken ⟨rfl,rfl,rfl,rfl,rfl,rfl,rfl,trivial⟩ (.refl _)⟩
        · exact ⟨hlt,Lg hc hR.2.1 hnum (bd_4 ‹(c.cond.op==1&&c.neg)=false› ‹(c.cond.op==8 && !c.neg)=false› ‹(c.cond.op==8)=true›),Me hR.2.2⟩
        · simp only;omega
       ·
        refine Ah (Qp A2 (Qp A7 (Qp Br (Qg [] Qw (Qf [.bool _]) (Qg [(98,_)] Qw kE (Qg [(99,_)] Qw Gt (Qp E3 (Qp Bg (Ag (A5 (fun hc9=>?_) fun hc9=>?_))))))))))
        ·
         refine AW.region ?_
         refine Qp (Bl (v:=.fn _ _ _) rfl) ?_
         refine Qp A2 (Qp A2 (Qp (Qf [Iq _]) (Qp Bt ?_)))
         refine Qp (Xx rfl rfl (by constructor <;> omega)) ?_
         refine Qp (aA rfl rfl rfl (by constructor <;> omega)) ?_
         refine Qe (Jm (by kernel_rfl) rfl rfl rfl (Dx.front2 (R:=_::_::_::_) 4 3 rfl rfl rfl (Ok b6 _ p.2.2.2.2 _ (B6 (A4 p.2.1.ts (Aa T V c).1.plus) (Aa T V c).1.plus) (B6 (A4 (A4 p.2.1.ts (Aa T V c).1.plus) (Aa T V c).1.minus) (Aa T V c).1.minus) (0-(Aa T V c).1.rest-1) (Nat.le_trans hel (by decide)) hsb))) ?_
         rintro _ _ ⟨u1,rfl,rfl⟩
         refine AOL.nil (Bs (Bs (Ae (AW.region (Qp Fx (Qp A2 (Ag ?_)))))))
         refine ⟨(p.1+1,⟨(A4 (A4 p.2.1.ts (Aa T V c).1.plus) (Aa T V c).1.minus),p.2.1.bs ++ [⟨(B6 (A4 p.2.1.ts (Aa T V c).1.plus) (Aa T V c).1.plus),(B6 (A4 (A4 p.2.1.ts (Aa T V c).1.plus) (Aa T V c).1.minus) (Aa T V c).1.minus),0-(Aa T V c).1.rest-1⟩]⟩,w2,u1,(p.2.2.2.2 ++ [Rw ⟨(B6 (A4 p.2.1.ts (Aa T V c).1.plus) (Aa T V c).1.plus),(B6 (A4 (A4 p.2.1.ts (Aa T V c).1.plus) (Aa T V c).1.minus) (Aa T V c).1.minus),0-(Aa T V c).1.rest-1⟩])),?_,?_,GS.weaken ⟨rfl,rfl,rfl,rfl,rfl,rfl,rfl,trivial⟩ (.refl _)⟩
         · exact ⟨hlt,Lg hc hR.2.1 hnum (bd_5 ‹(c.cond.op==1&&c.neg)=false› ‹(c.cond.op==8 && !c.neg)=false› ‹(c.cond.op==1)=false› ‹(c.cond.op==8)=false› ‹(c.cond.op==7 && !c.neg)=true›),Me hR.2.2⟩
         · simp only;omega
        ·
         refine Ah (Qp A2 (Qp A7 (Qp Bg (Ag (A5 (fun hc10=>?_) fun hc10=>?_)))))
         ·
          refine AW.region ?_
          refine Qp (Bl (v:=.fn _ _ _) rfl) ?_
          refine Qp A2 (Qp A2 (Qp (Qf [Iq _]) (Qp Bt ?_)))
          refine Qe (Jm (by kernel_rfl) rfl rfl rfl (Dx.front2 (R:=_::_::_::_) 4 3 rfl rfl rfl (Ok b6 _ p.2.2.2.2 _ (B6 (A4 (A4 p.2.1.ts (Aa T V c).1.plus) (Aa T V c).1.minus) (Aa T V c).1.minus) (B6 (A4 p.2.1.ts (Aa T V c).1.plus) (Aa T V c).1.plus) ((Aa T V c).1.rest) (Nat.le_trans hel (by decide)) hsb))) ?_
          rintro _ _ ⟨u1,rfl,rfl⟩
          refine AOL.nil (Bs (Bs (Ae (AW.region (Qp Fx (Qp A2 (Ag ?_)))))))
          refine ⟨(p.1+1,⟨(A4 (A4 p.2.1.ts (Aa T V c).1.plus) (Aa T V c).1.minus),p.2.1.bs ++ [⟨(B6 (A4 (A4 p.2.1.ts (Aa T V c).1.plus) (Aa T V c).1.minus) (Aa T V c).1.minus),(B6 (A4 p.2.1.ts (Aa T V c).1.plus) (Aa T V c).1.plus),(Aa T V c).1.rest⟩]⟩,w2,u1,(p.2.2.2.2 ++ [Rw ⟨(B6 (A4 (A4 p.2.1.ts (Aa T V c).1.plus) (Aa T V c).1.minus) (Aa T V c).1.minus),(B6 (A4 p.2.1.ts (Aa T V c).1.plus) (Aa T V c).1.plus),(Aa T V c).1.rest⟩])),?_,?_,GS.weaken ⟨rfl,rfl,rfl,rfl,rfl,rfl,rfl,trivial⟩ (.refl _)⟩
          · exact ⟨hlt,Lg hc hR.2.1 hnum (bd_6 ‹(c.cond.op==1&&c.neg)=false› ‹(c.cond.op==8 && !c.neg)=false› ‹(c.cond.op==1)=false› ‹(c.cond.op==8)=false› ‹(c.cond.op==7 && !c.neg)=false› ‹(c.cond.op==7)=true›),Me hR.2.2⟩
          · simp only;omega
         ·
          refine Ah ?_
          refine Qp (Bl (v:=.fn _ _ _) rfl) ?_
          refine Qp A2 (Qp A2 (Qp (Qf [Iq _]) (Qp Bt ?_)))
          refine Qp (Xx rfl rfl (by constructor <;> omega)) ?_
          refine Qe (Jm (by kernel_rfl) rfl rfl rfl (Dx.front2 (R:=_::_::_::_) 4 3 rfl rfl rfl (Ok b6 _ p.2.2.2.2 _ (B6 (A4 p.2.1.ts (Aa T V c).1.plus) (Aa T V c).1.plus) (B6 (A4 (A4 p.2.1.ts (Aa T V c).1.plus) (Aa T V c).1.minus) (Aa T V c).1.minus) (0-(Aa T V c).1.rest) (Nat.le_trans hel (by decide)) hsb))) ?_
          rintro _ _ ⟨u1,rfl,rfl⟩
          refine Ag (AW.region ?_)
          refine Qp (Bl (v:=.fn _ _ _) rfl) ?_
          refine Qp A2 (Qp A2 (Qp (Qf [Iq _]) (Qp Bt ?_)))
          refine Qe (Jm (by kernel_rfl) rfl rfl rfl (Dx.front2 (R:=_::_::_::_) 1 0 rfl rfl rfl (Ok b6 _ (p.2.2.2.2 ++ [Rw ⟨(B6 (A4 p.2.1.ts (Aa T V c).1.plus) (Aa T V c).1.plus),(B6 (A4 (A4 p.2.1.ts (Aa T V c).1.plus) (Aa T V c).1.minus) (Aa T V c).1.minus),0-(Aa T V c).1.rest⟩]) _ (B6 (A4 (A4 p.2.1.ts (Aa T V c).1.plus) (Aa T V c).1.minus) (Aa T V c).1.minus) (B6 (A4 p.2.1.ts (Aa T V c).1.plus) (Aa T V c).1.plus) ((Aa T V c).1.rest) (by rw [List.length_append];simp;omega) (fun d hd=>(List.mem_append.1 hd).elim (hsb d) (Hg rfl d))))) ?_
          rintro _ _ ⟨u2,rfl,rfl⟩
          refine AOL.nil (Bs (Bs (Ae (AW.region (Qp Fx (Qp A2 (Ag ?_)))))))
          refine ⟨(p.1+1,⟨(A4 (A4 p.2.1.ts (Aa T V c).1.plus) (Aa T V c).1.minus),p.2.1.bs ++ [⟨(B6 (A4 p.2.1.ts (Aa T V c).1.plus) (Aa T V c).1.plus),(B6 (A4 (A4 p.2.1.ts (Aa T V c).1.plus) (Aa T V c).1.minus) (Aa T V c).1.minus),0-(Aa T V c).1.rest⟩,⟨(B6 (A4 (A4 p.2.1.ts (Aa T V c).1.plus) (Aa T V c).1.minus) (Aa T V c).1.minus),(B6 (A4 p.2.1.ts (Aa T V c).1.plus) (Aa T V c).1.plus),(Aa T V c).1.rest⟩]⟩,w2,u2,((p.2.2.2.2 ++ [Rw ⟨(B6 (A4 p.2.1.ts (Aa T V c).1.plus) (Aa T V c).1.plus),(B6 (A4 (A4 p.2.1.ts (Aa T V c).1.plus) (Aa T V c).1.minus) (Aa T V c).1.minus),0-(Aa T V c).1.rest⟩]) ++ [Rw ⟨(B6 (A4 (A4 p.2.1.ts (Aa T V c).1.plus) (Aa T V c).1.minus) (Aa T V c).1.minus),(B6 (A4 p.2.1.ts (Aa T V c).1.plus) (Aa T V c).1.plus),(Aa T V c).1.rest⟩])),?_,?_,GS.weaken ⟨rfl,rfl,rfl,rfl,rfl,rfl,rfl,trivial⟩ (.refl _)⟩
          · exact ⟨hlt,Lg hc hR.2.1 hnum (bd_7 ‹(c.cond.op==1&&c.neg)=false› ‹(c.cond.op==8 && !c.neg)=false› ‹(c.cond.op==1)=false› ‹(c.cond.op==8)=false› ‹(c.cond.op==7 && !c.neg)=false› ‹(c.cond.op==7)=false›),sK hR.2.2⟩
          · simp only;omega
  ·
   have hte:=C5 hc1
   have hS:=hR.2.1
   rw [hte] at hS
   have hpt:=hgo.terms
   rw [←hS] at hpt hgl
   refine AW.exit ?_
   refine A8 (A8 (Bw (Ae (Ah (Qp H4 (Qp H4 ?_))))))
   refine Qp (Bn rfl) ?_
   refine Qp Ir ?_
   refine AOL.Aa9 (A0 (k:=3) (c:=.row _ _ _) Ai rfl rfl rfl rfl) rfl rfl ?_
   refine Qp (Mt (n:=p.2.1.ts.length) Ai rfl rfl rfl (by simp)) ?_
   refine Qp Fx ?_
   refine Qp (Bn rfl) ?_
   refine Qp Ir (Qp Ir (Co 3 [Iq _,_,_,_] (_::_::_::_::_::_) (Ag (AW.seq (Ah (Qp H4 ?_))))))
   refine Qp (Bn rfl) ?_
   refine Qp Ir ?_
   refine AOL.Aa9 (A0 (k:=3) (c:=.row _ _ _) Ai rfl rfl rfl rfl) rfl rfl ?_
   refine Qp (Mt (n:=p.2.1.ts.length) Ai rfl rfl rfl (by simp)) ?_
   refine Qp A2 ?_
   refine AOL.ghost (GS.cellRow 3 1 94 3 rfl rfl rfl rfl) ?_
   refine Ag (AW.block ?_)
   refine AW.Aa5 (fun (q:Nat×Value×List (List AV))=>(⟨[(2,.ptr (Cq T V)),(5,.val (.pointer (some ⟨b21,0,none⟩))),(6,.val (.pointer (some ⟨b6,0,none⟩))),(133,.row p.2.2.1 3 (p.2.1.ts.map Ib)),(134,.int .i64 p.2.1.ts.length),(135,.int .i64 (q.1:Int))],.row q.2.1 q.2.2.length 94 3 :: .row p.2.2.2.1 p.2.2.2.2.length 94 3 :: .box b6 88 [.row p.2.2.2.1 3 p.2.2.2.2] :: .row p.2.2.1 (p.2.1.ts.map Ib).length 143 3 :: .box b21 141 [.int .i64 ((p.2.1.ts.length:Int)+1),.row q.2.1 3 q.2.2,.row p.2.2.1 3 (p.2.1.ts.map Ib),.val (.map (some b19))] :: .kmap b19 (Uh p.2.1.ts)::H,179⟩:St)) (fun (q:Nat×Value×List (List AV))=>q.1≤p.2.1.ts.length∧q.2.2=(Hn T V 0 (p.2.1.ts.take q.1)).map Rw) (fun (q:Nat×Value×List (List AV))=>p.2.1.ts.length-q.1) ((0,.slice none 0 0,[])) ?_ (GS.weaken ⟨rfl,rfl,rfl,rfl,rfl,rfl,trivial⟩ (.refl _)) ?_
   · exact ⟨Nat.zero_le _,rfl⟩
   ·
    rintro q hQ
    have hsz:∀c∈q.2.2,Bh c=true:=by rw [hQ.2];exact Fo fun _=>rfl
    have hzl:q.2.2.length≤2*p.2.1.ts.length:=by rw [hQ.2,List.length_map,dC,List.length_take];omega
    refine Ah (Qp Cl (Ag (AW.seq (A5 (fun hc11=>?_) fun hc11=>?_))))
    ·
     obtain ⟨t,ht⟩:=B4 hc11
     have hlt2:=Bb ht
     have htm:=List.mem_of_getElem? ht
     refine Bz (AW.seq (AW.block (Ah (Qp A2 ?_))))
     refine Qp (Kp (c:=[Iq _,Iq _,Iq _]) Ai rfl rfl rfl rfl rfl rfl (by omega) (Bj ht)) ?_
     refine Qp (Cm [Iq _,Iq _,Iq _]) ?_
     refine Qe (Al (l:=[.int .i64 0,.int .i64 0,.int .i64 0]) (by kernel_rfl)) ?_
     rintro _ _ ⟨b16,rfl,rfl⟩
     refine Qp Av (Co 0 [Iq _,Iq _,Iq _] (_::_::_::_::_::_::_::_) ?_)
     refine AOL.ghost (GS.Aa4 (t:=16) 0 rfl rfl) ?_
     refine Dh (Qp (Cm [_,_]) (Qp (Cm [Iq _,Iq _,Iq _]) ?_))
     refine Qp (Qc rfl (wQ T V t (hpt t htm))) ?_
     refine Qp Mx (Qp Jq (Qp Jq (Qp Av (Qp Av (Ag ?_)))))
     have hlr:=Sj (T:=T) (V:=V) t
     refine AW.region (Qp H4 (Qp H4 ?_))
     refine Qp (Bn rfl) ?_
     refine Qp Ir (Qp Ir ?_)
     refine AOL.Aa9 (A0 (k:=4) (c:=.row _ _ _) Ai rfl rfl rfl rfl) rfl rfl ?_
     refine Qp A2 (Qp Fx (Qp A2 (Qp (Et [Iq _,Iq _,Iq _]) (Qp A2 (Qp Fx (Qp A2 ?_))))))
     refine Qp (Xx rfl rfl (by constructor <;> omega)) ?_
     refine Qp (Et [Iq _,Iq _,Iq _]) ?_
     refine Qp (A1 (es:=[[Iq _,Iq _,Iq _],[Iq _,Iq _,Iq _]]) Ai rfl rfl rfl rfl rfl rfl rfl rfl rfl) ?_
     refine Qe (Dn (k:=0) Ai rfl rfl rfl rfl rfl rfl rfl rfl ((sc_two rfl rfl)) (hsz) (by simp;omega) (by simp [maxLen];omega)) ?_
     rintro _ _ ⟨v162,rfl,rfl⟩
     refine Qp (Bn rfl) ?_
     refine Qp Ir (Qp Ir (Co 4 [Iq _,_,_,_] (_::_::_::_::_::_::_) (AOL.nil (Bs (Ae (AW.region (Qp Fx (Qp A2 (Ag ?_)))))))))
     refine ⟨(q.1+1,v162,q.2.2 ++ [Rw ⟨(q.1:Int)+1,0,(C1 T V t).2⟩,Rw ⟨0,(q.1:Int)+1,0-(C1 T V t).1⟩]),?_,?_,GS.weaken ⟨rfl,rfl,rfl,rfl,rfl,rfl,trivial⟩ (.refl _)⟩
     · exact ⟨hlt2,by simp only;rw [zA ht,List.map_append,hQ.2];rfl⟩
     · simp only;omega
    ·
     have hte2:=C5 hc11
     have hQe:=hQ.2
     rw [hte2] at hQe
     refine AW.exit ?_
     refine A8 (A8 (Bw (Ae (AW.seq ?_))))
     refine AW.ghost (GS.cell (H2:=_::_::_::_::_::_::_) 2 0 rfl rfl rfl rfl G9) ?_
     have hsz:∀c∈q.2.2,Bh c=true:=by rw [hQ.2];exact Fo fun _=>rfl
     have hzl:q.2.2.length≤2*p.2.1.ts.length:=by rw [hQ.2,List.length_map,dC,List.length_take];omega
     refine AW.draw mixed (fun H'=>_∈H'∧_∈H') ⟨(List.mem_of_getElem? (i:=4) rfl),(List.mem_of_getElem? (i:=2) rfl)⟩ (by kernel_rfl) ?_
     refine Qn 0 rfl H4 (Qn 1 rfl H4 ?_)
     refine Qn 2 rfl (Bn rfl) ?_
     refine Qn 3 rfl Ir (Qn 4 rfl Ir ?_)
     refine Qn 5 rfl (OpP.Aa8 (fun k=>A0 (k:=k) (c:=.row _ _ _) Ai rfl rfl rfl rfl) (fun _ h=>h.1)) ?_
     refine Qn 6 rfl (OpP.Aa8 (fun k=>A0 (k:=k) (c:=.sl _ _) Ai rfl rfl rfl rfl) (fun _ h=>h.2)) ?_
     refine Jx.eff _ _ 7 _ _ rfl (by kernel_rfl) rfl rfl (Dn (k:=0) Ai rfl rfl rfl rfl rfl rfl rfl rfl (hsb) (hsz) (by simp;omega) (by simp [maxLen];omega)) (by rintro _ _ ⟨v174,rfl,rfl⟩;simp) ?_
     rintro _ _ ⟨v174,rfl,rfl⟩
     refine Qn 8 rfl (Bn rfl) ?_
     refine Qn 9 rfl Ir (Qn 10 rfl Ir ?_)
     refine Jx.last _ _ 11 _ _ rfl (by kernel_rfl) rfl rfl (C7 (k:=4) (v:=.row _ _ _) (cs':=[Iq _,_,_,_]) (H2:=_::_::_::_::_::_::_) Ai rfl rfl rfl rfl (rfl) rfl rfl rfl rfl) (by kernel_rfl) ?_
     rintro _ _ ⟨rfl,rfl⟩
     refine Ae (AW.seq ?_)
     refine AW.ghost (GS.cell (H2:=_::_::_::_::_::_::_) 4 1 rfl rfl rfl rfl G9) ?_
     refine AW.ghost (GS.cell (H2:=_::_::_::_::_::_::_) 4 2 rfl rfl rfl rfl G9) ?_
     refine AW.ghost (GS.cell (H2:=_::_::_::_::_::_::_) (c':=.junk) 4 3 rfl rfl rfl rfl (fun _ _ _ _=>.junk _)) ?_
     refine AW.ghost (GS.Aa4 (t:=5) 4 rfl rfl) ?_
     refine AW.region (Qp zQ (Qp Qap (Ag (AW.ret ?_))))
     refine ⟨.inr rfl,[.ptr _],.cons (.tmp _ _ rfl) <| .nil,.cons _ (.cons _ (.cons _ (.cons _ (.cons _ (.refl _))))),?_⟩
     exact Eq.trans rfl (cSy_eq hS hQe hR.2.2)
theorem d_Zone (T:List Sc)(hl:T.length≤1048576)(hst:∀s∈T,Jn s)(V:List Va)(hvl:V.length≤1048576)(l:List Lit)(hll:l.length≤1048576)(hls:∀c∈l,At c.cond≤1048576):Ax Tryz.prog 43 [.sl 2 (T.map N1),.sl 2 (V.map U8),.sl 9 (l.map G5)] (.tuple [.agg (T6 (Q3 T V l).zone),.sl 8 ((Q3 T V l).terms.map Fv),.int .i64 (Q3 T V l).err]):=by
 refine Ax.body (n:=52) Ai Tryz.func43 rfl rfl rfl fun H=>?_
 refine Ah ?_
 refine Qe (Al (l:=[.int .i64 0,.sl 3 []]) (by kernel_rfl)) ?_
 rintro _ _ ⟨b6,rfl,rfl⟩
 refine Qp (B2 (z:=8) rfl) ?_
 refine Qp Av (Dh (Qp C6 (Qp C6 (Qp (Et [_,_]) ?_))))
 refine Qe (Al (l:=[.sl 2 [],.sl 2 []]) (by kernel_rfl)) ?_
 rintro _ _ ⟨b9,rfl,rfl⟩
 refine Co 0 [_,_] (_::_::_) ?_
 refine AOL.ghost (GS.Aa4 (t:=9) 0 rfl rfl) ?_
 refine Ag (AW.seq (Ah (Qp (Cm [_,_]) (Qp C6 ?_))))
 refine Qp (Qc rfl (vO T hl hst V hvl l hll hls)) ?_
 refine Qp Av (Dh (Qp A2 (Qp Ct (Ag (A5 (fun hc1=>?_) fun hc1=>?_)))))
 ·
  refine Ah (Qp (Et [Iq _,_]) (Qp A2 (Co 0 [Iq _,_] (_::_) ?_)))
  refine Qp (B2 (z:=8) rfl) ?_
  refine Qp Av (Ag (Du ?_))
  refine ⟨.inr rfl,[.agg [Iq _,_],.sl _ _,Iq _],.cons (.box _ _ _ 0 _ _ _ _ rfl rfl rfl rfl rfl rfl) <| .cons (.tmp _ _ rfl) <| .cons (.tmp _ _ rfl) <| .nil,.cons _ (.refl _),?_⟩
  exact Eq.trans rfl (congrArg (fun q:Zr=>AV.tuple [.agg (T6 q.zone),.sl 8 (q.terms.map Fv),.int .i64 q.err]) (Zone_1 hc1)).symm
 ·
  have hok:=rF hc1
  have hgl:=(Lp hok.1).len
  have hol:=hok.2
  refine Bz (Ah (Qp (Cm [_,_]) (Qp C6 ?_)))
  refine Qp (Qc rfl (fH T V l (Nat.le_trans hok.2 (by decide)) hok.1)) ?_
  refine Qp Qap (Ag (AW.seq (Ah (Qp zQ ?_))))
  refine Qp (Qc rfl (lX T V l)) ?_
  refine Qp Gt (Ag (A5 (fun hc2=>?_) fun hc2=>?_))
  ·
   refine Ah (Qp (Et [Iq _,_]) (Co 0 [Iq _,_] (_::_) ?_))
   refine Qp (B2 (z:=8) rfl) ?_
   refine Qp Av (Ag (Du ?_))
   refine ⟨.inr rfl,[.agg [Iq _,_],.sl _ _,Iq _],.cons (.box _ _ _ 0 _ _ _ _ rfl rfl rfl rfl rfl rfl) <| .cons (.tmp _ _ rfl) <| .cons (.tmp _ _ rfl) <| .nil,.cons _ (.refl _),?_⟩
   exact Eq.trans rfl (congrArg (fun q:Zr=>AV.tuple [.agg (T6 q.zone),.sl 8 (q.terms.map Fv),.int .i64 q.err]) (Zone_2 hc1 hc2)).symm
  ·
   refine Bz (Ah (Qp N8 ?_))
   refine AOL.ghost (GS.row (t:=12) 30 8 rfl) ?_
   refine Ag (AW.seq (Ah (Qp zQ ?_)))
   refine Qp (G2 rfl) ?_
   refine Qp (Qf [_,_]) (Qp Dm ?_)
   refine Qp (Ak (n:=(Ci T V l).ts.length) Ai rfl rfl rfl (by simp)) ?_
   refine Qp A2 (Ag (AW.block ?_))
   refine AW.Aa5 (fun (p:Nat×List (List AV)×Value)=>(⟨[(6,.val (.pointer (some ⟨b6,0,none⟩))),(11,.ptr (tE T V l)),(12,.row p.2.2 8 p.2.1),(35,.sl 3 ((Ci T V l).ts.map Ib)),(36,.int .i64 (Ci T V l).ts.length),(37,.int .i64 (p.1:Int))],.row p.2.2 p.2.1.length 30 8 :: .box b6 90 [.int .i64 0,.sl 3 []]::H,52⟩:St)) (fun (p:Nat×List (List AV)×Value)=>p.1≤(Ci T V l).ts.length∧p.2.1=((Ci T V l).ts.take p.1).map fun t=>cE (Hq t)) (fun (p:Nat×List (List AV)×Value)=>(Ci T V l).ts.length-p.1) ((0,[],.slice none 0 0)) ?_ (GS.weaken ⟨rfl,rfl,rfl,rfl,rfl,rfl,trivial⟩ (.refl _)) ?_
   · exact ⟨Nat.zero_le _,rfl⟩
   ·
    rintro p hR
    have hsc:∀c∈p.2.1,Bh c=true:=by rw [hR.2];exact Fo fun _=>rfl
    have hpl:p.2.1.length≤p.1:=by rw [hR.2];simp;omega
    refine Ah (Qp Cl (Ag (AW.seq (A5 (fun hc3=>?_) fun hc3=>?_))))
    ·
     obtain ⟨t,ht⟩:=B4 hc3
     have hlt:=Bb ht
     refine Bz (AW.seq (AW.block (Ah ?_)))
     refine Qp (Af (c:=[Iq _,Iq _,Iq _]) Ai rfl rfl rfl rfl rfl rfl (by omega) (Bj ht)) ?_
     refine Qp (Cm [Iq _,Iq _,Iq _]) ?_
     refine Qe (Al (l:=[.int .i64 0,.int .i64 0,.int .i64 0]) (by kernel_rfl)) ?_
     rintro _ _ ⟨b14,rfl,rfl⟩
     refine Co 0 [Iq _,Iq _,Iq _] (_::_::_::_) ?_
     refine AOL.ghost (GS.Aa4 (t:=14) 0 rfl rfl) ?_
     refine Ag (AW.region ?_)
     refine Qp (Bl (v:=.row _ _ _) rfl) ?_
     refine Qp (Cm [Iq _,Iq _,Iq _]) ?_
     refine Qp (Qc rfl (uC t)) ?_
     refine Qp (A1 (es:=[[Iq _,_,Iq _,Iq _,Iq _,Iq _,Iq _,.str _]]) Ai rfl rfl rfl rfl rfl rfl rfl rfl rfl) ?_
     refine Qe (Dn (k:=0) Ai rfl rfl rfl rfl rfl rfl rfl rfl (Hg rfl) (hsc) (by simp;omega) (by simp [maxLen];omega)) ?_
     rintro _ _ ⟨v45,rfl,rfl⟩
     refine Qp (C3 (v:=.row _ _ _) rfl) ?_
     refine AOL.nil (Bs (Ae (AW.region (Qp Fx (Qp A2 (Ag ?_))))))
     refine ⟨(p.1+1,p.2.1 ++ [cE (Hq t)],v45),?_,?_,GS.weaken ⟨rfl,rfl,rfl,rfl,rfl,rfl,trivial⟩ (.refl _)⟩
     · exact ⟨hlt,by simp only;rw [Cu ht,hR.2,List.map_append];rfl⟩
     · simp only;omega
    ·
     have hte:=C5 hc3
     have hall:=hR.2
     rw [hte] at hall
     refine AW.exit ?_
     refine A8 (A8 (Bw (Ae (Ah (Qp zQ ?_)))))
     refine Qp (G2 rfl) ?_
     refine Qp (Qf [Iq _,_,_,_]) (Qp (Cm [Iq _,_]) ?_)
     refine Qp (Bl (v:=.row _ _ _) rfl) ?_
     refine Co 1 [Iq _,_] (_::_::_) ?_
     refine AOL.ghost (GS.unrow 51 rfl) ?_
     refine Qp Vy (Qp Av (Ag (AW.ret ?_)))
     refine ⟨.inr rfl,[.agg [Iq _,_],.sl _ _,Iq _],.cons (.box _ _ _ 1 _ _ _ _ rfl rfl rfl rfl rfl rfl) <| .cons (.tmp _ _ rfl) <| .cons (.tmp _ _ rfl) <| .nil,.cons _ (.cons _ (.refl _)),?_⟩
     rw [hall,show ((Ci T V l).ts.map fun t=>cE (Hq t))=((Ci T V l).ts.map Hq).map Fv by rw [List.map_map];exact List.map_congr_left fun t _=>(Jd _).symm]
     exact Eq.trans rfl (congrArg (fun q:Zr=>AV.tuple [.agg (T6 q.zone),.sl 8 (q.terms.map Fv),.int .i64 q.err]) (Zone_3 hc1 hc2)).symm

end Go.Proofs.YtkddpedfbicbeaaGreatDoor
