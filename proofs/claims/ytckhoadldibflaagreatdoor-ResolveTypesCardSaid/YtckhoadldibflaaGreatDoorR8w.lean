/-
  Walks of patterns: nodes. No condition.
-/
import Derived.Test.YtckhoadldibflaaGreatDoorK01
import Derived.Test.YtckhoadldibflaaGreatDoorK14
import Derived.Test.YtckhoadldibflaaGreatDoorK19
import Derived.Test.YtckhoadldibflaaGreatDoorK21
import Derived.Test.YtckhoadldibflaaGreatDoorK20
import Derived.KernelRfl
namespace Go.Proofs.YtckhoadldibflaaGreatDoor
open Go Go.Aw
set_option maxHeartbeats 6400000
set_option maxRecDepth 20000
set_option linter.unusedVariables false
set_option linter.unusedSimpArgs false

theorem tF {p a:Pt}{k:Nat}(h:p.args[k]? = some a):((p.args.take k).map Hq).sum+Hq a+1≤Hq p:=by
 rw [Jc p]
 have h2:=fB p.args (k+1)
 rw [Fs h,List.map_append,List.sum_append,List.map_singleton,List.sum_singleton] at h2
 omega
theorem oL (a b:Nat):max (a:Int) (b:Int)=((max a b:Nat):Int):=by omega
theorem jV {p:Pt}(h:(decide (p.op<0)||decide (11≤p.op))=false):0≤p.op∧p.op<11:=by
 rw [Bool.or_eq_false_iff] at h
 have h1:=of_decide_eq_false h.1
 have h2:=of_decide_eq_false h.2
 omega
theorem M5 (u:Bool)(n m:Int):Ap Tryz.prog 295 [.bool u,.int .i64 n,.int .i64 m] (.bool (wth u n m)):=by
 refine Ap.body (n:=18) tok Tryz.func295 rfl rfl rfl fun H=>?_
 refine Ad (Qp A3 (By (Qp Bq (Qp Fz (Qp Bq (Qg [] Qw A4 (Qg [(10,_)] Qw F6 (Qg [(11,_)] Qw Bq (Qg [] Qw A4 ?_)))))))))
 refine Qg [] Qw A4 ?_
 refine AOL.Aap (y:=.bool _) _ [(13,_),(14,_)] rfl (iB.all ⟨Ent.Aao _ _,Ent.Aao _ _,trivial⟩) (fun hG=>mT rfl rfl) rfl ?_
 refine Qg [(12,_),(15,_)] Qw Et (Qp Cy (Qp A3 (Aa (AW.ret ?_))))
 refine Qr (.bool _) ?_
 rfl
theorem G2 (u:Bool)(n:Int):Ap Tryz.prog 296 [.bool u,.int .i64 n] (.bool (unu u n)):=by
 refine Ap.body (n:=10) tok Tryz.func296 rfl rfl rfl fun H=>?_
 refine Ad (Qp A3 (By (Qp Bq (Qp Bq (Qg [] Qw A4 (Qg [(7,_)] Qw Av (Qp Cy (Qp A3 (Aa ?_)))))))))
 refine AW.ret ?_
 refine Qr (.bool _) ?_
 rfl
theorem oB (p:Pt)(hc:Cq p.cond≤1048576)(hl:p.args.length≤1048576):Ap Tryz.prog 254 [.agg (cPt p)] (.int .i64 (Uw p)):=by
 refine Ap.body (n:=113) tok Tryz.func254 rfl rfl rfl fun H=>?_
 refine Ad (Qp (Eu [Iq _,_,Iq _,Iq _,Iq _,Iq _,Iq _,_,Iq _,Iq _,Iq _,Iq _,Iq _,.str _]) (Qp A0 (Aa (AW.seq (Ad (Qp (Qf [Iq _,_,Iq _,Iq _,Iq _,Iq _,Iq _,_,Iq _,Iq _,Iq _,Iq _,Iq _,.str _]) (Qp Bt (Qp B7 (Qp Bq ?_)))))))))
 refine Qg [] Qw (Qf [Iq _,_,Iq _,Iq _,Iq _,Iq _,Iq _,_,Iq _,Iq _,Iq _,Iq _,Iq _,.str _]) (Qg [(9,_)] Qw Bt (Qg [(10,_)] Qw F6 (Qp Cy (Aa (Au (fun hc1=>?_) fun hc1=>?_)))))
 ·
  refine Ad (Qp A0 (Aa (Cx ?_)))
  refine Qr (Iq _) ?_
  exact Eq.trans rfl (congrArg (fun q:Int=>AV.int .i64 q) (ck_1 hc1)).symm
 ·
  refine Bl (AW.seq ?_)
  have hop:=jV hc1
  refine (oO hop.1 hop.2).elim fun rest hrest=>?_
  refine AW.region (Qp (Qf [Iq _,_,Iq _,Iq _,Iq _,Iq _,Iq _,_,Iq _,Iq _,Iq _,Iq _,Iq _,.str _]) (Qp Bt ?_))
  refine Qp (Kj (cs':=yO (Oj p.op)++rest) tok ⟨_,by simp [globals],fun _ h=>h⟩ rfl rfl rfl rfl (hop.1) (hop.2) hrest rfl) ?_
  refine Qp (B2 [Iq _,Iq _,.bool _,.bool _,.bool _,.bool _]) ?_
  refine Qe (An (l:=[.int .i64 0,.int .i64 0,.bool false,.bool false,.bool false,.bool false]) (by kernel_rfl)) ?_
  rintro _ _ ⟨b3,rfl,rfl⟩
  refine B0 0 [Iq _,Iq _,.bool _,.bool _,.bool _,.bool _] (_::_) ?_
  refine AOL.ghost (GS.freeze (t:=3) 0 rfl rfl) ?_
  refine Aa (AW.seq (AW.block (Ad (Qp (Qf [_,Iq _,Iq _,Iq _,Iq _,Iq _,_,Iq _,Iq _,Iq _,Iq _,Iq _,.str _]) (Qp Dg ?_)))))
  refine Qp (Ax (n:=p.args.length) tok rfl rfl rfl (by simp)) ?_
  refine Qp (Qf [Iq _,Iq _,.bool _,.bool _,.bool _,.bool _]) (Qp Bt (Qp B7 (Qp Bq (Qg [] Qw (Qf [_,Iq _,Iq _,Iq _,Iq _,Iq _,_,Iq _,Iq _,Iq _,Iq _,Iq _,.str _]) (Qg [(25,_)] Qw Dg ?_)))))
  refine AOL.Aap (y:=Iq _) _ [(26,_)] rfl (iB.all ⟨Ent.Aao _ _,trivial⟩) (fun hG=>Ax (n:=p.args.length) tok rfl rfl rfl (by simp)) rfl ?_
  refine Qg [] Qw (Qf [Iq _,.bool _,.bool _,.bool _,.bool _]) (Qg [(28,_)] Qw Bt ?_)
  refine AOL.Aap (y:=.bool _) _ [(27,_),(29,_)] rfl (iB.all ⟨Ent.Aao _ _,Ent.Aao _ _,trivial⟩) (fun hG=>Ou rfl rfl) rfl ?_
  refine Qp Cy (Qp A3 (Aa (Au (fun hc2=>?_) fun hc2=>?_)))
  ·
   refine Ad (Qp A0 (Aa (AW.ret (Ao (Ai ?_)))))
   refine Qr (Iq _) ?_
   exact Eq.trans rfl (congrArg (fun q:Int=>AV.int .i64 q) (ck_2 hc1 hc2)).symm
  ·
   refine Ad (Qp (Qf [.bool _,.bool _,.bool _,.bool _]) (Qp Yj (Qp (Qf [Iq _,Iq _,Iq _,Iq _,Iq _,_,Iq _,Iq _,Iq _,Iq _,Iq _,.str _]) (Qp Bt ?_))))
   refine Qp (Qc rfl (M5 _ _ _)) ?_
   refine Qp Fz (Qp Bq (Qg [] Qw (Qf [.bool _,.bool _,.bool _,.bool _]) (Qg [(40,_)] Qw Yj (Qg [] Qw (Qf [Iq _,Iq _,Iq _,Iq _,_,Iq _,Iq _,Iq _,Iq _,Iq _,.str _]) (Qg [(42,_)] Qw Bt ?_)))))
   refine AOL.Aap (y:=.bool _) _ [(41,_),(43,_)] rfl (iB.all ⟨Ent.Aao _ _,Ent.Aao _ _,trivial⟩) (fun hG=>Ed (by kernel_rfl) rfl rfl (M5 _ _ _)) rfl ?_
   refine Qg [(44,_)] Qw Fz (Qp Cy (Qp Bq (Qg [] Qw (Qf [.bool _,.bool _]) (Qg [(48,_)] Qw Yj (Qg [] Qw (Qf [Iq _,Iq _,Iq _,_,Iq _,Iq _,Iq _,Iq _,Iq _,.str _]) (Qg [(50,_)] Qw Bt ?_))))))
   refine AOL.Aap (y:=.bool _) _ [(49,_),(51,_)] rfl (iB.all ⟨Ent.Aao _ _,Ent.Aao _ _,trivial⟩) (fun hG=>Ed (by kernel_rfl) rfl rfl (M5 _ _ _)) rfl ?_
   refine Qg [(52,_)] Qw Fz (Qp Cy (Qp Bq (Qg [] Qw (Qf [.bool _]) (Qg [(56,_)] Qw Yj (Qg [] Qw (Qf [Iq _,Iq _,_,Iq _,Iq _,Iq _,Iq _,Iq _,.str _]) (Qg [(58,_)] Qw Bt ?_))))))
   refine AOL.Aap (y:=.bool _) _ [(57,_),(59,_)] rfl (iB.all ⟨Ent.Aao _ _,Ent.Aao _ _,trivial⟩) (fun hG=>Ed (by kernel_rfl) rfl rfl (M5 _ _ _)) rfl ?_
   refine Qg [(60,_)] Qw Fz (Qp Cy (Qp A3 (Aa (Au (fun hc3=>?_) fun hc3=>?_))))
   ·
    refine Ad (Qp A0 (Aa (AW.ret (Ao (Ai ?_)))))
    refine Qr (Iq _) ?_
    exact Eq.trans rfl (congrArg (fun q:Int=>AV.int .i64 q) (ck_3 hc1 hc2 hc3)).symm
   ·
    refine AW.skip (Bc (Af (AW.seq (Ad (Qp (Qf [.bool _,.bool _,.bool _]) (Qp Yj (Aa (Au (fun hc4=>?_) fun hc4=>?_))))))))
    ·
     refine Ad (Qp gC (Qp Wf ?_))
     refine Qp (Qc rfl (vW p.cond hc)) ?_
     refine Qp A0 (By (Qp A4 (Qp B9 (Aa (Au (fun hc5=>?_) fun hc5=>?_)))))
     ·
      refine Ad (Qp A4 (Qp A0 (Aa (Cx ?_))))
      refine Qr (Iq _) ?_
      exact Eq.trans rfl (congrArg (fun q:Int=>AV.int .i64 q) (ck_4 hc1 hc2 hc3 hc4 hc5)).symm
     ·
      refine Bl (AW.seq (Ad (Qp (Qf [.bool _,.bool _,.bool _]) (Qp Yj (Qp Fz (Qp Bq (Qg [] Qw gC (Qg [(75,_)] Qw Wf (Qg [] Qw (Ea [Iq _,_,Iq _,Iq _,Iq _,Iq _,Iq _,.str _]) ?_)))))))))
      refine AOL.Aap (y:=.bool _) _ [(76,_),(77,_)] rfl (iB.all ⟨Ent.Aao _ _,Ent.Aao _ _,trivial⟩) (fun hG=>Ed (by kernel_rfl) rfl rfl (wX p.cond Sk hc)) rfl ?_
      refine Qg [(78,_)] Qw Fz (Qp Et (Qp Bq (Qg [] Qw (Qf [.bool _,.bool _,.bool _,.bool _]) (Qg [(82,_)] Qw Yj (Qg [] Qw (Qf [Iq _,Iq _,Iq _,Iq _,Iq _,_,Iq _,Iq _,Iq _,Iq _,Iq _,.str _]) (Qg [(84,_)] Qw Bt ?_))))))
      refine AOL.Aap (y:=.bool _) _ [(83,_),(85,_)] rfl (iB.all ⟨Ent.Aao _ _,Ent.Aao _ _,trivial⟩) (fun hG=>Ed (by kernel_rfl) rfl rfl (G2 _ _)) rfl ?_
      refine Qg [(86,_)] Qw Fz (Qp Cy (Qp Bq (Qg [] Qw (Qf [.bool _,.bool _,.bool _,.bool _]) (Qg [(90,_)] Qw Yj (Qg [] Qw (Qf [Iq _,Iq _,Iq _,Iq _,_,Iq _,Iq _,Iq _,Iq _,Iq _,.str _]) (Qg [(92,_)] Qw Bt ?_))))))
      refine AOL.Aap (y:=.bool _) _ [(91,_),(93,_)] rfl (iB.all ⟨Ent.Aao _ _,Ent.Aao _ _,trivial⟩) (fun hG=>Ed (by kernel_rfl) rfl rfl (G2 _ _)) rfl ?_
      refine Qg [(94,_)] Qw Fz (Qp Cy (Qp Bq (Qg [] Qw (Qf [.bool _,.bool _]) (Qg [(98,_)] Qw Yj (Qg [] Qw (Qf [Iq _,Iq _,Iq _,_,Iq _,Iq _,Iq _,Iq _,Iq _,.str _]) (Qg [(100,_)] Qw Bt ?_))))))
      refine AOL.Aap (y:=.bool _) _ [(99,_),(101,_)] rfl (iB.all ⟨Ent.Aao _ _,Ent.Aao _ _,trivial⟩) (fun hG=>Ed (by kernel_rfl) rfl rfl (G2 _ _)) rfl ?_
      refine Qg [(102,_)] Qw Fz (Qp Cy (Qp Bq (Qg [] Qw (Qf [.bool _]) (Qg [(106,_)] Qw Yj (Qg [] Qw (Qf [Iq _,Iq _,_,Iq _,Iq _,Iq _,Iq _,Iq _,.str _]) (Qg [(108,_)] Qw Bt ?_))))))
      refine AOL.Aap (y:=.bool _) _ [(107,_),(109,_)] rfl (iB.all ⟨Ent.Aao _ _,Ent.Aao _ _,trivial⟩) (fun hG=>Ed (by kernel_rfl) rfl rfl (G2 _ _)) rfl ?_
      refine Qg [(110,_)] Qw Fz (Qp Cy (Aa (Au (fun hc6=>?_) fun hc6=>?_)))
      ·
       refine Ad (Qp A0 (Aa (Cx ?_)))
       refine Qr (Iq _) ?_
       exact Eq.trans rfl (congrArg (fun q:Int=>AV.int .i64 q) ((tX hc1 hc2 hc3 (by rw [hc5];simp)).trans (if_pos hc6))).symm
      ·
       refine Bl (Ad (Qp A0 (Aa (AW.ret ?_))))
       refine Qr (Iq _) ?_
       exact Eq.trans rfl (congrArg (fun q:Int=>AV.int .i64 q) ((tX hc1 hc2 hc3 (by rw [hc5];simp)).trans (Bu hc6))).symm
    ·
     refine Bl (AW.seq (Ad (Qp (Qf [.bool _,.bool _,.bool _]) (Qp Yj (Qp Fz (Qp Bq (Qg [] Qw gC (Qg [(75,_)] Qw Wf (Qg [] Qw (Ea [Iq _,_,Iq _,Iq _,Iq _,Iq _,Iq _,.str _]) ?_)))))))))
     refine AOL.Aap (y:=.bool _) _ [(76,_),(77,_)] rfl (iB.all ⟨Ent.Aao _ _,Ent.Aao _ _,trivial⟩) (fun hG=>Ed (by kernel_rfl) rfl rfl (wX p.cond Sk hc)) rfl ?_
     refine Qg [(78,_)] Qw Fz (Qp Et (Qp Bq (Qg [] Qw (Qf [.bool _,.bool _,.bool _,.bool _]) (Qg [(82,_)] Qw Yj (Qg [] Qw (Qf [Iq _,Iq _,Iq _,Iq _,Iq _,_,Iq _,Iq _,Iq _,Iq _,Iq _,.str _]) (Qg [(84,_)] Qw Bt ?_))))))
     refine AOL.Aap (y:=.bool _) _ [(83,_),(85,_)] rfl (iB.all ⟨Ent.Aao _ _,Ent.Aao _ _,trivial⟩) (fun hG=>Ed (by kernel_rfl) rfl rfl (G2 _ _)) rfl ?_
     refine Qg [(86,_)] Qw Fz (Qp Cy (Qp Bq (Qg [] Qw (Qf [.bool _,.bool _,.bool _,.bool _]) (Qg [(90,_)] Qw Yj (Qg [] Qw (Qf [Iq _,Iq _,Iq _,Iq _,_,Iq _,Iq _,Iq _,Iq _,Iq _,.str _]) (Qg [(92,_)] Qw Bt ?_))))))
     refine AOL.Aap (y:=.bool _) _ [(91,_),(93,_)] rfl (iB.all ⟨Ent.Aao _ _,Ent.Aao _ _,trivial⟩) (fun hG=>Ed (by kernel_rfl) rfl rfl (G2 _ _)) rfl ?_
     refine Qg [(94,_)] Qw Fz (Qp Cy (Qp Bq (Qg [] Qw (Qf [.bool _,.bool _]) (Qg [(98,_)] Qw Yj (Qg [] Qw (Qf [Iq _,Iq _,Iq _,_,Iq _,Iq _,Iq _,Iq _,Iq _,.str _]) (Qg [(100,_)] Qw Bt ?_))))))
     refine AOL.Aap (y:=.bool _) _ [(99,_),(101,_)] rfl (iB.all ⟨Ent.Aao _ _,Ent.Aao _ _,trivial⟩) (fun hG=>Ed (by kernel_rfl) rfl rfl (G2 _ _)) rfl ?_
     refine Qg [(102,_)] Qw Fz (Qp Cy (Qp Bq (Qg [] Qw (Qf [.bool _]) (Qg [(106,_)] Qw Yj (Qg [] Qw (Qf [Iq _,Iq _,_,Iq _,Iq _,Iq _,Iq _,Iq _,.str _]) (Qg [(108,_)] Qw Bt ?_))))))
     refine AOL.Aap (y:=.bool _) _ [(107,_),(109,_)] rfl (iB.all ⟨Ent.Aao _ _,Ent.Aao _ _,trivial⟩) (fun hG=>Ed (by kernel_rfl) rfl rfl (G2 _ _)) rfl ?_
     refine Qg [(110,_)] Qw Fz (Qp Cy (Aa (Au (fun hc7=>?_) fun hc7=>?_)))
     ·
      refine Ad (Qp A0 (Aa (Cx ?_)))
      refine Qr (Iq _) ?_
      exact Eq.trans rfl (congrArg (fun q:Int=>AV.int .i64 q) ((tX hc1 hc2 hc3 (by rw [hc4];rfl)).trans (if_pos hc7))).symm
     ·
      refine Bl (Ad (Qp A0 (Aa (AW.ret ?_))))
      refine Qr (Iq _) ?_
      exact Eq.trans rfl (congrArg (fun q:Int=>AV.int .i64 q) ((tX hc1 hc2 hc3 (by rw [hc4];rfl)).trans (Bu hc7))).symm
theorem tO (p:Pt)(hp:Hq p≤1048576):Ap Tryz.prog 253 [.agg (cPt p)] (.tuple [.int .i64 (Hq p:Nat),.int .i64 (Yo p:Nat)]):=by
 induction p using Pt.ind
 rename_i p ih
 have hal:=bT p
 refine Ap.body (n:=32) tok Tryz.func253 rfl rfl rfl fun H=>?_
 refine Ad (Qp (Eu [Iq _,_,Iq _,Iq _,Iq _,Iq _,Iq _,_,Iq _,Iq _,Iq _,Iq _,Iq _,.str _]) (Qp A0 (Qp A0 (By (Qp A0 (Qp A0 (Aa (AW.seq (Ad ?_)))))))))
 refine Qp (Qf [_,Iq _,Iq _,Iq _,Iq _,Iq _,_,Iq _,Iq _,Iq _,Iq _,Iq _,.str _]) (Qp Dg ?_)
 refine Qp (Ax (n:=p.args.length) tok rfl rfl rfl (by simp)) ?_
 refine Qp A4 (Aa (AW.block ?_))
 refine AW.Aat (fun (q:Nat×Nat×Nat)=>(⟨[(4,.int .i64 (q.2.1:Int)),(5,.int .i64 (q.2.2:Int)),(11,.sl 14 (p.args.map Si)),(12,.int .i64 p.args.length),(13,.int .i64 (q.1:Int))],H,32⟩:St)) (fun (q:Nat×Nat×Nat)=>q.1≤p.args.length∧q.2.1=1+((p.args.take q.1).map Hq).sum∧q.2.2=Q7 (p.args.take q.1)) (fun (q:Nat×Nat×Nat)=>p.args.length-q.1) ((0,1,0)) ?_ (GS.weaken ⟨rfl,rfl,rfl,rfl,rfl,trivial⟩ (.refl _)) ?_
 · exact ⟨Nat.zero_le _,rfl,by rw [List.take_zero,Q7]⟩
 ·
  rintro q hR
  refine Ad (Qp B7 (Aa (AW.seq (Au (fun hc1=>?_) fun hc1=>?_))))
  ·
   obtain ⟨a,ha⟩:=Dl hc1
   have hlt:=Cm ha
   have hm:=List.mem_of_getElem? ha
   have hsm:=Xm hm
   have hps:=tF (p:=p) ha
   have hq1:=hR.2.1
   refine Bl (AW.seq (AW.block (Ad ?_)))
   refine Qp (Ag (c:=[Iq _,_,Iq _,Iq _,Iq _,Iq _,Iq _,_,Iq _,Iq _,Iq _,Iq _,Iq _,.str _]) tok rfl rfl rfl rfl rfl rfl (by omega) (wR ha)) ?_
   refine Qp (B2 [Iq _,_,Iq _,Iq _,Iq _,Iq _,Iq _,_,Iq _,Iq _,Iq _,Iq _,Iq _,.str _]) ?_
   refine Qe (An (l:=[.int .i64 0,.sl 14 [],.int .i64 0,.int .i64 0,.int .i64 0,.int .i64 0,.int .i64 0,.sl 8 [],.int .i64 0,.int .i64 0,.int .i64 0,.int .i64 0,.int .i64 0,.str []]) (by kernel_rfl)) ?_
   rintro _ _ ⟨b7,rfl,rfl⟩
   refine B0 0 [Iq _,_,Iq _,Iq _,Iq _,Iq _,Iq _,_,Iq _,Iq _,Iq _,Iq _,Iq _,.str _] (_::_) ?_
   refine AOL.ghost (GS.freeze (t:=7) 0 rfl rfl) ?_
   refine By (Qp (B2 [Iq _,_,Iq _,Iq _,Iq _,Iq _,Iq _,_,Iq _,Iq _,Iq _,Iq _,Iq _,.str _]) ?_)
   refine Qp (Qc rfl (ih a hm (by have:=Xm hm;omega))) ?_
   refine Qp L0 (Qp Jw (Qp Jw (Qp A0 (Qp A0 (Aa (AW.region (Qp A4 (Qp A4 (Qp Ei ?_)))))))))
   refine Qp A4 (Qp A4 ?_)
   refine Qp (Tk rfl rfl) ?_
   refine Qp A0 (Qp A0 (AOL.nil (Bc (Af (AW.region (Qp Ei (Qp A4 (Aa ?_))))))))
   refine ⟨(q.1+1,q.2.1+Hq a,max q.2.2 (Yo a)),?_,?_,GS.weaken ⟨rfl,congrArg (AV.int .i64) (oL q.2.2 (Yo a)),rfl,rfl,rfl,trivial⟩ (.refl _)⟩
   · exact ⟨hlt,by simp only;rw [Fs ha,hR.2.1];simp;omega,by simp only;rw [Fs ha,Vh,hR.2.2]⟩
   · simp only;omega
  ·
   have hte:=E8 hc1
   have h1:=hR.2.1
   have h2:=hR.2.2
   rw [hte] at h1 h2
   have hdp:=dp_le p
   have hde:=cG p
   refine AW.exit ?_
   refine A7 (A7 (Bp (Af (Ad (Qp A4 (Qp A4 (Qp Ei (Qp A0 (Qp A0 ?_)))))))))
   refine Aa (AW.ret ?_)
   refine L1 (Iq _) (Iq _) ?_
   exact Eq.trans rfl (congrArg (fun q:Nat×Nat=>AV.tuple [.int .i64 (q.1:Int),.int .i64 (q.2:Int)]) (show (q.2.1,q.2.2+1)=(Hq p,Yo p) by rw [h1,h2,Jc,cG];simp;omega))
theorem sM (S:Type)(live:S→Bool)(step:S→Pt→S)(Good:S→Nat→Prop)(hmo:∀s n m,Good s n→m≤n→Good s m)(hgo:∀s q n,Good s (n+1)→Good (step s q) n)(Q:Pt→Prop)(HH:S→List HO)(l:Nat)(rec:Loop)(hrec:rec.params.size=1)(hobj:∀s,live s=true→∃i:Nat,(HH s)[i]? = some (HO.obj l (Obj.loop rec)))(hY:∀s q n,live s=true→Q q→Good s (n+1)→K5 Tryz.prog l rec (HH s) [.agg (cPt q)] (fun r H'=>r = .bool (live (step s q))∧H'=HH (step s q)))(p:Pt)(hp:Hq p≤1048576)(hq:∀q∈Ga p,Q q)(s:S)(m:Nat)(hs:live s=true)(hg:Good s (Hq p+m)):Bw Tryz.prog 188 (HH s) [.agg (cPt p),.val (.func (.yield l) #[] #[])] (fun r H'=>r = .bool (live (Mx live step s (Ga p)))∧H'=HH (Mx live step s (Ga p))):=by
 revert m
 revert s
 induction p using Pt.ind
 rename_i p ih
 intro s hs m hg
 have hal:=bT p
 refine Bw.body (n:=23) tok Tryz.func188 rfl rfl rfl ?_
 refine Ad (Qp (Eu [Iq _,_,Iq _,Iq _,Iq _,Iq _,Iq _,_,Iq _,Iq _,Iq _,Iq _,Iq _,.str _]) (Qp A3 (Aa (AW.seq (AW.seq ?_)))))
 refine AW.regionYk 2 rfl (by kernel_rfl) (by kernel_rfl) ?_
 refine Qp Br (Qp (B2 [Iq _,_,Iq _,Iq _,Iq _,Iq _,Iq _,_,Iq _,Iq _,Iq _,Iq _,Iq _,.str _]) (AOL.nil ?_))
 have hg1:Good s (Hq p-1+m+1):=by rw [show Hq p-1+m+1=Hq p+m by omega];exact hg
 refine ⟨l,rec,_,hobj s hs,rfl,hrec.symm,rfl,hY s p (Hq p-1+m) hs (hq p (tZ p)) hg1,?_⟩
 rintro _ _ ⟨rfl,rfl⟩
 refine Qp Fz (Aa (Au (fun hc1=>?_) fun hc1=>?_))
 ·
  refine Ad (Qp A3 (Aa (Cx ?_)))
  refine ⟨.inr rfl,[.bool _],.cons (.tmp _ _ rfl) <| .nil,_,.refl _,?_⟩
  have hx:=jZ live step hs (show live (step s p)=false by simpa using hc1)
  exact ⟨congrArg AV.bool (by rw [hx];simpa using hc1:false=live _),congrArg HH hx.symm⟩
 ·
  refine Bl (AW.seq (Ad (Qp (Qf [_,Iq _,Iq _,Iq _,Iq _,Iq _,_,Iq _,Iq _,Iq _,Iq _,Iq _,.str _]) (Qp Dg ?_))))
  refine Qp (Ax (n:=p.args.length) tok rfl rfl rfl (by simp)) ?_
  refine Qp A4 (Aa (AW.block ?_))
  have hg2:Good (Mx live step (step s p) ((p.args.take 0).flatMap Ga)) (((p.args.drop 0).map Hq).sum+m):=by have h:=hgo s p (Hq p-1+m) hg1;rw [show Hq p-1=(p.args.map Hq).sum by rw [Jc];rfl] at h;exact h
  refine AW.Aat (fun (k:Nat)=>(⟨[(1,.val (.func (.yield l) #[] #[])),(12,.sl 14 (p.args.map Si)),(13,.int .i64 p.args.length),(14,.int .i64 (k:Int))],HH (Mx live step (step s p) ((p.args.take k).flatMap Ga)),23⟩:St)) (fun (k:Nat)=>k≤p.args.length∧live (Mx live step (step s p) ((p.args.take k).flatMap Ga))=true∧Good (Mx live step (step s p) ((p.args.take k).flatMap Ga)) (((p.args.drop k).map Hq).sum+m)) (fun (k:Nat)=>p.args.length-k) (0) ?_ (GS.weaken ⟨rfl,rfl,rfl,rfl,trivial⟩ (.refl _)) ?_
  · exact ⟨Nat.zero_le _,by simpa [Mx] using hc1,hg2⟩
  ·
   rintro k hR
   refine Ad (Qp B7 (Aa (AW.seq (Au (fun hc2=>?_) fun hc2=>?_))))
   ·
    obtain ⟨a,ha⟩:=Dl hc2
    have hlt:=Cm ha
    have hm:=List.mem_of_getElem? ha
    refine Bl (AW.seq (AW.block (Ad ?_)))
    refine Qp (Ag (c:=[Iq _,_,Iq _,Iq _,Iq _,Iq _,Iq _,_,Iq _,Iq _,Iq _,Iq _,Iq _,.str _]) tok rfl rfl rfl rfl rfl rfl (by omega) (wR ha)) ?_
    refine Qp (B2 [Iq _,_,Iq _,Iq _,Iq _,Iq _,Iq _,_,Iq _,Iq _,Iq _,Iq _,Iq _,.str _]) ?_
    refine Qe (An (l:=[.int .i64 0,.sl 14 [],.int .i64 0,.int .i64 0,.int .i64 0,.int .i64 0,.int .i64 0,.sl 8 [],.int .i64 0,.int .i64 0,.int .i64 0,.int .i64 0,.int .i64 0,.str []]) (by kernel_rfl)) ?_
    rintro _ _ ⟨b6,rfl,rfl⟩
    refine B0 0 [Iq _,_,Iq _,Iq _,Iq _,Iq _,Iq _,_,Iq _,Iq _,Iq _,Iq _,Iq _,.str _] (_::_) ?_
    refine AOL.ghost (GS.freeze (t:=6) 0 rfl rfl) ?_
    refine By (Qp (B2 [Iq _,_,Iq _,Iq _,Iq _,Iq _,Iq _,_,Iq _,Iq _,Iq _,Iq _,Iq _,.str _]) (Qp Br ?_))
    refine Qe (Al (by kernel_rfl) rfl rfl (ih a hm (by have:=Xm hm;omega) (fun q h=>hq q (xC hm h)) _ hR.2.1 (((p.args.drop (k+1)).map Hq).sum+m) (by have h:=hR.2.2;rw [Bj ha,List.map_cons,List.sum_cons,Nat.add_assoc] at h;exact h))) ?_
    rintro _ _ ⟨rfl,rfl⟩
    refine Qp Fz (Aa (Au (fun hc3=>?_) fun hc3=>?_))
    ·
     refine Ad (Qp A3 (Aa (AW.ret (Ao (Ai (Ai (Ao (Ai ?_))))))))
     refine ⟨.inr rfl,[.bool _],.cons (.tmp _ _ rfl) <| .nil,_,.refl _,?_⟩
     have hd:live (Mx live step (step s p) ((p.args.take (k+1)).flatMap Ga))=false:=by rw [Tb live step ha];simpa using hc3
     have hx:=(bX live step hs p).trans (uC live step ha hd)
     exact ⟨congrArg AV.bool (by rw [hx,hd]:false=live _),congrArg HH ((Tb live step ha).symm.trans hx.symm)⟩
    ·
     refine AW.skip (Bc (Af (AW.region (Qp Ei (Qp A4 (Aa ?_))))))
     refine ⟨k+1,?_,?_,GS.trans (GS.heq (congrArg HH (Tb live step ha).symm)) (GS.weaken ⟨rfl,rfl,rfl,rfl,trivial⟩ (.refl _))⟩
     · exact ⟨hlt,by rw [Tb live step ha];simpa using hc3,by rw [Tb live step ha];exact V5 live step hmo hgo (Ga a) _ _ (by have h:=hR.2.2;rw [Bj ha,List.map_cons,List.sum_cons,Nat.add_assoc,←zX] at h;exact h)⟩
     · omega
   ·
    have hte:=E8 hc2
    refine AW.exit ?_
    refine A7 (A7 (Bp (Af (Ad (Qp A3 (Aa (AW.ret ?_)))))))
    refine ⟨.inr rfl,[.bool _],.cons (.tmp _ _ rfl) <| .nil,_,.refl _,?_⟩
    have hx:=bX live step hs p
    have h9:=hR.2.1
    rw [hte] at h9
    exact ⟨congrArg AV.bool (by rw [hx,h9]:true=live _),congrArg HH ((congrArg (fun L:List Pt=>Mx live step (step s p) (L.flatMap Ga)) hte).trans hx.symm)⟩
theorem dJ (p:Pt):Ap Tryz.prog 115 [.agg (cPt p)] (.fn (.func 187) [] [.ptr (cPt p)]):=by
 refine Ap.body (n:=4) tok Tryz.func115 rfl rfl rfl fun H=>?_
 refine Ad (Qp (Eu [Iq _,_,Iq _,Iq _,Iq _,Iq _,Iq _,_,Iq _,Iq _,Iq _,Iq _,Iq _,.str _]) (Qp N8 (By ?_)))
 refine Qp (Bv (l:=[]) (l':=[.ptr _]) rfl rfl) ?_
 refine Qp (A6 (v:=.fn _ _ _) rfl) ?_
 refine Aa (AW.ret ?_)
 refine Qr (.fn _ _ _) ?_
 rfl
theorem Yb (S:Type)(live:S→Bool)(step:S→Pt→S)(Good:S→Nat→Prop)(hmo:∀s n m,Good s n→m≤n→Good s m)(hgo:∀s q n,Good s (n+1)→Good (step s q) n)(Q:Pt→Prop)(HH:S→List HO)(l:Nat)(rec:Loop)(hrec:rec.params.size=1)(hobj:∀s,live s=true→∃i:Nat,(HH s)[i]? = some (HO.obj l (Obj.loop rec)))(hY:∀s q n,live s=true→Q q→Good s (n+1)→K5 Tryz.prog l rec (HH s) [.agg (cPt q)] (fun r H'=>r = .bool (live (step s q))∧H'=HH (step s q)))(p:Pt)(hp:Hq p≤1048576)(hq:∀q∈Ga p,Q q)(s:S)(m:Nat)(hs:live s=true)(hg:Good s (Hq p+m)):Bw Tryz.prog 187 (HH s) [.val (.func (.yield l) #[] #[]),.ptr (cPt p)] (fun r H'=>r = .tuple []∧H'=HH (Mx live step s (Ga p))):=by
 refine Bw.body (n:=6) tok Tryz.func187 rfl rfl rfl ?_
 refine AW.region (Qp (B2 [Iq _,_,Iq _,Iq _,Iq _,Iq _,Iq _,_,Iq _,Iq _,Iq _,Iq _,Iq _,.str _]) (Qp Br ?_))
 refine Qe (Al (by kernel_rfl) rfl rfl (sM S live step Good hmo hgo Q HH l rec hrec hobj hY p hp hq s m hs hg)) ?_
 rintro _ _ ⟨rfl,rfl⟩
 refine AOL.nil ?_
 refine ⟨.inl rfl,[],.nil,_,.refl _,?_⟩
 exact ⟨rfl,rfl⟩

end Go.Proofs.YtckhoadldibflaaGreatDoor
