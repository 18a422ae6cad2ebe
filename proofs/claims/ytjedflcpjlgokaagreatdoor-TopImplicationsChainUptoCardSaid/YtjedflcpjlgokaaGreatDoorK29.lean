/-
  Several texts in one: Y5, Y5b, Y5c, Y5d, Y6, Y1. No condition.
-/
import Derived.Test.YtjedflcpjlgokaaGreatDoorAz
import Derived.Test.YtjedflcpjlgokaaGreatDoorK15
import Derived.Test.YtjedflcpjlgokaaGreatDoorY4
import Derived.KernelRfl
import Derived.Test.YtjedflcpjlgokaaGreatDoorK04
import Derived.Test.YtjedflcpjlgokaaGreatDoorK08
import Derived.Test.YtjedflcpjlgokaaGreatDoorK12
import Derived.Test.YtjedflcpjlgokaaGreatDoorW25
set_option linter.unusedVariables false
set_option linter.unusedSimpArgs false
namespace Go.Proofs.YtjedflcpjlgokaaGreatDoor
open Go Go.Aw
set_option maxHeartbeats 3200000
set_option maxRecDepth 20000

theorem Yp (a b:Ex)(hna:Dc a=0)(hnb:Dc b=0)(hs:At a+At b≤1048576):Ax Tryz.prog 92 [.agg (cE a),.agg (cE b)] (.tuple [.agg (cGp (Cd a b).1),.bool (Cd a b).2]):=by
 have hok:=Yg hna hnb
 have hnd:=Z9 hna hnb
 have htl:=hok.len
 refine Ax.body (n:=75) Ai Tryz.func92 rfl rfl rfl fun H=>?_
 refine Ah (Qp Nc (Qp Nc ?_))
 refine Qe (Am (l:=[.sl 3 [],.sl 3 [],.int .i64 0]) (by kernel_rfl)) ?_
 rintro _ _ ⟨b4,rfl,rfl⟩
 refine Qp Bm (Do ?_)
 refine Qe (Mt) ?_
 rintro _ _ ⟨b10,rfl,rfl⟩
 refine Qp (Nr (l0:=[.val (.map none),.val (.slice none 0 0),.int .i64 0]) (l:=[_,_,_]) Ai rfl rfl (by kernel_rfl) rfl) ?_
 refine Qe (Ub (v:=.agg _) (cs:=[_,_,Iq _]) rfl rfl (rfl)) ?_
 rintro _ _ ⟨b12,rfl,rfl⟩
 refine Qp N2 ?_
 refine AOL.ghost (GS.cellRow 0 1 103 3 rfl rfl rfl rfl) ?_
 refine Ag (AW.seq (Ah (Qp Ho (Qp E7 ?_))))
 refine Qe (E5 (by kernel_rfl) rfl rfl (zJ b10 b12 _ a hna 0 1 (.inl rfl) Kb jG (by omega) _)) ?_
 rintro _ _ ⟨rfl,u0,rfl⟩
 refine Qp Hp (Qp Bu (Qg [] Qw Ho (Qg [] Qw E7 ?_)))
 refine AOL.geX (F:=fun u=>Ng b10 b12 u (Cx a b) (.box b4 147 [.sl 3 [],.sl 3 [],.int .i64 0]::H)) _ [(18,_),(19,_)] rfl (oE.all ⟨Ent.Aab _ _,Ent.Aab _ _,trivial⟩) (fun hG=>E5 (by kernel_rfl) rfl rfl (uX hG (zJ b10 b12 _ b hnb (0+At a) (-1) (.inr rfl) _ (Vp a hna (.inl rfl) jG) (by omega) u0))) (fun hG=>btw_f (m:=b10) (bs:=b12) (v:=u0) (b:=b) (R:=(.box b4 147 [.sl 3 [],.sl 3 [],.int .i64 0]::H)) hG) rfl fun u1=>?_
 refine Qg [(20,_)] Qw Hp (Qp E2 (Ag (A3 (fun hc1=>?_) fun hc1=>?_)))
 ·
  refine Ah (Qp (Fr [_,_,Iq _]) ?_)
  refine Cz 3 [_,_,Iq _] (_::_::_::_::_) ?_
  refine Qp Bm (Ag (Du ?_))
  refine ⟨.inr rfl,[.agg [_,_,Iq _],.bool _],.cons (.box _ _ _ 3 _ _ _ _ rfl rfl rfl rfl rfl rfl) <| .cons (.tmp _ _ rfl) <| .nil,.cons _ (.cons _ (.cons _ (.cons _ (.refl _)))),?_⟩
  exact Eq.trans rfl (congrArg (fun q:Gp×Bool=>AV.tuple [.agg (cGp q.1),.bool q.2]) (btw_no hc1)).symm
 ·
  refine By (Ah (Qp Ho ?_))
  refine Qp (Be rfl) ?_
  refine Qp H9 ?_
  refine AOL.Aah (Ao (k:=1) (c:=Iq _) Ai rfl rfl rfl rfl) rfl rfl ?_
  refine Qp (Nr (l0:=[.val (.slice none 0 0),.val (.slice none 0 0),.int .i64 0]) (l:=[_,_,_]) Ai rfl rfl (by kernel_rfl) rfl) ?_
  refine Qe (Am (l:=[.sl 3 [],.sl 3 [],.int .i64 0]) (by kernel_rfl)) ?_
  rintro _ _ ⟨b7,rfl,rfl⟩
  refine Cz 0 [_,_,Iq _] (_::_::_::_::_::_) ?_
  refine AOL.ghost (GS.cellRow 0 0 103 3 rfl rfl rfl rfl) ?_
  refine AOL.ghost (GS.cellRow 1 1 103 3 rfl rfl rfl rfl) ?_
  refine Ag (AW.seq (Ah (Qp Ho ?_)))
  refine Qp (Be rfl) ?_
  refine Qp H9 ?_
  refine AOL.Aah (Ao (k:=4) (c:=.row _ _ _) Ai rfl rfl rfl rfl) rfl rfl ?_
  refine Qp (Lw (n:=(Cx a b).ts.length) Ai rfl rfl rfl (by simp)) ?_
  refine Qp A0 (Ag (AW.block ?_))
  refine AW.Aad (fun (p:Nat×List Tm×List Tm×Value×Value×List (List AV)×List (List AV))=>(⟨[(2,.ptr (cE a)),(3,.ptr (cE b)),(4,.val (.pointer (some ⟨b4,0,none⟩))),(5,.bool false),(6,.val (.pointer (some ⟨b12,0,none⟩))),(7,.val (.pointer (some ⟨b7,0,none⟩))),(32,.row u1 3 ((Cx a b).ts.map fun p=>Hz p.1)),(33,.int .i64 (Cx a b).ts.length),(34,.int .i64 (p.1:Int))],.row p.2.2.2.2.1 p.2.2.2.2.2.2.length 103 3 :: .row p.2.2.2.1 p.2.2.2.2.2.1.length 103 3 :: .box b7 147 [.row p.2.2.2.1 3 p.2.2.2.2.2.1,.row p.2.2.2.2.1 3 p.2.2.2.2.2.2,.int .i64 (Cx a b).rest]::Ng b10 b12 u1 (Cx a b) (.box b4 147 [.sl 3 [],.sl 3 [],.int .i64 0]::H),75⟩:St)) (fun (p:Nat×List Tm×List Tm×Value×Value×List (List AV)×List (List AV))=>p.1≤(Cx a b).ts.length∧Di (Cx a b).ts [] []=Di ((Cx a b).ts.drop p.1) p.2.1 p.2.2.1∧p.2.1.length≤p.1∧p.2.2.1.length≤p.1∧p.2.2.2.2.2.1=p.2.1.map Hz∧p.2.2.2.2.2.2=p.2.2.1.map Hz) (fun (p:Nat×List Tm×List Tm×Value×Value×List (List AV)×List (List AV))=>(Cx a b).ts.length-p.1) ((0,[],[],.slice none 0 0,.slice none 0 0,[],[])) ?_ (GS.weaken ⟨rfl,rfl,rfl,rfl,rfl,rfl,rfl,rfl,rfl,trivial⟩ (.refl _)) ?_
  · exact ⟨Nat.zero_le _,rfl,Nat.le_refl _,Nat.le_refl _,rfl,rfl⟩
  ·
   rintro p hR
   have hpl:=hR.2.2.1
   have hml:=hR.2.2.2.1
   have hpe:=hR.2.2.2.2.1
   have hme:=hR.2.2.2.2.2
   have hpel:p.2.2.2.2.2.1.length=p.2.1.length:=by rw [hpe];simp
   have hmel:p.2.2.2.2.2.2.length=p.2.2.1.length:=by rw [hme];simp
   refine Ah (Qp Ck (Ag (AW.seq (A3 (fun hc2=>?_) fun hc2=>?_))))
   ·
    obtain ⟨q,hq⟩:=B7 hc2
    have hlt:=Bb hq
    have hdc:=A4 hq
    have hR2:=hR.2.1
    rw [hdc] at hR2
    refine By (AW.seq (AW.block (Ah ?_)))
    refine Qp (J6 (c:=[Iq _,Iq _,Iq _]) Ai rfl rfl rfl rfl rfl rfl (by omega) (Bo hq)) ?_
    refine Qp (Cv [Iq _,Iq _,Iq _]) ?_
    refine Qe (Am (l:=[.int .i64 0,.int .i64 0,.int .i64 0]) (by kernel_rfl)) ?_
    rintro _ _ ⟨b9,rfl,rfl⟩
    refine Cz 0 [Iq _,Iq _,Iq _] (_::_::_::_::_::_::_::_::_) ?_
    refine AOL.ghost (GS.Aac (t:=9) 0 rfl rfl) ?_
    refine Ag (AW.seq ?_)
    refine AW.draw mixed (fun H'=>_∈H'∧_∈H') ⟨(List.mem_of_getElem? (i:=4) rfl),(List.mem_of_getElem? (i:=5) rfl)⟩ (by kernel_rfl) ?_
    refine Qn 0 rfl Ho ?_
    refine Qn 1 rfl (Be rfl) ?_
    refine Qn 2 rfl H9 ?_
    refine Qn 3 rfl (OpP.Aag (fun k=>Ao (k:=k) (c:=.val _) Ai rfl rfl rfl rfl) (fun _ h=>h.1)) ?_
    refine Qn 4 rfl (Cv [Iq _,Iq _,Iq _]) ?_
    refine Qn 5 rfl (OpP.Aag (fun k=>I0 (i:=k) (eq:=G4 q.1) Ai rfl rfl rfl rfl rfl (by kernel_rfl) rfl rfl (rfl) (Ib q.1 (Cx a b).ts) (wM hnd hq)) (fun _ h=>h.2)) ?_
    refine Jb.done _ _ (by kernel_rfl) ?_
    refine Ae (AW.block (Ah (Qp A6 (Qp Bm (Ag (A3 (fun hc3=>?_) fun hc3=>?_))))))
    ·
     refine AW.skip (Bv (Bv (Ae (AW.region (Qp F7 (Qp A0 (Ag ?_)))))))
     refine ⟨(p.1+1,p.2.1,p.2.2.1,p.2.2.2.1,p.2.2.2.2.1,p.2.2.2.2.2.1,p.2.2.2.2.2.2),?_,?_,GS.weaken ⟨rfl,rfl,rfl,rfl,rfl,rfl,rfl,rfl,rfl,trivial⟩ (.refl _)⟩
     · exact ⟨hlt,by simp only;rw [hR2,yG hc3],by simp only;omega,by simp only;omega,hpe,hme⟩
     · simp only;omega
    ·
     refine Ah (Qp A6 (Qp Bm (Ag (A3 (fun hc4=>?_) fun hc4=>?_))))
     ·
      have hsc:∀c∈p.2.2.2.2.2.1,Bc c=true:=by rw [hpe];exact Fc fun _=>rfl
      refine AW.region (Qp H9 ?_)
      refine AOL.Aah (Ao (k:=2) (c:=.row _ _ _) Ai rfl rfl rfl rfl) rfl rfl ?_
      refine Qp (Cv [Iq _,Iq _,Iq _]) ?_
      refine Qp (A2 (es:=[[Iq _,Iq _,Iq _]]) Ai rfl rfl rfl rfl rfl rfl rfl rfl rfl) ?_
      refine Qe (Dh (k:=1) Ai rfl rfl rfl rfl rfl rfl rfl rfl (G5 rfl) (hsc) (by simp;omega) (by simp [maxLen];omega)) ?_
      rintro _ _ ⟨v53,rfl,rfl⟩
      refine Qp H9 ?_
      refine Cz 2 [_,_,Iq _] (_::_::_::_::_::_::_::_) ?_
      refine AOL.nil (Bv (Bv (Ae (AW.region (Qp F7 (Qp A0 (Ag ?_)))))))
      refine ⟨(p.1+1,p.2.1 ++ [q.1],p.2.2.1,v53,p.2.2.2.2.1,p.2.2.2.2.2.1 ++ [Hz q.1],p.2.2.2.2.2.2),?_,?_,GS.weaken ⟨rfl,rfl,rfl,rfl,rfl,rfl,rfl,rfl,rfl,trivial⟩ (.refl _)⟩
      · exact ⟨hlt,by simp only;rw [hR2,wZ hc3 hc4],by simp only [List.length_append,List.length_singleton];omega,by simp only [List.length_append,List.length_singleton];omega,by simp [hpe],by simp [hme]⟩
      · simp only;omega
     ·
      refine Ah (Qp A6 (Qp Bm (Ag (A3 (fun hc5=>?_) fun hc5=>?_))))
      ·
       have hsc:∀c∈p.2.2.2.2.2.2,Bc c=true:=by rw [hme];exact Fc fun _=>rfl
       refine AW.region (Qp H9 ?_)
       refine AOL.Aah (Ao (k:=2) (c:=.row _ _ _) Ai rfl rfl rfl rfl) rfl rfl ?_
       refine Qp (Cv [Iq _,Iq _,Iq _]) ?_
       refine Qp (A2 (es:=[[Iq _,Iq _,Iq _]]) Ai rfl rfl rfl rfl rfl rfl rfl rfl rfl) ?_
       refine Qe (Dh (k:=0) Ai rfl rfl rfl rfl rfl rfl rfl rfl (G5 rfl) (hsc) (by simp;omega) (by simp [maxLen];omega)) ?_
       rintro _ _ ⟨v61,rfl,rfl⟩
       refine Qp H9 ?_
       refine Cz 2 [_,_,Iq _] (_::_::_::_::_::_::_::_) ?_
       refine AOL.nil (Bv (Bv (Ae (AW.region (Qp F7 (Qp A0 (Ag ?_)))))))
       refine ⟨(p.1+1,p.2.1,p.2.2.1 ++ [q.1],p.2.2.2.1,v61,p.2.2.2.2.2.1,p.2.2.2.2.2.2 ++ [Hz q.1]),?_,?_,GS.weaken ⟨rfl,rfl,rfl,rfl,rfl,rfl,rfl,rfl,rfl,trivial⟩ (.refl _)⟩
       · exact ⟨hlt,by simp only;rw [hR2,wA hc3 hc4 hc5],by simp only [List.length_append,List.length_singleton];omega,by simp only [List.length_append,List.length_singleton];omega,by simp [hpe],by simp [hme]⟩
       · simp only;omega
      ·
       refine Ah (Qp (Fr [_,_,Iq _]) ?_)
       refine Cz 6 [_,_,Iq _] (_::_::_::_::_::_::_::_) ?_
       refine Qp Bm (Ag (AW.ret (A7 (A7 (Aj (Aj (A7 (Aj ?_))))))))
       refine ⟨.inr rfl,[.agg [_,_,Iq _],.bool _],.cons (.box _ _ _ 6 _ _ _ _ rfl rfl rfl rfl rfl rfl) <| .cons (.tmp _ _ rfl) <| .nil,.cons _ (.cons _ (.cons _ (.cons _ (.cons _ (.cons _ (.cons _ (.refl _))))))),?_⟩
       exact Eq.trans rfl (congrArg (fun q:Gp×Bool=>AV.tuple [.agg (cGp q.1),.bool q.2]) (dL hc1 (hR2.trans (xR hc3 hc4 hc5)))).symm
   ·
    have hde:=C8 hc2
    have hR2:=hR.2.1
    rw [hde] at hR2
    refine AW.exit ?_
    refine A5 (A5 (Bx (Ae (AW.seq ?_))))
    refine AW.ghost (GS.cell 2 0 rfl rfl rfl rfl Gn) ?_
    refine AW.ghost (GS.cell 2 1 rfl rfl rfl rfl Gn) ?_
    refine AW.draw mixed (fun H'=>_∈H') (List.mem_of_getElem? (i:=2) rfl) (by kernel_rfl) ?_
    refine Qn 0 rfl (OpP.Aag (fun k=>Bs (k:=k) (l:=[_,_,Iq _]) Ai rfl rfl rfl rfl rfl) (fun _ h=>h)) ?_
    refine Qn 1 rfl H9 ?_
    refine Qn 2 rfl (OpP.Aag (fun k=>Ao (k:=k) (c:=.sl _ _) Ai rfl rfl rfl rfl) (fun _ h=>h)) ?_
    refine Qn 3 rfl (Al (n:=p.2.1.length) Ai rfl rfl rfl (hpel)) ?_
    refine Qn 4 rfl Ph (Qn 5 rfl Bu (Qo 6 rfl [] Qw H9 ?_))
    refine Jb.pure _ _ 7 _ _ rfl (by kernel_rfl) (by kernel_rfl) rfl (.opt _ (.sl _ _) [(70,_)] rfl (oE.all ⟨Ent.Aab _ _,trivial⟩) (fun hG=>OpP.Aag (fun k=>Ao (k:=k) (c:=.sl _ _) Ai rfl rfl rfl rfl) (fun _ h=>h)) rfl) ?_
    refine Jb.pure _ _ 8 _ _ rfl (by kernel_rfl) (by kernel_rfl) rfl (.opt _ (Iq _) [(71,_)] rfl (oE.all ⟨Ent.Aab _ _,trivial⟩) (fun hG=>Al (n:=p.2.2.1.length) Ai rfl rfl rfl (hmel)) rfl) ?_
    refine Qo 9 rfl [(72,_)] Qw Ph (Qn 10 rfl Gg ?_)
    refine Jb.eff _ _ 11 _ _ rfl (by kernel_rfl) rfl rfl (Df (k:=6) (v:=.agg _) (cs':=[_,_,Iq _]) (H2:=_::_::_::_::_::_::_::_) Ai rfl rfl rfl rfl (rfl) rfl rfl rfl rfl) (by rintro _ _ ⟨rfl,rfl⟩;simp) ?_
    rintro _ _ ⟨rfl,rfl⟩
    refine Qn 12 rfl Bm ?_
    refine Jb.done _ _ (by kernel_rfl) ?_
    refine Ae (AW.ret ?_)
    refine ⟨.inr rfl,[.agg [_,_,Iq _],.bool _],.cons (.box _ _ _ 6 _ _ _ _ rfl rfl rfl rfl rfl rfl) <| .cons (.tmp _ _ rfl) <| .nil,.cons _ (.cons _ (.cons _ (.cons _ (.cons _ (.cons _ (.cons _ (.refl _))))))),?_⟩
    rw [hpe,hme]
    exact Eq.trans rfl (congrArg (fun q:Gp×Bool=>AV.tuple [.agg (cGp q.1),.bool q.2]) (tQ hc1 hR2)).symm

set_option maxHeartbeats 1600000
set_option maxRecDepth 20000

theorem Q7 (T:List Sc)(V:List Va)(e:Ex)(hk:KOK T V e)(hse:At e≤1048576):Ax Tryz.prog 57 [.agg (Cw T V),.agg (cE e)] (.bool (B0 T V e)):=by
 refine Ax.body (n:=47) Ai Tryz.func57 rfl rfl rfl fun H=>?_
 refine Ah (Qp (Gd [_,_]) (Qp Nc (Qp Bm (Do ?_))))
 refine Qp (Da (v:=.fn _ _ _) rfl) ?_
 refine Ag (AW.seq (AW.block (Ah (Qp K9 (Qp Bp (Qp A6 (Qp Bm (Ag (A3 (fun hc1=>?_) fun hc1=>?_)))))))))
 ·
  refine Ah (Qp Bm (Ag (AW.ret (A7 (Aj ?_)))))
  refine Qr (.bool _) ?_
  exact Eq.trans rfl (congrArg (fun q:Bool=>AV.bool q) (uM hc1)).symm
 ·
  refine Ah (Qp E7 ?_)
  refine Qp (Qc rfl (Vx e)) ?_
  refine Qp Hp (Qp Bm (Ag (A3 (fun hc2=>?_) fun hc2=>?_)))
  ·
   refine Ah (Qp Bm (Ag (AW.ret (A7 (Aj ?_)))))
   refine Qr (.bool _) ?_
   exact Eq.trans rfl (congrArg (fun q:Bool=>AV.bool q) (cQ hc1 hc2)).symm
  ·
   refine Ah (Qp (Cv [_,_]) (Qp E7 ?_))
   refine Qp (Qc rfl (Q9 T V e hk)) ?_
   refine Qp Bm (Ag (A3 (fun hc3=>?_) fun hc3=>?_))
   ·
    refine AW.seq ?_
    have hcmp:Cm e=true:=by simpa using ‹(!Cm e)=false›
    have h2:=Kd hk hcmp
    have h00:0<e.args.length:=by omega
    have hsz:=Dl h2
    have hk0:=Az hk (Ba h00)
    have hk1:=Az hk (Bw h2)
    refine AW.region ?_
    refine Qp (Bk (v:=.fn _ _ _) rfl) ?_
    refine Qp Oy (Qp Ee ?_)
    refine Qp (Af (c:=[Iq _,_,Iq _,Iq _,Iq _,Iq _,Iq _,.str _]) Ai rfl rfl rfl rfl rfl rfl (by decide) (I3 h00)) ?_
    refine Qp E7 ?_
    refine Qp (Ec (by kernel_rfl) rfl rfl rfl (cS (Ap e))) ?_
    refine Qp Bu ?_
    refine AOL.Aaf (y:=.fn _ _ _) _ [] rfl (oE.all trivial) (fun hG=>Bk (v:=.fn _ _ _) rfl) rfl ?_
    refine Qg [] Qw Oy (Qg [(28,_)] Qw Ee ?_)
    refine AOL.Aaf (y:=.ptr _) _ [(29,_)] rfl (oE.all ⟨Ent.Aab _ _,trivial⟩) (fun hG=>Af (c:=[Iq _,_,Iq _,Iq _,Iq _,Iq _,Iq _,.str _]) Ai rfl rfl rfl rfl rfl rfl (by decide) (Kh h2)) rfl ?_
    refine Qg [(30,_)] Qw E7 ?_
    refine AOL.Aaf (y:=.bool _) _ [(31,_),(27,_)] rfl (oE.all ⟨Ent.Aab _ _,Ent.Aab _ _,trivial⟩) (fun hG=>Ec (by kernel_rfl) rfl rfl rfl (cS (Bj e))) rfl ?_
    refine Qp Gg (Qp Bm (Ag (AW.ret (A7 (Aj ?_)))))
    refine Qr (.bool _) ?_
    exact Eq.trans rfl (congrArg (fun q:Bool=>AV.bool q) (uV hc1 hc2 hc3)).symm
   ·
    refine AW.skip (Bv (Ae (AW.seq ?_)))
    have hcmp:Cm e=true:=by simpa using ‹(!Cm e)=false›
    have h2:=Kd hk hcmp
    have h00:0<e.args.length:=by omega
    have hsz:=Dl h2
    have hk0:=Az hk (Ba h00)
    have hk1:=Az hk (Bw h2)
    refine AW.draw mixed (fun _=>True) trivial (by kernel_rfl) ?_
    refine Qn 0 rfl Oy (Qn 1 rfl Ee ?_)
    refine Qn 2 rfl (Af (c:=[Iq _,_,Iq _,Iq _,Iq _,Iq _,Iq _,.str _]) Ai rfl rfl rfl rfl rfl rfl (by decide) (I3 h00)) ?_
    refine Qn 3 rfl E7 (Qn 4 rfl Oy (Qn 5 rfl Ee ?_))
    refine Qn 6 rfl (Af (c:=[Iq _,_,Iq _,Iq _,Iq _,Iq _,Iq _,.str _]) Ai rfl rfl rfl rfl rfl rfl (by decide) (Kh h2)) ?_
    refine Qn 7 rfl E7 ?_
    refine Qn 8 rfl (Qc rfl (Yp _ _ hk0.nodes hk1.nodes (by omega))) ?_
    refine Qn 9 rfl Nb ?_
    refine Qn 10 rfl (Ci (v:=.agg [_,_,Iq _]) rfl rfl) ?_
    refine Qn 11 rfl eR ?_
    refine Jb.eff _ _ 12 _ _ rfl (by kernel_rfl) rfl rfl (Am (l:=[.sl 3 [],.sl 3 [],.int .i64 0]) (by kernel_rfl)) (fun _ _ _=>trivial) ?_
    rintro _ _ ⟨b6,rfl,rfl⟩
    refine Jb.eff _ _ 13 _ _ rfl (by kernel_rfl) rfl rfl (Df (k:=0) (v:=.agg _) (cs':=[_,_,Iq _]) (H2:=_::_) Ai rfl rfl rfl rfl (rfl) rfl rfl rfl rfl) (fun _ _ _=>trivial) ?_
    rintro _ _ ⟨rfl,rfl⟩
    refine Qn 14 rfl Bm ?_
    refine Jb.done _ _ (by kernel_rfl) ?_
    refine Ae ?_
    refine AW.ghost (GS.Aac (t:=6) 0 rfl rfl) ?_
    refine Ah (Qp Bu (Qp Bm (Ag (AW.ret ?_))))
    refine Qr (.bool _) ?_
    exact Eq.trans rfl (congrArg (fun q:Bool=>AV.bool q) (tJ hc1 hc2 hc3)).symm


set_option maxHeartbeats 3200000
set_option maxRecDepth 20000

theorem oH (a b:List (List Lit))(hla:a.length≤512)(hlb:b.length≤512)(ha:∀x∈a,x.length≤1048576)(hb:∀x∈b,x.length≤1048576):Ax Tryz.prog 64 [.sl 1 (a.map W0),.sl 1 (b.map W0)] (.tuple [.sl 1 ((Lx a b).1.map W0),.bool (Lx a b).2]):=by
 refine Ax.body (n:=40) Ai Tryz.func64 rfl rfl rfl fun H=>?_
 refine Ah ?_
 refine Qp (Ca (z:=1) rfl) ?_
 refine Qp Bm (Ag (AW.seq (Ah (Qp Dt ?_))))
 refine Qp (Al (n:=a.length) Ai rfl rfl rfl (by simp)) ?_
 refine Qp Dt ?_
 refine Qp (Al (n:=b.length) Ai rfl rfl rfl (by simp)) ?_
 refine Qp (sR rfl rfl rfl (by constructor <;> (have h1:(0:Int)≤(a.length:Int)*(b.length:Int):=Int.mul_nonneg (by omega) (by omega);have h2:(a.length:Int)*(b.length:Int)≤512*512:=Int.mul_le_mul (by omega) (by omega) (by omega) (by omega);omega))) ?_
 refine Qp G6 (Ag (A3 (fun hc1=>?_) fun hc1=>?_))
 ·
  refine Ah ?_
  refine Qp (Ca (z:=1) rfl) ?_
  refine Qp Bm (Ag (Du ?_))
  refine Kg (.sl _ _) (.bool _) ?_
  exact Eq.trans rfl (congrArg (fun q:Cs=>AV.tuple [.sl 1 (q.1.map W0),.bool q.2]) (lF hc1)).symm
 ·
  refine By (Ah (Qp N2 ?_))
  refine AOL.ghost (GS.row (t:=6) 42 1 rfl) ?_
  refine Ag (AW.seq (Ah (Qp Dt ?_)))
  refine Qp (Al (n:=a.length) Ai rfl rfl rfl (by simp)) ?_
  refine Qp A0 (Ag (AW.block ?_))
  refine AW.Aad (fun (p:Nat×List (List AV)×Value)=>(⟨[(0,.sl 1 (a.map W0)),(1,.sl 1 (b.map W0)),(5,.bool false),(6,.row p.2.2 1 p.2.1),(17,.sl 1 (a.map W0)),(18,.int .i64 a.length),(19,.int .i64 (p.1:Int))],.row p.2.2 p.2.1.length 42 1::H,40⟩:St)) (fun (p:Nat×List (List AV)×Value)=>p.1≤a.length∧p.2.1=((a.take p.1).flatMap fun x=>b.map fun y=>x++y).map W0) (fun (p:Nat×List (List AV)×Value)=>a.length-p.1) ((0,[],.slice none 0 0)) ?_ (GS.weaken ⟨rfl,rfl,rfl,rfl,rfl,rfl,rfl,trivial⟩ (.refl _)) ?_
  · exact ⟨Nat.zero_le _,rfl⟩
  ·
   rintro p hR
   refine Ah (Qp Ck (Ag (AW.seq (A3 (fun hc2=>?_) fun hc2=>?_))))
   ·
    obtain ⟨x,hx⟩:=B7 hc2
    have hlx:=Bb hx
    have hxl:=ha x (List.mem_of_getElem? hx)
    refine By (AW.seq (AW.block (Ah ?_)))
    refine Qp (Af (c:=[_]) Ai rfl rfl rfl rfl rfl rfl (by omega) (Bo hx)) ?_
    refine Qp Ee (Qp Un (Do (Qp Dt ?_)))
    refine Qp (Al (n:=b.length) Ai rfl rfl rfl (by simp)) ?_
    refine Qp A0 (Ag (AW.block ?_))
    refine AW.Aad (fun (q:Nat×List (List AV)×Value)=>(⟨[(0,.sl 1 (a.map W0)),(1,.sl 1 (b.map W0)),(5,.bool false),(6,.row q.2.2 1 q.2.1),(8,.sl 9 (x.map H7)),(17,.sl 1 (a.map W0)),(18,.int .i64 a.length),(19,.int .i64 (p.1:Int)),(23,.sl 1 (b.map W0)),(24,.int .i64 b.length),(25,.int .i64 (q.1:Int))],.row q.2.2 q.2.1.length 42 1::H,40⟩:St)) (fun (q:Nat×List (List AV)×Value)=>q.1≤b.length∧q.2.1=(((a.take p.1).flatMap fun x=>b.map fun y=>x++y)++(b.take q.1).map fun y=>x++y).map W0∧True) (fun (q:Nat×List (List AV)×Value)=>b.length-q.1) ((0,p.2.1,p.2.2)) ?_ (GS.weaken ⟨rfl,rfl,rfl,rfl,rfl,rfl,rfl,rfl,rfl,rfl,rfl,trivial⟩ (.refl _)) ?_
    · exact ⟨Nat.zero_le _,by simp only [List.take_zero,List.map_nil,List.append_nil];exact hR.2,trivial⟩
    ·
     rintro q hQ
     refine Ah (Qp Ck (Ag (AW.seq (A3 (fun hc3=>?_) fun hc3=>?_))))
     ·
      obtain ⟨y,hy⟩:=B7 hc3
      have hly:=Bb hy
      have hyl:=hb y (List.mem_of_getElem? hy)
      have hple:=wT hlx hly hc1
      refine By (AW.seq (AW.block (Ah ?_)))
      refine Qp (Af (c:=[_]) Ai rfl rfl rfl rfl rfl rfl (by omega) (Bo hy)) ?_
      refine Qp Ee (Qp Un (Ag ?_))
      have hsx:∀c∈(x.map H7),Bc c=true:=Fc fun _=>rfl
      have hsy:∀c∈(y.map H7),Bc c=true:=Fc fun _=>rfl
      have hscx:∀c∈(x.map H7++y.map H7),Bc c=true:=fun c hc=>(List.mem_append.1 hc).elim (hsx c) (hsy c)
      have hso:∀c∈q.2.1,Bc c=true:=by rw [hQ.2.1];exact Fc fun _=>rfl
      have hql:q.2.1.length<256:=by rw [hQ.2.1,List.length_map,List.length_append,fL,List.length_map,List.length_take,List.length_take,Nat.min_eq_left (Nat.le_of_lt hlx),Nat.min_eq_left (Nat.le_of_lt hly)];exact hple
      refine AW.region ?_
      refine Qp (Bk (v:=.row _ _ _) rfl) ?_
      refine Qe (Re (es:=[]) Ai rfl rfl rfl rfl rfl rfl rfl rfl rfl) ?_
      rintro _ _ ⟨v30,rfl,rfl⟩
      refine Qp Dt ?_
      refine Qe (Dh (k:=0) Ai rfl rfl rfl rfl rfl rfl rfl rfl (hsx) (rD) (by simp;omega) (by simp [maxLen];omega)) ?_
      rintro _ _ ⟨v32,rfl,rfl⟩
      refine Qp Dt ?_
      refine Qe (Dh (k:=0) Ai rfl rfl rfl rfl rfl rfl rfl rfl (hsy) (hsx) (by simp;omega) (by simp [maxLen];omega)) ?_
      rintro _ _ ⟨v34,rfl,rfl⟩
      refine AOL.ghost (GS.unrow 34 rfl) ?_
      refine Qp (A2 (es:=[[_]]) Ai rfl rfl rfl rfl rfl rfl rfl rfl rfl) ?_
      refine Qe (Dh (k:=1) Ai rfl rfl rfl rfl rfl rfl rfl rfl (G5 rfl) (hso) (by simp;omega) (by simp [maxLen];omega)) ?_
      rintro _ _ ⟨v36,rfl,rfl⟩
      refine Qp (Da (v:=.row _ _ _) rfl) ?_
      refine AOL.nil (Bv (Ae (AW.region (Qp F7 (Qp A0 (Ag ?_))))))
      refine ⟨(q.1+1,q.2.1 ++ [[.sl 9 (x.map H7++y.map H7)]],v36),?_,?_,GS.weaken ⟨rfl,rfl,rfl,rfl,rfl,rfl,rfl,rfl,rfl,rfl,rfl,trivial⟩ (.cons _ (.refl _))⟩
      · exact ⟨hly,by simp only;rw [C9 hy,hQ.2.1];simp [W0],trivial⟩
      · simp only;omega
     ·
      have hte:=C5 hc3
      have hall:=hQ.2.1
      rw [hte] at hall
      refine AW.exit ?_
      refine A5 (A5 (Bx (Bv (Ae (AW.region (Qp F7 (Qp A0 (Ag ?_))))))))
      refine ⟨(p.1+1,q.2.1,q.2.2),?_,?_,GS.weaken ⟨rfl,rfl,rfl,rfl,rfl,rfl,rfl,trivial⟩ (.refl _)⟩
      · exact ⟨hlx,by simp only;rw [qE hx];exact hall⟩
      · simp only;omega
   ·
    have hte:=C5 hc2
    have hall:=hR.2
    rw [hte] at hall
    refine AW.exit ?_
    refine A5 (A5 (Bx (Ae (Ah ?_))))
    refine Qp (Bk (v:=.row _ _ _) rfl) ?_
    refine AOL.ghost (GS.unrow 39 rfl) ?_
    refine Qp Un (Qp Bm (Ag (AW.ret ?_)))
    refine ⟨.inr rfl,[.sl _ _,.bool _],.cons (.tmp _ _ rfl) <| .cons (.tmp _ _ rfl) <| .nil,.cons _ (.refl _),?_⟩
    rw [hall]
    exact Eq.trans rfl (congrArg (fun q:Cs=>AV.tuple [.sl 1 (q.1.map W0),.bool q.2]) (eI hc1)).symm
set_option maxHeartbeats 400000
set_option maxRecDepth 20000

theorem zM (op:Int)(x y:Ex):Ax Tryz.prog 62 [.int .i64 op,.agg (cE x),.agg (cE y)] (.agg (cE (two op x y))):=by
 refine Ax.body (n:=12) Ai Tryz.func62 rfl rfl rfl fun H=>?_
 refine Ah (Qp Nc (Qp Nc ?_))
 refine Qe (Am (l:=[.int .i64 0,.sl 8 [],.int .i64 0,.int .i64 0,.int .i64 0,.int .i64 0,.int .i64 0,.str []]) (by kernel_rfl)) ?_
 rintro _ _ ⟨b6,rfl,rfl⟩
 refine Do (Qp A0 (Qp E7 (Qp E7 ?_)))
 refine Qp (A2 (es:=[[Iq _,_,Iq _,Iq _,Iq _,Iq _,Iq _,.str _],[Iq _,_,Iq _,Iq _,Iq _,Iq _,Iq _,.str _]]) Ai rfl rfl rfl rfl rfl rfl rfl rfl rfl) ?_
 refine Qp (Fr [Iq _,_,Iq _,Iq _,Iq _,Iq _,Iq _,.str _]) ?_
 refine Cz 0 [Iq _,_,Iq _,Iq _,Iq _,Iq _,Iq _,.str _] (_::_) ?_
 refine Ag (AW.ret ?_)
 refine ⟨.inr rfl,[.agg [Iq _,_,Iq _,Iq _,Iq _,Iq _,Iq _,.str _]],.cons (.box _ _ _ 0 _ _ _ _ rfl rfl rfl rfl rfl rfl) <| .nil,.cons _ (.refl _),?_⟩
 rw [oI];rfl
theorem yL (x:Bool):Ax Tryz.prog 93 [.bool x] (.agg (cE (Hq x))):=by
 refine Ax.body (n:=6) Ai Tryz.func93 rfl rfl rfl fun H=>?_
 refine Ah ?_
 refine Qe (Am (l:=[.int .i64 0,.sl 8 [],.int .i64 0,.int .i64 0,.int .i64 0,.int .i64 0,.int .i64 0,.str []]) (by kernel_rfl)) ?_
 rintro _ _ ⟨b2,rfl,rfl⟩
 refine Do (Qp Bu ?_)
 refine Qp (Qc rfl (c75 x)) ?_
 refine Qp (Fr [Iq _,_,Iq _,Iq _,Iq _,Iq _,Iq _,.str _]) ?_
 refine Cz 0 [Iq _,_,Iq _,Iq _,Iq _,Iq _,Iq _,.str _] (_::_) ?_
 refine Ag (AW.ret ?_)
 refine ⟨.inr rfl,[.agg [Iq _,_,Iq _,Iq _,Iq _,Iq _,Iq _,.str _]],.cons (.box _ _ _ 0 _ _ _ _ rfl rfl rfl rfl rfl rfl) <| .nil,.cons _ (.refl _),?_⟩
 rfl
end Go.Proofs.YtjedflcpjlgokaaGreatDoor
