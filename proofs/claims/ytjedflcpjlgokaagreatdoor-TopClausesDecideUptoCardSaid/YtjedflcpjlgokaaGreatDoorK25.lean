/-
  Several texts in one: Y5, Y5b, Y5c, Y5d, Y6, Y1. No condition.
-/
import Derived.Test.YtjedflcpjlgokaaGreatDoorAz
import Derived.Test.YtjedflcpjlgokaaGreatDoorK11
import Derived.Test.YtjedflcpjlgokaaGreatDoorY4
import Derived.KernelRfl
import Derived.Test.YtjedflcpjlgokaaGreatDoorK12
import Derived.Test.YtjedflcpjlgokaaGreatDoorK03
import Derived.Test.YtjedflcpjlgokaaGreatDoorK07
import Derived.Test.YtjedflcpjlgokaaGreatDoorK08
import Derived.Test.YtjedflcpjlgokaaGreatDoorW25
set_option linter.unusedVariables false
set_option linter.unusedSimpArgs false
namespace Go.Proofs.YtjedflcpjlgokaaGreatDoor
open Go Go.Aw
set_option maxHeartbeats 3200000
set_option maxRecDepth 20000

theorem Yq (a b:Ex)(hna:Ci a=0)(hnb:Ci b=0)(hs:Av a+Av b≤1048576):A1 Tryz.prog 92 [.agg (cE a),.agg (cE b)] (.tuple [.agg (yR (Bu a b).1),.bool (Bu a b).2]):=by
 have hok:=Xw hna hnb
 have hnd:=aL hna hnb
 have htl:=hok.len
 refine A1.body (n:=75) Aj Tryz.func92 rfl rfl rfl fun H=>?_
 refine Ah (Qp Mt (Qp Mt ?_))
 refine Qe (A0 (l:=[.sl 3 [],.sl 3 [],.int .i64 0]) (by kernel_rfl)) ?_
 rintro _ _ ⟨b4,rfl,rfl⟩
 refine Qp Bb (Dv ?_)
 refine Qe (Mi) ?_
 rintro _ _ ⟨b10,rfl,rfl⟩
 refine Qp (Nr (l0:=[.val (.map none),.val (.slice none 0 0),.int .i64 0]) (l:=[_,_,_]) Aj rfl rfl (by kernel_rfl) rfl) ?_
 refine Qe (Wc (v:=.agg _) (cs:=[_,_,Iq _]) rfl rfl (rfl)) ?_
 rintro _ _ ⟨b12,rfl,rfl⟩
 refine Qp O5 ?_
 refine AOL.ghost (GS.cellRow 0 1 103 3 rfl rfl rfl rfl) ?_
 refine Ag (AW.seq (Ah (Qp Gn (Qp E2 ?_))))
 refine Qe (Ey (by kernel_rfl) rfl rfl (xY b10 b12 _ a hna 0 1 (.inl rfl) H9 gG (by omega) _)) ?_
 rintro _ _ ⟨rfl,u0,rfl⟩
 refine Qp Gj (Qp Bt (Qg [] Qw Gn (Qg [] Qw E2 ?_)))
 refine AOL.geX (F:=fun u=>Mr b10 b12 u (Cr a b) (.box b4 147 [.sl 3 [],.sl 3 [],.int .i64 0]::H)) _ [(18,_),(19,_)] rfl (nI.all ⟨Ent.Aa1 _ _,Ent.Aa1 _ _,trivial⟩) (fun hG=>Ey (by kernel_rfl) rfl rfl (sB hG (xY b10 b12 _ b hnb (0+Av a) (-1) (.inr rfl) _ (Uy a hna (.inl rfl) gG) (by omega) u0))) (fun hG=>btw_f (m:=b10) (bs:=b12) (v:=u0) (b:=b) (R:=(.box b4 147 [.sl 3 [],.sl 3 [],.int .i64 0]::H)) hG) rfl fun u1=>?_
 refine Qg [(20,_)] Qw Gj (Qp Ew (Ag (A4 (fun hc1=>?_) fun hc1=>?_)))
 ·
  refine Ah (Qp (Ij [_,_,Iq _]) ?_)
  refine Eu 3 [_,_,Iq _] (_::_::_::_::_) ?_
  refine Qp Bb (Ag (D4 ?_))
  refine ⟨.inr rfl,[.agg [_,_,Iq _],.bool _],.cons (.box _ _ _ 3 _ _ _ _ rfl rfl rfl rfl rfl rfl) <| .cons (.tmp _ _ rfl) <| .nil,.cons _ (.cons _ (.cons _ (.cons _ (.refl _)))),?_⟩
  exact Eq.trans rfl (congrArg (fun q:Gp×Bool=>AV.tuple [.agg (yR q.1),.bool q.2]) (zK hc1)).symm
 ·
  refine Bx (Ah (Qp Gn ?_))
  refine Qp (Bc rfl) ?_
  refine Qp Ia ?_
  refine AOL.Aa7 (Am (k:=1) (c:=Iq _) Aj rfl rfl rfl rfl) rfl rfl ?_
  refine Qp (Nr (l0:=[.val (.slice none 0 0),.val (.slice none 0 0),.int .i64 0]) (l:=[_,_,_]) Aj rfl rfl (by kernel_rfl) rfl) ?_
  refine Qe (A0 (l:=[.sl 3 [],.sl 3 [],.int .i64 0]) (by kernel_rfl)) ?_
  rintro _ _ ⟨b7,rfl,rfl⟩
  refine Eu 0 [_,_,Iq _] (_::_::_::_::_::_) ?_
  refine AOL.ghost (GS.cellRow 0 0 103 3 rfl rfl rfl rfl) ?_
  refine AOL.ghost (GS.cellRow 1 1 103 3 rfl rfl rfl rfl) ?_
  refine Ag (AW.seq (Ah (Qp Gn ?_)))
  refine Qp (Bc rfl) ?_
  refine Qp Ia ?_
  refine AOL.Aa7 (Am (k:=4) (c:=.row _ _ _) Aj rfl rfl rfl rfl) rfl rfl ?_
  refine Qp (Le (n:=(Cr a b).ts.length) Aj rfl rfl rfl (by simp)) ?_
  refine Qp Az (Ag (AW.block ?_))
  refine AW.Aa3 (fun (p:Nat×List Tm×List Tm×Value×Value×List (List AV)×List (List AV))=>(⟨[(2,.ptr (cE a)),(3,.ptr (cE b)),(4,.val (.pointer (some ⟨b4,0,none⟩))),(5,.bool false),(6,.val (.pointer (some ⟨b12,0,none⟩))),(7,.val (.pointer (some ⟨b7,0,none⟩))),(32,.row u1 3 ((Cr a b).ts.map fun p=>G2 p.1)),(33,.int .i64 (Cr a b).ts.length),(34,.int .i64 (p.1:Int))],.row p.2.2.2.2.1 p.2.2.2.2.2.2.length 103 3 :: .row p.2.2.2.1 p.2.2.2.2.2.1.length 103 3 :: .box b7 147 [.row p.2.2.2.1 3 p.2.2.2.2.2.1,.row p.2.2.2.2.1 3 p.2.2.2.2.2.2,.int .i64 (Cr a b).rest]::Mr b10 b12 u1 (Cr a b) (.box b4 147 [.sl 3 [],.sl 3 [],.int .i64 0]::H),75⟩:St)) (fun (p:Nat×List Tm×List Tm×Value×Value×List (List AV)×List (List AV))=>p.1≤(Cr a b).ts.length∧C2 (Cr a b).ts [] []=C2 ((Cr a b).ts.drop p.1) p.2.1 p.2.2.1∧p.2.1.length≤p.1∧p.2.2.1.length≤p.1∧p.2.2.2.2.2.1=p.2.1.map G2∧p.2.2.2.2.2.2=p.2.2.1.map G2) (fun (p:Nat×List Tm×List Tm×Value×Value×List (List AV)×List (List AV))=>(Cr a b).ts.length-p.1) ((0,[],[],.slice none 0 0,.slice none 0 0,[],[])) ?_ (GS.weaken ⟨rfl,rfl,rfl,rfl,rfl,rfl,rfl,rfl,rfl,trivial⟩ (.refl _)) ?_
  · exact ⟨Nat.zero_le _,rfl,Nat.le_refl _,Nat.le_refl _,rfl,rfl⟩
  ·
   rintro p hR
   have hpl:=hR.2.2.1
   have hml:=hR.2.2.2.1
   have hpe:=hR.2.2.2.2.1
   have hme:=hR.2.2.2.2.2
   have hpel:p.2.2.2.2.2.1.length=p.2.1.length:=by rw [hpe];simp
   have hmel:p.2.2.2.2.2.2.length=p.2.2.1.length:=by rw [hme];simp
   refine Ah (Qp Co (Ag (AW.seq (A4 (fun hc2=>?_) fun hc2=>?_))))
   ·
    obtain ⟨q,hq⟩:=B5 hc2
    have hlt:=Bh hq
    have hdc:=Bi hq
    have hR2:=hR.2.1
    rw [hdc] at hR2
    refine Bx (AW.seq (AW.block (Ah ?_)))
    refine Qp (Jm (c:=[Iq _,Iq _,Iq _]) Aj rfl rfl rfl rfl rfl rfl (by omega) (B1 hq)) ?_
    refine Qp (C8 [Iq _,Iq _,Iq _]) ?_
    refine Qe (A0 (l:=[.int .i64 0,.int .i64 0,.int .i64 0]) (by kernel_rfl)) ?_
    rintro _ _ ⟨b9,rfl,rfl⟩
    refine Eu 0 [Iq _,Iq _,Iq _] (_::_::_::_::_::_::_::_::_) ?_
    refine AOL.ghost (GS.Aa2 (t:=9) 0 rfl rfl) ?_
    refine Ag (AW.seq ?_)
    refine AW.draw mixed (fun H'=>_∈H'∧_∈H') ⟨(List.mem_of_getElem? (i:=4) rfl),(List.mem_of_getElem? (i:=5) rfl)⟩ (by kernel_rfl) ?_
    refine Qn 0 rfl Gn ?_
    refine Qn 1 rfl (Bc rfl) ?_
    refine Qn 2 rfl Ia ?_
    refine Qn 3 rfl (OpP.Aa4 (fun k=>Am (k:=k) (c:=.val _) Aj rfl rfl rfl rfl) (fun _ h=>h.1)) ?_
    refine Qn 4 rfl (C8 [Iq _,Iq _,Iq _]) ?_
    refine Qn 5 rfl (OpP.Aa4 (fun k=>Ii (i:=k) (eq:=Gc q.1) Aj rfl rfl rfl rfl rfl (by kernel_rfl) rfl rfl (rfl) (Ho q.1 (Cr a b).ts) (tU hnd hq)) (fun _ h=>h.2)) ?_
    refine Iu.done _ _ (by kernel_rfl) ?_
    refine Ad (AW.block (Ah (Qp Ba (Qp Bb (Ag (A4 (fun hc3=>?_) fun hc3=>?_))))))
    ·
     refine AW.skip (Bn (Bn (Ad (AW.region (Qp Fb (Qp Az (Ag ?_)))))))
     refine ⟨(p.1+1,p.2.1,p.2.2.1,p.2.2.2.1,p.2.2.2.2.1,p.2.2.2.2.2.1,p.2.2.2.2.2.2),?_,?_,GS.weaken ⟨rfl,rfl,rfl,rfl,rfl,rfl,rfl,rfl,rfl,trivial⟩ (.refl _)⟩
     · exact ⟨hlt,by simp only;rw [hR2,jX hc3],by simp only;omega,by simp only;omega,hpe,hme⟩
     · simp only;omega
    ·
     refine Ah (Qp Ba (Qp Bb (Ag (A4 (fun hc4=>?_) fun hc4=>?_))))
     ·
      have hsc:∀c∈p.2.2.2.2.2.1,Bg c=true:=by rw [hpe];exact F2 fun _=>rfl
      refine AW.region (Qp Ia ?_)
      refine AOL.Aa7 (Am (k:=2) (c:=.row _ _ _) Aj rfl rfl rfl rfl) rfl rfl ?_
      refine Qp (C8 [Iq _,Iq _,Iq _]) ?_
      refine Qp (A3 (es:=[[Iq _,Iq _,Iq _]]) Aj rfl rfl rfl rfl rfl rfl rfl rfl rfl) ?_
      refine Qe (Dr (k:=1) Aj rfl rfl rfl rfl rfl rfl rfl rfl (Hw rfl) (hsc) (by simp;omega) (by simp [maxLen];omega)) ?_
      rintro _ _ ⟨v53,rfl,rfl⟩
      refine Qp Ia ?_
      refine Eu 2 [_,_,Iq _] (_::_::_::_::_::_::_::_) ?_
      refine AOL.nil (Bn (Bn (Ad (AW.region (Qp Fb (Qp Az (Ag ?_)))))))
      refine ⟨(p.1+1,p.2.1 ++ [q.1],p.2.2.1,v53,p.2.2.2.2.1,p.2.2.2.2.2.1 ++ [G2 q.1],p.2.2.2.2.2.2),?_,?_,GS.weaken ⟨rfl,rfl,rfl,rfl,rfl,rfl,rfl,rfl,rfl,trivial⟩ (.refl _)⟩
      · exact ⟨hlt,by simp only;rw [hR2,kW hc3 hc4],by simp only [List.length_append,List.length_singleton];omega,by simp only [List.length_append,List.length_singleton];omega,by simp [hpe],by simp [hme]⟩
      · simp only;omega
     ·
      refine Ah (Qp Ba (Qp Bb (Ag (A4 (fun hc5=>?_) fun hc5=>?_))))
      ·
       have hsc:∀c∈p.2.2.2.2.2.2,Bg c=true:=by rw [hme];exact F2 fun _=>rfl
       refine AW.region (Qp Ia ?_)
       refine AOL.Aa7 (Am (k:=2) (c:=.row _ _ _) Aj rfl rfl rfl rfl) rfl rfl ?_
       refine Qp (C8 [Iq _,Iq _,Iq _]) ?_
       refine Qp (A3 (es:=[[Iq _,Iq _,Iq _]]) Aj rfl rfl rfl rfl rfl rfl rfl rfl rfl) ?_
       refine Qe (Dr (k:=0) Aj rfl rfl rfl rfl rfl rfl rfl rfl (Hw rfl) (hsc) (by simp;omega) (by simp [maxLen];omega)) ?_
       rintro _ _ ⟨v61,rfl,rfl⟩
       refine Qp Ia ?_
       refine Eu 2 [_,_,Iq _] (_::_::_::_::_::_::_::_) ?_
       refine AOL.nil (Bn (Bn (Ad (AW.region (Qp Fb (Qp Az (Ag ?_)))))))
       refine ⟨(p.1+1,p.2.1,p.2.2.1 ++ [q.1],p.2.2.2.1,v61,p.2.2.2.2.2.1,p.2.2.2.2.2.2 ++ [G2 q.1]),?_,?_,GS.weaken ⟨rfl,rfl,rfl,rfl,rfl,rfl,rfl,rfl,rfl,trivial⟩ (.refl _)⟩
       · exact ⟨hlt,by simp only;rw [hR2,kL hc3 hc4 hc5],by simp only [List.length_append,List.length_singleton];omega,by simp only [List.length_append,List.length_singleton];omega,by simp [hpe],by simp [hme]⟩
       · simp only;omega
      ·
       refine Ah (Qp (Ij [_,_,Iq _]) ?_)
       refine Eu 6 [_,_,Iq _] (_::_::_::_::_::_::_::_) ?_
       refine Qp Bb (Ag (AW.ret (A6 (A6 (Ai (Ai (A6 (Ai ?_))))))))
       refine ⟨.inr rfl,[.agg [_,_,Iq _],.bool _],.cons (.box _ _ _ 6 _ _ _ _ rfl rfl rfl rfl rfl rfl) <| .cons (.tmp _ _ rfl) <| .nil,.cons _ (.cons _ (.cons _ (.cons _ (.cons _ (.cons _ (.cons _ (.refl _))))))),?_⟩
       exact Eq.trans rfl (congrArg (fun q:Gp×Bool=>AV.tuple [.agg (yR q.1),.bool q.2]) (dO hc1 (hR2.trans (kI hc3 hc4 hc5)))).symm
   ·
    have hde:=Dq hc2
    have hR2:=hR.2.1
    rw [hde] at hR2
    refine AW.exit ?_
    refine A2 (A2 (Bo (Ad (AW.seq ?_))))
    refine AW.ghost (GS.cell 2 0 rfl rfl rfl rfl Gt) ?_
    refine AW.ghost (GS.cell 2 1 rfl rfl rfl rfl Gt) ?_
    refine AW.draw mixed (fun H'=>_∈H') (List.mem_of_getElem? (i:=2) rfl) (by kernel_rfl) ?_
    refine Qn 0 rfl (OpP.Aa4 (fun k=>Cb (k:=k) (l:=[_,_,Iq _]) Aj rfl rfl rfl rfl rfl) (fun _ h=>h)) ?_
    refine Qn 1 rfl Ia ?_
    refine Qn 2 rfl (OpP.Aa4 (fun k=>Am (k:=k) (c:=.sl _ _) Aj rfl rfl rfl rfl) (fun _ h=>h)) ?_
    refine Qn 3 rfl (Al (n:=p.2.1.length) Aj rfl rfl rfl (hpel)) ?_
    refine Qn 4 rfl Pk (Qn 5 rfl Bt (Qo 6 rfl [] Qw Ia ?_))
    refine Iu.pure _ _ 7 _ _ rfl (by kernel_rfl) (by kernel_rfl) rfl (.opt _ (.sl _ _) [(70,_)] rfl (nI.all ⟨Ent.Aa1 _ _,trivial⟩) (fun hG=>OpP.Aa4 (fun k=>Am (k:=k) (c:=.sl _ _) Aj rfl rfl rfl rfl) (fun _ h=>h)) rfl) ?_
    refine Iu.pure _ _ 8 _ _ rfl (by kernel_rfl) (by kernel_rfl) rfl (.opt _ (Iq _) [(71,_)] rfl (nI.all ⟨Ent.Aa1 _ _,trivial⟩) (fun hG=>Al (n:=p.2.2.1.length) Aj rfl rfl rfl (hmel)) rfl) ?_
    refine Qo 9 rfl [(72,_)] Qw Pk (Qn 10 rfl G1 ?_)
    refine Iu.eff _ _ 11 _ _ rfl (by kernel_rfl) rfl rfl (Dc (k:=6) (v:=.agg _) (cs':=[_,_,Iq _]) (H2:=_::_::_::_::_::_::_::_) Aj rfl rfl rfl rfl (rfl) rfl rfl rfl rfl) (by rintro _ _ ⟨rfl,rfl⟩;simp) ?_
    rintro _ _ ⟨rfl,rfl⟩
    refine Qn 12 rfl Bb ?_
    refine Iu.done _ _ (by kernel_rfl) ?_
    refine Ad (AW.ret ?_)
    refine ⟨.inr rfl,[.agg [_,_,Iq _],.bool _],.cons (.box _ _ _ 6 _ _ _ _ rfl rfl rfl rfl rfl rfl) <| .cons (.tmp _ _ rfl) <| .nil,.cons _ (.cons _ (.cons _ (.cons _ (.cons _ (.cons _ (.cons _ (.refl _))))))),?_⟩
    rw [hpe,hme]
    exact Eq.trans rfl (congrArg (fun q:Gp×Bool=>AV.tuple [.agg (yR q.1),.bool q.2]) (oL hc1 hR2)).symm

set_option maxHeartbeats 1600000
set_option maxRecDepth 20000

theorem Nx (T:List Sc)(V:List Va)(e:Ex)(hk:KOK T V e)(hse:Av e≤1048576):A1 Tryz.prog 57 [.agg (B9 T V),.agg (cE e)] (.bool (Cm T V e)):=by
 refine A1.body (n:=47) Aj Tryz.func57 rfl rfl rfl fun H=>?_
 refine Ah (Qp (It [_,_]) (Qp Mt (Qp Bb (Dv ?_))))
 refine Qp (Di (v:=.fn _ _ _) rfl) ?_
 refine Ag (AW.seq (AW.block (Ah (Qp Lm (Qp B2 (Qp Ba (Qp Bb (Ag (A4 (fun hc1=>?_) fun hc1=>?_)))))))))
 ·
  refine Ah (Qp Bb (Ag (AW.ret (A6 (Ai ?_)))))
  refine Qr (.bool _) ?_
  exact Eq.trans rfl (congrArg (fun q:Bool=>AV.bool q) (pE hc1)).symm
 ·
  refine Ah (Qp E2 ?_)
  refine Qp (Qc rfl (Wi e)) ?_
  refine Qp Gj (Qp Bb (Ag (A4 (fun hc2=>?_) fun hc2=>?_)))
  ·
   refine Ah (Qp Bb (Ag (AW.ret (A6 (Ai ?_)))))
   refine Qr (.bool _) ?_
   exact Eq.trans rfl (congrArg (fun q:Bool=>AV.bool q) (oP hc1 hc2)).symm
  ·
   refine Ah (Qp (C8 [_,_]) (Qp E2 ?_))
   refine Qp (Qc rfl (P2 T V e hk)) ?_
   refine Qp Bb (Ag (A4 (fun hc3=>?_) fun hc3=>?_))
   ·
    refine AW.seq ?_
    have hcmp:Cc e=true:=by simpa using ‹(!Cc e)=false›
    have h2:=Jt hk hcmp
    have h00:0<e.args.length:=by omega
    have hsz:=Da h2
    have hk0:=An hk (Ax h00)
    have hk1:=An hk (Bf h2)
    refine AW.region ?_
    refine Qp (Bk (v:=.fn _ _ _) rfl) ?_
    refine Qp Oi (Qp D1 ?_)
    refine Qp (Af (c:=[Iq _,_,Iq _,Iq _,Iq _,Iq _,Iq _,.str _]) Aj rfl rfl rfl rfl rfl rfl (by decide) (Gf h00)) ?_
    refine Qp E2 ?_
    refine Qp (Fq (by kernel_rfl) rfl rfl rfl (eC (Ap e))) ?_
    refine Qp Bt ?_
    refine AOL.Aa5 (y:=.fn _ _ _) _ [] rfl (nI.all trivial) (fun hG=>Bk (v:=.fn _ _ _) rfl) rfl ?_
    refine Qg [] Qw Oi (Qg [(28,_)] Qw D1 ?_)
    refine AOL.Aa5 (y:=.ptr _) _ [(29,_)] rfl (nI.all ⟨Ent.Aa1 _ _,trivial⟩) (fun hG=>Af (c:=[Iq _,_,Iq _,Iq _,Iq _,Iq _,Iq _,.str _]) Aj rfl rfl rfl rfl rfl rfl (by decide) (Jw h2)) rfl ?_
    refine Qg [(30,_)] Qw E2 ?_
    refine AOL.Aa5 (y:=.bool _) _ [(31,_),(27,_)] rfl (nI.all ⟨Ent.Aa1 _ _,Ent.Aa1 _ _,trivial⟩) (fun hG=>Fq (by kernel_rfl) rfl rfl rfl (eC (B3 e))) rfl ?_
    refine Qp G1 (Qp Bb (Ag (AW.ret (A6 (Ai ?_)))))
    refine Qr (.bool _) ?_
    exact Eq.trans rfl (congrArg (fun q:Bool=>AV.bool q) (pD hc1 hc2 hc3)).symm
   ·
    refine AW.skip (Bn (Ad (AW.seq ?_)))
    have hcmp:Cc e=true:=by simpa using ‹(!Cc e)=false›
    have h2:=Jt hk hcmp
    have h00:0<e.args.length:=by omega
    have hsz:=Da h2
    have hk0:=An hk (Ax h00)
    have hk1:=An hk (Bf h2)
    refine AW.draw mixed (fun _=>True) trivial (by kernel_rfl) ?_
    refine Qn 0 rfl Oi (Qn 1 rfl D1 ?_)
    refine Qn 2 rfl (Af (c:=[Iq _,_,Iq _,Iq _,Iq _,Iq _,Iq _,.str _]) Aj rfl rfl rfl rfl rfl rfl (by decide) (Gf h00)) ?_
    refine Qn 3 rfl E2 (Qn 4 rfl Oi (Qn 5 rfl D1 ?_))
    refine Qn 6 rfl (Af (c:=[Iq _,_,Iq _,Iq _,Iq _,Iq _,Iq _,.str _]) Aj rfl rfl rfl rfl rfl rfl (by decide) (Jw h2)) ?_
    refine Qn 7 rfl E2 ?_
    refine Qn 8 rfl (Qc rfl (Yq _ _ hk0.nodes hk1.nodes (by omega))) ?_
    refine Qn 9 rfl Om ?_
    refine Qn 10 rfl (Dt (v:=.agg [_,_,Iq _]) rfl rfl) ?_
    refine Qn 11 rfl X9 ?_
    refine Iu.eff _ _ 12 _ _ rfl (by kernel_rfl) rfl rfl (A0 (l:=[.sl 3 [],.sl 3 [],.int .i64 0]) (by kernel_rfl)) (fun _ _ _=>trivial) ?_
    rintro _ _ ⟨b6,rfl,rfl⟩
    refine Iu.eff _ _ 13 _ _ rfl (by kernel_rfl) rfl rfl (Dc (k:=0) (v:=.agg _) (cs':=[_,_,Iq _]) (H2:=_::_) Aj rfl rfl rfl rfl (rfl) rfl rfl rfl rfl) (fun _ _ _=>trivial) ?_
    rintro _ _ ⟨rfl,rfl⟩
    refine Qn 14 rfl Bb ?_
    refine Iu.done _ _ (by kernel_rfl) ?_
    refine Ad ?_
    refine AW.ghost (GS.Aa2 (t:=6) 0 rfl rfl) ?_
    refine Ah (Qp Bt (Qp Bb (Ag (AW.ret ?_))))
    refine Qr (.bool _) ?_
    exact Eq.trans rfl (congrArg (fun q:Bool=>AV.bool q) (Ur hc1 hc2 hc3)).symm
theorem uX (T:List Sc)(V:List Va)(e:Ex)(hk:KOK T V e)(hse:Av e≤1048576):A1 Tryz.prog 28 [.agg (B9 T V),.agg (cE e)] (.bool (Fx T V e)):=by
 induction e using Ex.Aa8
 rename_i e ih
 have hal:=N2 e hse
 refine A1.body (n:=26) Aj Tryz.func28 rfl rfl rfl fun H=>?_
 refine Ah (Qp (It [_,_]) (Qp Mt (Qp Bb (Ag (AW.seq (Ah (Qp (C8 [_,_]) (Qp E2 ?_))))))))
 refine Qp (Qc rfl (Vi T V e hk)) ?_
 refine Qp Gj (Ag (A4 (fun hc1=>?_) fun hc1=>?_))
 ·
  refine Ah (Qp (C8 [_,_]) (Qp E2 ?_))
  refine Qp (Qc rfl (Nx T V e hk hse)) ?_
  refine Qp Bb (Ag (D4 ?_))
  refine Qr (.bool _) ?_
  exact Eq.trans rfl (congrArg (fun q:Bool=>AV.bool q) (pK hc1)).symm
 ·
  refine Bx (AW.seq (Ah (Qp Oi (Qp D1 ?_))))
  refine Qp (Al (n:=e.args.length) Aj rfl rfl rfl (by simp)) ?_
  refine Qp Az (Ag (AW.block ?_))
  refine AW.Aa3 (fun (k:Nat)=>(⟨[(2,.ptr (B9 T V)),(3,.ptr (cE e)),(4,.bool false),(15,.sl 8 (e.args.map Gq)),(16,.int .i64 e.args.length),(17,.int .i64 (k:Int))],H,26⟩:St)) (fun (k:Nat)=>k≤e.args.length∧(e.args.take k).all (Fx T V)=true) (fun (k:Nat)=>e.args.length-k) (0) ?_ (GS.weaken ⟨rfl,rfl,rfl,rfl,rfl,rfl,trivial⟩ (.refl _)) ?_
  · simp
  ·
   rintro k hR
   refine Ah (Qp Co (Ag (AW.seq (A4 (fun hc2=>?_) fun hc2=>?_))))
   ·
    obtain ⟨a,ha⟩:=B5 hc2
    have hlt:=Bh ha
    have hm:=List.mem_of_getElem? ha
    refine Bx (AW.seq (AW.block (Ah ?_)))
    refine Qp (Af (c:=[Iq _,_,Iq _,Iq _,Iq _,Iq _,Iq _,.str _]) Aj rfl rfl rfl rfl rfl rfl (by omega) (Fg ha)) ?_
    refine Qp E2 ?_
    refine Qe (A0 (l:=[.int .i64 0,.sl 8 [],.int .i64 0,.int .i64 0,.int .i64 0,.int .i64 0,.int .i64 0,.str []]) (by kernel_rfl)) ?_
    rintro _ _ ⟨b6,rfl,rfl⟩
    refine Eu 0 [Iq _,_,Iq _,Iq _,Iq _,Iq _,Iq _,.str _] (_::_) ?_
    refine AOL.ghost (GS.Aa2 (t:=6) 0 rfl rfl) ?_
    refine Dv (Qp (C8 [_,_]) (Qp E2 ?_))
    refine Qp (Qc rfl (ih a hm (An hk hm) (Nat.le_trans (Nat.le_of_lt (E9 hm)) hse))) ?_
    refine Qp Gj (Ag (A4 (fun hc3=>?_) fun hc3=>?_))
    ·
     refine Ah (Qp Bb (Ag (AW.ret (A6 (Ai (Ai (A6 (Ai ?_))))))))
     refine Qr (.bool _) ?_
     exact Eq.trans rfl (congrArg (fun q:Bool=>AV.bool q) (pG hc1 hm hc3)).symm
    ·
     refine AW.skip (Bn (Ad (AW.region (Qp Fb (Qp Az (Ag ?_))))))
     refine ⟨k+1,?_,?_,GS.weaken ⟨rfl,rfl,rfl,rfl,rfl,rfl,trivial⟩ (.refl _)⟩
     · exact ⟨hlt,by rw [Cx ha,List.all_append,hR.2];simpa using hc3⟩
     · omega
   ·
    have hte:=Cg hc2
    have hall:=hR.2
    rw [hte] at hall
    refine AW.exit ?_
    refine A2 (A2 (Bo (Ad (Ah (Qp Bb (Ag (AW.ret ?_)))))))
    refine Qr (.bool _) ?_
    exact Eq.trans rfl (congrArg (fun q:Bool=>AV.bool q) (rW hc1 hall)).symm
theorem xT (T:List Sc)(hl:T.length≤1048576)(hst:∀s∈T,Is s)(V:List Va)(hvl:V.length≤1048576)(e:Ex)(hse:Av e≤1048576):A1 Tryz.prog 8 [.sl 2 (T.map N5),.sl 2 (V.map Tp),.agg (cE e)] (.tuple [.bool (L8 T V e).1,.int .i64 (L8 T V e).2]):=by
 refine A1.body (n:=22) Aj Tryz.func8 rfl rfl rfl fun H=>?_
 refine Ah (Qp Mt (Qp Bb (Qp Aq (Dv (Qp Dm (Qp Dm (Qp (Ij [_,_]) ?_)))))))
 refine Qe (A0 (l:=[.sl 2 [],.sl 2 []]) (by kernel_rfl)) ?_
 rintro _ _ ⟨b8,rfl,rfl⟩
 refine Eu 0 [_,_] (_::_) ?_
 refine AOL.ghost (GS.Aa2 (t:=8) 0 rfl rfl) ?_
 refine Ag (AW.seq (Ah (Qp (C8 [_,_]) (Qp E2 ?_))))
 refine Qp (Qc rfl (Kq T hl hst V hvl e hse)) ?_
 refine Qp Aq (Dv (Qp Az (Qp C1 (Ag (A4 (fun hc1=>?_) fun hc1=>?_)))))
 ·
  refine Ah (Qp Az (Qp Bb (Qp Aq (Ag (D4 ?_)))))
  refine Iw (.bool _) (Iq _) ?_
  exact Eq.trans rfl (congrArg (fun q:Bool×Int=>AV.tuple [.bool q.1,.int .i64 q.2]) (tF hc1)).symm
 ·
  have hk:=K2 hc1
  refine Bx (Ah (Qp (C8 [_,_]) (Qp E2 ?_)))
  refine Qp (Qc rfl (uX T V e hk hse)) ?_
  refine Qp Bb (Qp Aq (Ag (AW.ret ?_)))
  refine Iw (.bool _) (Iq _) ?_
  exact Eq.trans rfl (congrArg (fun q:Bool×Int=>AV.tuple [.bool q.1,.int .i64 q.2]) (pF hc1)).symm



set_option maxHeartbeats 3200000
set_option maxRecDepth 20000

theorem nO (a b:List (List Lit))(hla:a.length≤512)(hlb:b.length≤512)(ha:∀x∈a,x.length≤1048576)(hb:∀x∈b,x.length≤1048576):A1 Tryz.prog 64 [.sl 1 (a.map Ra),.sl 1 (b.map Ra)] (.tuple [.sl 1 ((Kg a b).1.map Ra),.bool (Kg a b).2]):=by
 refine A1.body (n:=40) Aj Tryz.func64 rfl rfl rfl fun H=>?_
 refine Ah ?_
 refine Qp (Br (z:=1) rfl) ?_
 refine Qp Bb (Ag (AW.seq (Ah (Qp Dm ?_))))
 refine Qp (Al (n:=a.length) Aj rfl rfl rfl (by simp)) ?_
 refine Qp Dm ?_
 refine Qp (Al (n:=b.length) Aj rfl rfl rfl (by simp)) ?_
 refine Qp (yZ rfl rfl rfl (by constructor <;> (have h1:(0:Int)≤(a.length:Int)*(b.length:Int):=Int.mul_nonneg (by omega) (by omega);have h2:(a.length:Int)*(b.length:Int)≤512*512:=Int.mul_le_mul (by omega) (by omega) (by omega) (by omega);omega))) ?_
 refine Qp Gl (Ag (A4 (fun hc1=>?_) fun hc1=>?_))
 ·
  refine Ah ?_
  refine Qp (Br (z:=1) rfl) ?_
  refine Qp Bb (Ag (D4 ?_))
  refine Iw (.sl _ _) (.bool _) ?_
  exact Eq.trans rfl (congrArg (fun q:Cs=>AV.tuple [.sl 1 (q.1.map Ra),.bool q.2]) (uU hc1)).symm
 ·
  refine Bx (Ah (Qp O5 ?_))
  refine AOL.ghost (GS.row (t:=6) 42 1 rfl) ?_
  refine Ag (AW.seq (Ah (Qp Dm ?_)))
  refine Qp (Al (n:=a.length) Aj rfl rfl rfl (by simp)) ?_
  refine Qp Az (Ag (AW.block ?_))
  refine AW.Aa3 (fun (p:Nat×List (List AV)×Value)=>(⟨[(0,.sl 1 (a.map Ra)),(1,.sl 1 (b.map Ra)),(5,.bool false),(6,.row p.2.2 1 p.2.1),(17,.sl 1 (a.map Ra)),(18,.int .i64 a.length),(19,.int .i64 (p.1:Int))],.row p.2.2 p.2.1.length 42 1::H,40⟩:St)) (fun (p:Nat×List (List AV)×Value)=>p.1≤a.length∧p.2.1=((a.take p.1).flatMap fun x=>b.map fun y=>x++y).map Ra) (fun (p:Nat×List (List AV)×Value)=>a.length-p.1) ((0,[],.slice none 0 0)) ?_ (GS.weaken ⟨rfl,rfl,rfl,rfl,rfl,rfl,rfl,trivial⟩ (.refl _)) ?_
  · exact ⟨Nat.zero_le _,rfl⟩
  ·
   rintro p hR
   refine Ah (Qp Co (Ag (AW.seq (A4 (fun hc2=>?_) fun hc2=>?_))))
   ·
    obtain ⟨x,hx⟩:=B5 hc2
    have hlx:=Bh hx
    have hxl:=ha x (List.mem_of_getElem? hx)
    refine Bx (AW.seq (AW.block (Ah ?_)))
    refine Qp (Af (c:=[_]) Aj rfl rfl rfl rfl rfl rfl (by omega) (B1 hx)) ?_
    refine Qp D1 (Qp Sx (Dv (Qp Dm ?_)))
    refine Qp (Al (n:=b.length) Aj rfl rfl rfl (by simp)) ?_
    refine Qp Az (Ag (AW.block ?_))
    refine AW.Aa3 (fun (q:Nat×List (List AV)×Value)=>(⟨[(0,.sl 1 (a.map Ra)),(1,.sl 1 (b.map Ra)),(5,.bool false),(6,.row q.2.2 1 q.2.1),(8,.sl 9 (x.map Fy)),(17,.sl 1 (a.map Ra)),(18,.int .i64 a.length),(19,.int .i64 (p.1:Int)),(23,.sl 1 (b.map Ra)),(24,.int .i64 b.length),(25,.int .i64 (q.1:Int))],.row q.2.2 q.2.1.length 42 1::H,40⟩:St)) (fun (q:Nat×List (List AV)×Value)=>q.1≤b.length∧q.2.1=(((a.take p.1).flatMap fun x=>b.map fun y=>x++y)++(b.take q.1).map fun y=>x++y).map Ra∧True) (fun (q:Nat×List (List AV)×Value)=>b.length-q.1) ((0,p.2.1,p.2.2)) ?_ (GS.weaken ⟨rfl,rfl,rfl,rfl,rfl,rfl,rfl,rfl,rfl,rfl,rfl,trivial⟩ (.refl _)) ?_
    · exact ⟨Nat.zero_le _,by simp only [List.take_zero,List.map_nil,List.append_nil];exact hR.2,trivial⟩
    ·
     rintro q hQ
     refine Ah (Qp Co (Ag (AW.seq (A4 (fun hc3=>?_) fun hc3=>?_))))
     ·
      obtain ⟨y,hy⟩:=B5 hc3
      have hly:=Bh hy
      have hyl:=hb y (List.mem_of_getElem? hy)
      have hple:=xK hlx hly hc1
      refine Bx (AW.seq (AW.block (Ah ?_)))
      refine Qp (Af (c:=[_]) Aj rfl rfl rfl rfl rfl rfl (by omega) (B1 hy)) ?_
      refine Qp D1 (Qp Sx (Ag ?_))
      have hsx:∀c∈(x.map Fy),Bg c=true:=F2 fun _=>rfl
      have hsy:∀c∈(y.map Fy),Bg c=true:=F2 fun _=>rfl
      have hscx:∀c∈(x.map Fy++y.map Fy),Bg c=true:=fun c hc=>(List.mem_append.1 hc).elim (hsx c) (hsy c)
      have hso:∀c∈q.2.1,Bg c=true:=by rw [hQ.2.1];exact F2 fun _=>rfl
      have hql:q.2.1.length<256:=by rw [hQ.2.1,List.length_map,List.length_append,dA,List.length_map,List.length_take,List.length_take,Nat.min_eq_left (Nat.le_of_lt hlx),Nat.min_eq_left (Nat.le_of_lt hly)];exact hple
      refine AW.region ?_
      refine Qp (Bk (v:=.row _ _ _) rfl) ?_
      refine Qe (Qt (es:=[]) Aj rfl rfl rfl rfl rfl rfl rfl rfl rfl) ?_
      rintro _ _ ⟨v30,rfl,rfl⟩
      refine Qp Dm ?_
      refine Qe (Dr (k:=0) Aj rfl rfl rfl rfl rfl rfl rfl rfl (hsx) (oU) (by simp;omega) (by simp [maxLen];omega)) ?_
      rintro _ _ ⟨v32,rfl,rfl⟩
      refine Qp Dm ?_
      refine Qe (Dr (k:=0) Aj rfl rfl rfl rfl rfl rfl rfl rfl (hsy) (hsx) (by simp;omega) (by simp [maxLen];omega)) ?_
      rintro _ _ ⟨v34,rfl,rfl⟩
      refine AOL.ghost (GS.unrow 34 rfl) ?_
      refine Qp (A3 (es:=[[_]]) Aj rfl rfl rfl rfl rfl rfl rfl rfl rfl) ?_
      refine Qe (Dr (k:=1) Aj rfl rfl rfl rfl rfl rfl rfl rfl (Hw rfl) (hso) (by simp;omega) (by simp [maxLen];omega)) ?_
      rintro _ _ ⟨v36,rfl,rfl⟩
      refine Qp (Di (v:=.row _ _ _) rfl) ?_
      refine AOL.nil (Bn (Ad (AW.region (Qp Fb (Qp Az (Ag ?_))))))
      refine ⟨(q.1+1,q.2.1 ++ [[.sl 9 (x.map Fy++y.map Fy)]],v36),?_,?_,GS.weaken ⟨rfl,rfl,rfl,rfl,rfl,rfl,rfl,rfl,rfl,rfl,rfl,trivial⟩ (.cons _ (.refl _))⟩
      · exact ⟨hly,by simp only;rw [Cx hy,hQ.2.1];simp [Ra],trivial⟩
      · simp only;omega
     ·
      have hte:=Cg hc3
      have hall:=hQ.2.1
      rw [hte] at hall
      refine AW.exit ?_
      refine A2 (A2 (Bo (Bn (Ad (AW.region (Qp Fb (Qp Az (Ag ?_))))))))
      refine ⟨(p.1+1,q.2.1,q.2.2),?_,?_,GS.weaken ⟨rfl,rfl,rfl,rfl,rfl,rfl,rfl,trivial⟩ (.refl _)⟩
      · exact ⟨hlx,by simp only;rw [mA hx];exact hall⟩
      · simp only;omega
   ·
    have hte:=Cg hc2
    have hall:=hR.2
    rw [hte] at hall
    refine AW.exit ?_
    refine A2 (A2 (Bo (Ad (Ah ?_))))
    refine Qp (Bk (v:=.row _ _ _) rfl) ?_
    refine AOL.ghost (GS.unrow 39 rfl) ?_
    refine Qp Sx (Qp Bb (Ag (AW.ret ?_)))
    refine ⟨.inr rfl,[.sl _ _,.bool _],.cons (.tmp _ _ rfl) <| .cons (.tmp _ _ rfl) <| .nil,.cons _ (.refl _),?_⟩
    rw [hall]
    exact Eq.trans rfl (congrArg (fun q:Cs=>AV.tuple [.sl 1 (q.1.map Ra),.bool q.2]) (bZ hc1)).symm
set_option maxHeartbeats 400000
set_option maxRecDepth 20000

theorem yY (op:Int)(x y:Ex):A1 Tryz.prog 62 [.int .i64 op,.agg (cE x),.agg (cE y)] (.agg (cE (two op x y))):=by
 refine A1.body (n:=12) Aj Tryz.func62 rfl rfl rfl fun H=>?_
 refine Ah (Qp Mt (Qp Mt ?_))
 refine Qe (A0 (l:=[.int .i64 0,.sl 8 [],.int .i64 0,.int .i64 0,.int .i64 0,.int .i64 0,.int .i64 0,.str []]) (by kernel_rfl)) ?_
 rintro _ _ ⟨b6,rfl,rfl⟩
 refine Dv (Qp Az (Qp E2 (Qp E2 ?_)))
 refine Qp (A3 (es:=[[Iq _,_,Iq _,Iq _,Iq _,Iq _,Iq _,.str _],[Iq _,_,Iq _,Iq _,Iq _,Iq _,Iq _,.str _]]) Aj rfl rfl rfl rfl rfl rfl rfl rfl rfl) ?_
 refine Qp (Ij [Iq _,_,Iq _,Iq _,Iq _,Iq _,Iq _,.str _]) ?_
 refine Eu 0 [Iq _,_,Iq _,Iq _,Iq _,Iq _,Iq _,.str _] (_::_) ?_
 refine Ag (AW.ret ?_)
 refine ⟨.inr rfl,[.agg [Iq _,_,Iq _,Iq _,Iq _,Iq _,Iq _,.str _]],.cons (.box _ _ _ 0 _ _ _ _ rfl rfl rfl rfl rfl rfl) <| .nil,.cons _ (.refl _),?_⟩
 rw [mR];rfl
theorem uM (x:Bool):A1 Tryz.prog 93 [.bool x] (.agg (cE (E4 x))):=by
 refine A1.body (n:=6) Aj Tryz.func93 rfl rfl rfl fun H=>?_
 refine Ah ?_
 refine Qe (A0 (l:=[.int .i64 0,.sl 8 [],.int .i64 0,.int .i64 0,.int .i64 0,.int .i64 0,.int .i64 0,.str []]) (by kernel_rfl)) ?_
 rintro _ _ ⟨b2,rfl,rfl⟩
 refine Dv (Qp Bt ?_)
 refine Qp (Qc rfl (c75 x)) ?_
 refine Qp (Ij [Iq _,_,Iq _,Iq _,Iq _,Iq _,Iq _,.str _]) ?_
 refine Eu 0 [Iq _,_,Iq _,Iq _,Iq _,Iq _,Iq _,.str _] (_::_) ?_
 refine Ag (AW.ret ?_)
 refine ⟨.inr rfl,[.agg [Iq _,_,Iq _,Iq _,Iq _,Iq _,Iq _,.str _]],.cons (.box _ _ _ 0 _ _ _ _ rfl rfl rfl rfl rfl rfl) <| .nil,.cons _ (.refl _),?_⟩
 rfl
end Go.Proofs.YtjedflcpjlgokaaGreatDoor
