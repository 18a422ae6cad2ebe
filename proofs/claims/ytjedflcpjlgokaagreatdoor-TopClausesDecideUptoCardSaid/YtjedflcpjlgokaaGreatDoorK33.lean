/-
  Several texts in one: Y13, Y6c, Y2, Y14, Y17, Z2. No condition.
-/
import Derived.Test.YtjedflcpjlgokaaGreatDoorAz
import Derived.Test.YtjedflcpjlgokaaGreatDoorK17
import Derived.Test.YtjedflcpjlgokaaGreatDoorK32
import Derived.Test.YtjedflcpjlgokaaGreatDoorY6b
import Derived.KernelRfl
import Derived.Test.YtjedflcpjlgokaaGreatDoorK12
import Derived.Test.YtjedflcpjlgokaaGreatDoorK03
import Derived.Test.YtjedflcpjlgokaaGreatDoorK07
import Derived.Test.YtjedflcpjlgokaaGreatDoorK08
import Derived.Test.YtjedflcpjlgokaaGreatDoorY7b
import Derived.Test.YtjedflcpjlgokaaGreatDoorK25
import Derived.Test.YtjedflcpjlgokaaGreatDoorK18
import Derived.Test.YtjedflcpjlgokaaGreatDoorK29
set_option linter.unusedVariables false
set_option linter.unusedSimpArgs false
namespace Go.Proofs.YtjedflcpjlgokaaGreatDoor
open Go Go.Aw
set_option maxHeartbeats 3200000
set_option maxRecDepth 20000

theorem mN (T:List Sc)(hst:∀s∈T,Is s)(V:List Va)(hty:Kl T V)(hvl:V.length≤1048576)(cs:Cs)(hcs:vOK T V cs):A1 Tryz.prog 32 [.agg (B9 T V),.agg (Dx cs)] (.tuple [.int .i64 (Gx T V cs).1,.sl 5 ((Gx T V cs).2.map aZ)]):=by
 refine A1.body (n:=44) Aj Tryz.func32 rfl rfl rfl fun H=>?_
 refine Ah (Qp (It [_,_]) (Qp (It [_,.bool _]) (Qp Aq ?_)))
 refine Qp (Br (z:=5) rfl) ?_
 refine Ag (AW.seq (Ah (Qp (Qf [.bool _]) (Qp kM (Qp Gj (Ag (A4 (fun hc1=>?_) fun hc1=>?_)))))))
 ·
  refine Ah (Qp Aq ?_)
  refine Qp (Br (z:=5) rfl) ?_
  refine Ag (D4 ?_)
  refine Iw (Iq _) (.sl _ _) ?_
  exact Eq.trans rfl (congrArg (fun q:Int×List Ev=>AV.tuple [.int .i64 q.1,.sl 5 (q.2.map aZ)]) (verd_1 hc1)).symm
 ·
  refine Bx (Ah (Qp Aq (Ag (AW.seq (Ah (Qp (Qf [_,.bool _]) (Qp D1 ?_)))))))
  refine Qp (Al (n:=cs.1.length) Aj rfl rfl rfl (by simp)) ?_
  refine Qp Az (Ag (AW.block ?_))
  refine AW.Aa3 (fun (p:Nat×Int)=>(⟨[(2,.ptr (B9 T V)),(6,.int .i64 p.2),(15,.sl 1 (cs.1.map Ra)),(16,.int .i64 cs.1.length),(17,.int .i64 (p.1:Int))],H,44⟩:St)) (fun (p:Nat×Int)=>p.1≤cs.1.length∧fH T V 2 cs.1=fH T V p.2 (cs.1.drop p.1)) (fun (p:Nat×Int)=>cs.1.length-p.1) ((0,2)) ?_ (GS.weaken ⟨rfl,rfl,rfl,rfl,rfl,trivial⟩ (.refl _)) ?_
  · exact ⟨Nat.zero_le _,rfl⟩
  ·
   rintro p hR
   have hcl9:=hcs.1
   refine Ah (Qp Co (Ag (AW.seq (A4 (fun hc2=>?_) fun hc2=>?_))))
   ·
    obtain ⟨c,hc⟩:=B5 hc2
    have hlt:=Bh hc
    have hcv:=hcs.2 c (List.mem_of_getElem? hc)
    have hck:=hcv.1
    have hcl:=hcv.2
    have hgo:=hR.2
    rw [Bi hc] at hgo
    refine Bx (AW.seq (AW.block (Ah ?_)))
    refine Qp (Af (c:=[_]) Aj rfl rfl rfl rfl rfl rfl (by omega) (B1 hc)) ?_
    refine Qp D1 (Qp Sx (Dv (Qp (C8 [_,_]) (Qp Dm ?_))))
    refine Qe (Ey (by kernel_rfl) rfl rfl (wX T V c hck hcl (cB T V c) _)) ?_
    rintro _ _ ⟨m,mo,hmo,rfl,rfl⟩
    refine Qp Om ?_
    refine Qp (Dt (v:=.agg [_,_,_]) rfl rfl) ?_
    refine Qp X9 ?_
    refine Qe (A0 (l:=[.val (.pointer none),.sl 1 [],.val (.map none)]) (by kernel_rfl)) ?_
    rintro _ _ ⟨b9,rfl,rfl⟩
    refine Eu 0 [_,_,_] (_::_::_) ?_
    refine Qp Bb ?_
    refine AOL.ghost (GS.Aa2 (t:=9) 0 rfl rfl) ?_
    refine Ag (AW.seq (Ah (Qp Bt (Qp Gj (Qp Bt (Qg [] Qw Dm ?_))))))
    refine AOL.Aa5 (y:=Iq _) _ [(30,_)] rfl (nI.all ⟨Ent.Aa1 _ _,trivial⟩) (fun hG=>Al (n:=c.length) Aj rfl rfl rfl (by simp)) rfl ?_
    refine Qg [(31,_)] Qw Pk (Qp G1 (Ag (A4 (fun hc3=>?_) fun hc3=>?_)))
    ·
     refine AW.exit ?_
     refine A2 (Bo (Ad (AW.region (Qp Fb (Qp Az (Ag ?_))))))
     refine ⟨(p.1+1,p.2),?_,?_,GS.weaken ⟨rfl,rfl,rfl,rfl,rfl,trivial⟩ (.cons _ (.refl _))⟩
     · exact ⟨hlt,hgo.trans (rZ hc3)⟩
     · simp only;omega
    ·
     refine Bx (AW.seq (Ah (Qp (C8 [_,_]) (Qp Dm (Qp (C8 [_,_,_]) ?_)))))
     refine Qp (Qc rfl (mZ T V c hck (by omega) (Y4 T V c) mo)) ?_
     refine Ag (A4 (fun hc4=>?_) fun hc4=>?_)
     ·
      have hvs:=sC hck hc3 hc4
      have hmoe:=hmo (Rw hc4).1
      subst hmoe
      refine Ah (Qp (C8 [_,_]) (Qp Dm (Qp (C8 [_,_,_]) ?_)))
      refine Qe (Ey (by kernel_rfl) rfl rfl (rG T V hty hst hvl c hck hcl m _ (iC c) (Y4 T V c) hvs _)) ?_
      rintro _ _ ⟨rfl,rfl⟩
      refine Qp Aq (Qp Sx (Ag (D4 (A6 (Ai (Ai (A6 (Ai ?_))))))))
      refine ⟨.inr rfl,[Iq _,.sl _ _],.cons (.tmp _ _ rfl) <| .cons (.tmp _ _ rfl) <| .nil,.cons _ (.refl _),?_⟩
      exact Eq.trans rfl (congrArg (fun q:Int×List Ev=>AV.tuple [.int .i64 q.1,.sl 5 (q.2.map aZ)]) ((hP hc1).trans (hgo.trans (vO hc3 hc4)))).symm
     ·
      refine Bx (AW.region (Qp Aq (AOL.nil (Bn (Ad (AW.region (Qp Fb (Qp Az (Ag ?_)))))))))
      refine ⟨(p.1+1,0),?_,?_,GS.weaken ⟨rfl,rfl,rfl,rfl,rfl,trivial⟩ (.cons _ (.refl _))⟩
      · exact ⟨hlt,hgo.trans (zT hc3 hc4)⟩
      · simp only;omega
   ·
    have hde:=Dq hc2
    have hgo:=hR.2
    rw [hde] at hgo
    refine AW.exit ?_
    refine A2 (A2 (Bo (Ad (Ah (Qp Az (Qp Aq ?_))))))
    refine Qp (Br (z:=5) rfl) ?_
    refine Ag (AW.ret ?_)
    refine Iw (Iq _) (.sl _ _) ?_
    exact Eq.trans rfl (congrArg (fun q:Int×List Ev=>AV.tuple [.int .i64 q.1,.sl 5 (q.2.map aZ)]) ((hP hc1).trans hgo)).symm
theorem Zw (T:List Sc)(hl:T.length≤1048576)(hst:∀s∈T,Is s)(V:List Va)(hvl:V.length≤1048576)(es:List Ex)(hel:es.length≤1048576)(hes:∀e∈es,Av e≤1048576):A1 Tryz.prog 30 [.agg (B9 T V),.sl 8 (es.map Gq)] (.int .i64 (E3 T V es)):=by
 refine A1.body (n:=30) Aj Tryz.func30 rfl rfl rfl fun H=>?_
 refine Ah (Qp (It [_,_]) (Qp Aq (Ag (AW.seq (Ah (Qp (C8 [_,_]) ?_))))))
 refine Qp (Qc rfl (Sg T hl hst V hvl)) ?_
 refine Qp Aq (Dv (Qp Az (Qp C1 (Ag (A4 (fun hc1=>?_) fun hc1=>?_)))))
 ·
  refine Ah (Qp Az (Qp Aq (Ag (D4 ?_))))
  refine Qr (Iq _) ?_
  exact Eq.trans rfl (congrArg (fun q:Int=>AV.int .i64 q) (aA hc1)).symm
 ·
  refine Bx (AW.seq (Ah (Qp Dm ?_)))
  refine Qp (Al (n:=es.length) Aj rfl rfl rfl (by simp)) ?_
  refine Qp Gl (Ag (A4 (fun hc2=>?_) fun hc2=>?_))
  ·
   refine Ah (Qp Aq (Ag (D4 ?_)))
   refine Qr (Iq _) ?_
   exact Eq.trans rfl (congrArg (fun q:Int=>AV.int .i64 q) (jP hc1 hc2)).symm
  ·
   refine Bx (AW.seq (Ah (Qp Dm ?_)))
   refine Qp (Al (n:=es.length) Aj rfl rfl rfl (by simp)) ?_
   refine Qp Az (Ag (AW.block ?_))
   refine AW.Aa3 (fun (k:Nat)=>(⟨[(2,.ptr (B9 T V)),(17,.sl 8 (es.map Gq)),(18,.int .i64 es.length),(19,.int .i64 (k:Int))],H,30⟩:St)) (fun (k:Nat)=>k≤es.length∧At (C4 T V) (es.take k)=0) (fun (k:Nat)=>es.length-k) (0) ?_ (GS.weaken ⟨rfl,rfl,rfl,rfl,trivial⟩ (.refl _)) ?_
   · exact ⟨Nat.zero_le _,rfl⟩
   ·
    rintro k hR
    refine Ah (Qp Co (Ag (AW.seq (A4 (fun hc3=>?_) fun hc3=>?_))))
    ·
     obtain ⟨e,he⟩:=B5 hc3
     have hlt:=Bh he
     have hem:=List.mem_of_getElem? he
     refine Bx (AW.seq (AW.block (Ah ?_)))
     refine Qp (Af (c:=[Iq _,_,Iq _,Iq _,Iq _,Iq _,Iq _,.str _]) Aj rfl rfl rfl rfl rfl rfl (by omega) (Fg he)) ?_
     refine Qp E2 ?_
     refine Qe (A0 (l:=[.int .i64 0,.sl 8 [],.int .i64 0,.int .i64 0,.int .i64 0,.int .i64 0,.int .i64 0,.str []]) (by kernel_rfl)) ?_
     rintro _ _ ⟨b7,rfl,rfl⟩
     refine Eu 0 [Iq _,_,Iq _,Iq _,Iq _,Iq _,Iq _,.str _] (_::_) ?_
     refine AOL.ghost (GS.Aa2 (t:=7) 0 rfl rfl) ?_
     refine Dv (Qp (C8 [_,_]) (Qp E2 ?_))
     refine Qp (Qc rfl (Kq T hl hst V hvl e (hes e hem))) ?_
     refine Qp Aq (Dv (Qp Az (Qp C1 (Ag (A4 (fun hc4=>?_) fun hc4=>?_)))))
     ·
      refine Ah (Qp Az (Qp Aq (Ag (AW.ret (A6 (Ai (Ai (A6 (Ai ?_)))))))))
      refine Qr (Iq _) ?_
      exact Eq.trans rfl (congrArg (fun q:Int=>AV.int .i64 q) ((Zg hc1 hc2).trans (Mf hR.2 he (by simpa using hc4)))).symm
     ·
      refine AW.skip (Bn (Ad (AW.region (Qp Fb (Qp Az (Ag ?_))))))
      refine ⟨k+1,?_,?_,GS.weaken ⟨rfl,rfl,rfl,rfl,trivial⟩ (.refl _)⟩
      · exact ⟨hlt,Pf hR.2 he (by simpa using hc4)⟩
      · omega
    ·
     have hte:=Cg hc3
     have hall:=hR.2
     rw [hte] at hall
     refine AW.exit ?_
     refine A2 (A2 (Bo (Ad (Ah (Qp Aq (Ag (AW.ret ?_)))))))
     refine Qr (Iq _) ?_
     exact Eq.trans rfl (congrArg (fun q:Int=>AV.int .i64 q) ((Zg hc1 hc2).trans hall)).symm
theorem Vt (T:List Sc)(hl:T.length≤1048576)(hst:∀s∈T,Is s)(V:List Va)(hvl:V.length≤1048576)(es:List Ex)(hel:es.length≤60)(hes:∀e∈es,Av e≤1048576):A1 Tryz.prog 10 [.sl 2 (T.map N5),.sl 2 (V.map Tp),.sl 8 (es.map Gq)] (.tuple [.int .i64 (B6 T V es).1,.sl 5 ((B6 T V es).2.1.map aZ),.int .i64 (B6 T V es).2.2]):=by
 refine A1.body (n:=47) Aj Tryz.func10 rfl rfl rfl fun H=>?_
 refine Ah (Qp Aq ?_)
 refine Qp (Br (z:=5) rfl) ?_
 refine Qp Aq (Dv (Qp Dm (Qp Dm (Qp (Ij [_,_]) ?_))))
 refine Qe (A0 (l:=[.sl 2 [],.sl 2 []]) (by kernel_rfl)) ?_
 rintro _ _ ⟨b9,rfl,rfl⟩
 refine Eu 0 [_,_] (_::_) ?_
 refine AOL.ghost (GS.Aa2 (t:=9) 0 rfl rfl) ?_
 refine Ag (AW.seq (Ah (Qp (C8 [_,_]) (Qp Dm ?_))))
 refine Qp (Qc rfl (Zw T hl hst V hvl es (by omega) hes)) ?_
 refine Qp Aq (Dv (Qp Az (Qp C1 (Ag (A4 (fun hc1=>?_) fun hc1=>?_)))))
 ·
  refine Ah (Qp Az (Qp Aq ?_))
  refine Qp (Br (z:=5) rfl) ?_
  refine Qp Aq (Ag (D4 ?_))
  refine ⟨.inr rfl,[Iq _,.sl _ _,Iq _],.cons (.tmp _ _ rfl) <| .cons (.tmp _ _ rfl) <| .cons (.tmp _ _ rfl) <| .nil,.refl _,?_⟩
  exact Eq.trans rfl (congrArg (fun q:Int×List Ev×Int=>AV.tuple [.int .i64 q.1,.sl 5 (q.2.1.map aZ),.int .i64 q.2.2]) (Aap hc1)).symm
 ·
  have hcz:=hU hc1
  have hty:=tK hc1
  refine Bx (Ah ?_)
  refine Qp (C3.weakV (A3 (es:=[[_]]) Aj rfl rfl rfl rfl rfl rfl rfl rfl rfl) cQ) ?_
  refine Qp (Ij [_,.bool _]) ?_
  refine Qe (A0 (l:=[.sl 1 [],.bool false]) (by kernel_rfl)) ?_
  rintro _ _ ⟨b11,rfl,rfl⟩
  refine Eu 0 [_,.bool _] (_::_) ?_
  refine Ag (AW.seq (Ah (Qp Dm ?_)))
  refine Qp (Al (n:=es.length) Aj rfl rfl rfl (by simp)) ?_
  refine Qp Az (Ag (AW.block ?_))
  refine AW.Aa3 (fun (p:Nat×Cs)=>(⟨[(9,.ptr (B9 T V)),(11,.val (.pointer (some ⟨b11,0,none⟩))),(27,.sl 8 (es.map Gq)),(28,.int .i64 es.length),(29,.int .i64 (p.1:Int))],.box b11 88 (Dx p.2)::H,47⟩:St)) (fun (p:Nat×Cs)=>p.1≤es.length∧Xq T V (es.take p.1) ([[]],true)=p.2∧csOK (64*p.1) p.2∧Ie T V 64 p.2) (fun (p:Nat×Cs)=>es.length-p.1) ((0,([[]],true))) ?_ (GS.weaken ⟨rfl,rfl,rfl,rfl,rfl,trivial⟩ (.refl _)) ?_
  · exact ⟨Nat.zero_le _,rfl,tE,nB⟩
  ·
   rintro p hR
   refine Ah (Qp Co (Ag (AW.seq (A4 (fun hc2=>?_) fun hc2=>?_))))
   ·
    obtain ⟨e,he⟩:=B5 hc2
    have hlt:=Bh he
    have hem:=List.mem_of_getElem? he
    have hke:=(hcz.2 e hem).1
    have hkz:=Kv hke
    refine Bx (AW.seq (AW.block (Ah ?_)))
    refine Qp (Af (c:=[Iq _,_,Iq _,Iq _,Iq _,Iq _,Iq _,.str _]) Aj rfl rfl rfl rfl rfl rfl (by omega) (Fg he)) ?_
    refine Qp E2 ?_
    refine Qe (A0 (l:=[.int .i64 0,.sl 8 [],.int .i64 0,.int .i64 0,.int .i64 0,.int .i64 0,.int .i64 0,.str []]) (by kernel_rfl)) ?_
    rintro _ _ ⟨b13,rfl,rfl⟩
    refine Eu 0 [Iq _,_,Iq _,Iq _,Iq _,Iq _,Iq _,.str _] (_::_::_) ?_
    refine AOL.ghost (GS.Aa2 (t:=13) 0 rfl rfl) ?_
    refine Ag ?_
    refine AW.draw mixed (fun H'=>_∈H') (List.mem_of_getElem? (i:=0) rfl) (by kernel_rfl) ?_
    refine Qn 0 rfl (OpP.Aa4 (fun k=>Cb (k:=k) (l:=[_,.bool _]) Aj rfl rfl rfl rfl rfl) (fun _ h=>h)) ?_
    refine Qn 1 rfl (C8 [_,_]) (Qn 2 rfl E2 ?_)
    refine Qn 3 rfl (Qc rfl (eJ T V e hke.kok (Kv hke) true)) ?_
    refine Qn 4 rfl (Qc rfl (Qi _ _ _ _ hR.2.2.1 (Ge e hke.kok true) (by omega) (by have:=Kv hke;omega))) ?_
    refine Iu.last _ _ 5 _ _ rfl (by kernel_rfl) rfl rfl (Dc (k:=0) (v:=.agg _) (cs':=[_,.bool _]) (H2:=_::_) Aj rfl rfl rfl rfl (rfl) rfl rfl rfl rfl) (by kernel_rfl) ?_
    rintro _ _ ⟨rfl,rfl⟩
    refine Bn (Ad (AW.region (Qp Fb (Qp Az (Ag ?_)))))
    refine ⟨(p.1+1,Dy p.2 (Bw T V e true)),?_,?_,GS.weaken ⟨rfl,rfl,rfl,rfl,rfl,trivial⟩ (.refl _)⟩
    · exact ⟨hlt,by unfold Xq;rw [Cx he,List.foldl_append];exact congrArg (fun z=>Dy z (Bw T V e true)) hR.2.1,(K8 hR.2.2.1 (Ge e hke.kok true)).mono (by simp only;omega),Og hR.2.2.2 (Lk (Oo e hke.kok true) hkz)⟩
    · simp only;omega
   ·
    have hte:=Cg hc2
    have hpr:=hR.2.1
    rw [hte] at hpr
    have hvo:vOK T V p.2:=vOK_of hR.2.2.1 hR.2.2.2 (by have:=hR.1;omega)
    refine AW.exit ?_
    refine A2 (A2 (Bo (Ad (Ah (Qp (C8 [_,_]) ?_)))))
    refine AOL.Aa7 (Cb (k:=0) (l:=[_,.bool _]) Aj rfl rfl rfl rfl rfl) rfl rfl ?_
    refine Qp (Qc rfl (mN T hst V hty hvl _ hvo)) ?_
    refine Qp Om (Qp Kn (Qp qE (Qp Aq (Qp Sx (Dv (Qp Az (Qp Dm (Qp Aq (Qp Sx ?_)))))))))
    refine Qp Aq (Ag (AW.ret ?_))
    refine ⟨.inr rfl,[Iq _,.sl _ _,Iq _],.cons (.tmp _ _ rfl) <| .cons (.tmp _ _ rfl) <| .cons (.tmp _ _ rfl) <| .nil,.cons _ (.refl _),?_⟩
    exact Eq.trans rfl (congrArg (fun q:Int×List Ev×Int=>AV.tuple [.int .i64 q.1,.sl 5 (q.2.1.map aZ),.int .i64 q.2.2]) (gD hc1 hpr)).symm


set_option maxHeartbeats 800000
set_option maxRecDepth 20000

set_option maxRecDepth 100000
theorem zY (T:List Sc)(hl:T.length≤1048576)(hst:∀s∈T,Is s):A1 Tryz.prog 25 [.sl 2 (T.map N5)] (.bool (fC T)):=by
 refine A1.body (n:=29) Aj Tryz.func25 rfl rfl rfl fun H=>?_
 refine Ah (Qp Bb (Ag (AW.seq (Ah (Qp Aq (Ag (AW.block ?_)))))))
 refine AW.Aa3 (fun (k:Nat)=>(⟨[(0,.sl 2 (T.map N5)),(3,.int .i64 (k:Int))],H,29⟩:St)) (fun (k:Nat)=>k≤T.length∧(T.take k).any yA=false) (fun (k:Nat)=>T.length-k) (0) ?_ (GS.weaken ⟨rfl,rfl,trivial⟩ (.refl _)) ?_
 · exact ⟨Nat.zero_le _,by simp⟩
 ·
  rintro k hR
  refine AW.seq (Ah (Qp Az (Qp Dm ?_)))
  refine Qp (Al (n:=T.length) Aj rfl rfl rfl (by simp)) ?_
  refine Qp Co (Ag (A4 (fun hc1=>?_) fun hc1=>?_))
  ·
   obtain ⟨a,ha⟩:=B5 hc1
   have hlt:=Bh ha
   have hm:=List.mem_of_getElem? ha
   refine Bx (AW.seq (AW.block (Ah (Qp Dm (Qp Az ?_)))))
   refine Qp (Af (c:=[.str _,_]) Aj rfl rfl rfl rfl rfl rfl (by omega) (B1 ha)) ?_
   refine Qp (Qf [_]) (Qp D1 ?_)
   refine Qp (Al (n:=a.fields.length) Aj rfl rfl rfl (by simp)) ?_
   refine Qp Gl (Qp Bt (Qg [] Qw Dm (Qg [] Qw Az ?_)))
   refine AOL.Aa5 (y:=.ptr _) _ [(18,_),(19,_)] rfl (nI.all ⟨Ent.Aa1 _ _,Ent.Aa1 _ _,trivial⟩) (fun hG=>Af (c:=[.str _,_]) Aj rfl rfl rfl rfl rfl rfl (by omega) (B1 ha)) rfl ?_
   refine Qg [(20,_)] Qw (Qf [.str _,_]) (Qg [(21,_)] Qw Uj ?_)
   refine AOL.Aa5 (y:=Iq _) _ [(22,_)] rfl (nI.all ⟨Ent.Aa1 _ _,trivial⟩) (fun hG=>G4 (n:=a.name.length) Aj rfl rfl rfl (rfl)) rfl ?_
   refine Qg [(23,_)] Qw Gl (Qp Ew (Ag (A4 (fun hc2=>?_) fun hc2=>?_)))
   ·
    refine Ah (Qp Bb (Ag (AW.ret (A6 (Ai (Ai (A6 (Ai ?_))))))))
    refine Qr (.bool _) ?_
    exact Eq.trans rfl (congrArg (fun q:Bool=>AV.bool q) ((by unfold fC;rw [if_pos (Tg ha hc2)]:fC T=false))).symm
   ·
    refine AW.skip (Bn (Ad (AW.region (Qp Az (Qp Fb (Qp Aq (Ag ?_)))))))
    refine ⟨k+1,?_,?_,GS.weaken ⟨rfl,rfl,trivial⟩ (.refl _)⟩
    · exact ⟨hlt,Ik hR.2 ha hc2⟩
    · omega
  ·
   have hte:=Cg hc1
   have hall:=hR.2
   rw [hte] at hall
   refine AW.exit ?_
   refine A2 (A2 (Bo (Ad (Ah (Qp Dm ?_)))))
   refine Qp (Al (n:=T.length) Aj rfl rfl rfl (by simp)) ?_
   refine Qp Pk (Qp Bb (Ag (AW.ret ?_)))
   refine Qr (.bool _) ?_
   exact Eq.trans rfl (congrArg (fun q:Bool=>AV.bool q) ((by unfold fC;rw [Cu hall]:fC T=decide ((T.length:Int)≤20)))).symm

set_option maxHeartbeats 3200000
set_option maxRecDepth 20000

theorem wK (z:Zn)(hzl:z.bs.length≤1048576)(l:List Int)(hl:l.length≤1048576):A1 Tryz.prog 14 [.agg (Ss z),.sl 1 (l.map cI)] (.tuple [.bool (Kf z l).1,.int .i64 (Kf z l).2]):=by
 refine A1.body (n:=31) Aj Tryz.func14 rfl rfl rfl fun H=>?_
 refine Ah (Qp (It [Iq _,_]) ?_)
 refine Qp (X3 (v:=.sl _ _) (cs:=[_]) rfl rfl rfl) ?_
 refine Qp Bb (Qp Aq (Ag (AW.seq (Ah (Qp (C8 [Iq _,_]) ?_)))))
 refine Qp (Qc rfl (Tz z)) ?_
 refine Qp Aq (Dv (Qp Az (Qp C1 (Ag (A4 (fun hc1=>?_) fun hc1=>?_)))))
 ·
  refine Ah (Qp Az (Qp Bb (Qp Aq (Ag (D4 ?_)))))
  refine Iw (.bool _) (Iq _) ?_
  exact Eq.trans rfl (congrArg (fun q:Bool×Int=>AV.tuple [.bool q.1,.int .i64 q.2]) (wL hc1)).symm
 ·
  refine Bx (AW.seq (AW.block (Ah (Qp D1 ?_))))
  refine Qp (Al (n:=l.length) Aj rfl rfl rfl (by simp)) ?_
  refine Qp (Qf [Iq _,_]) (Qp B2 (Qp C1 (Qp Bb (Ag (A4 (fun hc2=>?_) fun hc2=>?_)))))
  ·
   refine Ah (Qp Bb (Qp Aq (Ag (AW.ret (A6 (Ai ?_))))))
   refine Iw (.bool _) (Iq _) ?_
   exact Eq.trans rfl (congrArg (fun q:Bool×Int=>AV.tuple [.bool q.1,.int .i64 q.2]) (uB hc1 hc2)).symm
  ·
   have hin:=oK hc1 hc2
   refine Ah (Qp D1 ?_)
   refine Qp (Qc rfl (P8 l hl 41 (by kernel_rfl) [] Ws (fun a _=>pS a))) ?_
   refine Qp Bb (Ag (A4 (fun hc3=>?_) fun hc3=>?_))
   ·
    refine Ah (Qp Bb (Qp Aq (Ag (AW.ret (A6 (Ai ?_))))))
    refine Iw (.bool _) (Iq _) ?_
    exact Eq.trans rfl (congrArg (fun q:Bool×Int=>AV.tuple [.bool q.1,.int .i64 q.2]) (uY hc1 hc2 hc3)).symm
   ·
    have hfar:=far_ok hc3
    refine Ah (Qp D1 ?_)
    refine Qp (Af (c:=[Iq _]) Aj rfl rfl rfl rfl rfl rfl (by decide) (tM (k:=0) (by decide) hin.1)) ?_
    refine Qp B2 (Qp C1 (Qp Bb (Ag (A4 (fun hc4=>?_) fun hc4=>?_))))
    ·
     refine Ah (Qp Bb (Qp Aq (Ag (AW.ret (A6 (Ai ?_))))))
     refine Iw (.bool _) (Iq _) ?_
     exact Eq.trans rfl (congrArg (fun q:Bool×Int=>AV.tuple [.bool q.1,.int .i64 q.2]) (vG hc1 hc2 hc3 hc4)).symm
    ·
     refine AW.skip (Bn (Ad (Ah (Qp (Qf [_]) (Qp D1 ?_)))))
     refine Qp (Gr (l:=[]) (l':=[.ptr _]) rfl rfl) ?_
     refine Qp (Qc rfl (Zq z.bs hzl 43 (by kernel_rfl) [.ptr [.sl 1 (l.map cI)]] (fun b=>!eW l b) (fun b hb=>qO b l (hin.2 b hb).1 (hin.2 b hb).2 hfar))) ?_
     refine Qp Gj (Qp Bb (Qp Aq (Ag (AW.ret ?_))))
     refine Iw (.bool _) (Iq _) ?_
     exact Eq.trans rfl (congrArg (fun q:Bool×Int=>AV.tuple [.bool q.1,.int .i64 q.2]) (tX hc1 hc2 hc3 hc4)).symm
theorem kN (o a c n:Int):A1 Tryz.prog 23 [.int .i64 o,.int .i64 a,.int .i64 c,.int .i64 n] (.agg (cE (Q0 o a c n))):=by
 refine A1.body (n:=25) Aj Tryz.func23 rfl rfl rfl fun H=>?_
 refine Ah ?_
 refine Qe (A0 (l:=[.int .i64 0,.sl 8 [],.int .i64 0,.int .i64 0,.int .i64 0,.int .i64 0,.int .i64 0,.str []]) (by kernel_rfl)) ?_
 rintro _ _ ⟨b8,rfl,rfl⟩
 refine Dv (Qp Az (Qp (Ij [Iq _,_,Iq _,Iq _,Iq _,Iq _,Iq _,.str _]) ?_))
 refine Qe (A0 (l:=[.int .i64 0,.sl 8 [],.int .i64 0,.int .i64 0,.int .i64 0,.int .i64 0,.int .i64 0,.str []]) (by kernel_rfl)) ?_
 rintro _ _ ⟨b9,rfl,rfl⟩
 refine Eu 0 [Iq _,_,Iq _,Iq _,Iq _,Iq _,Iq _,.str _] (_::_::_) ?_
 refine AOL.ghost (GS.Aa2 (t:=9) 0 rfl rfl) ?_
 refine Dv (Qp Az (Qp (Ij [Iq _,_,Iq _,Iq _,Iq _,Iq _,Iq _,.str _]) (Qp Az (Qp (Ij [Iq _,Iq _,.str _]) (Qp (Ij [Iq _,_,Iq _,Iq _,Iq _,Iq _,Iq _,.str _]) ?_)))))
 refine Qp (A3 (es:=[[Iq _,_,Iq _,Iq _,Iq _,Iq _,Iq _,.str _],[Iq _,_,Iq _,Iq _,Iq _,Iq _,Iq _,.str _]]) Aj rfl rfl rfl rfl rfl rfl rfl rfl rfl) ?_
 refine Qp (Ij [Iq _,_,Iq _,Iq _,Iq _,Iq _,Iq _,.str _]) ?_
 refine Qe (A0 (l:=[.int .i64 0,.sl 8 [],.int .i64 0,.int .i64 0,.int .i64 0,.int .i64 0,.int .i64 0,.str []]) (by kernel_rfl)) ?_
 rintro _ _ ⟨b10,rfl,rfl⟩
 refine Eu 0 [Iq _,_,Iq _,Iq _,Iq _,Iq _,Iq _,.str _] (_::_::_) ?_
 refine AOL.ghost (GS.Aa2 (t:=10) 0 rfl rfl) ?_
 refine Dv (Qp Az (Qp E2 (Qp E2 ?_)))
 refine Qp (A3 (es:=[[Iq _,_,Iq _,Iq _,Iq _,Iq _,Iq _,.str _],[Iq _,_,Iq _,Iq _,Iq _,Iq _,Iq _,.str _]]) Aj rfl rfl rfl rfl rfl rfl rfl rfl rfl) ?_
 refine Qp (Ij [Iq _,_,Iq _,Iq _,Iq _,Iq _,Iq _,.str _]) ?_
 refine Eu 0 [Iq _,_,Iq _,Iq _,Iq _,Iq _,Iq _,.str _] (_::_) ?_
 refine Ag (AW.ret ?_)
 refine ⟨.inr rfl,[.agg [Iq _,_,Iq _,Iq _,Iq _,Iq _,Iq _,.str _]],.cons (.box _ _ _ 0 _ _ _ _ rfl rfl rfl rfl rfl rfl) <| .nil,.cons _ (.refl _),?_⟩
 rfl
theorem eY (T:List Sc)(hl:T.length≤1048576)(hst:∀s∈T,Is s)(V:List Va)(hvl:V.length≤1048576)(es:List Ex)(hel:es.length≤1048576)(hes:∀e∈es,Av e≤1048576):A1 Tryz.prog 7 [.agg (B9 T V),.sl 8 (es.map Gq)] (.bool (Ks T V es)):=by
 refine A1.body (n:=43) Aj Tryz.func7 rfl rfl rfl fun H=>?_
 refine Ah (Qp (It [_,_]) (Qp Bb (Ag (AW.seq (Ah (Qp Dm ?_))))))
 refine Qp (Al (n:=es.length) Aj rfl rfl rfl (by simp)) ?_
 refine Qp Az (Ag (AW.block ?_))
 refine AW.Aa3 (fun (k:Nat)=>(⟨[(1,.sl 8 (es.map Gq)),(2,.ptr (B9 T V)),(9,.sl 8 (es.map Gq)),(10,.int .i64 es.length),(11,.int .i64 (k:Int))],H,43⟩:St)) (fun (k:Nat)=>k≤es.length∧(es.take k).any (fun e=>!xE e)=false) (fun (k:Nat)=>es.length-k) (0) ?_ (GS.weaken ⟨rfl,rfl,rfl,rfl,rfl,trivial⟩ (.refl _)) ?_
 · exact ⟨Nat.zero_le _,by simp⟩
 ·
  rintro k hR
  refine Ah (Qp Co (Ag (AW.seq (A4 (fun hc1=>?_) fun hc1=>?_))))
  ·
   obtain ⟨e,he⟩:=B5 hc1
   have hlt:=Bh he
   have hem:=List.mem_of_getElem? he
   refine Bx (AW.seq (AW.block (Ah ?_)))
   refine Qp (Af (c:=[Iq _,_,Iq _,Iq _,Iq _,Iq _,Iq _,.str _]) Aj rfl rfl rfl rfl rfl rfl (by omega) (Fg he)) ?_
   refine Qp E2 ?_
   refine Qe (A0 (l:=[.int .i64 0,.sl 8 [],.int .i64 0,.int .i64 0,.int .i64 0,.int .i64 0,.int .i64 0,.str []]) (by kernel_rfl)) ?_
   rintro _ _ ⟨b6,rfl,rfl⟩
   refine Eu 0 [Iq _,_,Iq _,Iq _,Iq _,Iq _,Iq _,.str _] (_::_) ?_
   refine AOL.ghost (GS.Aa2 (t:=6) 0 rfl rfl) ?_
   refine Dv (Qp E2 ?_)
   refine Qp (Qc rfl (c34 e (hes e hem))) ?_
   refine Qp Gj (Ag (A4 (fun hc2=>?_) fun hc2=>?_))
   ·
    refine Ah (Qp Bb (Ag (AW.ret (A6 (Ai (Ai (A6 (Ai ?_))))))))
    refine Qr (.bool _) ?_
    exact Eq.trans rfl (congrArg (fun q:Bool=>AV.bool q) ((by unfold Ks;rw [if_pos (Tg he hc2)]:Ks T V es=false))).symm
   ·
    refine AW.skip (Bn (Ad (AW.region (Qp Fb (Qp Az (Ag ?_))))))
    refine ⟨k+1,?_,?_,GS.weaken ⟨rfl,rfl,rfl,rfl,rfl,trivial⟩ (.refl _)⟩
    · exact ⟨hlt,Ik hR.2 he hc2⟩
    · omega
  ·
   have hte:=Cg hc1
   have hall:=hR.2
   rw [hte] at hall
   refine AW.exit ?_
   refine A2 (A2 (Bo (Ad (AW.seq (Ah (Qp (Qf [_,_]) (Qp D1 ?_)))))))
   refine Qp (Qc rfl (zY T hl hst)) ?_
   refine Qp Gj (Qp Bt (Qg [] Qw (Qf [_]) (Qg [(24,_)] Qw D1 ?_)))
   refine AOL.Aa5 (y:=Iq _) _ [(25,_)] rfl (nI.all ⟨Ent.Aa1 _ _,trivial⟩) (fun hG=>Al (n:=V.length) Aj rfl rfl rfl (by simp)) rfl ?_
   refine Qg [(26,_)] Qw Gl (Qp Ew (Ag (A4 (fun hc3=>?_) fun hc3=>?_)))
   ·
    refine Ah (Qp Bb (Ag (D4 ?_)))
    refine Qr (.bool _) ?_
    exact Eq.trans rfl (congrArg (fun q:Bool=>AV.bool q) ((by unfold Ks;rw [Cu hall,if_pos hc3]:Ks T V es=false))).symm
   ·
    refine Bx (AW.seq (Ah (Qp Dm ?_)))
    refine Qp (Al (n:=es.length) Aj rfl rfl rfl (by simp)) ?_
    refine Qp Az (Ag (AW.block ?_))
    refine AW.Aa3 (fun (k:Nat)=>(⟨[(1,.sl 8 (es.map Gq)),(2,.ptr (B9 T V)),(29,.sl 8 (es.map Gq)),(30,.int .i64 es.length),(31,.int .i64 (k:Int))],H,43⟩:St)) (fun (k:Nat)=>k≤es.length∧(es.take k).any (fun e=>C4 T V e != 0)=false) (fun (k:Nat)=>es.length-k) (0) ?_ (GS.weaken ⟨rfl,rfl,rfl,rfl,rfl,trivial⟩ (.refl _)) ?_
    · exact ⟨Nat.zero_le _,by simp⟩
    ·
     rintro k hQ
     refine Ah (Qp Co (Ag (AW.seq (A4 (fun hc4=>?_) fun hc4=>?_))))
     ·
      obtain ⟨e,he⟩:=B5 hc4
      have hlt:=Bh he
      have hem:=List.mem_of_getElem? he
      refine Bx (AW.seq (AW.block (Ah ?_)))
      refine Qp (Af (c:=[Iq _,_,Iq _,Iq _,Iq _,Iq _,Iq _,.str _]) Aj rfl rfl rfl rfl rfl rfl (by omega) (Fg he)) ?_
      refine Qp E2 ?_
      refine Qe (A0 (l:=[.int .i64 0,.sl 8 [],.int .i64 0,.int .i64 0,.int .i64 0,.int .i64 0,.int .i64 0,.str []]) (by kernel_rfl)) ?_
      rintro _ _ ⟨b8,rfl,rfl⟩
      refine Eu 0 [Iq _,_,Iq _,Iq _,Iq _,Iq _,Iq _,.str _] (_::_) ?_
      refine AOL.ghost (GS.Aa2 (t:=8) 0 rfl rfl) ?_
      refine Dv (Qp (Qf [_,_]) (Qp D1 (Qp (Qf [_]) (Qp D1 (Qp E2 ?_)))))
      refine Qp (Qc rfl (cM T hl hst V hvl e (hes e hem))) ?_
      refine Qp C1 (Ag (A4 (fun hc5=>?_) fun hc5=>?_))
      ·
       refine Ah (Qp Bb (Ag (AW.ret (A6 (Ai (Ai (A6 (Ai ?_))))))))
       refine Qr (.bool _) ?_
       exact Eq.trans rfl (congrArg (fun q:Bool=>AV.bool q) ((by unfold Ks;rw [Cu hall,Cu hc3,Tg he hc5];rfl:Ks T V es=false))).symm
      ·
       refine AW.skip (Bn (Ad (AW.region (Qp Fb (Qp Az (Ag ?_))))))
       refine ⟨k+1,?_,?_,GS.weaken ⟨rfl,rfl,rfl,rfl,rfl,trivial⟩ (.refl _)⟩
       · exact ⟨hlt,Ik hQ.2 he hc5⟩
       · omega
     ·
      have hte2:=Cg hc4
      have hall2:=hQ.2
      rw [hte2] at hall2
      refine AW.exit ?_
      refine A2 (A2 (Bo (Ad (Ah (Qp Bb (Ag (AW.ret ?_)))))))
      refine Qr (.bool _) ?_
      exact Eq.trans rfl (congrArg (fun q:Bool=>AV.bool q) ((by unfold Ks;rw [Cu hall,Cu hc3,hall2];rfl:Ks T V es=true))).symm

end Go.Proofs.YtjedflcpjlgokaaGreatDoor
