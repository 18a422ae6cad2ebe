/-
  Several texts in one: Y13, Y6c, Y2, Y14, Y17. No condition.
-/
import Derived.Test.YtjedflcpjlgokaaGreatDoorAz
import Derived.Test.YtjedflcpjlgokaaGreatDoorK21
import Derived.Test.YtjedflcpjlgokaaGreatDoorK36
import Derived.Test.YtjedflcpjlgokaaGreatDoorY6b
import Derived.KernelRfl
import Derived.Test.YtjedflcpjlgokaaGreatDoorK15
import Derived.Test.YtjedflcpjlgokaaGreatDoorK04
import Derived.Test.YtjedflcpjlgokaaGreatDoorK10
import Derived.Test.YtjedflcpjlgokaaGreatDoorK12
import Derived.Test.YtjedflcpjlgokaaGreatDoorY7b
import Derived.Test.YtjedflcpjlgokaaGreatDoorK29
import Derived.Test.YtjedflcpjlgokaaGreatDoorK22
set_option linter.unusedVariables false
set_option linter.unusedSimpArgs false
namespace Go.Proofs.YtjedflcpjlgokaaGreatDoor
open Go Go.Aw
set_option maxHeartbeats 3200000
set_option maxRecDepth 20000

theorem Yv (T:List Sc)(hst:∀s∈T,J4 s)(V:List Va)(hty:Ju T V)(hvl:V.length≤1048576)(cs:Cs)(hcs:vOK T V cs):Ax Tryz.prog 32 [.agg (Cw T V),.agg (Ea cs)] (.tuple [.int .i64 (Br T V cs).1,.sl 5 ((Br T V cs).2.map Rz)]):=by
 refine Ax.body (n:=44) Ai Tryz.func32 rfl rfl rfl fun H=>?_
 refine Ah (Qp (Gd [_,_]) (Qp (Gd [_,.bool _]) (Qp Ar ?_)))
 refine Qp (Ca (z:=5) rfl) ?_
 refine Ag (AW.seq (Ah (Qp (Qf [.bool _]) (Qp qQ (Qp Hp (Ag (A3 (fun hc1=>?_) fun hc1=>?_)))))))
 ·
  refine Ah (Qp Ar ?_)
  refine Qp (Ca (z:=5) rfl) ?_
  refine Ag (Du ?_)
  refine Kg (Iq _) (.sl _ _) ?_
  exact Eq.trans rfl (congrArg (fun q:Int×List Ev=>AV.tuple [.int .i64 q.1,.sl 5 (q.2.map Rz)]) (Xl hc1)).symm
 ·
  refine By (Ah (Qp Ar (Ag (AW.seq (Ah (Qp (Qf [_,.bool _]) (Qp Ee ?_)))))))
  refine Qp (Al (n:=cs.1.length) Ai rfl rfl rfl (by simp)) ?_
  refine Qp A0 (Ag (AW.block ?_))
  refine AW.Aad (fun (p:Nat×Int)=>(⟨[(2,.ptr (Cw T V)),(6,.int .i64 p.2),(15,.sl 1 (cs.1.map W0)),(16,.int .i64 cs.1.length),(17,.int .i64 (p.1:Int))],H,44⟩:St)) (fun (p:Nat×Int)=>p.1≤cs.1.length∧Xq T V 2 cs.1=Xq T V p.2 (cs.1.drop p.1)) (fun (p:Nat×Int)=>cs.1.length-p.1) ((0,2)) ?_ (GS.weaken ⟨rfl,rfl,rfl,rfl,rfl,trivial⟩ (.refl _)) ?_
  · exact ⟨Nat.zero_le _,rfl⟩
  ·
   rintro p hR
   have hcl9:=hcs.1
   refine Ah (Qp Ck (Ag (AW.seq (A3 (fun hc2=>?_) fun hc2=>?_))))
   ·
    obtain ⟨c,hc⟩:=B7 hc2
    have hlt:=Bb hc
    have hcv:=hcs.2 c (List.mem_of_getElem? hc)
    have hck:=hcv.1
    have hcl:=hcv.2
    have hgo:=hR.2
    rw [A4 hc] at hgo
    refine By (AW.seq (AW.block (Ah ?_)))
    refine Qp (Af (c:=[_]) Ai rfl rfl rfl rfl rfl rfl (by omega) (Bo hc)) ?_
    refine Qp Ee (Qp Un (Do (Qp (Cv [_,_]) (Qp Dt ?_))))
    refine Qe (E5 (by kernel_rfl) rfl rfl (yT T V c hck hcl (sM T V c) _)) ?_
    rintro _ _ ⟨m,mo,hmo,rfl,rfl⟩
    refine Qp Nb ?_
    refine Qp (Ci (v:=.agg [_,_,_]) rfl rfl) ?_
    refine Qp eR ?_
    refine Qe (Am (l:=[.val (.pointer none),.sl 1 [],.val (.map none)]) (by kernel_rfl)) ?_
    rintro _ _ ⟨b9,rfl,rfl⟩
    refine Cz 0 [_,_,_] (_::_::_) ?_
    refine Qp Bm ?_
    refine AOL.ghost (GS.Aac (t:=9) 0 rfl rfl) ?_
    refine Ag (AW.seq (Ah (Qp Bu (Qp Hp (Qp Bu (Qg [] Qw Dt ?_))))))
    refine AOL.Aaf (y:=Iq _) _ [(30,_)] rfl (oE.all ⟨Ent.Aab _ _,trivial⟩) (fun hG=>Al (n:=c.length) Ai rfl rfl rfl (by simp)) rfl ?_
    refine Qg [(31,_)] Qw Ph (Qp Gg (Ag (A3 (fun hc3=>?_) fun hc3=>?_)))
    ·
     refine AW.exit ?_
     refine A5 (Bx (Ae (AW.region (Qp F7 (Qp A0 (Ag ?_))))))
     refine ⟨(p.1+1,p.2),?_,?_,GS.weaken ⟨rfl,rfl,rfl,rfl,rfl,trivial⟩ (.cons _ (.refl _))⟩
     · exact ⟨hlt,hgo.trans (cP hc3)⟩
     · simp only;omega
    ·
     refine By (AW.seq (Ah (Qp (Cv [_,_]) (Qp Dt (Qp (Cv [_,_,_]) ?_)))))
     refine Qp (Qc rfl (pC T V c hck (by omega) (Ku T V c) mo)) ?_
     refine Ag (A3 (fun hc4=>?_) fun hc4=>?_)
     ·
      have hvs:=sJ hck hc3 hc4
      have hmoe:=hmo (O4 hc4).1
      subst hmoe
      refine Ah (Qp (Cv [_,_]) (Qp Dt (Qp (Cv [_,_,_]) ?_)))
      refine Qe (E5 (by kernel_rfl) rfl rfl (tY T V hty hst hvl c hck hcl m _ (jM c) (Ku T V c) hvs _)) ?_
      rintro _ _ ⟨rfl,rfl⟩
      refine Qp Ar (Qp Un (Ag (Du (A7 (Aj (Aj (A7 (Aj ?_))))))))
      refine ⟨.inr rfl,[Iq _,.sl _ _],.cons (.tmp _ _ rfl) <| .cons (.tmp _ _ rfl) <| .nil,.cons _ (.refl _),?_⟩
      exact Eq.trans rfl (congrArg (fun q:Int×List Ev=>AV.tuple [.int .i64 q.1,.sl 5 (q.2.map Rz)]) ((bS hc1).trans (hgo.trans (lI hc3 hc4)))).symm
     ·
      refine By (AW.region (Qp Ar (AOL.nil (Bv (Ae (AW.region (Qp F7 (Qp A0 (Ag ?_)))))))))
      refine ⟨(p.1+1,0),?_,?_,GS.weaken ⟨rfl,rfl,rfl,rfl,rfl,trivial⟩ (.cons _ (.refl _))⟩
      · exact ⟨hlt,hgo.trans (tV hc3 hc4)⟩
      · simp only;omega
   ·
    have hde:=C8 hc2
    have hgo:=hR.2
    rw [hde] at hgo
    refine AW.exit ?_
    refine A5 (A5 (Bx (Ae (Ah (Qp A0 (Qp Ar ?_))))))
    refine Qp (Ca (z:=5) rfl) ?_
    refine Ag (AW.ret ?_)
    refine Kg (Iq _) (.sl _ _) ?_
    exact Eq.trans rfl (congrArg (fun q:Int×List Ev=>AV.tuple [.int .i64 q.1,.sl 5 (q.2.map Rz)]) ((bS hc1).trans hgo)).symm
theorem R3 (T:List Sc)(hl:T.length≤1048576)(hst:∀s∈T,J4 s)(V:List Va)(hvl:V.length≤1048576)(es:List Ex)(hel:es.length≤1048576)(hes:∀e∈es,At e≤1048576):Ax Tryz.prog 30 [.agg (Cw T V),.sl 8 (es.map G7)] (.int .i64 (Dz T V es)):=by
 refine Ax.body (n:=30) Ai Tryz.func30 rfl rfl rfl fun H=>?_
 refine Ah (Qp (Gd [_,_]) (Qp Ar (Ag (AW.seq (Ah (Qp (Cv [_,_]) ?_))))))
 refine Qp (Qc rfl (dI T hl hst V hvl)) ?_
 refine Qp Ar (Do (Qp A0 (Qp Cr (Ag (A3 (fun hc1=>?_) fun hc1=>?_)))))
 ·
  refine Ah (Qp A0 (Qp Ar (Ag (Du ?_))))
  refine Qr (Iq _) ?_
  exact Eq.trans rfl (congrArg (fun q:Int=>AV.int .i64 q) (bK hc1)).symm
 ·
  refine By (AW.seq (Ah (Qp Dt ?_)))
  refine Qp (Al (n:=es.length) Ai rfl rfl rfl (by simp)) ?_
  refine Qp G6 (Ag (A3 (fun hc2=>?_) fun hc2=>?_))
  ·
   refine Ah (Qp Ar (Ag (Du ?_)))
   refine Qr (Iq _) ?_
   exact Eq.trans rfl (congrArg (fun q:Int=>AV.int .i64 q) (lV hc1 hc2)).symm
  ·
   refine By (AW.seq (Ah (Qp Dt ?_)))
   refine Qp (Al (n:=es.length) Ai rfl rfl rfl (by simp)) ?_
   refine Qp A0 (Ag (AW.block ?_))
   refine AW.Aad (fun (k:Nat)=>(⟨[(2,.ptr (Cw T V)),(17,.sl 8 (es.map G7)),(18,.int .i64 es.length),(19,.int .i64 (k:Int))],H,30⟩:St)) (fun (k:Nat)=>k≤es.length∧Aq (Fg T V) (es.take k)=0) (fun (k:Nat)=>es.length-k) (0) ?_ (GS.weaken ⟨rfl,rfl,rfl,rfl,trivial⟩ (.refl _)) ?_
   · exact ⟨Nat.zero_le _,rfl⟩
   ·
    rintro k hR
    refine Ah (Qp Ck (Ag (AW.seq (A3 (fun hc3=>?_) fun hc3=>?_))))
    ·
     obtain ⟨e,he⟩:=B7 hc3
     have hlt:=Bb he
     have hem:=List.mem_of_getElem? he
     refine By (AW.seq (AW.block (Ah ?_)))
     refine Qp (Af (c:=[Iq _,_,Iq _,Iq _,Iq _,Iq _,Iq _,.str _]) Ai rfl rfl rfl rfl rfl rfl (by omega) (F2 he)) ?_
     refine Qp E7 ?_
     refine Qe (Am (l:=[.int .i64 0,.sl 8 [],.int .i64 0,.int .i64 0,.int .i64 0,.int .i64 0,.int .i64 0,.str []]) (by kernel_rfl)) ?_
     rintro _ _ ⟨b7,rfl,rfl⟩
     refine Cz 0 [Iq _,_,Iq _,Iq _,Iq _,Iq _,Iq _,.str _] (_::_) ?_
     refine AOL.ghost (GS.Aac (t:=7) 0 rfl rfl) ?_
     refine Do (Qp (Cv [_,_]) (Qp E7 ?_))
     refine Qp (Qc rfl (gJ T hl hst V hvl e (hes e hem))) ?_
     refine Qp Ar (Do (Qp A0 (Qp Cr (Ag (A3 (fun hc4=>?_) fun hc4=>?_)))))
     ·
      refine Ah (Qp A0 (Qp Ar (Ag (AW.ret (A7 (Aj (Aj (A7 (Aj ?_)))))))))
      refine Qr (Iq _) ?_
      exact Eq.trans rfl (congrArg (fun q:Int=>AV.int .i64 q) ((bY hc1 hc2).trans (Xj hR.2 he (by simpa using hc4)))).symm
     ·
      refine AW.skip (Bv (Ae (AW.region (Qp F7 (Qp A0 (Ag ?_))))))
      refine ⟨k+1,?_,?_,GS.weaken ⟨rfl,rfl,rfl,rfl,trivial⟩ (.refl _)⟩
      · exact ⟨hlt,Wo hR.2 he (by simpa using hc4)⟩
      · omega
    ·
     have hte:=C5 hc3
     have hall:=hR.2
     rw [hte] at hall
     refine AW.exit ?_
     refine A5 (A5 (Bx (Ae (Ah (Qp Ar (Ag (AW.ret ?_)))))))
     refine Qr (Iq _) ?_
     exact Eq.trans rfl (congrArg (fun q:Int=>AV.int .i64 q) ((bY hc1 hc2).trans hall)).symm
theorem Xy (T:List Sc)(hl:T.length≤1048576)(hst:∀s∈T,J4 s)(V:List Va)(hvl:V.length≤1048576)(es:List Ex)(hel:es.length≤1048576)(hes:∀e∈es,At e≤1048576):Ax Tryz.prog 30 [.agg (Cw T V),.sl 8 (es.map cE)] (.int .i64 (Dz T V es)):=by
 have h:=R3 T hl hst V hvl es hel hes
 rw [show es.map G7=es.map cE from List.map_congr_left fun e _=>Lh e] at h
 exact h
theorem P3 (T:List Sc)(hl:T.length≤1048576)(hst:∀s∈T,J4 s)(V:List Va)(hvl:V.length≤1048576)(es:List Ex)(hel:es.length≤60)(hes:∀e∈es,At e≤1048576):Ax Tryz.prog 10 [.sl 2 (T.map O2),.sl 2 (V.map Xr),.sl 8 (es.map G7)] (.tuple [.int .i64 (Bz T V es).1,.sl 5 ((Bz T V es).2.1.map Rz),.int .i64 (Bz T V es).2.2]):=by
 refine Ax.body (n:=47) Ai Tryz.func10 rfl rfl rfl fun H=>?_
 refine Ah (Qp Ar ?_)
 refine Qp (Ca (z:=5) rfl) ?_
 refine Qp Ar (Do (Qp Dt (Qp Dt (Qp (Fr [_,_]) ?_))))
 refine Qe (Am (l:=[.sl 2 [],.sl 2 []]) (by kernel_rfl)) ?_
 rintro _ _ ⟨b9,rfl,rfl⟩
 refine Cz 0 [_,_] (_::_) ?_
 refine AOL.ghost (GS.Aac (t:=9) 0 rfl rfl) ?_
 refine Ag (AW.seq (Ah (Qp (Cv [_,_]) (Qp Dt ?_))))
 refine Qp (Qc rfl (R3 T hl hst V hvl es (by omega) hes)) ?_
 refine Qp Ar (Do (Qp A0 (Qp Cr (Ag (A3 (fun hc1=>?_) fun hc1=>?_)))))
 ·
  refine Ah (Qp A0 (Qp Ar ?_))
  refine Qp (Ca (z:=5) rfl) ?_
  refine Qp Ar (Ag (Du ?_))
  refine ⟨.inr rfl,[Iq _,.sl _ _,Iq _],.cons (.tmp _ _ rfl) <| .cons (.tmp _ _ rfl) <| .cons (.tmp _ _ rfl) <| .nil,.refl _,?_⟩
  exact Eq.trans rfl (congrArg (fun q:Int×List Ev×Int=>AV.tuple [.int .i64 q.1,.sl 5 (q.2.1.map Rz),.int .i64 q.2.2]) (Poss_1 hc1)).symm
 ·
  have hcz:=Xi hc1
  have hty:=gB hc1
  refine By (Ah ?_)
  refine Qp (C6.weakV (A2 (es:=[[_]]) Ai rfl rfl rfl rfl rfl rfl rfl rfl rfl) fP) ?_
  refine Qp (Fr [_,.bool _]) ?_
  refine Qe (Am (l:=[.sl 1 [],.bool false]) (by kernel_rfl)) ?_
  rintro _ _ ⟨b11,rfl,rfl⟩
  refine Cz 0 [_,.bool _] (_::_) ?_
  refine Ag (AW.seq (Ah (Qp Dt ?_)))
  refine Qp (Al (n:=es.length) Ai rfl rfl rfl (by simp)) ?_
  refine Qp A0 (Ag (AW.block ?_))
  refine AW.Aad (fun (p:Nat×Cs)=>(⟨[(9,.ptr (Cw T V)),(11,.val (.pointer (some ⟨b11,0,none⟩))),(27,.sl 8 (es.map G7)),(28,.int .i64 es.length),(29,.int .i64 (p.1:Int))],.box b11 88 (Ea p.2)::H,47⟩:St)) (fun (p:Nat×Cs)=>p.1≤es.length∧Ip T V (es.take p.1) ([[]],true)=p.2∧csOK (64*p.1) p.2∧Is T V 64 p.2) (fun (p:Nat×Cs)=>es.length-p.1) ((0,([[]],true))) ?_ (GS.weaken ⟨rfl,rfl,rfl,rfl,rfl,trivial⟩ (.refl _)) ?_
  · exact ⟨Nat.zero_le _,rfl,vQ,oX⟩
  ·
   rintro p hR
   refine Ah (Qp Ck (Ag (AW.seq (A3 (fun hc2=>?_) fun hc2=>?_))))
   ·
    obtain ⟨e,he⟩:=B7 hc2
    have hlt:=Bb he
    have hem:=List.mem_of_getElem? he
    have hke:=(hcz.2 e hem).1
    have hkz:=Jn hke
    refine By (AW.seq (AW.block (Ah ?_)))
    refine Qp (Af (c:=[Iq _,_,Iq _,Iq _,Iq _,Iq _,Iq _,.str _]) Ai rfl rfl rfl rfl rfl rfl (by omega) (F2 he)) ?_
    refine Qp E7 ?_
    refine Qe (Am (l:=[.int .i64 0,.sl 8 [],.int .i64 0,.int .i64 0,.int .i64 0,.int .i64 0,.int .i64 0,.str []]) (by kernel_rfl)) ?_
    rintro _ _ ⟨b13,rfl,rfl⟩
    refine Cz 0 [Iq _,_,Iq _,Iq _,Iq _,Iq _,Iq _,.str _] (_::_::_) ?_
    refine AOL.ghost (GS.Aac (t:=13) 0 rfl rfl) ?_
    refine Ag ?_
    refine AW.draw mixed (fun H'=>_∈H') (List.mem_of_getElem? (i:=0) rfl) (by kernel_rfl) ?_
    refine Qn 0 rfl (OpP.Aag (fun k=>Bs (k:=k) (l:=[_,.bool _]) Ai rfl rfl rfl rfl rfl) (fun _ h=>h)) ?_
    refine Qn 1 rfl (Cv [_,_]) (Qn 2 rfl E7 ?_)
    refine Qn 3 rfl (Qc rfl (V7 T V e hke.kok (Jn hke) true)) ?_
    refine Qn 4 rfl (Qc rfl (O9 _ _ _ _ hR.2.2.1 (F1 e hke.kok true) (by omega) (by have:=Jn hke;omega))) ?_
    refine Jb.last _ _ 5 _ _ rfl (by kernel_rfl) rfl rfl (Df (k:=0) (v:=.agg _) (cs':=[_,.bool _]) (H2:=_::_) Ai rfl rfl rfl rfl (rfl) rfl rfl rfl rfl) (by kernel_rfl) ?_
    rintro _ _ ⟨rfl,rfl⟩
    refine Bv (Ae (AW.region (Qp F7 (Qp A0 (Ag ?_)))))
    refine ⟨(p.1+1,Eb p.2 (C4 T V e true)),?_,?_,GS.weaken ⟨rfl,rfl,rfl,rfl,rfl,trivial⟩ (.refl _)⟩
    · exact ⟨hlt,by unfold Ip;rw [C9 he,List.foldl_append];exact congrArg (fun z=>Eb z (C4 T V e true)) hR.2.1,(K6 hR.2.2.1 (F1 e hke.kok true)).mono (by simp only;omega),Ln hR.2.2.2 (Jw (Pc e hke.kok true) hkz)⟩
    · simp only;omega
   ·
    have hte:=C5 hc2
    have hpr:=hR.2.1
    rw [hte] at hpr
    have hvo:vOK T V p.2:=rX hR.2.2.1 hR.2.2.2 (by have:=hR.1;omega)
    refine AW.exit ?_
    refine A5 (A5 (Bx (Ae (Ah (Qp (Cv [_,_]) ?_)))))
    refine AOL.Aah (Bs (k:=0) (l:=[_,.bool _]) Ai rfl rfl rfl rfl rfl) rfl rfl ?_
    refine Qp (Qc rfl (Yv T hst V hty hvl _ hvo)) ?_
    refine Qp Nb (Qp I6 (Qp yW (Qp Ar (Qp Un (Do (Qp A0 (Qp Dt (Qp Ar (Qp Un ?_)))))))))
    refine Qp Ar (Ag (AW.ret ?_))
    refine ⟨.inr rfl,[Iq _,.sl _ _,Iq _],.cons (.tmp _ _ rfl) <| .cons (.tmp _ _ rfl) <| .cons (.tmp _ _ rfl) <| .nil,.cons _ (.refl _),?_⟩
    exact Eq.trans rfl (congrArg (fun q:Int×List Ev×Int=>AV.tuple [.int .i64 q.1,.sl 5 (q.2.1.map Rz),.int .i64 q.2.2]) (bD hc1 hpr)).symm
theorem Tf (T:List Sc)(hl:T.length≤1048576)(hst:∀s∈T,J4 s)(V:List Va)(hvl:V.length≤1048576)(a b:Ex)(ha:At a≤1048576)(hb:At b≤1048576):Ax Tryz.prog 16 [.sl 2 (T.map O2),.sl 2 (V.map Xr),.agg (cE a),.agg (cE b)] (.tuple [.int .i64 (Cj T V a b).1,.int .i64 (Cj T V a b).2]):=by
 refine Ax.body (n:=43) Ai Tryz.func16 rfl rfl rfl fun H=>?_
 refine Ah (Qp Nc (Qp Nc (Qp Ar (Qp Ar (Do (Qp Dt (Qp Dt (Qp (Fr [_,_]) ?_))))))))
 refine Qe (Am (l:=[.sl 2 [],.sl 2 []]) (by kernel_rfl)) ?_
 rintro _ _ ⟨b10,rfl,rfl⟩
 refine Cz 0 [_,_] (_::_) ?_
 refine AOL.ghost (GS.Aac (t:=10) 0 rfl rfl) ?_
 refine Ag (AW.seq (Ah (Qp (Cv [_,_]) (Qp E7 (Qp E7 ?_)))))
 refine Qp (A2 (es:=[[Iq _,_,Iq _,Iq _,Iq _,Iq _,Iq _,.str _],[Iq _,_,Iq _,Iq _,Iq _,Iq _,Iq _,.str _]]) Ai rfl rfl rfl rfl rfl rfl rfl rfl rfl) ?_
 refine Qp (Qc rfl (Xy T hl hst V hvl [a,b] (by show (2:Nat)≤_;decide) (nJ ha hb))) ?_
 refine Qp Ar (Do (Qp A0 (Qp Cr (Ag (A3 (fun hc1=>?_) fun hc1=>?_)))))
 ·
  refine Ah (Qp A0 (Qp Ar (Qp Ar (Ag (Du ?_)))))
  refine Kg (Iq _) (Iq _) ?_
  exact Eq.trans rfl (congrArg (fun q:Int×Int=>AV.tuple [.int .i64 q.1,.int .i64 q.2]) (Imp_1 hc1)).symm
 ·
  have hcz:=Xi hc1
  have hty:=gB hc1
  have hka:=(hcz.2 a (List.mem_cons_self ..)).1
  have hkb:=(hcz.2 b (List.mem_cons_of_mem _ (List.mem_cons_self ..))).1
  have hza:=Jn hka
  have hzb:=Jn hkb
  have hvo:vOK T V (Kl T V a b):=rX (K6 (F1 a hka.kok true) (F1 b hkb.kok false)) (Ln (Jw (Pc a hka.kok true) hza) (Jw (Pc b hkb.kok false) hzb)) (by omega)
  refine By (AW.seq ?_)
  refine AW.draw mixed (fun _=>True) trivial (by kernel_rfl) ?_
  refine Qn 0 rfl (Cv [_,_]) (Qn 1 rfl (Cv [_,_]) (Qn 2 rfl E7 ?_))
  refine Qn 3 rfl (Qc rfl (V7 T V a hka.kok (Jn hka) true)) ?_
  refine Qn 4 rfl (Cv [_,_]) (Qn 5 rfl E7 ?_)
  refine Qn 6 rfl (Qc rfl (V7 T V b hkb.kok (Jn hkb) false)) ?_
  refine Qn 7 rfl (Qc rfl (O9 _ _ _ _ (F1 a hka.kok true) (F1 b hkb.kok false) (by have:=Jn hka;omega) (by have:=Jn hkb;omega))) ?_
  refine Qn 8 rfl (Qc rfl (Yv T hst V hty hvl _ hvo)) ?_
  refine Qn 9 rfl Nb (Qn 10 rfl I6 (Qn 11 rfl yW (Qn 12 rfl Ar (Qn 13 rfl Un ?_))))
  refine Jb.done _ _ (by kernel_rfl) ?_
  refine Ae (AW.seq (Ah (Qp A0 (Ag (AW.block (Ah (Qp A6 (Qp Bm (Ag (A3 (fun hc2=>?_) fun hc2=>?_))))))))))
  ·
   refine Ah (Qp Ar (Qp Ar (Ag (AW.ret (A7 (Aj ?_))))))
   refine Kg (Iq _) (Iq _) ?_
   exact Eq.trans rfl (congrArg (fun q:Int×Int=>AV.tuple [.int .i64 q.1,.int .i64 q.2]) (zU hc1 hc2)).symm
  ·
   refine Ah (Qp A6 (Qp Bm (Ag (A3 (fun hc3=>?_) fun hc3=>?_))))
   ·
    refine Ah (Qp Ar (Qp Ar (Ag (AW.ret (A7 (Aj ?_))))))
    refine Kg (Iq _) (Iq _) ?_
    exact Eq.trans rfl (congrArg (fun q:Int×Int=>AV.tuple [.int .i64 q.1,.int .i64 q.2]) (zR hc1 hc2 hc3)).symm
   ·
    refine AW.skip (Bv (Ae (Ah (Qp A0 (Qp Ar (Qp Ar (Ag (AW.ret ?_))))))))
    refine Kg (Iq _) (Iq _) ?_
    exact Eq.trans rfl (congrArg (fun q:Int×Int=>AV.tuple [.int .i64 q.1,.int .i64 q.2]) (zQ hc1 hc2 hc3)).symm



set_option maxHeartbeats 800000
set_option maxRecDepth 20000

set_option maxRecDepth 100000
theorem r_FewT (T:List Sc)(hl:T.length≤1048576)(hst:∀s∈T,J4 s):Ax Tryz.prog 25 [.sl 2 (T.map O2)] (.bool (fR T)):=by
 refine Ax.body (n:=29) Ai Tryz.func25 rfl rfl rfl fun H=>?_
 refine Ah (Qp Bm (Ag (AW.seq (Ah (Qp Ar (Ag (AW.block ?_)))))))
 refine AW.Aad (fun (k:Nat)=>(⟨[(0,.sl 2 (T.map O2)),(3,.int .i64 (k:Int))],H,29⟩:St)) (fun (k:Nat)=>k≤T.length∧(T.take k).any bigSc=false) (fun (k:Nat)=>T.length-k) (0) ?_ (GS.weaken ⟨rfl,rfl,trivial⟩ (.refl _)) ?_
 · exact ⟨Nat.zero_le _,by simp⟩
 ·
  rintro k hR
  refine AW.seq (Ah (Qp A0 (Qp Dt ?_)))
  refine Qp (Al (n:=T.length) Ai rfl rfl rfl (by simp)) ?_
  refine Qp Ck (Ag (A3 (fun hc1=>?_) fun hc1=>?_))
  ·
   obtain ⟨a,ha⟩:=B7 hc1
   have hlt:=Bb ha
   have hm:=List.mem_of_getElem? ha
   refine By (AW.seq (AW.block (Ah (Qp Dt (Qp A0 ?_)))))
   refine Qp (Af (c:=[.str _,_]) Ai rfl rfl rfl rfl rfl rfl (by omega) (Bo ha)) ?_
   refine Qp (Qf [_]) (Qp Ee ?_)
   refine Qp (Al (n:=a.fields.length) Ai rfl rfl rfl (by simp)) ?_
   refine Qp G6 (Qp Bu (Qg [] Qw Dt (Qg [] Qw A0 ?_)))
   refine AOL.Aaf (y:=.ptr _) _ [(18,_),(19,_)] rfl (oE.all ⟨Ent.Aab _ _,Ent.Aab _ _,trivial⟩) (fun hG=>Af (c:=[.str _,_]) Ai rfl rfl rfl rfl rfl rfl (by omega) (Bo ha)) rfl ?_
   refine Qg [(20,_)] Qw (Qf [.str _,_]) (Qg [(21,_)] Qw Vb ?_)
   refine AOL.Aaf (y:=Iq _) _ [(22,_)] rfl (oE.all ⟨Ent.Aab _ _,trivial⟩) (fun hG=>Hs (n:=a.name.length) Ai rfl rfl rfl (rfl)) rfl ?_
   refine Qg [(23,_)] Qw G6 (Qp E2 (Ag (A3 (fun hc2=>?_) fun hc2=>?_)))
   ·
    refine Ah (Qp Bm (Ag (AW.ret (A7 (Aj (Aj (A7 (Aj ?_))))))))
    refine Qr (.bool _) ?_
    exact Eq.trans rfl (congrArg (fun q:Bool=>AV.bool q) ((by unfold fR;rw [if_pos (U4 ha hc2)]:fR T=false))).symm
   ·
    refine AW.skip (Bv (Ae (AW.region (Qp A0 (Qp F7 (Qp Ar (Ag ?_)))))))
    refine ⟨k+1,?_,?_,GS.weaken ⟨rfl,rfl,trivial⟩ (.refl _)⟩
    · exact ⟨hlt,Q4 hR.2 ha hc2⟩
    · omega
  ·
   have hte:=C5 hc1
   have hall:=hR.2
   rw [hte] at hall
   refine AW.exit ?_
   refine A5 (A5 (Bx (Ae (Ah (Qp Dt ?_)))))
   refine Qp (Al (n:=T.length) Ai rfl rfl rfl (by simp)) ?_
   refine Qp Ph (Qp Bm (Ag (AW.ret ?_)))
   refine Qr (.bool _) ?_
   exact Eq.trans rfl (congrArg (fun q:Bool=>AV.bool q) ((by unfold fR;rw [C3 hall]:fR T=decide ((T.length:Int)≤20)))).symm
set_option maxHeartbeats 1600000
set_option maxRecDepth 20000

theorem wK (T:List Sc)(hs:∀s∈T,J4 s)(e:Ev):Ax Tryz.prog 22 [.sl 2 (T.map O2),.agg (Rz e)] (.int .i64 (K8 T e)):=by
 refine Ax.body (n:=83) Ai Tryz.func22 rfl rfl rfl fun H=>?_
 refine Ah (Qp (Gd [Iq _,Iq _,Iq _,Iq _,_]) (Qp Ar (Ag (AW.seq (Ah (Qp (Qf [Iq _,Iq _,Iq _,Iq _,_]) (Qp Bp (Qp Ck (Qp Bu ?_)))))))))
 refine Qg [] Qw (Qf [Iq _,Iq _,Iq _,Iq _,_]) (Qg [(12,_)] Qw Bp (Qg [(13,_)] Qw Nj (Qp E2 (Ag (A3 (fun hc1=>?_) fun hc1=>?_)))))
 ·
  refine Ah (Qp Ar (Ag (Du ?_)))
  refine Qr (Iq _) ?_
  have h0:Hi e=32:=by unfold Hi;rw [if_pos hc1]
  exact congrArg (AV.int .i64) (by unfold K8;rw [h0];rfl)
 ·
  have hn0:(Hi e != 0)=false∨(decide (e.seq<0)||decide (1099511627776<e.seq)||decide (e.time<0)||decide (1099511627776<e.time))=true:=by
     unfold Hi;rw [C3 hc1];cases (decide (e.seq<0)||decide (1099511627776<e.seq)||decide (e.time<0)||decide (1099511627776<e.time)) <;> simp
  refine By (AW.seq (Ah (Qp (Qf [Iq _,Iq _,Iq _,_]) (Qp Bp (Qp Ck (Qp Bu (Qg [] Qw (Qf [Iq _,Iq _,Iq _,_]) (Qg [(20,_)] Qw Bp (Qg [(21,_)] Qw G6 ?_)))))))))
  refine Qp E2 (Qp Bu (Qg [] Qw (Qf [Iq _,_]) (Qg [(25,_)] Qw Bp (Qg [(26,_)] Qw Ck (Qp E2 (Qp Bu (Qg [] Qw (Qf [Iq _,_]) (Qg [(30,_)] Qw Bp (Qg [(31,_)] Qw G6 ?_)))))))))
  refine Qp E2 (Ag (A3 (fun hc2=>?_) fun hc2=>?_))
  ·
   refine Ah (Qp Ar (Ag (Du ?_)))
   refine Qr (Iq _) ?_
   have h0:Hi e=2:=by unfold Hi;rw [C3 hc1,if_pos hc2]
   exact congrArg (AV.int .i64) (by unfold K8;rw [h0];rfl)
  ·
   have hn1:(Hi e != 0)=false:=hn0.resolve_right (by rw [hc2];decide)
   refine By (AW.seq (Ah (Qp (Qf [Iq _,Iq _,_]) (Qp Bp (Qp Ck (Qp Bu (Qg [] Qw (Qf [Iq _,Iq _,_]) (Qg [(38,_)] Qw Bp (Qg [] Qw Dt ?_)))))))))
   refine AOL.Aaf (y:=Iq _) _ [(40,_)] rfl (oE.all ⟨Ent.Aab _ _,trivial⟩) (fun hG=>Al (n:=T.length) Ai rfl rfl rfl (by simp)) rfl ?_
   refine AOL.Aaf (y:=.bool _) _ [(39,_),(41,_)] rfl (oE.all ⟨Ent.Aab _ _,Ent.Aab _ _,trivial⟩) (fun hG=>Ua rfl rfl) rfl ?_
   refine Qp E2 (Ag (A3 (fun hc3=>?_) fun hc3=>?_))
   ·
    refine Ah (Qp Ar (Ag (Du ?_)))
    refine Qr (Iq _) ?_
    exact congrArg (AV.int .i64) (by unfold K8;rw [C3 hn1,if_pos hc3])
   ·
    have hty:=ty_in hc3
    have hsc:T[e.type.toNat]? = some ((T[e.type.toNat]?).getD sc0):=nC sc0 hty.2
    refine By (Ah (Qp Dt (Qp (Qf [Iq _,Iq _,_]) (Qp Bp ?_))))
    refine Qp (Af (c:=[.str _,_]) Ai rfl rfl rfl rfl rfl rfl (hty.1) (Bo hsc)) ?_
    refine Qp (Qf [_]) (Qp Ee (Qp Un (Ag (AW.seq (Ah (Qp (Qf [_]) (Qp Ee ?_)))))))
    refine Qp (Al (n:=e.values.length) Ai rfl rfl rfl (by simp)) ?_
    refine Qp Dt ?_
    refine Qp (Al (n:=(Er T e).length) Ai rfl rfl rfl (by simp [Er])) ?_
    refine Qp Cr (Ag (A3 (fun hc4=>?_) fun hc4=>?_))
    ·
     refine Ah (Qp Ar (Ag (Du ?_)))
     refine Qr (Iq _) ?_
     exact congrArg (AV.int .i64) (by unfold K8;rw [C3 hn1,C3 hc3,if_pos hc4])
    ·
     have hfl:=len_eq hc4
     have hfb:(Er T e).length≤1048576:=(hs _ (List.mem_of_getElem? hsc)).2.1
     refine By (AW.seq (Ah (Qp Ar (Ag (AW.block ?_)))))
     refine AW.Aad (fun (k:Nat)=>(⟨[(3,.ptr (Rz e)),(5,.sl 2 ((Er T e).map cFi)),(6,.int .i64 (k:Int))],H,83⟩:St)) (fun (k:Nat)=>k≤e.values.length∧Pn e.values (Er T e)=Pn (e.values.drop k) ((Er T e).drop k)) (fun (k:Nat)=>e.values.length-k) (0) ?_ (GS.weaken ⟨rfl,rfl,rfl,trivial⟩ (.refl _)) ?_
     · exact ⟨Nat.zero_le _,rfl⟩
     ·
      rintro k hR
      refine AW.seq (Ah (Qp A0 (Qp Dt ?_)))
      refine Qp (Al (n:=(Er T e).length) Ai rfl rfl rfl (by simp)) ?_
      refine Qp Ck (Ag (A3 (fun hc5=>?_) fun hc5=>?_))
      ·
       have hk5:k<(Er T e).length:=by have:=of_decide_eq_true hc5;omega
       obtain ⟨a,ha⟩:=B7 (l:=e.values) (k:=k) (by simp;omega)
       have hlt:=Bb ha
       have hm:=List.mem_of_getElem? ha
       have hfk:(Er T e)[k]? = some (((Er T e)[k]?).getD fi0):=nC fi0 (by omega)
       have hstep:=qI ha hfk
       refine By (AW.seq (AW.block (AW.seq (Ah (Qp (Qf [_]) (Qp Ee (Qp A0 ?_)))))))
       refine Qp (Af (c:=[Iq _,Iq _,.str _]) Ai rfl rfl rfl rfl rfl rfl (by omega) (Bo ha)) ?_
       refine Qp (Cv [Iq _,Iq _,.str _]) ?_
       refine Qp (Qc rfl (c79 a)) ?_
       refine Qp Ar (Do (Qp A0 (Qp Cr (Ag (A3 (fun hc6=>?_) fun hc6=>?_)))))
       ·
        refine Ah (Qp A0 (Qp Ar (Ag (Du (A7 (Aj (Aj (A7 (Aj ?_)))))))))
        refine Qr (Iq _) ?_
        have he:Wz a (((Er T e)[k]?).getD fi0)=An a:=by unfold Wz;rw [if_pos hc6]
        exact congrArg (AV.int .i64) (by unfold K8;rw [C3 hn1,C3 hc3,C3 hc4,hR.2,hstep,he,if_pos hc6])
       ·
        refine By (AW.seq ?_)
        refine AW.draw mixed (fun _=>True) trivial (by kernel_rfl) ?_
        refine Qn 0 rfl (Qf [_]) (Qn 1 rfl Ee (Qn 2 rfl A0 ?_))
        refine Qn 3 rfl (Af (c:=[Iq _,Iq _,.str _]) Ai rfl rfl rfl rfl rfl rfl (by omega) (Bo ha)) ?_
        refine Qn 4 rfl J2 (Qn 5 rfl Bp (Qn 6 rfl Dt (Qn 7 rfl A0 ?_)))
        refine Qn 8 rfl (Af (c:=[.str _,Iq _]) Ai rfl rfl rfl rfl rfl rfl (by omega) (Bo hfk)) ?_
        refine Qn 9 rfl (Qf [Iq _]) (Qn 10 rfl Bp (Qn 11 rfl Cr ?_))
        refine Jb.done _ _ (by kernel_rfl) ?_
        refine Ae (A3 (fun hc7=>?_) fun hc7=>?_)
        ·
         refine Ah (Qp Ar (Ag (AW.ret (A7 (Aj (Aj (A7 (Aj ?_))))))))
         refine Qr (Iq _) ?_
         have he:Wz a (((Er T e)[k]?).getD fi0)=9:=by unfold Wz;rw [C3 hc6,if_pos hc7]
         exact congrArg (AV.int .i64) (by unfold K8;rw [C3 hn1,C3 hc3,C3 hc4,hR.2,hstep,he];rfl)
        ·
         refine AW.skip (Bv (Ae (AW.region (Qp A0 (Qp F7 (Qp Ar (Ag ?_)))))))
         refine ⟨k+1,?_,?_,GS.weaken ⟨rfl,rfl,rfl,trivial⟩ (.refl _)⟩
         · exact ⟨hlt,by rw [hR.2,hstep,if_neg];unfold Wz;rw [C3 hc6,C3 hc7];decide⟩
         · omega
      ·
       have hd:=C8 hc5
       refine AW.exit ?_
       refine A5 (A5 (Bx (Ae (Ah (Qp Ar (Ag (AW.ret ?_)))))))
       refine Qr (Iq _) ?_
       exact congrArg (AV.int .i64) (by unfold K8;rw [C3 hn1,C3 hc3,C3 hc4,hR.2,hd,oY])
theorem oC (T:List Sc)(hl:T.length≤1048576)(hs:∀s∈T,J4 s)(e:Ev):Ax Tryz.prog 46 [.sl 2 (T.map O2),.agg (Rz e)] (.int .i64 (Hm T e)):=by
  refine Ax.body (n:=14) Ai Tryz.func46 rfl rfl rfl fun H=>?_
  refine AW.seq (AW.region (Qp (Gd [Iq _,Iq _,Iq _,Iq _,_]) (Qp Ar (AOL.nil (Ae (AW.seq (AW.seq (AW.region (Qp Dt ?_)))))))))
  refine Qp (Qc rfl (c59 T hl hs)) ?_
  refine Qp Ar (AOL.nil (Ae (AW.seq (AW.region (Qp A0 (Qp Cr (AOL.nil (Ae (A3 (fun hc1=>?_) fun hc1=>?_)))))))))
  · skip
    refine AW.seq (AW.region (Qp A0 (Qp Ar (AOL.nil (Ae (Du ?_))))))
    refine Qr (Iq _) ?_
    try simp only [Co,Bool.and_true] at *
    first
      | (simp only [Ad,Hm];(first | rw [if_pos hc1] | skip);first | done | rfl)
      | (try simp only [Bool.not_eq_true',Bool.not_eq_false'] at *
         first
         | (simp only [Ad,Hm, *,Bool.false_eq_true,↓reduceIte,Bool.true_or,Bool.or_true,Bool.false_or,Bool.or_false,Bool.true_and,Bool.and_true,Bool.false_and,Bool.and_false,Bool.not_true,Bool.not_false];done)
         | (simp [Ad,Hm, *];done)
         | (simp_all [Ad,Hm];done))
      | skip
  · skip
    refine By (AW.seq (AW.region (Qp Dt (Qp (Cv [Iq _,Iq _,Iq _,Iq _,_]) ?_))))
    refine Qp (Qc rfl (wK T hs e)) ?_
    refine Qp Ar (AOL.nil (Ae (AW.ret ?_)))
    refine Qr (Iq _) ?_
    try simp only [Co,Bool.and_true] at *
    first
      | (simp only [Ad,Hm];(first | rw [iN hc1] | skip);first | done | rfl)
      | (try simp only [Bool.not_eq_true',Bool.not_eq_false'] at *
         first
         | (simp only [Ad,Hm, *,Bool.false_eq_true,↓reduceIte,Bool.true_or,Bool.or_true,Bool.false_or,Bool.or_false,Bool.true_and,Bool.and_true,Bool.false_and,Bool.and_false,Bool.not_true,Bool.not_false];done)
         | (simp [Ad,Hm, *];done)
         | (simp_all [Ad,Hm];done))
      | skip
theorem wH (T:List Sc)(hl:T.length≤1048576)(hs:∀s∈T,J4 s)(V:List Va)(hvl:V.length≤1048576)(l:List Ev)(hel:l.length≤1048576):Ax Tryz.prog 17 [.sl 2 (T.map O2),.sl 2 (V.map Xr),.sl 5 (l.map Rz)] (.bool (Lk T V l)):=by
 refine Ax.body (n:=45) Ai Tryz.func17 rfl rfl rfl fun H=>?_
 refine Ah (Qp Bm (Ag (AW.seq (Ah (Qp Ar (Ag (AW.block ?_)))))))
 refine AW.Aad (fun (k:Nat)=>(⟨[(0,.sl 2 (T.map O2)),(1,.sl 2 (V.map Xr)),(2,.sl 5 (l.map Rz)),(7,.int .i64 (k:Int))],H,45⟩:St)) (fun (k:Nat)=>k≤l.length∧((l.zip V).take k).any (U5 T)=false) (fun (k:Nat)=>l.length-k) (0) ?_ (GS.weaken ⟨rfl,rfl,rfl,rfl,trivial⟩ (.refl _)) ?_
 · exact ⟨Nat.zero_le _,by simp⟩
 ·
  rintro k hR
  refine AW.seq (Ah (Qp A0 (Qp Dt ?_)))
  refine Qp (Al (n:=l.length) Ai rfl rfl rfl (by simp)) ?_
  refine Qp Ck (Qp Bu (Qg [] Qw A0 (Qg [] Qw Dt ?_)))
  refine AOL.Aaf (y:=Iq _) _ [(14,_)] rfl (oE.all ⟨Ent.Aab _ _,trivial⟩) (fun hG=>Al (n:=V.length) Ai rfl rfl rfl (by simp)) rfl ?_
  refine AOL.Aaf (y:=.bool _) _ [(13,_),(15,_)] rfl (oE.all ⟨Ent.Aab _ _,Ent.Aab _ _,trivial⟩) (fun hG=>P_lss rfl rfl) rfl ?_
  refine Qp Gg (Ag (A3 (fun hc1=>?_) fun hc1=>?_))
  ·
   rw [Bool.and_eq_true] at hc1
   obtain ⟨a,ha⟩:=B7 hc1.1
   have hlt:=Bb ha
   have hm:=List.mem_of_getElem? ha
   obtain ⟨w,hw⟩:=B7 hc1.2
   have hltw:=Bb hw
   have hzw:=xK ha hw
   refine By (AW.seq (AW.block (AW.seq ?_)))
   refine AW.draw mixed (fun _=>True) trivial (by kernel_rfl) ?_
   refine Qn 0 rfl Dt (Qn 1 rfl Dt (Qn 2 rfl A0 ?_))
   refine Qn 3 rfl (Af (c:=[Iq _,Iq _,Iq _,Iq _,_]) Ai rfl rfl rfl rfl rfl rfl (by omega) (Bo ha)) ?_
   refine Qn 4 rfl (Cv [Iq _,Iq _,Iq _,Iq _,_]) ?_
   refine Qn 5 rfl (Qc rfl (oC T hl hs a)) ?_
   refine Qn 6 rfl Cr (Qn 7 rfl Bu (Qo 8 rfl [] Qw Dt (Qo 9 rfl [] Qw A0 ?_)))
   refine Jb.pure _ _ 10 _ _ rfl (by kernel_rfl) (by kernel_rfl) rfl (.opt _ (.ptr _) [(28,_),(29,_)] rfl (oE.all ⟨Ent.Aab _ _,Ent.Aab _ _,trivial⟩) (fun hG=>Af (c:=[Iq _,Iq _,Iq _,Iq _,_]) Ai rfl rfl rfl rfl rfl rfl (by omega) (Bo ha)) rfl) ?_
   refine Qo 11 rfl [(30,_)] Qw (Qf [Iq _,Iq _,_]) (Qo 12 rfl [(31,_)] Qw Bp (Qo 13 rfl [] Qw Dt (Qo 14 rfl [] Qw A0 ?_)))
   refine Jb.pure _ _ 15 _ _ rfl (by kernel_rfl) (by kernel_rfl) rfl (.opt _ (.ptr _) [(33,_),(34,_)] rfl (oE.all ⟨Ent.Aab _ _,Ent.Aab _ _,trivial⟩) (fun hG=>Af (c:=[.str _,Iq _]) Ai rfl rfl rfl rfl rfl rfl (by omega) (Bo hw)) rfl) ?_
   refine Qo 16 rfl [(35,_)] Qw (Qf [Iq _]) (Qo 17 rfl [(36,_)] Qw Bp ?_)
   refine Jb.pure _ _ 18 _ _ rfl (by kernel_rfl) (by kernel_rfl) rfl (.opt _ (.bool _) [(32,_),(37,_)] rfl (oE.all ⟨Ent.Aab _ _,Ent.Aab _ _,trivial⟩) (fun hG=>Wb rfl rfl) rfl) ?_
   refine Qn 19 rfl E2 ?_
   refine Jb.done _ _ (by kernel_rfl) ?_
   refine Ae (A3 (fun hc2=>?_) fun hc2=>?_)
   ·
    refine Ah (Qp Bm (Ag (AW.ret (A7 (Aj (Aj (A7 (Aj ?_))))))))
    refine Qr (.bool _) ?_
    exact Eq.trans rfl (congrArg (fun q:Bool=>AV.bool q) ((by unfold Lk;rw [if_pos (U4 hzw hc2)]:Lk T V l=false))).symm
   ·
    refine AW.skip (Bv (Ae (AW.region (Qp A0 (Qp F7 (Qp Ar (Ag ?_)))))))
    refine ⟨k+1,?_,?_,GS.weaken ⟨rfl,rfl,rfl,rfl,trivial⟩ (.refl _)⟩
    · exact ⟨hlt,Q4 hR.2 hzw hc2⟩
    · omega
  ·
   have hte:=vZ hc1
   have hall:=hR.2
   rw [hte] at hall
   refine AW.exit ?_
   refine A5 (A5 (Bx (Ae (Ah (Qp Dt ?_)))))
   refine Qp (Al (n:=l.length) Ai rfl rfl rfl (by simp)) ?_
   refine Qp Dt ?_
   refine Qp (Al (n:=V.length) Ai rfl rfl rfl (by simp)) ?_
   refine Qp A6 (Qp Bm (Ag (AW.ret ?_)))
   refine Qr (.bool _) ?_
   exact Eq.trans rfl (congrArg (fun q:Bool=>AV.bool q) ((by unfold Lk;rw [C3 hall]:Lk T V l=_))).symm

end Go.Proofs.YtjedflcpjlgokaaGreatDoor
