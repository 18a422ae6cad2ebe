/-
  Several texts in one: Y13, Y6c, Y2, Y14, Y17, Z2. No condition.
-/
import Derived.Test.YtjedflcpjlgokaaGreatDoorAz
import Derived.Test.YtjedflcpjlgokaaGreatDoorK22
import Derived.Test.YtjedflcpjlgokaaGreatDoorK38
import Derived.Test.YtjedflcpjlgokaaGreatDoorY6b
import Derived.KernelRfl
import Derived.Test.YtjedflcpjlgokaaGreatDoorK16
import Derived.Test.YtjedflcpjlgokaaGreatDoorK04
import Derived.Test.YtjedflcpjlgokaaGreatDoorK10
import Derived.Test.YtjedflcpjlgokaaGreatDoorK12
import Derived.Test.YtjedflcpjlgokaaGreatDoorY7b
import Derived.Test.YtjedflcpjlgokaaGreatDoorK31
import Derived.Test.YtjedflcpjlgokaaGreatDoorK23
import Derived.Test.YtjedflcpjlgokaaGreatDoorK35
set_option linter.unusedVariables false
set_option linter.unusedSimpArgs false
namespace Go.Proofs.YtjedflcpjlgokaaGreatDoor
open Go Go.Aw
set_option maxHeartbeats 3200000
set_option maxRecDepth 20000

theorem pN (T:List Sc)(hst:∀s∈T,Ig s)(V:List Va)(hty:Ki T V)(hvl:V.length≤1048576)(cs:Cs)(hcs:vOK T V cs):Ax Tryz.prog 32 [.agg (Cf T V),.agg (Ec cs)] (.tuple [.int .i64 (Hu T V cs).1,.sl 5 ((Hu T V cs).2.map Lo)]):=by
 refine Ax.body (n:=44) Ah Tryz.func32 rfl rfl rfl fun H=>?_
 refine Ai (Qp (Gd [_,_]) (Qp (Gd [_,.bool _]) (Qp Ap ?_)))
 refine Qp (Bz (z:=5) rfl) ?_
 refine Ag (AW.seq (Ai (Qp (Qf [.bool _]) (Qp gV (Qp Hc (Ag (A6 (fun hc1=>?_) fun hc1=>?_)))))))
 ·
  refine Ai (Qp Ap ?_)
  refine Qp (Bz (z:=5) rfl) ?_
  refine Ag (Dw ?_)
  refine La (Iq _) (.sl _ _) ?_
  exact Eq.trans rfl (congrArg (fun q:Int×List Ev=>AV.tuple [.int .i64 q.1,.sl 5 (q.2.map Lo)]) (verd_1 hc1)).symm
 ·
  refine By (Ai (Qp Ap (Ag (AW.seq (Ai (Qp (Qf [_,.bool _]) (Qp Dy ?_)))))))
  refine Qp (Al (n:=cs.1.length) Ah rfl rfl rfl (by simp)) ?_
  refine Qp Az (Ag (AW.block ?_))
  refine AW.Aao (fun (p:Nat×Int)=>(⟨[(2,.ptr (Cf T V)),(6,.int .i64 p.2),(15,.sl 1 (cs.1.map P1)),(16,.int .i64 cs.1.length),(17,.int .i64 (p.1:Int))],H,44⟩:St)) (fun (p:Nat×Int)=>p.1≤cs.1.length∧lQ T V 2 cs.1=lQ T V p.2 (cs.1.drop p.1)) (fun (p:Nat×Int)=>cs.1.length-p.1) ((0,2)) ?_ (GS.weaken ⟨rfl,rfl,rfl,rfl,rfl,trivial⟩ (.refl _)) ?_
  · exact ⟨Nat.zero_le _,rfl⟩
  ·
   rintro p hR
   have hcl9:=hcs.1
   refine Ai (Qp Ch (Ag (AW.seq (A6 (fun hc2=>?_) fun hc2=>?_))))
   ·
    obtain ⟨c,hc⟩:=B5 hc2
    have hlt:=A4 hc
    have hcv:=hcs.2 c (List.mem_of_getElem? hc)
    have hck:=hcv.1
    have hcl:=hcv.2
    have hgo:=hR.2
    rw [A8 hc] at hgo
    refine By (AW.seq (AW.block (Ai ?_)))
    refine Qp (Af (c:=[_]) Ah rfl rfl rfl rfl rfl rfl (by omega) (Bi hc)) ?_
    refine Qp Dy (Qp Sr (Dm (Qp (Cq [_,_]) (Qp Dx ?_))))
    refine Qe (Dj (by kernel_rfl) rfl rfl (Aad T V c hck hcl (eN T V c) _)) ?_
    rintro _ _ ⟨m,mo,hmo,rfl,rfl⟩
    refine Qp N6 ?_
    refine Qp (Ci (v:=.agg [_,_,_]) rfl rfl) ?_
    refine Qp bB ?_
    refine Qe (Ak (l:=[.val (.pointer none),.sl 1 [],.val (.map none)]) (by kernel_rfl)) ?_
    rintro _ _ ⟨b9,rfl,rfl⟩
    refine Cv 0 [_,_,_] (_::_::_) ?_
    refine Qp Bl ?_
    refine AOL.ghost (GS.Aan (t:=9) 0 rfl rfl) ?_
    refine Ag (AW.seq (Ai (Qp B0 (Qp Hc (Qp B0 (Qg [] Qw Dx ?_))))))
    refine AOL.Aar (y:=Iq _) _ [(30,_)] rfl (nC.all ⟨Ent.Aam _ _,trivial⟩) (fun hG=>Al (n:=c.length) Ah rfl rfl rfl (by simp)) rfl ?_
    refine Qg [(31,_)] Qw N8 (Qp F7 (Ag (A6 (fun hc3=>?_) fun hc3=>?_)))
    ·
     refine AW.exit ?_
     refine A5 (Bq (Ad (AW.region (Qp Ey (Qp Az (Ag ?_))))))
     refine ⟨(p.1+1,p.2),?_,?_,GS.weaken ⟨rfl,rfl,rfl,rfl,rfl,trivial⟩ (.cons _ (.refl _))⟩
     · exact ⟨hlt,hgo.trans (sK hc3)⟩
     · simp only;omega
    ·
     refine By (AW.seq (Ai (Qp (Cq [_,_]) (Qp Dx (Qp (Cq [_,_,_]) ?_)))))
     refine Qp (Qc rfl (nY T V c hck (by omega) (cO T V c) mo)) ?_
     refine Ag (A6 (fun hc4=>?_) fun hc4=>?_)
     ·
      have hvs:=qT hck hc3 hc4
      have hmoe:=hmo (Z9 hc4).1
      subst hmoe
      refine Ai (Qp (Cq [_,_]) (Qp Dx (Qp (Cq [_,_,_]) ?_)))
      refine Qe (Dj (by kernel_rfl) rfl rfl (uN T V hty hst hvl c hck hcl m _ (gZ c) (cO T V c) hvs _)) ?_
      rintro _ _ ⟨rfl,rfl⟩
      refine Qp Ap (Qp Sr (Ag (Dw (Bb (Aj (Aj (Bb (Aj ?_))))))))
      refine ⟨.inr rfl,[Iq _,.sl _ _],.cons (.tmp _ _ rfl) <| .cons (.tmp _ _ rfl) <| .nil,.cons _ (.refl _),?_⟩
      exact Eq.trans rfl (congrArg (fun q:Int×List Ev=>AV.tuple [.int .i64 q.1,.sl 5 (q.2.map Lo)]) ((tT hc1).trans (hgo.trans (xX hc3 hc4)))).symm
     ·
      refine By (AW.region (Qp Ap (AOL.nil (Bu (Ad (AW.region (Qp Ey (Qp Az (Ag ?_)))))))))
      refine ⟨(p.1+1,0),?_,?_,GS.weaken ⟨rfl,rfl,rfl,rfl,rfl,trivial⟩ (.cons _ (.refl _))⟩
      · exact ⟨hlt,hgo.trans (vGo_on hc3 hc4)⟩
      · simp only;omega
   ·
    have hde:=Dc hc2
    have hgo:=hR.2
    rw [hde] at hgo
    refine AW.exit ?_
    refine A5 (A5 (Bq (Ad (Ai (Qp Az (Qp Ap ?_))))))
    refine Qp (Bz (z:=5) rfl) ?_
    refine Ag (AW.ret ?_)
    refine La (Iq _) (.sl _ _) ?_
    exact Eq.trans rfl (congrArg (fun q:Int×List Ev=>AV.tuple [.int .i64 q.1,.sl 5 (q.2.map Lo)]) ((tT hc1).trans hgo)).symm
theorem aZ (T:List Sc)(hl:T.length≤1048576)(hst:∀s∈T,Ig s)(V:List Va)(hvl:V.length≤1048576)(es:List Ex)(hel:es.length≤1048576)(hes:∀e∈es,Ar e≤1048576):Ax Tryz.prog 30 [.agg (Cf T V),.sl 8 (es.map G8)] (.int .i64 (Hd T V es)):=by
 refine Ax.body (n:=30) Ah Tryz.func30 rfl rfl rfl fun H=>?_
 refine Ai (Qp (Gd [_,_]) (Qp Ap (Ag (AW.seq (Ai (Qp (Cq [_,_]) ?_))))))
 refine Qp (Qc rfl (T8 T hl hst V hvl)) ?_
 refine Qp Ap (Dm (Qp Az (Qp Cr (Ag (A6 (fun hc1=>?_) fun hc1=>?_)))))
 ·
  refine Ai (Qp Az (Qp Ap (Ag (Dw ?_))))
  refine Qr (Iq _) ?_
  exact Eq.trans rfl (congrArg (fun q:Int=>AV.int .i64 q) (bT hc1)).symm
 ·
  refine By (AW.seq (Ai (Qp Dx ?_)))
  refine Qp (Al (n:=es.length) Ah rfl rfl rfl (by simp)) ?_
  refine Qp Ha (Ag (A6 (fun hc2=>?_) fun hc2=>?_))
  ·
   refine Ai (Qp Ap (Ag (Dw ?_)))
   refine Qr (Iq _) ?_
   exact Eq.trans rfl (congrArg (fun q:Int=>AV.int .i64 q) (mT hc1 hc2)).symm
  ·
   refine By (AW.seq (Ai (Qp Dx ?_)))
   refine Qp (Al (n:=es.length) Ah rfl rfl rfl (by simp)) ?_
   refine Qp Az (Ag (AW.block ?_))
   refine AW.Aao (fun (k:Nat)=>(⟨[(2,.ptr (Cf T V)),(17,.sl 8 (es.map G8)),(18,.int .i64 es.length),(19,.int .i64 (k:Int))],H,30⟩:St)) (fun (k:Nat)=>k≤es.length∧Ao (D1 T V) (es.take k)=0) (fun (k:Nat)=>es.length-k) (0) ?_ (GS.weaken ⟨rfl,rfl,rfl,rfl,trivial⟩ (.refl _)) ?_
   · exact ⟨Nat.zero_le _,rfl⟩
   ·
    rintro k hR
    refine Ai (Qp Ch (Ag (AW.seq (A6 (fun hc3=>?_) fun hc3=>?_))))
    ·
     obtain ⟨e,he⟩:=B5 hc3
     have hlt:=A4 he
     have hem:=List.mem_of_getElem? he
     refine By (AW.seq (AW.block (Ai ?_)))
     refine Qp (Af (c:=[Iq _,_,Iq _,Iq _,Iq _,Iq _,Iq _,.str _]) Ah rfl rfl rfl rfl rfl rfl (by omega) (Fo he)) ?_
     refine Qp El ?_
     refine Qe (Ak (l:=[.int .i64 0,.sl 8 [],.int .i64 0,.int .i64 0,.int .i64 0,.int .i64 0,.int .i64 0,.str []]) (by kernel_rfl)) ?_
     rintro _ _ ⟨b7,rfl,rfl⟩
     refine Cv 0 [Iq _,_,Iq _,Iq _,Iq _,Iq _,Iq _,.str _] (_::_) ?_
     refine AOL.ghost (GS.Aan (t:=7) 0 rfl rfl) ?_
     refine Dm (Qp (Cq [_,_]) (Qp El ?_))
     refine Qp (Qc rfl (Oo T hl hst V hvl e (hes e hem))) ?_
     refine Qp Ap (Dm (Qp Az (Qp Cr (Ag (A6 (fun hc4=>?_) fun hc4=>?_)))))
     ·
      refine Ai (Qp Az (Qp Ap (Ag (AW.ret (Bb (Aj (Aj (Bb (Aj ?_)))))))))
      refine Qr (Iq _) ?_
      exact Eq.trans rfl (congrArg (fun q:Int=>AV.int .i64 q) ((cP hc1 hc2).trans (My hR.2 he (by simpa using hc4)))).symm
     ·
      refine AW.skip (Bu (Ad (AW.region (Qp Ey (Qp Az (Ag ?_))))))
      refine ⟨k+1,?_,?_,GS.weaken ⟨rfl,rfl,rfl,rfl,trivial⟩ (.refl _)⟩
      · exact ⟨hlt,Qz hR.2 he (by simpa using hc4)⟩
      · omega
    ·
     have hte:=Cu hc3
     have hall:=hR.2
     rw [hte] at hall
     refine AW.exit ?_
     refine A5 (A5 (Bq (Ad (Ai (Qp Ap (Ag (AW.ret ?_)))))))
     refine Qr (Iq _) ?_
     exact Eq.trans rfl (congrArg (fun q:Int=>AV.int .i64 q) ((cP hc1 hc2).trans hall)).symm
theorem jQ (T:List Sc)(hl:T.length≤1048576)(hst:∀s∈T,Ig s)(V:List Va)(hvl:V.length≤1048576)(es:List Ex)(hel:es.length≤60)(hes:∀e∈es,Ar e≤1048576):Ax Tryz.prog 10 [.sl 2 (T.map Ob),.sl 2 (V.map S4),.sl 8 (es.map G8)] (.tuple [.int .i64 (Eb T V es).1,.sl 5 ((Eb T V es).2.1.map Lo),.int .i64 (Eb T V es).2.2]):=by
 refine Ax.body (n:=47) Ah Tryz.func10 rfl rfl rfl fun H=>?_
 refine Ai (Qp Ap ?_)
 refine Qp (Bz (z:=5) rfl) ?_
 refine Qp Ap (Dm (Qp Dx (Qp Dx (Qp (Fz [_,_]) ?_))))
 refine Qe (Ak (l:=[.sl 2 [],.sl 2 []]) (by kernel_rfl)) ?_
 rintro _ _ ⟨b9,rfl,rfl⟩
 refine Cv 0 [_,_] (_::_) ?_
 refine AOL.ghost (GS.Aan (t:=9) 0 rfl rfl) ?_
 refine Ag (AW.seq (Ai (Qp (Cq [_,_]) (Qp Dx ?_))))
 refine Qp (Qc rfl (aZ T hl hst V hvl es (by omega) hes)) ?_
 refine Qp Ap (Dm (Qp Az (Qp Cr (Ag (A6 (fun hc1=>?_) fun hc1=>?_)))))
 ·
  refine Ai (Qp Az (Qp Ap ?_))
  refine Qp (Bz (z:=5) rfl) ?_
  refine Qp Ap (Ag (Dw ?_))
  refine ⟨.inr rfl,[Iq _,.sl _ _,Iq _],.cons (.tmp _ _ rfl) <| .cons (.tmp _ _ rfl) <| .cons (.tmp _ _ rfl) <| .nil,.refl _,?_⟩
  exact Eq.trans rfl (congrArg (fun q:Int×List Ev×Int=>AV.tuple [.int .i64 q.1,.sl 5 (q.2.1.map Lo),.int .i64 q.2.2]) (Poss_1 hc1)).symm
 ·
  have hcz:=jR hc1
  have hty:=tK hc1
  refine By (Ai ?_)
  refine Qp (Dn.weakV (A1 (es:=[[_]]) Ah rfl rfl rfl rfl rfl rfl rfl rfl rfl) gC) ?_
  refine Qp (Fz [_,.bool _]) ?_
  refine Qe (Ak (l:=[.sl 1 [],.bool false]) (by kernel_rfl)) ?_
  rintro _ _ ⟨b11,rfl,rfl⟩
  refine Cv 0 [_,.bool _] (_::_) ?_
  refine Ag (AW.seq (Ai (Qp Dx ?_)))
  refine Qp (Al (n:=es.length) Ah rfl rfl rfl (by simp)) ?_
  refine Qp Az (Ag (AW.block ?_))
  refine AW.Aao (fun (p:Nat×Cs)=>(⟨[(9,.ptr (Cf T V)),(11,.val (.pointer (some ⟨b11,0,none⟩))),(27,.sl 8 (es.map G8)),(28,.int .i64 es.length),(29,.int .i64 (p.1:Int))],.box b11 88 (Ec p.2)::H,47⟩:St)) (fun (p:Nat×Cs)=>p.1≤es.length∧gN T V (es.take p.1) ([[]],true)=p.2∧csOK (64*p.1) p.2∧Jg T V 64 p.2) (fun (p:Nat×Cs)=>es.length-p.1) ((0,([[]],true))) ?_ (GS.weaken ⟨rfl,rfl,rfl,rfl,rfl,trivial⟩ (.refl _)) ?_
  · exact ⟨Nat.zero_le _,rfl,vX,oE⟩
  ·
   rintro p hR
   refine Ai (Qp Ch (Ag (AW.seq (A6 (fun hc2=>?_) fun hc2=>?_))))
   ·
    obtain ⟨e,he⟩:=B5 hc2
    have hlt:=A4 he
    have hem:=List.mem_of_getElem? he
    have hke:=(hcz.2 e hem).1
    have hkz:=Jy hke
    refine By (AW.seq (AW.block (Ai ?_)))
    refine Qp (Af (c:=[Iq _,_,Iq _,Iq _,Iq _,Iq _,Iq _,.str _]) Ah rfl rfl rfl rfl rfl rfl (by omega) (Fo he)) ?_
    refine Qp El ?_
    refine Qe (Ak (l:=[.int .i64 0,.sl 8 [],.int .i64 0,.int .i64 0,.int .i64 0,.int .i64 0,.int .i64 0,.str []]) (by kernel_rfl)) ?_
    rintro _ _ ⟨b13,rfl,rfl⟩
    refine Cv 0 [Iq _,_,Iq _,Iq _,Iq _,Iq _,Iq _,.str _] (_::_::_) ?_
    refine AOL.ghost (GS.Aan (t:=13) 0 rfl rfl) ?_
    refine Ag ?_
    refine AW.draw mixed (fun H'=>_∈H') (List.mem_of_getElem? (i:=0) rfl) (by kernel_rfl) ?_
    refine Qn 0 rfl (OpP.Aaq (fun k=>A7 (k:=k) (l:=[_,.bool _]) Ah rfl rfl rfl rfl rfl) (fun _ h=>h)) ?_
    refine Qn 1 rfl (Cq [_,_]) (Qn 2 rfl El ?_)
    refine Qn 3 rfl (Qc rfl (eR T V e hke.kok (Jy hke) true)) ?_
    refine Qn 4 rfl (Qc rfl (Ry _ _ _ _ hR.2.2.1 (H5 e hke.kok true) (by omega) (by have:=Jy hke;omega))) ?_
    refine Jn.last _ _ 5 _ _ rfl (by kernel_rfl) rfl rfl (B2 (k:=0) (v:=.agg _) (cs':=[_,.bool _]) (H2:=_::_) Ah rfl rfl rfl rfl (rfl) rfl rfl rfl rfl) (by kernel_rfl) ?_
    rintro _ _ ⟨rfl,rfl⟩
    refine Bu (Ad (AW.region (Qp Ey (Qp Az (Ag ?_)))))
    refine ⟨(p.1+1,Ek p.2 (Cl T V e true)),?_,?_,GS.weaken ⟨rfl,rfl,rfl,rfl,rfl,trivial⟩ (.refl _)⟩
    · exact ⟨hlt,by unfold gN;rw [C4 he,List.foldl_append];exact congrArg (fun z=>Ek z (Cl T V e true)) hR.2.1,(Ml hR.2.2.1 (H5 e hke.kok true)).mono (by simp only;omega),Pp hR.2.2.2 (Me (Pf e hke.kok true) hkz)⟩
    · simp only;omega
   ·
    have hte:=Cu hc2
    have hpr:=hR.2.1
    rw [hte] at hpr
    have hvo:vOK T V p.2:=vOK_of hR.2.2.1 hR.2.2.2 (by have:=hR.1;omega)
    refine AW.exit ?_
    refine A5 (A5 (Bq (Ad (Ai (Qp (Cq [_,_]) ?_)))))
    refine AOL.Aas (A7 (k:=0) (l:=[_,.bool _]) Ah rfl rfl rfl rfl rfl) rfl rfl ?_
    refine Qp (Qc rfl (pN T hst V hty hvl _ hvo)) ?_
    refine Qp N6 (Qp Ke (Qp vY (Qp Ap (Qp Sr (Dm (Qp Az (Qp Dx (Qp Ap (Qp Sr ?_)))))))))
    refine Qp Ap (Ag (AW.ret ?_))
    refine ⟨.inr rfl,[Iq _,.sl _ _,Iq _],.cons (.tmp _ _ rfl) <| .cons (.tmp _ _ rfl) <| .cons (.tmp _ _ rfl) <| .nil,.cons _ (.refl _),?_⟩
    exact Eq.trans rfl (congrArg (fun q:Int×List Ev×Int=>AV.tuple [.int .i64 q.1,.sl 5 (q.2.1.map Lo),.int .i64 q.2.2]) (Poss_2 hc1 hpr)).symm


set_option maxHeartbeats 800000
set_option maxRecDepth 20000

set_option maxRecDepth 100000
theorem r_FewT (T:List Sc)(hl:T.length≤1048576)(hst:∀s∈T,Ig s):Ax Tryz.prog 25 [.sl 2 (T.map Ob)] (.bool (dB T)):=by
 refine Ax.body (n:=29) Ah Tryz.func25 rfl rfl rfl fun H=>?_
 refine Ai (Qp Bl (Ag (AW.seq (Ai (Qp Ap (Ag (AW.block ?_)))))))
 refine AW.Aao (fun (k:Nat)=>(⟨[(0,.sl 2 (T.map Ob)),(3,.int .i64 (k:Int))],H,29⟩:St)) (fun (k:Nat)=>k≤T.length∧(T.take k).any Aak=false) (fun (k:Nat)=>T.length-k) (0) ?_ (GS.weaken ⟨rfl,rfl,trivial⟩ (.refl _)) ?_
 · exact ⟨Nat.zero_le _,by simp⟩
 ·
  rintro k hR
  refine AW.seq (Ai (Qp Az (Qp Dx ?_)))
  refine Qp (Al (n:=T.length) Ah rfl rfl rfl (by simp)) ?_
  refine Qp Ch (Ag (A6 (fun hc1=>?_) fun hc1=>?_))
  ·
   obtain ⟨a,ha⟩:=B5 hc1
   have hlt:=A4 ha
   have hm:=List.mem_of_getElem? ha
   refine By (AW.seq (AW.block (Ai (Qp Dx (Qp Az ?_)))))
   refine Qp (Af (c:=[.str _,_]) Ah rfl rfl rfl rfl rfl rfl (by omega) (Bi ha)) ?_
   refine Qp (Qf [_]) (Qp Dy ?_)
   refine Qp (Al (n:=a.fields.length) Ah rfl rfl rfl (by simp)) ?_
   refine Qp Ha (Qp B0 (Qg [] Qw Dx (Qg [] Qw Az ?_)))
   refine AOL.Aar (y:=.ptr _) _ [(18,_),(19,_)] rfl (nC.all ⟨Ent.Aam _ _,Ent.Aam _ _,trivial⟩) (fun hG=>Af (c:=[.str _,_]) Ah rfl rfl rfl rfl rfl rfl (by omega) (Bi ha)) rfl ?_
   refine Qg [(20,_)] Qw (Qf [.str _,_]) (Qg [(21,_)] Qw Us ?_)
   refine AOL.Aar (y:=Iq _) _ [(22,_)] rfl (nC.all ⟨Ent.Aam _ _,trivial⟩) (fun hG=>H8 (n:=a.name.length) Ah rfl rfl rfl (rfl)) rfl ?_
   refine Qg [(23,_)] Qw Ha (Qp E1 (Ag (A6 (fun hc2=>?_) fun hc2=>?_)))
   ·
    refine Ai (Qp Bl (Ag (AW.ret (Bb (Aj (Aj (Bb (Aj ?_))))))))
    refine Qr (.bool _) ?_
    exact Eq.trans rfl (congrArg (fun q:Bool=>AV.bool q) ((by unfold dB;rw [if_pos (U6 ha hc2)]:dB T=false))).symm
   ·
    refine AW.skip (Bu (Ad (AW.region (Qp Az (Qp Ey (Qp Ap (Ag ?_)))))))
    refine ⟨k+1,?_,?_,GS.weaken ⟨rfl,rfl,trivial⟩ (.refl _)⟩
    · exact ⟨hlt,Ou hR.2 ha hc2⟩
    · omega
  ·
   have hte:=Cu hc1
   have hall:=hR.2
   rw [hte] at hall
   refine AW.exit ?_
   refine A5 (A5 (Bq (Ad (Ai (Qp Dx ?_)))))
   refine Qp (Al (n:=T.length) Ah rfl rfl rfl (by simp)) ?_
   refine Qp N8 (Qp Bl (Ag (AW.ret ?_)))
   refine Qr (.bool _) ?_
   exact Eq.trans rfl (congrArg (fun q:Bool=>AV.bool q) ((by unfold dB;rw [C8 hall]:dB T=decide ((T.length:Int)≤20)))).symm
set_option maxHeartbeats 1600000
set_option maxRecDepth 20000

theorem zQ (T:List Sc)(hs:∀s∈T,Ig s)(e:Ev):Ax Tryz.prog 22 [.sl 2 (T.map Ob),.agg (Lo e)] (.int .i64 (Ja T e)):=by
 refine Ax.body (n:=83) Ah Tryz.func22 rfl rfl rfl fun H=>?_
 refine Ai (Qp (Gd [Iq _,Iq _,Iq _,Iq _,_]) (Qp Ap (Ag (AW.seq (Ai (Qp (Qf [Iq _,Iq _,Iq _,Iq _,_]) (Qp Bp (Qp Ch (Qp B0 ?_)))))))))
 refine Qg [] Qw (Qf [Iq _,Iq _,Iq _,Iq _,_]) (Qg [(12,_)] Qw Bp (Qg [(13,_)] Qw Nt (Qp E1 (Ag (A6 (fun hc1=>?_) fun hc1=>?_)))))
 ·
  refine Ai (Qp Ap (Ag (Dw ?_)))
  refine Qr (Iq _) ?_
  have h0:Ht e=32:=by unfold Ht;rw [if_pos hc1]
  exact congrArg (AV.int .i64) (by unfold Ja;rw [h0];rfl)
 ·
  have hn0:(Ht e != 0)=false∨(decide (e.seq<0)||decide (1099511627776<e.seq)||decide (e.time<0)||decide (1099511627776<e.time))=true:=by
     unfold Ht;rw [C8 hc1];cases (decide (e.seq<0)||decide (1099511627776<e.seq)||decide (e.time<0)||decide (1099511627776<e.time)) <;> simp
  refine By (AW.seq (Ai (Qp (Qf [Iq _,Iq _,Iq _,_]) (Qp Bp (Qp Ch (Qp B0 (Qg [] Qw (Qf [Iq _,Iq _,Iq _,_]) (Qg [(20,_)] Qw Bp (Qg [(21,_)] Qw Ha ?_)))))))))
  refine Qp E1 (Qp B0 (Qg [] Qw (Qf [Iq _,_]) (Qg [(25,_)] Qw Bp (Qg [(26,_)] Qw Ch (Qp E1 (Qp B0 (Qg [] Qw (Qf [Iq _,_]) (Qg [(30,_)] Qw Bp (Qg [(31,_)] Qw Ha ?_)))))))))
  refine Qp E1 (Ag (A6 (fun hc2=>?_) fun hc2=>?_))
  ·
   refine Ai (Qp Ap (Ag (Dw ?_)))
   refine Qr (Iq _) ?_
   have h0:Ht e=2:=by unfold Ht;rw [C8 hc1,if_pos hc2]
   exact congrArg (AV.int .i64) (by unfold Ja;rw [h0];rfl)
  ·
   have hn1:(Ht e != 0)=false:=hn0.resolve_right (by rw [hc2];decide)
   refine By (AW.seq (Ai (Qp (Qf [Iq _,Iq _,_]) (Qp Bp (Qp Ch (Qp B0 (Qg [] Qw (Qf [Iq _,Iq _,_]) (Qg [(38,_)] Qw Bp (Qg [] Qw Dx ?_)))))))))
   refine AOL.Aar (y:=Iq _) _ [(40,_)] rfl (nC.all ⟨Ent.Aam _ _,trivial⟩) (fun hG=>Al (n:=T.length) Ah rfl rfl rfl (by simp)) rfl ?_
   refine AOL.Aar (y:=.bool _) _ [(39,_),(41,_)] rfl (nC.all ⟨Ent.Aam _ _,Ent.Aam _ _,trivial⟩) (fun hG=>Ro rfl rfl) rfl ?_
   refine Qp E1 (Ag (A6 (fun hc3=>?_) fun hc3=>?_))
   ·
    refine Ai (Qp Ap (Ag (Dw ?_)))
    refine Qr (Iq _) ?_
    exact congrArg (AV.int .i64) (by unfold Ja;rw [C8 hn1,if_pos hc3])
   ·
    have hty:=ty_in hc3
    have hsc:T[e.type.toNat]? = some ((T[e.type.toNat]?).getD sc0):=lP sc0 hty.2
    refine By (Ai (Qp Dx (Qp (Qf [Iq _,Iq _,_]) (Qp Bp ?_))))
    refine Qp (Af (c:=[.str _,_]) Ah rfl rfl rfl rfl rfl rfl (hty.1) (Bi hsc)) ?_
    refine Qp (Qf [_]) (Qp Dy (Qp Sr (Ag (AW.seq (Ai (Qp (Qf [_]) (Qp Dy ?_)))))))
    refine Qp (Al (n:=e.values.length) Ah rfl rfl rfl (by simp)) ?_
    refine Qp Dx ?_
    refine Qp (Al (n:=(E2 T e).length) Ah rfl rfl rfl (by simp [E2])) ?_
    refine Qp Cr (Ag (A6 (fun hc4=>?_) fun hc4=>?_))
    ·
     refine Ai (Qp Ap (Ag (Dw ?_)))
     refine Qr (Iq _) ?_
     exact congrArg (AV.int .i64) (by unfold Ja;rw [C8 hn1,C8 hc3,if_pos hc4])
    ·
     have hfl:=len_eq hc4
     have hfb:(E2 T e).length≤1048576:=(hs _ (List.mem_of_getElem? hsc)).2.1
     refine By (AW.seq (Ai (Qp Ap (Ag (AW.block ?_)))))
     refine AW.Aao (fun (k:Nat)=>(⟨[(3,.ptr (Lo e)),(5,.sl 2 ((E2 T e).map cFi)),(6,.int .i64 (k:Int))],H,83⟩:St)) (fun (k:Nat)=>k≤e.values.length∧Qa e.values (E2 T e)=Qa (e.values.drop k) ((E2 T e).drop k)) (fun (k:Nat)=>e.values.length-k) (0) ?_ (GS.weaken ⟨rfl,rfl,rfl,trivial⟩ (.refl _)) ?_
     · exact ⟨Nat.zero_le _,rfl⟩
     ·
      rintro k hR
      refine AW.seq (Ai (Qp Az (Qp Dx ?_)))
      refine Qp (Al (n:=(E2 T e).length) Ah rfl rfl rfl (by simp)) ?_
      refine Qp Ch (Ag (A6 (fun hc5=>?_) fun hc5=>?_))
      ·
       have hk5:k<(E2 T e).length:=by have:=of_decide_eq_true hc5;omega
       obtain ⟨a,ha⟩:=B5 (l:=e.values) (k:=k) (by simp;omega)
       have hlt:=A4 ha
       have hm:=List.mem_of_getElem? ha
       have hfk:(E2 T e)[k]? = some (((E2 T e)[k]?).getD fi0):=lP fi0 (by omega)
       have hstep:=nN ha hfk
       refine By (AW.seq (AW.block (AW.seq (Ai (Qp (Qf [_]) (Qp Dy (Qp Az ?_)))))))
       refine Qp (Af (c:=[Iq _,Iq _,.str _]) Ah rfl rfl rfl rfl rfl rfl (by omega) (Bi ha)) ?_
       refine Qp (Cq [Iq _,Iq _,.str _]) ?_
       refine Qp (Qc rfl (c79 a)) ?_
       refine Qp Ap (Dm (Qp Az (Qp Cr (Ag (A6 (fun hc6=>?_) fun hc6=>?_)))))
       ·
        refine Ai (Qp Az (Qp Ap (Ag (Dw (Bb (Aj (Aj (Bb (Aj ?_)))))))))
        refine Qr (Iq _) ?_
        have he:Xm a (((E2 T e)[k]?).getD fi0)=Aq a:=by unfold Xm;rw [if_pos hc6]
        exact congrArg (AV.int .i64) (by unfold Ja;rw [C8 hn1,C8 hc3,C8 hc4,hR.2,hstep,he,if_pos hc6])
       ·
        refine By (AW.seq ?_)
        refine AW.draw mixed (fun _=>True) trivial (by kernel_rfl) ?_
        refine Qn 0 rfl (Qf [_]) (Qn 1 rfl Dy (Qn 2 rfl Az ?_))
        refine Qn 3 rfl (Af (c:=[Iq _,Iq _,.str _]) Ah rfl rfl rfl rfl rfl rfl (by omega) (Bi ha)) ?_
        refine Qn 4 rfl Jq (Qn 5 rfl Bp (Qn 6 rfl Dx (Qn 7 rfl Az ?_)))
        refine Qn 8 rfl (Af (c:=[.str _,Iq _]) Ah rfl rfl rfl rfl rfl rfl (by omega) (Bi hfk)) ?_
        refine Qn 9 rfl (Qf [Iq _]) (Qn 10 rfl Bp (Qn 11 rfl Cr ?_))
        refine Jn.done _ _ (by kernel_rfl) ?_
        refine Ad (A6 (fun hc7=>?_) fun hc7=>?_)
        ·
         refine Ai (Qp Ap (Ag (AW.ret (Bb (Aj (Aj (Bb (Aj ?_))))))))
         refine Qr (Iq _) ?_
         have he:Xm a (((E2 T e)[k]?).getD fi0)=9:=by unfold Xm;rw [C8 hc6,if_pos hc7]
         exact congrArg (AV.int .i64) (by unfold Ja;rw [C8 hn1,C8 hc3,C8 hc4,hR.2,hstep,he];rfl)
        ·
         refine AW.skip (Bu (Ad (AW.region (Qp Az (Qp Ey (Qp Ap (Ag ?_)))))))
         refine ⟨k+1,?_,?_,GS.weaken ⟨rfl,rfl,rfl,trivial⟩ (.refl _)⟩
         · exact ⟨hlt,by rw [hR.2,hstep,if_neg];unfold Xm;rw [C8 hc6,C8 hc7];decide⟩
         · omega
      ·
       have hd:=Dc hc5
       refine AW.exit ?_
       refine A5 (A5 (Bq (Ad (Ai (Qp Ap (Ag (AW.ret ?_)))))))
       refine Qr (Iq _) ?_
       exact congrArg (AV.int .i64) (by unfold Ja;rw [C8 hn1,C8 hc3,C8 hc4,hR.2,hd,pP])
set_option maxHeartbeats 3200000
set_option maxRecDepth 20000

theorem mX (o a c n:Int):Ax Tryz.prog 23 [.int .i64 o,.int .i64 a,.int .i64 c,.int .i64 n] (.agg (cE (R1 o a c n))):=by
 refine Ax.body (n:=25) Ah Tryz.func23 rfl rfl rfl fun H=>?_
 refine Ai ?_
 refine Qe (Ak (l:=[.int .i64 0,.sl 8 [],.int .i64 0,.int .i64 0,.int .i64 0,.int .i64 0,.int .i64 0,.str []]) (by kernel_rfl)) ?_
 rintro _ _ ⟨b8,rfl,rfl⟩
 refine Dm (Qp Az (Qp (Fz [Iq _,_,Iq _,Iq _,Iq _,Iq _,Iq _,.str _]) ?_))
 refine Qe (Ak (l:=[.int .i64 0,.sl 8 [],.int .i64 0,.int .i64 0,.int .i64 0,.int .i64 0,.int .i64 0,.str []]) (by kernel_rfl)) ?_
 rintro _ _ ⟨b9,rfl,rfl⟩
 refine Cv 0 [Iq _,_,Iq _,Iq _,Iq _,Iq _,Iq _,.str _] (_::_::_) ?_
 refine AOL.ghost (GS.Aan (t:=9) 0 rfl rfl) ?_
 refine Dm (Qp Az (Qp (Fz [Iq _,_,Iq _,Iq _,Iq _,Iq _,Iq _,.str _]) (Qp Az (Qp (Fz [Iq _,Iq _,.str _]) (Qp (Fz [Iq _,_,Iq _,Iq _,Iq _,Iq _,Iq _,.str _]) ?_)))))
 refine Qp (A1 (es:=[[Iq _,_,Iq _,Iq _,Iq _,Iq _,Iq _,.str _],[Iq _,_,Iq _,Iq _,Iq _,Iq _,Iq _,.str _]]) Ah rfl rfl rfl rfl rfl rfl rfl rfl rfl) ?_
 refine Qp (Fz [Iq _,_,Iq _,Iq _,Iq _,Iq _,Iq _,.str _]) ?_
 refine Qe (Ak (l:=[.int .i64 0,.sl 8 [],.int .i64 0,.int .i64 0,.int .i64 0,.int .i64 0,.int .i64 0,.str []]) (by kernel_rfl)) ?_
 rintro _ _ ⟨b10,rfl,rfl⟩
 refine Cv 0 [Iq _,_,Iq _,Iq _,Iq _,Iq _,Iq _,.str _] (_::_::_) ?_
 refine AOL.ghost (GS.Aan (t:=10) 0 rfl rfl) ?_
 refine Dm (Qp Az (Qp El (Qp El ?_)))
 refine Qp (A1 (es:=[[Iq _,_,Iq _,Iq _,Iq _,Iq _,Iq _,.str _],[Iq _,_,Iq _,Iq _,Iq _,Iq _,Iq _,.str _]]) Ah rfl rfl rfl rfl rfl rfl rfl rfl rfl) ?_
 refine Qp (Fz [Iq _,_,Iq _,Iq _,Iq _,Iq _,Iq _,.str _]) ?_
 refine Cv 0 [Iq _,_,Iq _,Iq _,Iq _,Iq _,Iq _,.str _] (_::_) ?_
 refine Ag (AW.ret ?_)
 refine ⟨.inr rfl,[.agg [Iq _,_,Iq _,Iq _,Iq _,Iq _,Iq _,.str _]],.cons (.box _ _ _ 0 _ _ _ _ rfl rfl rfl rfl rfl rfl) <| .nil,.cons _ (.refl _),?_⟩
 rfl
theorem gB (T:List Sc)(hl:T.length≤1048576)(hst:∀s∈T,Ig s)(V:List Va)(hvl:V.length≤1048576)(es:List Ex)(hel:es.length≤1048576)(hes:∀e∈es,Ar e≤1048576):Ax Tryz.prog 7 [.agg (Cf T V),.sl 8 (es.map G8)] (.bool (Ls T V es)):=by
 refine Ax.body (n:=43) Ah Tryz.func7 rfl rfl rfl fun H=>?_
 refine Ai (Qp (Gd [_,_]) (Qp Bl (Ag (AW.seq (Ai (Qp Dx ?_))))))
 refine Qp (Al (n:=es.length) Ah rfl rfl rfl (by simp)) ?_
 refine Qp Az (Ag (AW.block ?_))
 refine AW.Aao (fun (k:Nat)=>(⟨[(1,.sl 8 (es.map G8)),(2,.ptr (Cf T V)),(9,.sl 8 (es.map G8)),(10,.int .i64 es.length),(11,.int .i64 (k:Int))],H,43⟩:St)) (fun (k:Nat)=>k≤es.length∧(es.take k).any (fun e=>!xY e)=false) (fun (k:Nat)=>es.length-k) (0) ?_ (GS.weaken ⟨rfl,rfl,rfl,rfl,rfl,trivial⟩ (.refl _)) ?_
 · exact ⟨Nat.zero_le _,by simp⟩
 ·
  rintro k hR
  refine Ai (Qp Ch (Ag (AW.seq (A6 (fun hc1=>?_) fun hc1=>?_))))
  ·
   obtain ⟨e,he⟩:=B5 hc1
   have hlt:=A4 he
   have hem:=List.mem_of_getElem? he
   refine By (AW.seq (AW.block (Ai ?_)))
   refine Qp (Af (c:=[Iq _,_,Iq _,Iq _,Iq _,Iq _,Iq _,.str _]) Ah rfl rfl rfl rfl rfl rfl (by omega) (Fo he)) ?_
   refine Qp El ?_
   refine Qe (Ak (l:=[.int .i64 0,.sl 8 [],.int .i64 0,.int .i64 0,.int .i64 0,.int .i64 0,.int .i64 0,.str []]) (by kernel_rfl)) ?_
   rintro _ _ ⟨b6,rfl,rfl⟩
   refine Cv 0 [Iq _,_,Iq _,Iq _,Iq _,Iq _,Iq _,.str _] (_::_) ?_
   refine AOL.ghost (GS.Aan (t:=6) 0 rfl rfl) ?_
   refine Dm (Qp El ?_)
   refine Qp (Qc rfl (c34 e (hes e hem))) ?_
   refine Qp Hc (Ag (A6 (fun hc2=>?_) fun hc2=>?_))
   ·
    refine Ai (Qp Bl (Ag (AW.ret (Bb (Aj (Aj (Bb (Aj ?_))))))))
    refine Qr (.bool _) ?_
    exact Eq.trans rfl (congrArg (fun q:Bool=>AV.bool q) ((by unfold Ls;rw [if_pos (U6 he hc2)]:Ls T V es=false))).symm
   ·
    refine AW.skip (Bu (Ad (AW.region (Qp Ey (Qp Az (Ag ?_))))))
    refine ⟨k+1,?_,?_,GS.weaken ⟨rfl,rfl,rfl,rfl,rfl,trivial⟩ (.refl _)⟩
    · exact ⟨hlt,Ou hR.2 he hc2⟩
    · omega
  ·
   have hte:=Cu hc1
   have hall:=hR.2
   rw [hte] at hall
   refine AW.exit ?_
   refine A5 (A5 (Bq (Ad (AW.seq (Ai (Qp (Qf [_,_]) (Qp Dy ?_)))))))
   refine Qp (Qc rfl (r_FewT T hl hst)) ?_
   refine Qp Hc (Qp B0 (Qg [] Qw (Qf [_]) (Qg [(24,_)] Qw Dy ?_)))
   refine AOL.Aar (y:=Iq _) _ [(25,_)] rfl (nC.all ⟨Ent.Aam _ _,trivial⟩) (fun hG=>Al (n:=V.length) Ah rfl rfl rfl (by simp)) rfl ?_
   refine Qg [(26,_)] Qw Ha (Qp E1 (Ag (A6 (fun hc3=>?_) fun hc3=>?_)))
   ·
    refine Ai (Qp Bl (Ag (Dw ?_)))
    refine Qr (.bool _) ?_
    exact Eq.trans rfl (congrArg (fun q:Bool=>AV.bool q) ((by unfold Ls;rw [C8 hall,if_pos hc3]:Ls T V es=false))).symm
   ·
    refine By (AW.seq (Ai (Qp Dx ?_)))
    refine Qp (Al (n:=es.length) Ah rfl rfl rfl (by simp)) ?_
    refine Qp Az (Ag (AW.block ?_))
    refine AW.Aao (fun (k:Nat)=>(⟨[(1,.sl 8 (es.map G8)),(2,.ptr (Cf T V)),(29,.sl 8 (es.map G8)),(30,.int .i64 es.length),(31,.int .i64 (k:Int))],H,43⟩:St)) (fun (k:Nat)=>k≤es.length∧(es.take k).any (fun e=>D1 T V e != 0)=false) (fun (k:Nat)=>es.length-k) (0) ?_ (GS.weaken ⟨rfl,rfl,rfl,rfl,rfl,trivial⟩ (.refl _)) ?_
    · exact ⟨Nat.zero_le _,by simp⟩
    ·
     rintro k hQ
     refine Ai (Qp Ch (Ag (AW.seq (A6 (fun hc4=>?_) fun hc4=>?_))))
     ·
      obtain ⟨e,he⟩:=B5 hc4
      have hlt:=A4 he
      have hem:=List.mem_of_getElem? he
      refine By (AW.seq (AW.block (Ai ?_)))
      refine Qp (Af (c:=[Iq _,_,Iq _,Iq _,Iq _,Iq _,Iq _,.str _]) Ah rfl rfl rfl rfl rfl rfl (by omega) (Fo he)) ?_
      refine Qp El ?_
      refine Qe (Ak (l:=[.int .i64 0,.sl 8 [],.int .i64 0,.int .i64 0,.int .i64 0,.int .i64 0,.int .i64 0,.str []]) (by kernel_rfl)) ?_
      rintro _ _ ⟨b8,rfl,rfl⟩
      refine Cv 0 [Iq _,_,Iq _,Iq _,Iq _,Iq _,Iq _,.str _] (_::_) ?_
      refine AOL.ghost (GS.Aan (t:=8) 0 rfl rfl) ?_
      refine Dm (Qp (Qf [_,_]) (Qp Dy (Qp (Qf [_]) (Qp Dy (Qp El ?_)))))
      refine Qp (Qc rfl (cU T hl hst V hvl e (hes e hem))) ?_
      refine Qp Cr (Ag (A6 (fun hc5=>?_) fun hc5=>?_))
      ·
       refine Ai (Qp Bl (Ag (AW.ret (Bb (Aj (Aj (Bb (Aj ?_))))))))
       refine Qr (.bool _) ?_
       exact Eq.trans rfl (congrArg (fun q:Bool=>AV.bool q) ((by unfold Ls;rw [C8 hall,C8 hc3,U6 he hc5];rfl:Ls T V es=false))).symm
      ·
       refine AW.skip (Bu (Ad (AW.region (Qp Ey (Qp Az (Ag ?_))))))
       refine ⟨k+1,?_,?_,GS.weaken ⟨rfl,rfl,rfl,rfl,rfl,trivial⟩ (.refl _)⟩
       · exact ⟨hlt,Ou hQ.2 he hc5⟩
       · omega
     ·
      have hte2:=Cu hc4
      have hall2:=hQ.2
      rw [hte2] at hall2
      refine AW.exit ?_
      refine A5 (A5 (Bq (Ad (Ai (Qp Bl (Ag (AW.ret ?_)))))))
      refine Qr (.bool _) ?_
      exact Eq.trans rfl (congrArg (fun q:Bool=>AV.bool q) ((by unfold Ls;rw [C8 hall,C8 hc3,hall2];rfl:Ls T V es=true))).symm

end Go.Proofs.YtjedflcpjlgokaaGreatDoor
