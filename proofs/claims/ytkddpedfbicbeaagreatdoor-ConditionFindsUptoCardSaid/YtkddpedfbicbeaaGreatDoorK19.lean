/-
  Several texts in one: Y13, Y6c, Y2, Y14, Y17, Y18. No condition.
-/
import Derived.Test.YtkddpedfbicbeaaGreatDoorK01
import Derived.Test.YtkddpedfbicbeaaGreatDoorK11
import Derived.Test.YtkddpedfbicbeaaGreatDoorK18
import Derived.Test.YtkddpedfbicbeaaGreatDoorK15
import Derived.KernelRfl
import Derived.Test.YtkddpedfbicbeaaGreatDoorK08
import Derived.Test.YtkddpedfbicbeaaGreatDoorK02
import Derived.Test.YtkddpedfbicbeaaGreatDoorK06
import Derived.Test.YtkddpedfbicbeaaGreatDoorK07
import Derived.Test.YtkddpedfbicbeaaGreatDoorK16
import Derived.Test.YtkddpedfbicbeaaGreatDoorK14
set_option linter.unusedVariables false
set_option linter.unusedSimpArgs false
namespace Go.Proofs.YtkddpedfbicbeaaGreatDoor
open Go Go.Aw
set_option maxHeartbeats 3200000
set_option maxRecDepth 20000

theorem Z3 (T:List Sc)(hst:∀s∈T,Jn s)(V:List Va)(hty:Jv T V)(hvl:V.length≤1048576)(cs:Cs)(hcs:vOK T V cs):Ax Tryz.prog 64 [.agg (Cq T V),.agg (Ek cs)] (.tuple [.int .i64 (B5 T V cs).1,.sl 5 ((B5 T V cs).2.map Oo)]):=by
 refine Ax.body (n:=44) Ai Tryz.func64 rfl rfl rfl fun H=>?_
 refine Ah (Qp (F5 [_,_]) (Qp (F5 [_,.bool _]) (Qp Av ?_)))
 refine Qp (B2 (z:=5) rfl) ?_
 refine Ag (AW.seq (Ah (Qp (Qf [.bool _]) (Qp kE (Qp Gt (Ag (A5 (fun hc1=>?_) fun hc1=>?_)))))))
 ·
  refine Ah (Qp Av ?_)
  refine Qp (B2 (z:=5) rfl) ?_
  refine Ag (Du ?_)
  refine Ko (Iq _) (.sl _ _) ?_
  exact Eq.trans rfl (congrArg (fun q:Int×List Ev=>AV.tuple [.int .i64 q.1,.sl 5 (q.2.map Oo)]) (Yw hc1)).symm
 ·
  refine Bz (Ah (Qp Av (Ag (AW.seq (Ah (Qp (Qf [_,.bool _]) (Qp Dm ?_)))))))
  refine Qp (Ak (n:=cs.1.length) Ai rfl rfl rfl (by simp)) ?_
  refine Qp A2 (Ag (AW.block ?_))
  refine AW.Aa5 (fun (p:Nat×Int)=>(⟨[(2,.ptr (Cq T V)),(6,.int .i64 p.2),(15,.sl 1 (cs.1.map Po)),(16,.int .i64 cs.1.length),(17,.int .i64 (p.1:Int))],H,44⟩:St)) (fun (p:Nat×Int)=>p.1≤cs.1.length∧Zb T V 2 cs.1=Zb T V p.2 (cs.1.drop p.1)) (fun (p:Nat×Int)=>cs.1.length-p.1) ((0,2)) ?_ (GS.weaken ⟨rfl,rfl,rfl,rfl,rfl,trivial⟩ (.refl _)) ?_
  · exact ⟨Nat.zero_le _,rfl⟩
  ·
   rintro p hR
   have hcl9:=hcs.1
   refine Ah (Qp Cl (Ag (AW.seq (A5 (fun hc2=>?_) fun hc2=>?_))))
   ·
    obtain ⟨c,hc⟩:=B4 hc2
    have hlt:=Bb hc
    have hcv:=hcs.2 c (List.mem_of_getElem? hc)
    have hck:=hcv.1
    have hcl:=hcv.2
    have hgo:=hR.2
    rw [Ba hc] at hgo
    refine Bz (AW.seq (AW.block (Ah ?_)))
    refine Qp (Af (c:=[_]) Ai rfl rfl rfl rfl rfl rfl (by omega) (Bj hc)) ?_
    refine Qp Dm (Qp Vy (Dh (Qp (Cm [_,_]) (Qp C6 ?_))))
    refine Qe (Fr (by kernel_rfl) rfl rfl (Aa0 T V c hck hcl (uO T V c) _)) ?_
    rintro _ _ ⟨m,mo,hmo,rfl,rfl⟩
    refine Qp Mx ?_
    refine Qp (Cd (v:=.agg [_,_,_]) rfl rfl) ?_
    refine Qp kA ?_
    refine Qe (Al (l:=[.val (.pointer none),.sl 1 [],.val (.map none)]) (by kernel_rfl)) ?_
    rintro _ _ ⟨b9,rfl,rfl⟩
    refine Co 0 [_,_,_] (_::_::_) (Qp Bg ?_)
    refine AOL.ghost (GS.Aa4 (t:=9) 0 rfl rfl) ?_
    refine Ag (AW.seq (Ah (Qp Br (Qp Gt (Qp Br (Qg [] Qw C6 ?_))))))
    refine AOL.Aa6 (y:=Iq _) _ [(30,_)] rfl (sF.all ⟨Ent.Aa3 _ _,trivial⟩) (fun hG=>Ak (n:=c.length) Ai rfl rfl rfl (by simp)) rfl ?_
    refine Qg [(31,_)] Qw Ng (Qp E3 (Ag (A5 (fun hc3=>?_) fun hc3=>?_)))
    ·
     refine AW.exit ?_
     refine A8 (Bw (Ae (AW.region (Qp Fx (Qp A2 (Ag ?_))))))
     refine ⟨(p.1+1,p.2),?_,?_,GS.weaken ⟨rfl,rfl,rfl,rfl,rfl,trivial⟩ (.cons _ (.refl _))⟩
     · exact ⟨hlt,hgo.trans (jP hc3)⟩
     · simp only;omega
    ·
     refine Bz (AW.seq (Ah (Qp (Cm [_,_]) (Qp C6 (Qp (Cm [_,_,_]) ?_)))))
     refine Qp (Qc rfl (rG T V c hck (by omega) (Ln T V c) mo)) ?_
     refine Ag (A5 (fun hc4=>?_) fun hc4=>?_)
     ·
      have hvs:=xQ hck hc3 hc4
      have hmoe:=hmo (Pn hc4).1
      subst hmoe
      refine Ah (Qp (Cm [_,_]) (Qp C6 (Qp (Cm [_,_,_]) ?_)))
      refine Qe (Fr (by kernel_rfl) rfl rfl (uW T V hty hst hvl c hck hcl m _ (lU c) (Ln T V c) hvs _)) ?_
      rintro _ _ ⟨rfl,rfl⟩
      refine Qp Av (Qp Vy (Ag (Du (Bc (Aj (Aj (Bc (Aj ?_))))))))
      refine ⟨.inr rfl,[Iq _,.sl _ _],.cons (.tmp _ _ rfl) <| .cons (.tmp _ _ rfl) <| .nil,.cons _ (.refl _),?_⟩
      exact Eq.trans rfl (congrArg (fun q:Int×List Ev=>AV.tuple [.int .i64 q.1,.sl 5 (q.2.map Oo)]) ((cQ hc1).trans (hgo.trans (nM hc3 hc4)))).symm
     ·
      refine Bz (AW.region (Qp Av (AOL.nil (Bs (Ae (AW.region (Qp Fx (Qp A2 (Ag ?_)))))))))
      refine ⟨(p.1+1,0),?_,?_,GS.weaken ⟨rfl,rfl,rfl,rfl,rfl,trivial⟩ (.cons _ (.refl _))⟩
      · exact ⟨hlt,hgo.trans (uK hc3 hc4)⟩
      · simp only;omega
   ·
    have hde:=Di hc2
    have hgo:=hR.2
    rw [hde] at hgo
    refine AW.exit ?_
    refine A8 (A8 (Bw (Ae (Ah (Qp A2 (Qp Av ?_))))))
    refine Qp (B2 (z:=5) rfl) ?_
    refine Ag (AW.ret ?_)
    refine Ko (Iq _) (.sl _ _) ?_
    exact Eq.trans rfl (congrArg (fun q:Int×List Ev=>AV.tuple [.int .i64 q.1,.sl 5 (q.2.map Oo)]) ((cQ hc1).trans hgo)).symm
theorem R8 (T:List Sc)(hl:T.length≤1048576)(hst:∀s∈T,Jn s)(V:List Va)(hvl:V.length≤1048576)(es:List Ex)(hel:es.length≤1048576)(hes:∀e∈es,At e≤1048576):Ax Tryz.prog 63 [.agg (Cq T V),.sl 8 (es.map Fv)] (.int .i64 (Ef T V es)):=by
 refine Ax.body (n:=30) Ai Tryz.func63 rfl rfl rfl fun H=>?_
 refine Ah (Qp (F5 [_,_]) (Qp Av (Ag (AW.seq (Ah (Qp (Cm [_,_]) ?_))))))
 refine Qp (Qc rfl (Vo T hl hst V hvl)) ?_
 refine Qp Av (Dh (Qp A2 (Qp Ct (Ag (A5 (fun hc1=>?_) fun hc1=>?_)))))
 ·
  refine Ah (Qp A2 (Qp Av (Ag (Du ?_))))
  refine Qr (Iq _) ?_
  exact Eq.trans rfl (congrArg (fun q:Int=>AV.int .i64 q) (eD hc1)).symm
 ·
  refine Bz (AW.seq (Ah (Qp C6 ?_)))
  refine Qp (Ak (n:=es.length) Ai rfl rfl rfl (by simp)) ?_
  refine Qp Hi (Ag (A5 (fun hc2=>?_) fun hc2=>?_))
  ·
   refine Ah (Qp Av (Ag (Du ?_)))
   refine Qr (Iq _) ?_
   exact Eq.trans rfl (congrArg (fun q:Int=>AV.int .i64 q) (oY hc1 hc2)).symm
  ·
   refine Bz (AW.seq (Ah (Qp C6 ?_)))
   refine Qp (Ak (n:=es.length) Ai rfl rfl rfl (by simp)) ?_
   refine Qp A2 (Ag (AW.block ?_))
   refine AW.Aa5 (fun (k:Nat)=>(⟨[(2,.ptr (Cq T V)),(17,.sl 8 (es.map Fv)),(18,.int .i64 es.length),(19,.int .i64 (k:Int))],H,30⟩:St)) (fun (k:Nat)=>k≤es.length∧Aq (Ec T V) (es.take k)=0) (fun (k:Nat)=>es.length-k) (0) ?_ (GS.weaken ⟨rfl,rfl,rfl,rfl,trivial⟩ (.refl _)) ?_
   · exact ⟨Nat.zero_le _,rfl⟩
   ·
    rintro k hR
    refine Ah (Qp Cl (Ag (AW.seq (A5 (fun hc3=>?_) fun hc3=>?_))))
    ·
     obtain ⟨e,he⟩:=B4 hc3
     have hlt:=Bb he
     have hem:=List.mem_of_getElem? he
     refine Bz (AW.seq (AW.block (Ah ?_)))
     refine Qp (Af (c:=[Iq _,_,Iq _,Iq _,Iq _,Iq _,Iq _,.str _]) Ai rfl rfl rfl rfl rfl rfl (by omega) (Fb he)) ?_
     refine Qp D1 ?_
     refine Qe (Al (l:=[.int .i64 0,.sl 8 [],.int .i64 0,.int .i64 0,.int .i64 0,.int .i64 0,.int .i64 0,.str []]) (by kernel_rfl)) ?_
     rintro _ _ ⟨b7,rfl,rfl⟩
     refine Co 0 [Iq _,_,Iq _,Iq _,Iq _,Iq _,Iq _,.str _] (_::_) ?_
     refine AOL.ghost (GS.Aa4 (t:=7) 0 rfl rfl) ?_
     refine Dh (Qp (Cm [_,_]) (Qp D1 ?_))
     refine Qp (Qc rfl (Om T hl hst V hvl e (hes e hem))) ?_
     refine Qp Av (Dh (Qp A2 (Qp Ct (Ag (A5 (fun hc4=>?_) fun hc4=>?_)))))
     ·
      refine Ah (Qp A2 (Qp Av (Ag (AW.ret (Bc (Aj (Aj (Bc (Aj ?_)))))))))
      refine Qr (Iq _) ?_
      exact Eq.trans rfl (congrArg (fun q:Int=>AV.int .i64 q) ((bX hc1 hc2).trans (M0 hR.2 he (by simpa using hc4)))).symm
     ·
      refine AW.skip (Bs (Ae (AW.region (Qp Fx (Qp A2 (Ag ?_))))))
      refine ⟨k+1,?_,?_,GS.weaken ⟨rfl,rfl,rfl,rfl,trivial⟩ (.refl _)⟩
      · exact ⟨hlt,Rk hR.2 he (by simpa using hc4)⟩
      · omega
    ·
     have hte:=C5 hc3
     have hall:=hR.2
     rw [hte] at hall
     refine AW.exit ?_
     refine A8 (A8 (Bw (Ae (Ah (Qp Av (Ag (AW.ret ?_)))))))
     refine Qr (Iq _) ?_
     exact Eq.trans rfl (congrArg (fun q:Int=>AV.int .i64 q) ((bX hc1 hc2).trans hall)).symm
theorem Zd (T:List Sc)(hl:T.length≤1048576)(hst:∀s∈T,Jn s)(V:List Va)(hvl:V.length≤1048576)(es:List Ex)(hel:es.length≤1048576)(hes:∀e∈es,At e≤1048576):Ax Tryz.prog 63 [.agg (Cq T V),.sl 8 (es.map cE)] (.int .i64 (Ef T V es)):=by
 have h:=R8 T hl hst V hvl es hel hes
 rw [show es.map Fv=es.map cE from List.map_congr_left fun e _=>Jd e] at h
 exact h
theorem Xv (T:List Sc)(hl:T.length≤1048576)(hst:∀s∈T,Jn s)(V:List Va)(hvl:V.length≤1048576)(es:List Ex)(hel:es.length≤60)(hes:∀e∈es,At e≤1048576):Ax Tryz.prog 30 [.sl 2 (T.map N1),.sl 2 (V.map U8),.sl 8 (es.map Fv)] (.tuple [.int .i64 (B3 T V es).1,.sl 5 ((B3 T V es).2.1.map Oo),.int .i64 (B3 T V es).2.2]):=by
 refine Ax.body (n:=47) Ai Tryz.func30 rfl rfl rfl fun H=>?_
 refine Ah (Qp Av ?_)
 refine Qp (B2 (z:=5) rfl) ?_
 refine Qp Av (Dh (Qp C6 (Qp C6 (Qp (Et [_,_]) ?_))))
 refine Qe (Al (l:=[.sl 2 [],.sl 2 []]) (by kernel_rfl)) ?_
 rintro _ _ ⟨b9,rfl,rfl⟩
 refine Co 0 [_,_] (_::_) ?_
 refine AOL.ghost (GS.Aa4 (t:=9) 0 rfl rfl) ?_
 refine Ag (AW.seq (Ah (Qp (Cm [_,_]) (Qp C6 ?_))))
 refine Qp (Qc rfl (R8 T hl hst V hvl es (by omega) hes)) ?_
 refine Qp Av (Dh (Qp A2 (Qp Ct (Ag (A5 (fun hc1=>?_) fun hc1=>?_)))))
 ·
  refine Ah (Qp A2 (Qp Av ?_))
  refine Qp (B2 (z:=5) rfl) ?_
  refine Qp Av (Ag (Du ?_))
  refine ⟨.inr rfl,[Iq _,.sl _ _,Iq _],.cons (.tmp _ _ rfl) <| .cons (.tmp _ _ rfl) <| .cons (.tmp _ _ rfl) <| .nil,.refl _,?_⟩
  exact Eq.trans rfl (congrArg (fun q:Int×List Ev×Int=>AV.tuple [.int .i64 q.1,.sl 5 (q.2.1.map Oo),.int .i64 q.2.2]) (Poss_1 hc1)).symm
 ·
  have hcz:=W7 hc1
  have hty:=gF hc1
  refine Bz (Ah ?_)
  refine Qp (Dl.weakV (A1 (es:=[[_]]) Ai rfl rfl rfl rfl rfl rfl rfl rfl rfl) jK) ?_
  refine Qp (Et [_,.bool _]) ?_
  refine Qe (Al (l:=[.sl 1 [],.bool false]) (by kernel_rfl)) ?_
  rintro _ _ ⟨b11,rfl,rfl⟩
  refine Co 0 [_,.bool _] (_::_) (Ag (AW.seq (Ah (Qp C6 ?_))))
  refine Qp (Ak (n:=es.length) Ai rfl rfl rfl (by simp)) ?_
  refine Qp A2 (Ag (AW.block ?_))
  refine AW.Aa5 (fun (p:Nat×Cs)=>(⟨[(9,.ptr (Cq T V)),(11,.val (.pointer (some ⟨b11,0,none⟩))),(27,.sl 8 (es.map Fv)),(28,.int .i64 es.length),(29,.int .i64 (p.1:Int))],.box b11 103 (Ek p.2)::H,47⟩:St)) (fun (p:Nat×Cs)=>p.1≤es.length∧Kg T V (es.take p.1) ([[]],true)=p.2∧csOK (64*p.1) p.2∧Jl T V 64 p.2) (fun (p:Nat×Cs)=>es.length-p.1) ((0,([[]],true))) ?_ (GS.weaken ⟨rfl,rfl,rfl,rfl,rfl,trivial⟩ (.refl _)) ?_
  · exact ⟨Nat.zero_le _,rfl,uV,sR⟩
  ·
   rintro p hR
   refine Ah (Qp Cl (Ag (AW.seq (A5 (fun hc2=>?_) fun hc2=>?_))))
   ·
    obtain ⟨e,he⟩:=B4 hc2
    have hlt:=Bb he
    have hem:=List.mem_of_getElem? he
    have hke:=(hcz.2 e hem).1
    have hkz:=It hke
    refine Bz (AW.seq (AW.block (Ah ?_)))
    refine Qp (Af (c:=[Iq _,_,Iq _,Iq _,Iq _,Iq _,Iq _,.str _]) Ai rfl rfl rfl rfl rfl rfl (by omega) (Fb he)) ?_
    refine Qp D1 ?_
    refine Qe (Al (l:=[.int .i64 0,.sl 8 [],.int .i64 0,.int .i64 0,.int .i64 0,.int .i64 0,.int .i64 0,.str []]) (by kernel_rfl)) ?_
    rintro _ _ ⟨b13,rfl,rfl⟩
    refine Co 0 [Iq _,_,Iq _,Iq _,Iq _,Iq _,Iq _,.str _] (_::_::_) ?_
    refine AOL.ghost (GS.Aa4 (t:=13) 0 rfl rfl) ?_
    refine Ag ?_
    refine AW.draw mixed (fun H'=>_∈H') (List.mem_of_getElem? (i:=0) rfl) (by kernel_rfl) ?_
    refine Qn 0 rfl (OpP.Aa8 (fun k=>B1 (k:=k) (l:=[_,.bool _]) Ai rfl rfl rfl rfl rfl) (fun _ h=>h)) ?_
    refine Qn 1 rfl (Cm [_,_]) (Qn 2 rfl D1 ?_)
    refine Qn 3 rfl (Qc rfl (Rz T V e hke.kok (It hke) true)) ?_
    refine Qn 4 rfl (Qc rfl (P8 _ _ _ _ hR.2.2.1 (Gi e hke.kok true) (by omega) (by have:=It hke;omega))) ?_
    refine Jx.last _ _ 5 _ _ rfl (by kernel_rfl) rfl rfl (C7 (k:=0) (v:=.agg _) (cs':=[_,.bool _]) (H2:=_::_) Ai rfl rfl rfl rfl (rfl) rfl rfl rfl rfl) (by kernel_rfl) ?_
    rintro _ _ ⟨rfl,rfl⟩
    refine Bs (Ae (AW.region (Qp Fx (Qp A2 (Ag ?_)))))
    refine ⟨(p.1+1,En p.2 (Dc T V e true)),?_,?_,GS.weaken ⟨rfl,rfl,rfl,rfl,rfl,trivial⟩ (.refl _)⟩
    · exact ⟨hlt,by unfold Kg;rw [Cu he,List.foldl_append];exact congrArg (fun z=>En z (Dc T V e true)) hR.2.1,(Lt hR.2.2.1 (Gi e hke.kok true)).mono (by simp only;omega),Mm hR.2.2.2 (Km (Pw e hke.kok true) hkz)⟩
    · simp only;omega
   ·
    have hte:=C5 hc2
    have hpr:=hR.2.1
    rw [hte] at hpr
    have hvo:vOK T V p.2:=wX hR.2.2.1 hR.2.2.2 (by have:=hR.1;omega)
    refine AW.exit ?_
    refine A8 (A8 (Bw (Ae (Ah (Qp (Cm [_,_]) ?_)))))
    refine AOL.Aa9 (B1 (k:=0) (l:=[_,.bool _]) Ai rfl rfl rfl rfl rfl) rfl rfl ?_
    refine Qp (Qc rfl (Z3 T hst V hty hvl _ hvo)) ?_
    refine Qp Mx (Qp Jq (Qp Qxs (Qp Av (Qp Vy (Dh (Qp A2 (Qp C6 (Qp Av (Qp Vy ?_)))))))))
    refine Qp Av (Ag (AW.ret ?_))
    refine ⟨.inr rfl,[Iq _,.sl _ _,Iq _],.cons (.tmp _ _ rfl) <| .cons (.tmp _ _ rfl) <| .cons (.tmp _ _ rfl) <| .nil,.cons _ (.refl _),?_⟩
    exact Eq.trans rfl (congrArg (fun q:Int×List Ev×Int=>AV.tuple [.int .i64 q.1,.sl 5 (q.2.1.map Oo),.int .i64 q.2.2]) (vZ hc1 hpr)).symm
theorem Tt (T:List Sc)(hl:T.length≤1048576)(hst:∀s∈T,Jn s)(V:List Va)(hvl:V.length≤1048576)(a b:Ex)(ha:At a≤1048576)(hb:At b≤1048576):Ax Tryz.prog 24 [.sl 2 (T.map N1),.sl 2 (V.map U8),.agg (cE a),.agg (cE b)] (.tuple [.int .i64 (Db T V a b).1,.int .i64 (Db T V a b).2]):=by
 refine Ax.body (n:=43) Ai Tryz.func24 rfl rfl rfl fun H=>?_
 refine Ah (Qp La (Qp La (Qp Av (Qp Av (Dh (Qp C6 (Qp C6 (Qp (Et [_,_]) ?_))))))))
 refine Qe (Al (l:=[.sl 2 [],.sl 2 []]) (by kernel_rfl)) ?_
 rintro _ _ ⟨b10,rfl,rfl⟩
 refine Co 0 [_,_] (_::_) ?_
 refine AOL.ghost (GS.Aa4 (t:=10) 0 rfl rfl) ?_
 refine Ag (AW.seq (Ah (Qp (Cm [_,_]) (Qp D1 (Qp D1 ?_)))))
 refine Qp (A1 (es:=[[Iq _,_,Iq _,Iq _,Iq _,Iq _,Iq _,.str _],[Iq _,_,Iq _,Iq _,Iq _,Iq _,Iq _,.str _]]) Ai rfl rfl rfl rfl rfl rfl rfl rfl rfl) ?_
 refine Qp (Qc rfl (Zd T hl hst V hvl [a,b] (by show (2:Nat)≤_;decide) (qU ha hb))) ?_
 refine Qp Av (Dh (Qp A2 (Qp Ct (Ag (A5 (fun hc1=>?_) fun hc1=>?_)))))
 ·
  refine Ah (Qp A2 (Qp Av (Qp Av (Ag (Du ?_)))))
  refine Ko (Iq _) (Iq _) ?_
  exact Eq.trans rfl (congrArg (fun q:Int×Int=>AV.tuple [.int .i64 q.1,.int .i64 q.2]) (Imp_1 hc1)).symm
 ·
  have hcz:=W7 hc1
  have hty:=gF hc1
  have hka:=(hcz.2 a (List.mem_cons_self ..)).1
  have hkb:=(hcz.2 b (List.mem_cons_of_mem _ (List.mem_cons_self ..))).1
  have hza:=It hka
  have hzb:=It hkb
  have hvo:vOK T V (K5 T V a b):=wX (Lt (Gi a hka.kok true) (Gi b hkb.kok false)) (Mm (Km (Pw a hka.kok true) hza) (Km (Pw b hkb.kok false) hzb)) (by omega)
  refine Bz (AW.seq ?_)
  refine AW.draw mixed (fun _=>True) trivial (by kernel_rfl) ?_
  refine Qn 0 rfl (Cm [_,_]) (Qn 1 rfl (Cm [_,_]) (Qn 2 rfl D1 ?_))
  refine Qn 3 rfl (Qc rfl (Rz T V a hka.kok (It hka) true)) ?_
  refine Qn 4 rfl (Cm [_,_]) (Qn 5 rfl D1 ?_)
  refine Qn 6 rfl (Qc rfl (Rz T V b hkb.kok (It hkb) false)) ?_
  refine Qn 7 rfl (Qc rfl (P8 _ _ _ _ (Gi a hka.kok true) (Gi b hkb.kok false) (by have:=It hka;omega) (by have:=It hkb;omega))) ?_
  refine Qn 8 rfl (Qc rfl (Z3 T hst V hty hvl _ hvo)) ?_
  refine Qn 9 rfl Mx (Qn 10 rfl Jq (Qn 11 rfl Qxs (Qn 12 rfl Av (Qn 13 rfl Vy ?_))))
  refine Jx.done _ _ (by kernel_rfl) ?_
  refine Ae (AW.seq (Ah (Qp A2 (Ag (AW.block (Ah (Qp A7 (Qp Bg (Ag (A5 (fun hc2=>?_) fun hc2=>?_))))))))))
  ·
   refine Ah (Qp Av (Qp Av (Ag (AW.ret (Bc (Aj ?_))))))
   refine Ko (Iq _) (Iq _) ?_
   exact Eq.trans rfl (congrArg (fun q:Int×Int=>AV.tuple [.int .i64 q.1,.int .i64 q.2]) (Imp_2 hc1 hc2)).symm
  ·
   refine Ah (Qp A7 (Qp Bg (Ag (A5 (fun hc3=>?_) fun hc3=>?_))))
   ·
    refine Ah (Qp Av (Qp Av (Ag (AW.ret (Bc (Aj ?_))))))
    refine Ko (Iq _) (Iq _) ?_
    exact Eq.trans rfl (congrArg (fun q:Int×Int=>AV.tuple [.int .i64 q.1,.int .i64 q.2]) (Imp_3 hc1 hc2 hc3)).symm
   ·
    refine AW.skip (Bs (Ae (Ah (Qp A2 (Qp Av (Qp Av (Ag (AW.ret ?_))))))))
    refine Ko (Iq _) (Iq _) ?_
    exact Eq.trans rfl (congrArg (fun q:Int×Int=>AV.tuple [.int .i64 q.1,.int .i64 q.2]) (Imp_4 hc1 hc2 hc3)).symm

set_option maxHeartbeats 1600000
set_option maxRecDepth 20000

theorem Yt (a b:List Lit)(ha:a.length≤1048576)(hs:∀x∈a,At x.cond≤1048576):Ax Tryz.prog 55 [.sl 9 (a.map G5),.sl 9 (b.map G5)] (.bool (F6 a b)):=by
 refine Ax.body (n:=42) Ai Tryz.func55 rfl rfl rfl fun H=>?_
 refine Ah (Qp Bg (Ag (AW.seq (Ah (Qp C6 ?_)))))
 refine Qp (Ak (n:=a.length) Ai rfl rfl rfl (by simp)) ?_
 refine Qp C6 ?_
 refine Qp (Ak (n:=b.length) Ai rfl rfl rfl (by simp)) ?_
 refine Qp Ct (Ag (A5 (fun hc1=>?_) fun hc1=>?_))
 ·
  refine Ah (Qp Bg (Ag (Du ?_)))
  refine Qr (.bool _) ?_
  exact Eq.trans rfl (congrArg (fun q:Bool=>AV.bool q) (dB hc1)).symm
 ·
  have hln:a.length=b.length:=by have h:=eq_of_beq (by simpa [bne] using hc1:((a.length:Int)==(b.length:Int))=true);omega
  refine Bz (AW.seq (Ah (Qp Av (Ag (AW.block ?_)))))
  refine AW.Aa5 (fun (k:Nat)=>(⟨[(0,.sl 9 (a.map G5)),(1,.sl 9 (b.map G5)),(4,.bool false),(5,.int .i64 (k:Int))],H,42⟩:St)) (fun (k:Nat)=>k≤a.length∧a.take k=b.take k) (fun (k:Nat)=>a.length-k) (0) ?_ (GS.weaken ⟨rfl,rfl,rfl,rfl,trivial⟩ (.refl _)) ?_
  · simp
  ·
   rintro k hR
   refine AW.seq (Ah (Qp A2 (Qp C6 ?_)))
   refine Qp (Ak (n:=a.length) Ai rfl rfl rfl (by simp)) ?_
   refine Qp Cl (Ag (A5 (fun hc2=>?_) fun hc2=>?_))
   ·
    obtain ⟨x,hx⟩:=B4 hc2
    have hlx:=Bb hx
    obtain ⟨y,hy⟩:∃y,b[k]? = some y:=⟨_,List.getElem?_eq_getElem (by omega)⟩
    have hly:=Bb hy
    refine Bz (AW.seq (AW.block (AW.seq ?_)))
    refine AW.draw mixed (fun _=>True) trivial (by kernel_rfl) ?_
    refine Qn 0 rfl C6 (Qn 1 rfl A2 ?_)
    refine Qn 2 rfl (Af (c:=[Iq _,_,Iq _,Iq _,Iq _,Iq _,Iq _,.str _,.bool _]) Ai rfl rfl rfl rfl rfl rfl (by omega) (Bj hx)) ?_
    refine Qn 3 rfl (Qf [.bool _]) (Qn 4 rfl kE (Qn 5 rfl C6 (Qn 6 rfl A2 ?_)))
    refine Qn 7 rfl (Af (c:=[Iq _,_,Iq _,Iq _,Iq _,Iq _,Iq _,.str _,.bool _]) Ai rfl rfl rfl rfl rfl rfl (by omega) (Bj hy)) ?_
    refine Qn 8 rfl (Qf [.bool _]) (Qn 9 rfl kE ?_)
    refine Qn 10 rfl (Rg Ai rfl rfl rfl rfl) ?_
    refine Qn 11 rfl Br (Qo 12 rfl [] Qw C6 (Qo 13 rfl [] Qw A2 ?_))
    refine Jx.pure _ _ 14 _ _ rfl (by kernel_rfl) (by kernel_rfl) rfl (.opt _ (.ptr _) [(29,_),(30,_)] rfl (sF.all ⟨Ent.Aa3 _ _,Ent.Aa3 _ _,trivial⟩) (fun hG=>Af (c:=[Iq _,_,Iq _,Iq _,Iq _,Iq _,Iq _,.str _,.bool _]) Ai rfl rfl rfl rfl rfl rfl (by omega) (Bj hx)) rfl) ?_
    refine Qo 15 rfl [(31,_)] Qw (Qf [Iq _,_,Iq _,Iq _,Iq _,Iq _,Iq _,.str _,.bool _]) (Qo 16 rfl [(32,_)] Qw D1 (Qo 17 rfl [] Qw C6 (Qo 18 rfl [] Qw A2 ?_)))
    refine Jx.pure _ _ 19 _ _ rfl (by kernel_rfl) (by kernel_rfl) rfl (.opt _ (.ptr _) [(34,_),(35,_)] rfl (sF.all ⟨Ent.Aa3 _ _,Ent.Aa3 _ _,trivial⟩) (fun hG=>Af (c:=[Iq _,_,Iq _,Iq _,Iq _,Iq _,Iq _,.str _,.bool _]) Ai rfl rfl rfl rfl rfl rfl (by omega) (Bj hy)) rfl) ?_
    refine Qo 20 rfl [(36,_)] Qw (Qf [Iq _,_,Iq _,Iq _,Iq _,Iq _,Iq _,.str _,.bool _]) (Qo 21 rfl [(37,_)] Qw D1 ?_)
    refine Jx.pure _ _ 22 _ _ rfl (by kernel_rfl) (by kernel_rfl) rfl (.opt _ (.bool _) [(33,_),(38,_)] rfl (sF.all ⟨Ent.Aa3 _ _,Ent.Aa3 _ _,trivial⟩) (fun hG=>C8 (by kernel_rfl) rfl rfl (c20 x.cond y.cond (hs x (List.mem_of_getElem? hx)))) rfl) ?_
    refine Qo 23 rfl [(39,_)] Qw Gt (Qn 24 rfl E5 ?_)
    refine Jx.done _ _ (by kernel_rfl) ?_
    refine Ae (A5 (fun hc3=>?_) fun hc3=>?_)
    ·
     refine Ah (Qp Bg (Ag (AW.ret (Bc (Aj (Aj (Bc (Aj ?_))))))))
     refine Qr (.bool _) ?_
     exact Eq.trans rfl (congrArg (fun q:Bool=>AV.bool q) (dR hx hy hc3)).symm
    ·
     refine AW.skip (Bs (Ae (AW.region (Qp A2 (Qp Fx (Qp Av (Ag ?_)))))))
     refine ⟨k+1,?_,?_,GS.weaken ⟨rfl,rfl,rfl,rfl,trivial⟩ (.refl _)⟩
     · exact ⟨hlx,by rw [Cu hx,Cu hy,hR.2,yM hc3]⟩
     · omega
   ·
    have hte:=C5 hc2
    have hall:=hR.2
    rw [hte] at hall
    have htb:b.take k=b:=List.take_of_length_le (by have:¬k<a.length:=(by simpa using hc2);omega)
    rw [htb] at hall
    refine AW.exit ?_
    refine A8 (A8 (Bw (Ae (Ah (Qp Bg (Ag (AW.ret ?_)))))))
    refine Qr (.bool _) ?_
    exact Eq.trans rfl (congrArg (fun q:Bool=>AV.bool q) ((F1 a b).2 hall)).symm
theorem Zc (a b:List (List Lit))(ha:a.length≤1048576)(hal:∀c∈a,c.length≤1048576)(hs:∀c∈a,∀x∈c,At x.cond≤1048576):Ax Tryz.prog 15 [.sl 1 (a.map Po),.sl 1 (b.map Po)] (.bool (J6 a b)):=by
 refine Ax.body (n:=27) Ai Tryz.func15 rfl rfl rfl fun H=>?_
 refine Ah (Qp Bg (Ag (AW.seq (Ah (Qp C6 ?_)))))
 refine Qp (Ak (n:=a.length) Ai rfl rfl rfl (by simp)) ?_
 refine Qp C6 ?_
 refine Qp (Ak (n:=b.length) Ai rfl rfl rfl (by simp)) ?_
 refine Qp Ct (Ag (A5 (fun hc1=>?_) fun hc1=>?_))
 ·
  refine Ah (Qp Bg (Ag (Du ?_)))
  refine Qr (.bool _) ?_
  exact Eq.trans rfl (congrArg (fun q:Bool=>AV.bool q) (gX hc1)).symm
 ·
  have hln:a.length=b.length:=by have h:=eq_of_beq (by simpa [bne] using hc1:((a.length:Int)==(b.length:Int))=true);omega
  refine Bz (AW.seq (Ah (Qp Av (Ag (AW.block ?_)))))
  refine AW.Aa5 (fun (k:Nat)=>(⟨[(0,.sl 1 (a.map Po)),(1,.sl 1 (b.map Po)),(4,.bool false),(5,.int .i64 (k:Int))],H,27⟩:St)) (fun (k:Nat)=>k≤a.length∧a.take k=b.take k) (fun (k:Nat)=>a.length-k) (0) ?_ (GS.weaken ⟨rfl,rfl,rfl,rfl,trivial⟩ (.refl _)) ?_
  · simp
  ·
   rintro k hR
   refine AW.seq (Ah (Qp A2 (Qp C6 ?_)))
   refine Qp (Ak (n:=a.length) Ai rfl rfl rfl (by simp)) ?_
   refine Qp Cl (Ag (A5 (fun hc2=>?_) fun hc2=>?_))
   ·
    obtain ⟨x,hx⟩:=B4 hc2
    have hlx:=Bb hx
    obtain ⟨y,hy⟩:∃y,b[k]? = some y:=⟨_,List.getElem?_eq_getElem (by omega)⟩
    have hly:=Bb hy
    refine Bz (AW.seq (AW.block (AW.seq ?_)))
    refine AW.draw mixed (fun _=>True) trivial (by kernel_rfl) ?_
    refine Qn 0 rfl C6 (Qn 1 rfl A2 ?_)
    refine Qn 2 rfl (Af (c:=[_]) Ai rfl rfl rfl rfl rfl rfl (by omega) (Bj hx)) ?_
    refine Qn 3 rfl Dm (Qn 4 rfl C6 (Qn 5 rfl A2 ?_))
    refine Qn 6 rfl (Af (c:=[_]) Ai rfl rfl rfl rfl rfl rfl (by omega) (Bj hy)) ?_
    refine Qn 7 rfl Dm ?_
    refine Qn 8 rfl (Qc rfl (Yt x y (hal x (List.mem_of_getElem? hx)) (hs x (List.mem_of_getElem? hx)))) ?_
    refine Qn 9 rfl Gt ?_
    refine Jx.done _ _ (by kernel_rfl) ?_
    refine Ae (A5 (fun hc3=>?_) fun hc3=>?_)
    ·
     refine Ah (Qp Bg (Ag (AW.ret (Bc (Aj (Aj (Bc (Aj ?_))))))))
     refine Qr (.bool _) ?_
     exact Eq.trans rfl (congrArg (fun q:Bool=>AV.bool q) (fR hx hy hc3)).symm
    ·
     refine AW.skip (Bs (Ae (AW.region (Qp A2 (Qp Fx (Qp Av (Ag ?_)))))))
     refine ⟨k+1,?_,?_,GS.weaken ⟨rfl,rfl,rfl,rfl,trivial⟩ (.refl _)⟩
     · exact ⟨hlx,by rw [Cu hx,Cu hy,hR.2,vY hc3]⟩
     · omega
   ·
    have hte:=C5 hc2
    have hall:=hR.2
    rw [hte] at hall
    have htb:b.take k=b:=List.take_of_length_le (by have:¬k<a.length:=(by simpa using hc2);omega)
    rw [htb] at hall
    refine AW.exit ?_
    refine A8 (A8 (Bw (Ae (Ah (Qp Bg (Ag (AW.ret ?_)))))))
    refine Qr (.bool _) ?_
    exact Eq.trans rfl (congrArg (fun q:Bool=>AV.bool q) ((Ke a b).2 hall)).symm


set_option maxHeartbeats 1600000
set_option maxRecDepth 20000

set_option maxRecDepth 100000
theorem Zx  : Ax Tryz.prog 39 [] (.agg (Cq rY tX)):=by
 refine Ax.body (n:=12) Ai Tryz.func39 rfl rfl rfl fun H=>?_
 refine Ah ?_
 refine Qe (Al (l:=[.sl 2 [],.sl 2 []]) (by kernel_rfl)) ?_
 rintro _ _ ⟨b0,rfl,rfl⟩
 refine Dh (Qp (Et [.str _,Iq _]) (Qp (Et [.str _,Iq _]) ?_))
 refine Qp (A1 (es:=[[.str _,Iq _],[.str _,Iq _]]) Ai rfl rfl rfl rfl rfl rfl rfl rfl rfl) ?_
 refine Qp (Et [.str _,_]) ?_
 refine Qe (Al (l:=[.str [],.sl 2 []]) (by kernel_rfl)) ?_
 rintro _ _ ⟨b1,rfl,rfl⟩
 refine Co 0 [.str _,_] (_::_::_) ?_
 refine AOL.ghost (GS.Aa4 (t:=1) 0 rfl rfl) ?_
 refine Dh (Qp (Cm [.str _,_]) ?_)
 refine Qp (A1 (es:=[[.str _,_]]) Ai rfl rfl rfl rfl rfl rfl rfl rfl rfl) ?_
 refine Qp (Et [.str _,Iq _]) (Qp (Et [.str _,Iq _]) ?_)
 refine Qp (A1 (es:=[[.str _,Iq _],[.str _,Iq _]]) Ai rfl rfl rfl rfl rfl rfl rfl rfl rfl) ?_
 refine Qp (Et [_,_]) (Co 0 [_,_] (_::_) (Ag (AW.ret ?_)))
 refine ⟨.inr rfl,[.agg [_,_]],.cons (.box _ _ _ 0 _ _ _ _ rfl rfl rfl rfl rfl rfl) <| .nil,.cons _ (.refl _),?_⟩
 rfl
theorem r_FewT (T:List Sc)(hl:T.length≤1048576)(hst:∀s∈T,Jn s):Ax Tryz.prog 38 [.sl 2 (T.map N1)] (.bool (rM T)):=by
 refine Ax.body (n:=29) Ai Tryz.func38 rfl rfl rfl fun H=>?_
 refine Ah (Qp Bg (Ag (AW.seq (Ah (Qp Av (Ag (AW.block ?_)))))))
 refine AW.Aa5 (fun (k:Nat)=>(⟨[(0,.sl 2 (T.map N1)),(3,.int .i64 (k:Int))],H,29⟩:St)) (fun (k:Nat)=>k≤T.length∧(T.take k).any bigSc=false) (fun (k:Nat)=>T.length-k) (0) ?_ (GS.weaken ⟨rfl,rfl,trivial⟩ (.refl _)) ?_
 · exact ⟨Nat.zero_le _,by simp⟩
 ·
  rintro k hR
  refine AW.seq (Ah (Qp A2 (Qp C6 ?_)))
  refine Qp (Ak (n:=T.length) Ai rfl rfl rfl (by simp)) ?_
  refine Qp Cl (Ag (A5 (fun hc1=>?_) fun hc1=>?_))
  ·
   obtain ⟨a,ha⟩:=B4 hc1
   have hlt:=Bb ha
   have hm:=List.mem_of_getElem? ha
   refine Bz (AW.seq (AW.block (Ah (Qp C6 (Qp A2 ?_)))))
   refine Qp (Af (c:=[.str _,_]) Ai rfl rfl rfl rfl rfl rfl (by omega) (Bj ha)) ?_
   refine Qp (Qf [_]) (Qp Dm ?_)
   refine Qp (Ak (n:=a.fields.length) Ai rfl rfl rfl (by simp)) ?_
   refine Qp Hi (Qp Br (Qg [] Qw C6 (Qg [] Qw A2 ?_)))
   refine AOL.Aa6 (y:=.ptr _) _ [(18,_),(19,_)] rfl (sF.all ⟨Ent.Aa3 _ _,Ent.Aa3 _ _,trivial⟩) (fun hG=>Af (c:=[.str _,_]) Ai rfl rfl rfl rfl rfl rfl (by omega) (Bj ha)) rfl ?_
   refine Qg [(20,_)] Qw (Qf [.str _,_]) (Qg [(21,_)] Qw Vu ?_)
   refine AOL.Aa6 (y:=Iq _) _ [(22,_)] rfl (sF.all ⟨Ent.Aa3 _ _,trivial⟩) (fun hG=>Ho (n:=a.name.length) Ai rfl rfl rfl (rfl)) rfl ?_
   refine Qg [(23,_)] Qw Hi (Qp E5 (Ag (A5 (fun hc2=>?_) fun hc2=>?_)))
   ·
    refine Ah (Qp Bg (Ag (AW.ret (Bc (Aj (Aj (Bc (Aj ?_))))))))
    refine Qr (.bool _) ?_
    exact Eq.trans rfl (congrArg (fun q:Bool=>AV.bool q) ((by unfold rM;rw [if_pos (cU ha hc2)]:rM T=false))).symm
   ·
    refine AW.skip (Bs (Ae (AW.region (Qp A2 (Qp Fx (Qp Av (Ag ?_)))))))
    refine ⟨k+1,?_,?_,GS.weaken ⟨rfl,rfl,trivial⟩ (.refl _)⟩
    · exact ⟨hlt,X7 hR.2 ha hc2⟩
    · omega
  ·
   have hte:=C5 hc1
   have hall:=hR.2
   rw [hte] at hall
   refine AW.exit ?_
   refine A8 (A8 (Bw (Ae (Ah (Qp C6 ?_)))))
   refine Qp (Ak (n:=T.length) Ai rfl rfl rfl (by simp)) ?_
   refine Qp Ng (Qp Bg (Ag (AW.ret ?_)))
   refine Qr (.bool _) ?_
   exact Eq.trans rfl (congrArg (fun q:Bool=>AV.bool q) ((by unfold rM;rw [Ck hall]:rM T=decide ((T.length:Int)≤20)))).symm
theorem l_few (T:List Sc)(hl:T.length≤1048576)(hst:∀s∈T,Jn s)(V:List Va)(hvl:V.length≤1048576)(es:List Ex)(hel:es.length≤1048576)(hes:∀e∈es,At e≤1048576):Ax Tryz.prog 9 [.agg (Cq T V),.sl 8 (es.map Fv)] (.bool (iR T V es)):=by
 refine Ax.body (n:=31) Ai Tryz.func9 rfl rfl rfl fun H=>?_
 refine Ah (Qp (F5 [_,_]) (Qp Bg (Ag (AW.seq (Ah (Qp C6 ?_))))))
 refine Qp (Ak (n:=es.length) Ai rfl rfl rfl (by simp)) ?_
 refine Qp A2 (Ag (AW.block ?_))
 refine AW.Aa5 (fun (k:Nat)=>(⟨[(1,.sl 8 (es.map Fv)),(2,.ptr (Cq T V)),(7,.sl 8 (es.map Fv)),(8,.int .i64 es.length),(9,.int .i64 (k:Int))],H,31⟩:St)) (fun (k:Nat)=>k≤es.length∧(es.take k).any (fun e=>!fewX e)=false) (fun (k:Nat)=>es.length-k) (0) ?_ (GS.weaken ⟨rfl,rfl,rfl,rfl,rfl,trivial⟩ (.refl _)) ?_
 · exact ⟨Nat.zero_le _,by simp⟩
 ·
  rintro k hR
  refine Ah (Qp Cl (Ag (AW.seq (A5 (fun hc1=>?_) fun hc1=>?_))))
  ·
   obtain ⟨e,he⟩:=B4 hc1
   have hlt:=Bb he
   have hem:=List.mem_of_getElem? he
   refine Bz (AW.seq (AW.block (Ah ?_)))
   refine Qp (Af (c:=[Iq _,_,Iq _,Iq _,Iq _,Iq _,Iq _,.str _]) Ai rfl rfl rfl rfl rfl rfl (by omega) (Fb he)) ?_
   refine Qp D1 ?_
   refine Qe (Al (l:=[.int .i64 0,.sl 8 [],.int .i64 0,.int .i64 0,.int .i64 0,.int .i64 0,.int .i64 0,.str []]) (by kernel_rfl)) ?_
   rintro _ _ ⟨b6,rfl,rfl⟩
   refine Co 0 [Iq _,_,Iq _,Iq _,Iq _,Iq _,Iq _,.str _] (_::_) ?_
   refine AOL.ghost (GS.Aa4 (t:=6) 0 rfl rfl) ?_
   refine Dh (Qp D1 ?_)
   refine Qp (Qc rfl (c34 e (hes e hem))) ?_
   refine Qp Gt (Ag (A5 (fun hc2=>?_) fun hc2=>?_))
   ·
    refine Ah (Qp Bg (Ag (AW.ret (Bc (Aj (Aj (Bc (Aj ?_))))))))
    refine Qr (.bool _) ?_
    exact Eq.trans rfl (congrArg (fun q:Bool=>AV.bool q) ((by unfold iR;rw [if_pos (cU he hc2)]:iR T V es=false))).symm
   ·
    refine AW.skip (Bs (Ae (AW.region (Qp Fx (Qp A2 (Ag ?_))))))
    refine ⟨k+1,?_,?_,GS.weaken ⟨rfl,rfl,rfl,rfl,rfl,trivial⟩ (.refl _)⟩
    · exact ⟨hlt,X7 hR.2 he hc2⟩
    · omega
  ·
   have hte:=C5 hc1
   have hall:=hR.2
   rw [hte] at hall
   refine AW.exit ?_
   refine A8 (A8 (Bw (Ae (Ah (Qp (Qf [_,_]) (Qp Dm ?_))))))
   refine Qp (Qc rfl (r_FewT T hl hst)) ?_
   refine Qp Br (Qg [] Qw (Qf [_]) (Qg [(21,_)] Qw Dm ?_))
   refine AOL.Aa6 (y:=Iq _) _ [(22,_)] rfl (sF.all ⟨Ent.Aa3 _ _,trivial⟩) (fun hG=>Ak (n:=V.length) Ai rfl rfl rfl (by simp)) rfl ?_
   refine Qg [(23,_)] Qw Ng (Qp E3 (Qp Br (Qg [] Qw C6 ?_)))
   refine AOL.Aa6 (y:=Iq _) _ [(27,_)] rfl (sF.all ⟨Ent.Aa3 _ _,trivial⟩) (fun hG=>Ak (n:=es.length) Ai rfl rfl rfl (by simp)) rfl ?_
   refine Qg [(28,_)] Qw Ng (Qp E3 (Qp Bg (Ag (AW.ret ?_))))
   refine Qr (.bool _) ?_
   exact Eq.trans rfl (congrArg (fun q:Bool=>AV.bool q) ((by unfold iR;rw [Ck hall]:iR T V es=_))).symm
theorem qP (es:List Ex)(hel:es.length≤1048576)(hes:∀e∈es,At e≤1048576):Ax Tryz.prog 45 [.sl 8 (es.map Fv),.sl 8 (es.map Fv)] (.bool true):=by
 refine Ax.body (n:=27) Ai Tryz.func45 rfl rfl rfl fun H=>?_
 refine Ah (Qp Bg (Ag (AW.seq (Ah (Qp C6 ?_)))))
 refine Qp (Ak (n:=es.length) Ai rfl rfl rfl (by simp)) ?_
 refine Qp C6 ?_
 refine Qp (Ak (n:=es.length) Ai rfl rfl rfl (by simp)) ?_
 refine Qp Ct (Ag (A5 (fun hc1=>?_) fun hc1=>?_))
 ·
  exact absurd hc1 (by simp)
 ·
  refine Bz (AW.seq (Ah (Qp Av (Ag (AW.block ?_)))))
  refine AW.Aa5 (fun (k:Nat)=>(⟨[(0,.sl 8 (es.map Fv)),(1,.sl 8 (es.map Fv)),(4,.bool false),(5,.int .i64 (k:Int))],H,27⟩:St)) (fun (k:Nat)=>k≤es.length) (fun (k:Nat)=>es.length-k) (0) ?_ (GS.weaken ⟨rfl,rfl,rfl,rfl,trivial⟩ (.refl _)) ?_
  · exact Nat.zero_le _
  ·
   rintro k hR
   refine AW.seq (Ah (Qp A2 (Qp C6 ?_)))
   refine Qp (Ak (n:=es.length) Ai rfl rfl rfl (by simp)) ?_
   refine Qp Cl (Ag (A5 (fun hc2=>?_) fun hc2=>?_))
   ·
    obtain ⟨e,he⟩:=B4 hc2
    have hlt:=Bb he
    have hem:=List.mem_of_getElem? he
    refine Bz (AW.seq (AW.block (AW.seq ?_)))
    refine AW.draw mixed (fun _=>True) trivial (by kernel_rfl) ?_
    refine Qn 0 rfl C6 (Qn 1 rfl A2 ?_)
    refine Qn 2 rfl (Af (c:=[Iq _,_,Iq _,Iq _,Iq _,Iq _,Iq _,.str _]) Ai rfl rfl rfl rfl rfl rfl (by omega) (Fb he)) ?_
    refine Qn 3 rfl D1 (Qn 4 rfl C6 (Qn 5 rfl A2 ?_))
    refine Qn 6 rfl (Af (c:=[Iq _,_,Iq _,Iq _,Iq _,Iq _,Iq _,.str _]) Ai rfl rfl rfl rfl rfl rfl (by omega) (Fb he)) ?_
    refine Qn 7 rfl D1 ?_
    refine Qn 8 rfl (Qc rfl (c20 e e (hes e hem))) ?_
    refine Qn 9 rfl Gt ?_
    refine Jx.done _ _ (by kernel_rfl) ?_
    refine Ae (A5 (fun hc3=>?_) fun hc3=>?_)
    ·
     exact absurd hc3 (by rw [(Ub e e).2 rfl];simp)
    ·
     refine AW.skip (Bs (Ae (AW.region (Qp A2 (Qp Fx (Qp Av (Ag ?_)))))))
     refine ⟨k+1,?_,?_,GS.weaken ⟨rfl,rfl,rfl,rfl,trivial⟩ (.refl _)⟩
     · exact hlt
     · omega
   ·
    refine AW.exit ?_
    refine A8 (A8 (Bw (Ae (Ah (Qp Bg (Ag (AW.ret ?_)))))))
    refine Qr (.bool _) ?_
    rfl
theorem Aan (z:Zn)(hz:z.bs.length≤1048576):Ax Tryz.prog 44 [.agg (T6 z),.agg (T6 z)] (.bool true):=by
 refine Ax.body (n:=38) Ai Tryz.func44 rfl rfl rfl fun H=>?_
 refine Ah (Qp (F5 [Iq _,_]) (Qp (F5 [Iq _,_]) (Qp Bg (Ag (AW.seq (Ah (Qp (Qf [Iq _,_]) (Qp Bt (Qp (Qf [Iq _,_]) ?_)))))))))
 refine Qp Bt (Qp Ct (Qp Br (Qg [] Qw (Qf [_]) (Qg [(12,_)] Qw Dm ?_))))
 refine AOL.Aa6 (y:=Iq _) _ [(13,_)] rfl (sF.all ⟨Ent.Aa3 _ _,trivial⟩) (fun hG=>Ak (n:=z.bs.length) Ai rfl rfl rfl (by simp)) rfl ?_
 refine Qg [] Qw (Qf [_]) (Qg [(15,_)] Qw Dm ?_)
 refine AOL.Aa6 (y:=Iq _) _ [(16,_)] rfl (sF.all ⟨Ent.Aa3 _ _,trivial⟩) (fun hG=>Ak (n:=z.bs.length) Ai rfl rfl rfl (by simp)) rfl ?_
 refine AOL.Aa6 (y:=.bool _) _ [(14,_),(17,_)] rfl (sF.all ⟨Ent.Aa3 _ _,Ent.Aa3 _ _,trivial⟩) (fun hG=>Ou rfl rfl) rfl ?_
 refine Qp E5 (Ag (A5 (fun hc1=>?_) fun hc1=>?_))
 ·
  exact absurd hc1 (by simp)
 ·
  refine Bz (AW.seq (Ah (Qp Av (Ag (AW.block ?_)))))
  refine AW.Aa5 (fun (k:Nat)=>(⟨[(2,.ptr (T6 z)),(3,.ptr (T6 z)),(4,.bool false),(5,.int .i64 (k:Int))],H,38⟩:St)) (fun (k:Nat)=>k≤z.bs.length) (fun (k:Nat)=>z.bs.length-k) (0) ?_ (GS.weaken ⟨rfl,rfl,rfl,rfl,trivial⟩ (.refl _)) ?_
  · exact Nat.zero_le _
  ·
   rintro k hR
   refine AW.seq (Ah (Qp A2 (Qp (Qf [_]) (Qp Dm ?_))))
   refine Qp (Ak (n:=z.bs.length) Ai rfl rfl rfl (by simp)) ?_
   refine Qp Cl (Ag (A5 (fun hc2=>?_) fun hc2=>?_))
   ·
    obtain ⟨a,ha⟩:=B4 hc2
    have hlt:=Bb ha
    have hm:=List.mem_of_getElem? ha
    refine Bz (AW.seq (AW.block (AW.seq ?_)))
    refine AW.draw mixed (fun _=>True) trivial (by kernel_rfl) ?_
    refine Qn 0 rfl (Qf [_]) (Qn 1 rfl Dm (Qn 2 rfl A2 ?_))
    refine Qn 3 rfl (Af (c:=[Iq _,Iq _,Iq _]) Ai rfl rfl rfl rfl rfl rfl (by omega) (Bj ha)) ?_
    refine Qn 4 rfl (Cm [Iq _,Iq _,Iq _]) (Qn 5 rfl (Qf [_]) (Qn 6 rfl Dm (Qn 7 rfl A2 ?_)))
    refine Qn 8 rfl (Af (c:=[Iq _,Iq _,Iq _]) Ai rfl rfl rfl rfl rfl rfl (by omega) (Bj ha)) ?_
    refine Qn 9 rfl (Cm [Iq _,Iq _,Iq _]) ?_
    refine Qn 10 rfl (Hp Ai rfl rfl rfl rfl rfl) ?_
    refine Jx.done _ _ (by kernel_rfl) ?_
    refine Ae (A5 (fun hc3=>?_) fun hc3=>?_)
    ·
     exact absurd hc3 (by simp)
    ·
     refine AW.skip (Bs (Ae (AW.region (Qp A2 (Qp Fx (Qp Av (Ag ?_)))))))
     refine ⟨k+1,?_,?_,GS.weaken ⟨rfl,rfl,rfl,rfl,trivial⟩ (.refl _)⟩
     · exact hlt
     · omega
   ·
    refine AW.exit ?_
    refine A8 (A8 (Bw (Ae (Ah (Qp Bg (Ag (AW.ret ?_)))))))
    refine Qr (.bool _) ?_
    rfl
theorem vA (n:Int):Ax Tryz.prog 46 [.int .i64 n] (.agg (cE (gJ n))):=by
 refine Ax.body (n:=9) Ai Tryz.func46 rfl rfl rfl fun H=>?_
 refine Ah ?_
 refine Qe (Al (l:=[.int .i64 0,.sl 8 [],.int .i64 0,.int .i64 0,.int .i64 0,.int .i64 0,.int .i64 0,.str []]) (by kernel_rfl)) ?_
 rintro _ _ ⟨b2,rfl,rfl⟩
 refine Dh ?_
 refine Qp (Qc rfl (F2 _)) ?_
 refine Qp (Qc rfl (F2 _)) ?_
 refine Qp A2 ?_
 refine Qp (Qc rfl (Ot _)) ?_
 refine Qp (Qc rfl (Lv _ _ _)) ?_
 refine Qp (Qc rfl (Lv _ _ _)) ?_
 refine Co 0 [Iq _,_,Iq _,Iq _,Iq _,Iq _,Iq _,.str _] (_::_) (Ag (AW.ret ?_))
 refine ⟨.inr rfl,[.agg [Iq _,_,Iq _,Iq _,Iq _,Iq _,Iq _,.str _]],.cons (.box _ _ _ 0 _ _ _ _ rfl rfl rfl rfl rfl rfl) <| .nil,.cons _ (.refl _),?_⟩
 rfl
theorem tS (w:Int)(es:List Ex)(hel:es.length≤60)(hes:∀e∈es,At e≤1048576):Ax Tryz.prog 47 [.int .i64 w,.sl 8 (es.map Fv)] (.bool (lA w es)):=by
 refine Ax.body (n:=27) Ai Tryz.func47 rfl rfl rfl fun H=>?_
 refine Ah (Qp Bg (Dh ?_))
 refine Qp (Qc rfl (Zx)) ?_
 refine Qe (Al (l:=[.sl 2 [],.sl 2 []]) (by kernel_rfl)) ?_
 rintro _ _ ⟨b5,rfl,rfl⟩
 refine Co 0 [_,_] (_::_) ?_
 refine AOL.ghost (GS.Aa4 (t:=5) 0 rfl rfl) ?_
 refine Dh (Qp (Qf [_,_]) (Qp Dm (Qp (Qf [_]) (Qp Dm (Qp C6 ?_)))))
 refine Qp (Qc rfl (Xv rY (by decide) iC tX (by decide) es hel hes)) ?_
 refine Qp Mx (Qp Jq (Qp Qxs (Qp Jq (Qp Av (Qp Vy (Qp Av (Dh (Qp A2 (Qp A7 ?_)))))))))
 refine Qp Br (Qg [] Qw A2 (Qg [] Qw A2 ?_))
 refine AOL.Aa6 (y:=.bool _) _ [(23,_),(24,_)] rfl (sF.all ⟨Ent.Aa3 _ _,Ent.Aa3 _ _,trivial⟩) (fun hG=>P_eql rfl rfl) rfl ?_
 refine Qp E3 (Qp Bg (Ag (AW.ret ?_)))
 refine Qr (.bool _) ?_
 rfl
theorem Lu (w:Int)(es:List Ex)(hel:es.length≤60)(hes:∀e∈es,At e≤1048576)(h:lA w es=true):Ax Tryz.prog 47 [.int .i64 w,.sl 8 (es.map cE)] (.bool true):=by
 have h1:=tS w es hel hes
 rw [show es.map Fv=es.map cE from List.map_congr_left fun e _=>Jd e,h] at h1
 exact h1

set_option maxHeartbeats 1600000
set_option maxRecDepth 20000

theorem r_few1 (l:List Vl):Ax Tryz.prog 112 [.sl 3 (l.map cV)] (.bool (Yq l)):=by
 refine Ax.body (n:=24) Ai Tryz.func112 rfl rfl rfl fun H=>?_
 refine Ah (Qp Bg (Ag (AW.seq (Ah (Qp Av (Ag (AW.block ?_)))))))
 refine AW.Aa5 (fun (k:Nat)=>(⟨[(0,.sl 3 (l.map cV)),(3,.int .i64 (k:Int))],H,24⟩:St)) (fun (k:Nat)=>k≤40∧(l.take k).any (fun v=>decide (128<v.text.length))=false) (fun (k:Nat)=>40-k) (0) ?_ (GS.weaken ⟨rfl,rfl,trivial⟩ (.refl _)) ?_
 · exact ⟨Nat.zero_le _,by simp⟩
 ·
  rintro k hR
  refine AW.seq (Ah (Qp A2 (Qp C6 ?_)))
  refine Qp (Ak (n:=l.length) Ai rfl rfl rfl (by simp)) ?_
  refine Qp Cl (Qp Br (Qg [] Qw A2 (Qg [(9,_)] Qw Cl (Qp E3 (Ag (A5 (fun hc1=>?_) fun hc1=>?_))))))
  ·
   rw [Bool.and_eq_true] at hc1
   have hk40:k<40:=by have:=of_decide_eq_true hc1.2;omega
   obtain ⟨a,ha⟩:=B4 hc1.1
   have hlt:=Bb ha
   have hm:=List.mem_of_getElem? ha
   refine Bz (AW.seq (AW.block (Ah (Qp C6 (Qp A2 ?_)))))
   refine Qp (Af (c:=[Iq _,Iq _,.str _]) Ai rfl rfl rfl rfl rfl rfl (by omega) (Bj ha)) ?_
   refine Qp Qf7 (Qp Vu ?_)
   refine Qp (Ho (n:=a.text.length) Ai rfl rfl rfl (rfl)) ?_
   refine Qp Hi (Ag (A5 (fun hc2=>?_) fun hc2=>?_))
   ·
    refine Ah (Qp Bg (Ag (AW.ret (Bc (Aj (Aj (Bc (Aj ?_))))))))
    refine Qr (.bool _) ?_
    exact congrArg AV.bool (uG ha hk40 hc2).symm
   ·
    refine AW.skip (Bs (Ae (AW.region (Qp A2 (Qp Fx (Qp Av (Ag ?_)))))))
    refine ⟨k+1,?_,?_,GS.weaken ⟨rfl,rfl,trivial⟩ (.refl _)⟩
    · exact ⟨hk40,rX ha hR.2 hc2⟩
    · omega
  ·
   refine AW.exit ?_
   refine A8 (A8 (Bw (Ae (Ah (Qp C6 ?_)))))
   refine Qp (Ak (n:=l.length) Ai rfl rfl rfl (by simp)) ?_
   refine Qp Cl (Qp Bg (Ag (AW.ret ?_)))
   refine Qr (.bool _) ?_
   exact congrArg AV.bool (wO hc1 hR.1 hR.2).symm
theorem r_FewE (e:Ev):Ax Tryz.prog 71 [.agg (Oo e)] (.bool (Yq e.values)):=by
 refine Ax.body (n:=6) Ai Tryz.func71 rfl rfl rfl fun H=>?_
 refine Ah (Qp (F5 [Iq _,Iq _,Iq _,Iq _,_]) (Qp Bg (Dh (Qp (Qf [_]) (Qp Dm ?_)))))
 refine Qp (Qc rfl (r_few1 e.values)) ?_
 refine Qp Bg (Ag (AW.ret ?_))
 refine Qr (.bool _) ?_
 rfl
theorem yH (l:List Ev):Ax Tryz.prog 33 [.sl 5 (l.map Oo)] (.bool (kH l)):=by
 refine Ax.body (n:=23) Ai Tryz.func33 rfl rfl rfl fun H=>?_
 refine Ah (Qp Bg (Ag (AW.seq (Ah (Qp Av (Ag (AW.block ?_)))))))
 refine AW.Aa5 (fun (k:Nat)=>(⟨[(0,.sl 5 (l.map Oo)),(3,.int .i64 (k:Int))],H,23⟩:St)) (fun (k:Nat)=>k≤20∧(l.take k).any (fun e=>!Yq e.values)=false) (fun (k:Nat)=>20-k) (0) ?_ (GS.weaken ⟨rfl,rfl,trivial⟩ (.refl _)) ?_
 · exact ⟨Nat.zero_le _,by simp⟩
 ·
  rintro k hR
  refine AW.seq (Ah (Qp A2 (Qp C6 ?_)))
  refine Qp (Ak (n:=l.length) Ai rfl rfl rfl (by simp)) ?_
  refine Qp Cl (Qp Br (Qg [] Qw A2 (Qg [(9,_)] Qw Cl (Qp E3 (Ag (A5 (fun hc1=>?_) fun hc1=>?_))))))
  ·
   rw [Bool.and_eq_true] at hc1
   have hk20:k<20:=by have:=of_decide_eq_true hc1.2;omega
   obtain ⟨a,ha⟩:=B4 hc1.1
   have hlt:=Bb ha
   have hm:=List.mem_of_getElem? ha
   refine Bz (AW.seq (AW.block (Ah (Qp C6 (Qp A2 ?_)))))
   refine Qp (Af (c:=[Iq _,Iq _,Iq _,Iq _,_]) Ai rfl rfl rfl rfl rfl rfl (by omega) (Bj ha)) ?_
   refine Qp (Cm [Iq _,Iq _,Iq _,Iq _,_]) ?_
   refine Qp (Qc rfl (r_FewE a)) ?_
   refine Qp Gt (Ag (A5 (fun hc2=>?_) fun hc2=>?_))
   ·
    refine Ah (Qp Bg (Ag (AW.ret (Bc (Aj (Aj (Bc (Aj ?_))))))))
    refine Qr (.bool _) ?_
    exact congrArg AV.bool (zM ha hk20 hc2).symm
   ·
    refine AW.skip (Bs (Ae (AW.region (Qp A2 (Qp Fx (Qp Av (Ag ?_)))))))
    refine ⟨k+1,?_,?_,GS.weaken ⟨rfl,rfl,trivial⟩ (.refl _)⟩
    · exact ⟨hk20,by rw [iL _ ha,hR.2,hc2];rfl⟩
    · omega
  ·
   refine AW.exit ?_
   refine A8 (A8 (Bw (Ae (Ah (Qp C6 ?_)))))
   refine Qp (Ak (n:=l.length) Ai rfl rfl rfl (by simp)) ?_
   refine Qp Ng (Qp Bg (Ag (AW.ret ?_)))
   refine Qr (.bool _) ?_
   exact congrArg AV.bool (vJ hc1 hR.1 hR.2).symm
theorem r_Valid (T:List Sc)(hs:∀s∈T,Jn s)(e:Ev):Ax Tryz.prog 111 [.sl 2 (T.map N1),.agg (Oo e)] (.int .i64 (I1 T e)):=by
 refine Ax.body (n:=83) Ai Tryz.func111 rfl rfl rfl fun H=>?_
 refine Ah (Qp (F5 [Iq _,Iq _,Iq _,Iq _,_]) (Qp Av (Ag (AW.seq (Ah (Qp (Qf [Iq _,Iq _,Iq _,Iq _,_]) (Qp Bt (Qp Cl (Qp Br ?_)))))))))
 refine Qg [] Qw (Qf [Iq _,Iq _,Iq _,Iq _,_]) (Qg [(12,_)] Qw Bt (Qg [(13,_)] Qw N7 (Qp E5 (Ag (A5 (fun hc1=>?_) fun hc1=>?_)))))
 ·
  refine Ah (Qp Av (Ag (Du ?_)))
  refine Qr (Iq _) ?_
  have h0:Fl e=32:=by unfold Fl;rw [if_pos hc1]
  exact congrArg (AV.int .i64) (by unfold I1;rw [h0];rfl)
 ·
  have hn0:(Fl e != 0)=false∨(decide (e.seq<0)||decide (1099511627776<e.seq)||decide (e.time<0)||decide (1099511627776<e.time))=true:=by
     unfold Fl;rw [Ck hc1];cases (decide (e.seq<0)||decide (1099511627776<e.seq)||decide (e.time<0)||decide (1099511627776<e.time)) <;> simp
  refine Bz (AW.seq (Ah (Qp (Qf [Iq _,Iq _,Iq _,_]) (Qp Bt (Qp Cl (Qp Br (Qg [] Qw (Qf [Iq _,Iq _,Iq _,_]) (Qg [(20,_)] Qw Bt (Qg [(21,_)] Qw Hi ?_)))))))))
  refine Qp E5 (Qp Br (Qg [] Qw (Qf [Iq _,_]) (Qg [(25,_)] Qw Bt (Qg [(26,_)] Qw Cl (Qp E5 (Qp Br (Qg [] Qw (Qf [Iq _,_]) (Qg [(30,_)] Qw Bt (Qg [(31,_)] Qw Hi ?_)))))))))
  refine Qp E5 (Ag (A5 (fun hc2=>?_) fun hc2=>?_))
  ·
   refine Ah (Qp Av (Ag (Du ?_)))
   refine Qr (Iq _) ?_
   have h0:Fl e=2:=by unfold Fl;rw [Ck hc1,if_pos hc2]
   exact congrArg (AV.int .i64) (by unfold I1;rw [h0];rfl)
  ·
   have hn1:(Fl e != 0)=false:=hn0.resolve_right (by rw [hc2];decide)
   refine Bz (AW.seq (Ah (Qp (Qf [Iq _,Iq _,_]) (Qp Bt (Qp Cl (Qp Br (Qg [] Qw (Qf [Iq _,Iq _,_]) (Qg [(38,_)] Qw Bt (Qg [] Qw C6 ?_)))))))))
   refine AOL.Aa6 (y:=Iq _) _ [(40,_)] rfl (sF.all ⟨Ent.Aa3 _ _,trivial⟩) (fun hG=>Ak (n:=T.length) Ai rfl rfl rfl (by simp)) rfl ?_
   refine AOL.Aa6 (y:=.bool _) _ [(39,_),(41,_)] rfl (sF.all ⟨Ent.Aa3 _ _,Ent.Aa3 _ _,trivial⟩) (fun hG=>Uo rfl rfl) rfl ?_
   refine Qp E5 (Ag (A5 (fun hc3=>?_) fun hc3=>?_))
   ·
    refine Ah (Qp Av (Ag (Du ?_)))
    refine Qr (Iq _) ?_
    exact congrArg (AV.int .i64) (by unfold I1;rw [Ck hn1,if_pos hc3])
   ·
    have hty:=ty_in hc3
    have hsc:T[e.type.toNat]? = some ((T[e.type.toNat]?).getD sc0):=cS sc0 hty.2
    refine Bz (Ah (Qp C6 (Qp (Qf [Iq _,Iq _,_]) (Qp Bt ?_))))
    refine Qp (Af (c:=[.str _,_]) Ai rfl rfl rfl rfl rfl rfl (hty.1) (Bj hsc)) ?_
    refine Qp (Qf [_]) (Qp Dm (Qp Vy (Ag (AW.seq (Ah (Qp (Qf [_]) (Qp Dm ?_)))))))
    refine Qp (Ak (n:=e.values.length) Ai rfl rfl rfl (by simp)) ?_
    refine Qp C6 ?_
    refine Qp (Ak (n:=(E1 T e).length) Ai rfl rfl rfl (by simp [E1])) ?_
    refine Qp Ct (Ag (A5 (fun hc4=>?_) fun hc4=>?_))
    ·
     refine Ah (Qp Av (Ag (Du ?_)))
     refine Qr (Iq _) ?_
     exact congrArg (AV.int .i64) (by unfold I1;rw [Ck hn1,Ck hc3,if_pos hc4])
    ·
     have hfl:=kF hc4
     have hfb:(E1 T e).length≤1048576:=(hs _ (List.mem_of_getElem? hsc)).2.1
     refine Bz (AW.seq (Ah (Qp Av (Ag (AW.block ?_)))))
     refine AW.Aa5 (fun (k:Nat)=>(⟨[(3,.ptr (Oo e)),(5,.sl 2 ((E1 T e).map cFi)),(6,.int .i64 (k:Int))],H,83⟩:St)) (fun (k:Nat)=>k≤e.values.length∧N4 e.values (E1 T e)=N4 (e.values.drop k) ((E1 T e).drop k)) (fun (k:Nat)=>e.values.length-k) (0) ?_ (GS.weaken ⟨rfl,rfl,rfl,trivial⟩ (.refl _)) ?_
     · exact ⟨Nat.zero_le _,rfl⟩
     ·
      rintro k hR
      refine AW.seq (Ah (Qp A2 (Qp C6 ?_)))
      refine Qp (Ak (n:=(E1 T e).length) Ai rfl rfl rfl (by simp)) ?_
      refine Qp Cl (Ag (A5 (fun hc5=>?_) fun hc5=>?_))
      ·
       have hk5:k<(E1 T e).length:=by have:=of_decide_eq_true hc5;omega
       obtain ⟨a,ha⟩:=B4 (l:=e.values) (k:=k) (by simp;omega)
       have hlt:=Bb ha
       have hm:=List.mem_of_getElem? ha
       have hfk:(E1 T e)[k]? = some (((E1 T e)[k]?).getD fi0):=cS fi0 (by omega)
       have hstep:=qI ha hfk
       refine Bz (AW.seq (AW.block (AW.seq (Ah (Qp (Qf [_]) (Qp Dm (Qp A2 ?_)))))))
       refine Qp (Af (c:=[Iq _,Iq _,.str _]) Ai rfl rfl rfl rfl rfl rfl (by omega) (Bj ha)) ?_
       refine Qp (Cm [Iq _,Iq _,.str _]) ?_
       refine Qp (Qc rfl (c79 a)) ?_
       refine Qp Av (Dh (Qp A2 (Qp Ct (Ag (A5 (fun hc6=>?_) fun hc6=>?_)))))
       ·
        refine Ah (Qp A2 (Qp Av (Ag (Du (Bc (Aj (Aj (Bc (Aj ?_)))))))))
        refine Qr (Iq _) ?_
        have he:Ua a (((E1 T e)[k]?).getD fi0)=Ap a:=by unfold Ua;rw [if_pos hc6]
        exact congrArg (AV.int .i64) (by unfold I1;rw [Ck hn1,Ck hc3,Ck hc4,hR.2,hstep,he,if_pos hc6])
       ·
        refine Bz (AW.seq ?_)
        refine AW.draw mixed (fun _=>True) trivial (by kernel_rfl) ?_
        refine Qn 0 rfl (Qf [_]) (Qn 1 rfl Dm (Qn 2 rfl A2 ?_))
        refine Qn 3 rfl (Af (c:=[Iq _,Iq _,.str _]) Ai rfl rfl rfl rfl rfl rfl (by omega) (Bj ha)) ?_
        refine Qn 4 rfl Jr (Qn 5 rfl Bt (Qn 6 rfl C6 (Qn 7 rfl A2 ?_)))
        refine Qn 8 rfl (Af (c:=[.str _,Iq _]) Ai rfl rfl rfl rfl rfl rfl (by omega) (Bj hfk)) ?_
        refine Qn 9 rfl (Qf [Iq _]) (Qn 10 rfl Bt (Qn 11 rfl Ct ?_))
        refine Jx.done _ _ (by kernel_rfl) ?_
        refine Ae (A5 (fun hc7=>?_) fun hc7=>?_)
        ·
         refine Ah (Qp Av (Ag (AW.ret (Bc (Aj (Aj (Bc (Aj ?_))))))))
         refine Qr (Iq _) ?_
         have he:Ua a (((E1 T e)[k]?).getD fi0)=9:=by unfold Ua;rw [Ck hc6,if_pos hc7]
         exact congrArg (AV.int .i64) (by unfold I1;rw [Ck hn1,Ck hc3,Ck hc4,hR.2,hstep,he];rfl)
        ·
         refine AW.skip (Bs (Ae (AW.region (Qp A2 (Qp Fx (Qp Av (Ag ?_)))))))
         refine ⟨k+1,?_,?_,GS.weaken ⟨rfl,rfl,rfl,trivial⟩ (.refl _)⟩
         · exact ⟨hlt,by rw [hR.2,hstep,if_neg];unfold Ua;rw [Ck hc6,Ck hc7];decide⟩
         · omega
      ·
       have hd:=Di hc5
       refine AW.exit ?_
       refine A8 (A8 (Bw (Ae (Ah (Qp Av (Ag (AW.ret ?_)))))))
       refine Qr (Iq _) ?_
       exact congrArg (AV.int .i64) (by unfold I1;rw [Ck hn1,Ck hc3,Ck hc4,hR.2,hd,sU])
theorem tQ (T:List Sc)(hl:T.length≤1048576)(hs:∀s∈T,Jn s)(e:Ev):Ax Tryz.prog 70 [.sl 2 (T.map N1),.agg (Oo e)] (.int .i64 (F7 T e)):=by
  refine Ax.body (n:=14) Ai Tryz.func70 rfl rfl rfl fun H=>?_
  refine AW.seq (AW.region (Qp (F5 [Iq _,Iq _,Iq _,Iq _,_]) (Qp Av (AOL.nil (Ae (AW.seq (AW.seq (AW.region (Qp C6 ?_)))))))))
  refine Qp (Qc rfl (c59 T hl hs)) ?_
  refine Qp Av (AOL.nil (Ae (AW.seq (AW.region (Qp A2 (Qp Ct (AOL.nil (Ae (A5 (fun hc1=>?_) fun hc1=>?_)))))))))
  · skip
    refine AW.seq (AW.region (Qp A2 (Qp Av (AOL.nil (Ae (Du ?_))))))
    refine Qr (Iq _) ?_
    try simp only [Cy,Bool.and_true] at *
    first
      | (simp only [Ad,F7];(first | rw [if_pos hc1] | skip);first | done | rfl)
      | (try simp only [Bool.not_eq_true',Bool.not_eq_false'] at *
         first
         | (simp only [Ad,F7, *,Bool.false_eq_true,↓reduceIte,Bool.true_or,Bool.or_true,Bool.false_or,Bool.or_false,Bool.true_and,Bool.and_true,Bool.false_and,Bool.and_false,Bool.not_true,Bool.not_false];done)
         | (simp [Ad,F7, *];done)
         | (simp_all [Ad,F7];done))
      | skip
  · skip
    refine Bz (AW.seq (AW.region (Qp C6 (Qp (Cm [Iq _,Iq _,Iq _,Iq _,_]) ?_))))
    refine Qp (Qc rfl (r_Valid T hs e)) ?_
    refine Qp Av (AOL.nil (Ae (AW.ret ?_)))
    refine Qr (Iq _) ?_
    try simp only [Cy,Bool.and_true] at *
    first
      | (simp only [Ad,F7];(first | rw [iN hc1] | skip);first | done | rfl)
      | (try simp only [Bool.not_eq_true',Bool.not_eq_false'] at *
         first
         | (simp only [Ad,F7, *,Bool.false_eq_true,↓reduceIte,Bool.true_or,Bool.or_true,Bool.false_or,Bool.or_false,Bool.true_and,Bool.and_true,Bool.false_and,Bool.and_false,Bool.not_true,Bool.not_false];done)
         | (simp [Ad,F7, *];done)
         | (simp_all [Ad,F7];done))
      | skip
theorem nN (T:List Sc)(hl:T.length≤1048576)(hs:∀s∈T,Jn s)(V:List Va)(hvl:V.length≤1048576)(l:List Ev)(hel:l.length≤1048576):Ax Tryz.prog 32 [.sl 2 (T.map N1),.sl 2 (V.map U8),.sl 5 (l.map Oo)] (.bool (Iz T V l)):=by
 refine Ax.body (n:=45) Ai Tryz.func32 rfl rfl rfl fun H=>?_
 refine Ah (Qp Bg (Ag (AW.seq (Ah (Qp Av (Ag (AW.block ?_)))))))
 refine AW.Aa5 (fun (k:Nat)=>(⟨[(0,.sl 2 (T.map N1)),(1,.sl 2 (V.map U8)),(2,.sl 5 (l.map Oo)),(7,.int .i64 (k:Int))],H,45⟩:St)) (fun (k:Nat)=>k≤l.length∧((l.zip V).take k).any (Qh T)=false) (fun (k:Nat)=>l.length-k) (0) ?_ (GS.weaken ⟨rfl,rfl,rfl,rfl,trivial⟩ (.refl _)) ?_
 · exact ⟨Nat.zero_le _,by simp⟩
 ·
  rintro k hR
  refine AW.seq (Ah (Qp A2 (Qp C6 ?_)))
  refine Qp (Ak (n:=l.length) Ai rfl rfl rfl (by simp)) ?_
  refine Qp Cl (Qp Br (Qg [] Qw A2 (Qg [] Qw C6 ?_)))
  refine AOL.Aa6 (y:=Iq _) _ [(14,_)] rfl (sF.all ⟨Ent.Aa3 _ _,trivial⟩) (fun hG=>Ak (n:=V.length) Ai rfl rfl rfl (by simp)) rfl ?_
  refine AOL.Aa6 (y:=.bool _) _ [(13,_),(15,_)] rfl (sF.all ⟨Ent.Aa3 _ _,Ent.Aa3 _ _,trivial⟩) (fun hG=>P_lss rfl rfl) rfl ?_
  refine Qp E3 (Ag (A5 (fun hc1=>?_) fun hc1=>?_))
  ·
   rw [Bool.and_eq_true] at hc1
   obtain ⟨a,ha⟩:=B4 hc1.1
   have hlt:=Bb ha
   have hm:=List.mem_of_getElem? ha
   obtain ⟨w,hw⟩:=B4 hc1.2
   have hltw:=Bb hw
   have hzw:=nQ ha hw
   refine Bz (AW.seq (AW.block (AW.seq ?_)))
   refine AW.draw mixed (fun _=>True) trivial (by kernel_rfl) ?_
   refine Qn 0 rfl C6 (Qn 1 rfl C6 (Qn 2 rfl A2 ?_))
   refine Qn 3 rfl (Af (c:=[Iq _,Iq _,Iq _,Iq _,_]) Ai rfl rfl rfl rfl rfl rfl (by omega) (Bj ha)) ?_
   refine Qn 4 rfl (Cm [Iq _,Iq _,Iq _,Iq _,_]) ?_
   refine Qn 5 rfl (Qc rfl (tQ T hl hs a)) ?_
   refine Qn 6 rfl Ct (Qn 7 rfl Br (Qo 8 rfl [] Qw C6 (Qo 9 rfl [] Qw A2 ?_)))
   refine Jx.pure _ _ 10 _ _ rfl (by kernel_rfl) (by kernel_rfl) rfl (.opt _ (.ptr _) [(28,_),(29,_)] rfl (sF.all ⟨Ent.Aa3 _ _,Ent.Aa3 _ _,trivial⟩) (fun hG=>Af (c:=[Iq _,Iq _,Iq _,Iq _,_]) Ai rfl rfl rfl rfl rfl rfl (by omega) (Bj ha)) rfl) ?_
   refine Qo 11 rfl [(30,_)] Qw (Qf [Iq _,Iq _,_]) (Qo 12 rfl [(31,_)] Qw Bt (Qo 13 rfl [] Qw C6 (Qo 14 rfl [] Qw A2 ?_)))
   refine Jx.pure _ _ 15 _ _ rfl (by kernel_rfl) (by kernel_rfl) rfl (.opt _ (.ptr _) [(33,_),(34,_)] rfl (sF.all ⟨Ent.Aa3 _ _,Ent.Aa3 _ _,trivial⟩) (fun hG=>Af (c:=[.str _,Iq _]) Ai rfl rfl rfl rfl rfl rfl (by omega) (Bj hw)) rfl) ?_
   refine Qo 16 rfl [(35,_)] Qw (Qf [Iq _]) (Qo 17 rfl [(36,_)] Qw Bt ?_)
   refine Jx.pure _ _ 18 _ _ rfl (by kernel_rfl) (by kernel_rfl) rfl (.opt _ (.bool _) [(32,_),(37,_)] rfl (sF.all ⟨Ent.Aa3 _ _,Ent.Aa3 _ _,trivial⟩) (fun hG=>Ou rfl rfl) rfl) ?_
   refine Qn 19 rfl E5 ?_
   refine Jx.done _ _ (by kernel_rfl) ?_
   refine Ae (A5 (fun hc2=>?_) fun hc2=>?_)
   ·
    refine Ah (Qp Bg (Ag (AW.ret (Bc (Aj (Aj (Bc (Aj ?_))))))))
    refine Qr (.bool _) ?_
    exact Eq.trans rfl (congrArg (fun q:Bool=>AV.bool q) ((by unfold Iz;rw [if_pos (cU hzw hc2)]:Iz T V l=false))).symm
   ·
    refine AW.skip (Bs (Ae (AW.region (Qp A2 (Qp Fx (Qp Av (Ag ?_)))))))
    refine ⟨k+1,?_,?_,GS.weaken ⟨rfl,rfl,rfl,rfl,trivial⟩ (.refl _)⟩
    · exact ⟨hlt,X7 hR.2 hzw hc2⟩
    · omega
  ·
   have hte:=zip_end hc1
   have hall:=hR.2
   rw [hte] at hall
   refine AW.exit ?_
   refine A8 (A8 (Bw (Ae (Ah (Qp C6 ?_)))))
   refine Qp (Ak (n:=l.length) Ai rfl rfl rfl (by simp)) ?_
   refine Qp C6 ?_
   refine Qp (Ak (n:=V.length) Ai rfl rfl rfl (by simp)) ?_
   refine Qp A7 (Qp Bg (Ag (AW.ret ?_)))
   refine Qr (.bool _) ?_
   exact Eq.trans rfl (congrArg (fun q:Bool=>AV.bool q) ((by unfold Iz;rw [Ck hall]:Iz T V l=_))).symm

set_option maxHeartbeats 1600000
set_option maxRecDepth 20000

theorem r_Bind (l:List Ev)(hel:l.length≤1048576):Ax Tryz.prog 26 [.sl 5 (l.map Oo)] (.agg (cEnv (D0 l))):=by
 refine Ax.body (n:=22) Ai Tryz.func26 rfl rfl rfl fun H=>?_
 refine Ah ?_
 refine Qe (Al (l:=[.sl 1 []]) (by kernel_rfl)) ?_
 rintro _ _ ⟨b2,rfl,rfl⟩
 refine Dh ?_
 refine Qe (Al (l:=[.val (.slice none 0 0)]) (by kernel_rfl)) ?_
 rintro _ _ ⟨b3,rfl,rfl⟩
 refine AOL.ghost (GS.cellRow 0 0 58 1 rfl rfl rfl rfl) ?_
 refine Ag (AW.seq (Ah (Qp Av (Ag (AW.block ?_)))))
 refine AW.Aa5 (fun (p:Nat×List (List AV)×Value)=>(⟨[(0,.sl 5 (l.map Oo)),(2,.val (.pointer (some ⟨b2,0,none⟩))),(3,.val (.pointer (some ⟨b3,0,none⟩))),(4,.int .i64 (p.1:Int))],.row p.2.2 p.2.1.length 58 1 :: .box b3 47 [.row p.2.2 1 p.2.1] :: .box b2 47 [.sl 1 []]::H,22⟩:St)) (fun (p:Nat×List (List AV)×Value)=>p.1≤l.length∧p.2.1=((l.take p.1).map fun e=>[e]).map rD) (fun (p:Nat×List (List AV)×Value)=>l.length-p.1) ((0,[],.slice none 0 0)) ?_ (GS.weaken ⟨rfl,rfl,rfl,rfl,trivial⟩ (.refl _)) ?_
 · exact ⟨Nat.zero_le _,rfl⟩
 ·
  rintro p hR
  refine AW.seq (Ah (Qp A2 (Qp C6 ?_)))
  refine Qp (Ak (n:=l.length) Ai rfl rfl rfl (by simp)) ?_
  refine Qp Cl (Ag (A5 (fun hc1=>?_) fun hc1=>?_))
  ·
   obtain ⟨a,ha⟩:=B4 hc1
   have hlt:=Bb ha
   have hm:=List.mem_of_getElem? ha
   have hsc:∀c∈p.2.1,Bh c=true:=by rw [hR.2];exact Fo fun _=>rfl
   refine Bz (AW.seq (AW.block ?_))
   refine AW.draw mixed (fun H'=>_∈H') (List.mem_of_getElem? (i:=1) rfl) (by kernel_rfl) ?_
   refine Qn 0 rfl Ir ?_
   refine Qn 1 rfl (OpP.Aa8 (fun k=>A0 (k:=k) (c:=.row _ _ _) Ai rfl rfl rfl rfl) (fun _ h=>h)) ?_
   refine Qn 2 rfl C6 (Qn 3 rfl A2 ?_)
   refine Qn 4 rfl (Af (c:=[Iq _,Iq _,Iq _,Iq _,_]) Ai rfl rfl rfl rfl rfl rfl (by omega) (Bj ha)) ?_
   refine Qn 5 rfl (Cm [Iq _,Iq _,Iq _,Iq _,_]) ?_
   refine Qn 6 rfl (A1 (es:=[[Iq _,Iq _,Iq _,Iq _,_]]) Ai rfl rfl rfl rfl rfl rfl rfl rfl rfl) ?_
   refine Qn 7 rfl (A1 (es:=[[_]]) Ai rfl rfl rfl rfl rfl rfl rfl rfl rfl) ?_
   refine Jx.eff _ _ 8 _ _ rfl (by kernel_rfl) rfl rfl (Dn (k:=0) Ai rfl rfl rfl rfl rfl rfl rfl rfl (Hg rfl) (hsc) (by simp [hR.2];omega) (by simp [hR.2,maxLen];omega)) (by rintro _ _ ⟨v19,rfl,rfl⟩;simp) ?_
   rintro _ _ ⟨v19,rfl,rfl⟩
   refine Qn 9 rfl Ir ?_
   refine Jx.last _ _ 10 _ _ rfl (by kernel_rfl) rfl rfl (C7 (k:=1) (v:=.row _ _ _) (cs':=[_]) (H2:=_::_::_::_) Ai rfl rfl rfl rfl (rfl) rfl rfl rfl rfl) (by kernel_rfl) ?_
   rintro _ _ ⟨rfl,rfl⟩
   refine Bs (Ae (AW.region (Qp A2 (Qp Fx (Qp Av (Ag ?_))))))
   refine ⟨(p.1+1,p.2.1 ++ [rD [a]],v19),?_,?_,GS.weaken ⟨rfl,rfl,rfl,rfl,trivial⟩ (.refl _)⟩
   · exact ⟨hlt,by simp only;rw [Cu ha,hR.2];simp⟩
   · simp only;omega
  ·
   have hte:=C5 hc1
   obtain ⟨k,es,rv⟩:=p
   simp only at hR hte
   obtain rfl:es=(D0 l).map rD:=by rw [hR.2,hte];rfl
   refine AW.exit ?_
   refine A8 (A8 (Bw (Ae (Ah ?_))))
   refine AOL.ghost (GS.cell 1 0 rfl rfl rfl rfl G9) ?_
   refine AOL.Aa9 (B1 (k:=1) (l:=[_]) Ai rfl rfl rfl rfl rfl) rfl rfl ?_
   refine Co 2 [_] (_::_::_::_) (Ag (AW.ret ?_))
   refine ⟨.inr rfl,[.agg [_]],.cons (.box _ _ _ 2 _ _ _ _ rfl rfl rfl rfl rfl rfl) <| .nil,.cons _ (.cons _ (.cons _ (.refl _))),?_⟩
   rfl

end Go.Proofs.YtkddpedfbicbeaaGreatDoor
