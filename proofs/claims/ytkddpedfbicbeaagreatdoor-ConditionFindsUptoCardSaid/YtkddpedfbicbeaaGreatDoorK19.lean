/-
  Several texts in one: Y13, Y6c, Y2, Y14, Y17, Y18. No condition.
-/
import Derived.Test.YtkddpedfbicbeaaGreatDoorK01
import Derived.Test.YtkddpedfbicbeaaGreatDoorK11
import Derived.Test.YtkddpedfbicbeaaGreatDoorK18
import Derived.Test.YtkddpedfbicbeaaGreatDoorK15
import Derived.KernelRfl
import Derived.Test.YtkddpedfbicbeaaGreatDoorK08
import Derived.Test.YtkddpedfbicbeaaGreatDoorK02
import Derived.Test.YtkddpedfbicbeaaGreatDoorK06
import Derived.Test.YtkddpedfbicbeaaGreatDoorK07
import Derived.Test.YtkddpedfbicbeaaGreatDoorK16
import Derived.Test.YtkddpedfbicbeaaGreatDoorK14
set_option linter.unusedVariables false
set_option linter.unusedSimpArgs false
namespace Go.Proofs.YtkddpedfbicbeaaGreatDoor
open Go Go.Aw
set_option maxHeartbeats 3200000
set_option maxRecDepth 20000

theorem bF (T:List Sc)(hst:∀s∈T,Jn s)(V:List Va)(hty:Jv T V)(hvl:V.length≤1048576)(cs:Cs)(hcs:vOK T V cs):Ax Tryz.prog 64 [.agg (Cp T V),.agg (Ei cs)] (.tuple [.int .i64 (B5 T V cs).1,.sl 5 ((B5 T V cs).2.map Ou)]):=by
 refine Ax.body (n:=44) Ai Tryz.func64 rfl rfl rfl fun H=>?_
 refine Ah (Qp (Fz [_,_]) (Qp (Fz [_,.bool _]) (Qp Av ?_)))
 refine Qp (B2 (z:=5) rfl) ?_
 refine Ag (AW.seq (Ah (Qp (Qf [.bool _]) (Qp kC (Qp Gj (Ag (A5 (fun hc1=>?_) fun hc1=>?_)))))))
 ·
  refine Ah (Qp Av ?_)
  refine Qp (B2 (z:=5) rfl) ?_
  refine Ag (Dr ?_)
  refine Kn (Iq _) (.sl _ _) ?_
  exact Eq.trans rfl (congrArg (fun q:Int×List Ev=>AV.tuple [.int .i64 q.1,.sl 5 (q.2.map Ou)]) (Xt hc1)).symm
 ·
  refine Bz (Ah (Qp Av (Ag (AW.seq (Ah (Qp (Qf [_,.bool _]) (Qp Dk ?_)))))))
  refine Qp (Ak (n:=cs.1.length) Ai rfl rfl rfl (by simp)) ?_
  refine Qp A2 (Ag (AW.block ?_))
  refine AW.Abo (fun (p:Nat×Int)=>(⟨[(2,.ptr (Cp T V)),(6,.int .i64 p.2),(15,.sl 1 (cs.1.map Pp)),(16,.int .i64 cs.1.length),(17,.int .i64 (p.1:Int))],H,44⟩:St)) (fun (p:Nat×Int)=>p.1≤cs.1.length∧Yz T V 2 cs.1=Yz T V p.2 (cs.1.drop p.1)) (fun (p:Nat×Int)=>cs.1.length-p.1) ((0,2)) ?_ (GS.weaken ⟨rfl,rfl,rfl,rfl,rfl,trivial⟩ (.refl _)) ?_
  · exact ⟨Nat.zero_le _,rfl⟩
  ·
   rintro p hR
   have hcl9:=hcs.1
   refine Ah (Qp Cj (Ag (AW.seq (A5 (fun hc2=>?_) fun hc2=>?_))))
   ·
    obtain ⟨c,hc⟩:=B4 hc2
    have hlt:=Bb hc
    have hcv:=hcs.2 c (List.mem_of_getElem? hc)
    have hck:=hcv.1
    have hcl:=hcv.2
    have hgo:=hR.2
    rw [A9 hc] at hgo
    refine Bz (AW.seq (AW.block (Ah ?_)))
    refine Qp (Af (c:=[_]) Ai rfl rfl rfl rfl rfl rfl (by omega) (Bj hc)) ?_
    refine Qp Dk (Qp V2 (Df (Qp (Ck [_,_]) (Qp C4 ?_))))
    refine Qe (Fp (by kernel_rfl) rfl rfl (zW T V c hck hcl (xB T V c) _)) ?_
    rintro _ _ ⟨m,mo,hmo,rfl,rfl⟩
    refine Qp Mt ?_
    refine Qp (Cc (v:=.agg [_,_,_]) rfl rfl) ?_
    refine Qp gF ?_
    refine Qe (Al (l:=[.val (.pointer none),.sl 1 [],.val (.map none)]) (by kernel_rfl)) ?_
    rintro _ _ ⟨b9,rfl,rfl⟩
    refine Cn 0 [_,_,_] (_::_::_) (Qp Bg ?_)
    refine AOL.ghost (GS.Abn (t:=9) 0 rfl rfl) ?_
    refine Ag (AW.seq (Ah (Qp Br (Qp Gj (Qp Br (Qg [] Qw C4 ?_))))))
    refine AOL.Abp (y:=Iq _) _ [(30,_)] rfl (tK.all ⟨Ent.Abm _ _,trivial⟩) (fun hG=>Ak (n:=c.length) Ai rfl rfl rfl (by simp)) rfl ?_
    refine Qg [(31,_)] Qw Nu (Qp Ez (Ag (A5 (fun hc3=>?_) fun hc3=>?_)))
    ·
     refine AW.exit ?_
     refine A8 (Bw (Ae (AW.region (Qp Fw (Qp A2 (Ag ?_))))))
     refine ⟨(p.1+1,p.2),?_,?_,GS.weaken ⟨rfl,rfl,rfl,rfl,rfl,trivial⟩ (.cons _ (.refl _))⟩
     · exact ⟨hlt,hgo.trans (eO hc3)⟩
     · simp only;omega
    ·
     refine Bz (AW.seq (Ah (Qp (Ck [_,_]) (Qp C4 (Qp (Ck [_,_,_]) ?_)))))
     refine Qp (Qc rfl (rH T V c hck (by omega) (Lv T V c) mo)) ?_
     refine Ag (A5 (fun hc4=>?_) fun hc4=>?_)
     ·
      have hvs:=vF hck hc3 hc4
      have hmoe:=hmo (P9 hc4).1
      subst hmoe
      refine Ah (Qp (Ck [_,_]) (Qp C4 (Qp (Ck [_,_,_]) ?_)))
      refine Qe (Fp (by kernel_rfl) rfl rfl (vX T V hty hst hvl c hck hcl m _ (lE c) (Lv T V c) hvs _)) ?_
      rintro _ _ ⟨rfl,rfl⟩
      refine Qp Av (Qp V2 (Ag (Dr (Bc (Aj (Aj (Bc (Aj ?_))))))))
      refine ⟨.inr rfl,[Iq _,.sl _ _],.cons (.tmp _ _ rfl) <| .cons (.tmp _ _ rfl) <| .nil,.cons _ (.refl _),?_⟩
      exact Eq.trans rfl (congrArg (fun q:Int×List Ev=>AV.tuple [.int .i64 q.1,.sl 5 (q.2.map Ou)]) ((cW hc1).trans (hgo.trans (oM hc3 hc4)))).symm
     ·
      refine Bz (AW.region (Qp Av (AOL.nil (Bs (Ae (AW.region (Qp Fw (Qp A2 (Ag ?_)))))))))
      refine ⟨(p.1+1,0),?_,?_,GS.weaken ⟨rfl,rfl,rfl,rfl,rfl,trivial⟩ (.cons _ (.refl _))⟩
      · exact ⟨hlt,hgo.trans (vP hc3 hc4)⟩
      · simp only;omega
   ·
    have hde:=Dh hc2
    have hgo:=hR.2
    rw [hde] at hgo
    refine AW.exit ?_
    refine A8 (A8 (Bw (Ae (Ah (Qp A2 (Qp Av ?_))))))
    refine Qp (B2 (z:=5) rfl) ?_
    refine Ag (AW.ret ?_)
    refine Kn (Iq _) (.sl _ _) ?_
    exact Eq.trans rfl (congrArg (fun q:Int×List Ev=>AV.tuple [.int .i64 q.1,.sl 5 (q.2.map Ou)]) ((cW hc1).trans hgo)).symm
theorem S3 (T:List Sc)(hl:T.length≤1048576)(hst:∀s∈T,Jn s)(V:List Va)(hvl:V.length≤1048576)(es:List Ex)(hel:es.length≤1048576)(hes:∀e∈es,At e≤1048576):Ax Tryz.prog 63 [.agg (Cp T V),.sl 8 (es.map Fu)] (.int .i64 (Ef T V es)):=by
 refine Ax.body (n:=30) Ai Tryz.func63 rfl rfl rfl fun H=>?_
 refine Ah (Qp (Fz [_,_]) (Qp Av (Ag (AW.seq (Ah (Qp (Ck [_,_]) ?_))))))
 refine Qp (Qc rfl (Vh T hl hst V hvl)) ?_
 refine Qp Av (Df (Qp A2 (Qp Cq (Ag (A5 (fun hc1=>?_) fun hc1=>?_)))))
 ·
  refine Ah (Qp A2 (Qp Av (Ag (Dr ?_))))
  refine Qr (Iq _) ?_
  exact Eq.trans rfl (congrArg (fun q:Int=>AV.int .i64 q) (dM hc1)).symm
 ·
  refine Bz (AW.seq (Ah (Qp C4 ?_)))
  refine Qp (Ak (n:=es.length) Ai rfl rfl rfl (by simp)) ?_
  refine Qp Hl (Ag (A5 (fun hc2=>?_) fun hc2=>?_))
  ·
   refine Ah (Qp Av (Ag (Dr ?_)))
   refine Qr (Iq _) ?_
   exact Eq.trans rfl (congrArg (fun q:Int=>AV.int .i64 q) (oW hc1 hc2)).symm
  ·
   refine Bz (AW.seq (Ah (Qp C4 ?_)))
   refine Qp (Ak (n:=es.length) Ai rfl rfl rfl (by simp)) ?_
   refine Qp A2 (Ag (AW.block ?_))
   refine AW.Abo (fun (k:Nat)=>(⟨[(2,.ptr (Cp T V)),(17,.sl 8 (es.map Fu)),(18,.int .i64 es.length),(19,.int .i64 (k:Int))],H,30⟩:St)) (fun (k:Nat)=>k≤es.length∧Aq (Eb T V) (es.take k)=0) (fun (k:Nat)=>es.length-k) (0) ?_ (GS.weaken ⟨rfl,rfl,rfl,rfl,trivial⟩ (.refl _)) ?_
   · exact ⟨Nat.zero_le _,rfl⟩
   ·
    rintro k hR
    refine Ah (Qp Cj (Ag (AW.seq (A5 (fun hc3=>?_) fun hc3=>?_))))
    ·
     obtain ⟨e,he⟩:=B4 hc3
     have hlt:=Bb he
     have hem:=List.mem_of_getElem? he
     refine Bz (AW.seq (AW.block (Ah ?_)))
     refine Qp (Af (c:=[Iq _,_,Iq _,Iq _,Iq _,Iq _,Iq _,.str _]) Ai rfl rfl rfl rfl rfl rfl (by omega) (E9 he)) ?_
     refine Qp Dy ?_
     refine Qe (Al (l:=[.int .i64 0,.sl 8 [],.int .i64 0,.int .i64 0,.int .i64 0,.int .i64 0,.int .i64 0,.str []]) (by kernel_rfl)) ?_
     rintro _ _ ⟨b7,rfl,rfl⟩
     refine Cn 0 [Iq _,_,Iq _,Iq _,Iq _,Iq _,Iq _,.str _] (_::_) ?_
     refine AOL.ghost (GS.Abn (t:=7) 0 rfl rfl) ?_
     refine Df (Qp (Ck [_,_]) (Qp Dy ?_))
     refine Qp (Qc rfl (O0 T hl hst V hvl e (hes e hem))) ?_
     refine Qp Av (Df (Qp A2 (Qp Cq (Ag (A5 (fun hc4=>?_) fun hc4=>?_)))))
     ·
      refine Ah (Qp A2 (Qp Av (Ag (AW.ret (Bc (Aj (Aj (Bc (Aj ?_)))))))))
      refine Qr (Iq _) ?_
      exact Eq.trans rfl (congrArg (fun q:Int=>AV.int .i64 q) ((bY hc1 hc2).trans (Nh hR.2 he (by simpa using hc4)))).symm
     ·
      refine AW.skip (Bs (Ae (AW.region (Qp Fw (Qp A2 (Ag ?_))))))
      refine ⟨k+1,?_,?_,GS.weaken ⟨rfl,rfl,rfl,rfl,trivial⟩ (.refl _)⟩
      · exact ⟨hlt,Q8 hR.2 he (by simpa using hc4)⟩
      · omega
    ·
     have hte:=C2 hc3
     have hall:=hR.2
     rw [hte] at hall
     refine AW.exit ?_
     refine A8 (A8 (Bw (Ae (Ah (Qp Av (Ag (AW.ret ?_)))))))
     refine Qr (Iq _) ?_
     exact Eq.trans rfl (congrArg (fun q:Int=>AV.int .i64 q) ((bY hc1 hc2).trans hall)).symm
theorem Zf (T:List Sc)(hl:T.length≤1048576)(hst:∀s∈T,Jn s)(V:List Va)(hvl:V.length≤1048576)(es:List Ex)(hel:es.length≤1048576)(hes:∀e∈es,At e≤1048576):Ax Tryz.prog 63 [.agg (Cp T V),.sl 8 (es.map cE)] (.int .i64 (Ef T V es)):=by
 have h:=S3 T hl hst V hvl es hel hes
 rw [show es.map Fu=es.map cE from List.map_congr_left fun e _=>Jh e] at h
 exact h
theorem X8 (T:List Sc)(hl:T.length≤1048576)(hst:∀s∈T,Jn s)(V:List Va)(hvl:V.length≤1048576)(es:List Ex)(hel:es.length≤60)(hes:∀e∈es,At e≤1048576):Ax Tryz.prog 30 [.sl 2 (T.map Nx),.sl 2 (V.map Uw),.sl 8 (es.map Fu)] (.tuple [.int .i64 (B3 T V es).1,.sl 5 ((B3 T V es).2.1.map Ou),.int .i64 (B3 T V es).2.2]):=by
 refine Ax.body (n:=47) Ai Tryz.func30 rfl rfl rfl fun H=>?_
 refine Ah (Qp Av ?_)
 refine Qp (B2 (z:=5) rfl) ?_
 refine Qp Av (Df (Qp C4 (Qp C4 (Qp (Eo [_,_]) ?_))))
 refine Qe (Al (l:=[.sl 2 [],.sl 2 []]) (by kernel_rfl)) ?_
 rintro _ _ ⟨b9,rfl,rfl⟩
 refine Cn 0 [_,_] (_::_) ?_
 refine AOL.ghost (GS.Abn (t:=9) 0 rfl rfl) ?_
 refine Ag (AW.seq (Ah (Qp (Ck [_,_]) (Qp C4 ?_))))
 refine Qp (Qc rfl (S3 T hl hst V hvl es (by omega) hes)) ?_
 refine Qp Av (Df (Qp A2 (Qp Cq (Ag (A5 (fun hc1=>?_) fun hc1=>?_)))))
 ·
  refine Ah (Qp A2 (Qp Av ?_))
  refine Qp (B2 (z:=5) rfl) ?_
  refine Qp Av (Ag (Dr ?_))
  refine ⟨.inr rfl,[Iq _,.sl _ _,Iq _],.cons (.tmp _ _ rfl) <| .cons (.tmp _ _ rfl) <| .cons (.tmp _ _ rfl) <| .nil,.refl _,?_⟩
  exact Eq.trans rfl (congrArg (fun q:Int×List Ev×Int=>AV.tuple [.int .i64 q.1,.sl 5 (q.2.1.map Ou),.int .i64 q.2.2]) (Poss_1 hc1)).symm
 ·
  have hcz:=Xc hc1
  have hty:=eU hc1
  refine Bz (Ah ?_)
  refine Qp (Di.weakV (A1 (es:=[[_]]) Ai rfl rfl rfl rfl rfl rfl rfl rfl rfl) gK) ?_
  refine Qp (Eo [_,.bool _]) ?_
  refine Qe (Al (l:=[.sl 1 [],.bool false]) (by kernel_rfl)) ?_
  rintro _ _ ⟨b11,rfl,rfl⟩
  refine Cn 0 [_,.bool _] (_::_) (Ag (AW.seq (Ah (Qp C4 ?_))))
  refine Qp (Ak (n:=es.length) Ai rfl rfl rfl (by simp)) ?_
  refine Qp A2 (Ag (AW.block ?_))
  refine AW.Abo (fun (p:Nat×Cs)=>(⟨[(9,.ptr (Cp T V)),(11,.val (.pointer (some ⟨b11,0,none⟩))),(27,.sl 8 (es.map Fu)),(28,.int .i64 es.length),(29,.int .i64 (p.1:Int))],.box b11 103 (Ei p.2)::H,47⟩:St)) (fun (p:Nat×Cs)=>p.1≤es.length∧Ke T V (es.take p.1) ([[]],true)=p.2∧csOK (64*p.1) p.2∧Jl T V 64 p.2) (fun (p:Nat×Cs)=>es.length-p.1) ((0,([[]],true))) ?_ (GS.weaken ⟨rfl,rfl,rfl,rfl,rfl,trivial⟩ (.refl _)) ?_
  · exact ⟨Nat.zero_le _,rfl,wB,qJ⟩
  ·
   rintro p hR
   refine Ah (Qp Cj (Ag (AW.seq (A5 (fun hc2=>?_) fun hc2=>?_))))
   ·
    obtain ⟨e,he⟩:=B4 hc2
    have hlt:=Bb he
    have hem:=List.mem_of_getElem? he
    have hke:=(hcz.2 e hem).1
    have hkz:=Ir hke
    refine Bz (AW.seq (AW.block (Ah ?_)))
    refine Qp (Af (c:=[Iq _,_,Iq _,Iq _,Iq _,Iq _,Iq _,.str _]) Ai rfl rfl rfl rfl rfl rfl (by omega) (E9 he)) ?_
    refine Qp Dy ?_
    refine Qe (Al (l:=[.int .i64 0,.sl 8 [],.int .i64 0,.int .i64 0,.int .i64 0,.int .i64 0,.int .i64 0,.str []]) (by kernel_rfl)) ?_
    rintro _ _ ⟨b13,rfl,rfl⟩
    refine Cn 0 [Iq _,_,Iq _,Iq _,Iq _,Iq _,Iq _,.str _] (_::_::_) ?_
    refine AOL.ghost (GS.Abn (t:=13) 0 rfl rfl) ?_
    refine Ag ?_
    refine AW.draw mixed (fun H'=>_∈H') (List.mem_of_getElem? (i:=0) rfl) (by kernel_rfl) ?_
    refine Qn 0 rfl (OpP.Abr (fun k=>B1 (k:=k) (l:=[_,.bool _]) Ai rfl rfl rfl rfl rfl) (fun _ h=>h)) ?_
    refine Qn 1 rfl (Ck [_,_]) (Qn 2 rfl Dy ?_)
    refine Qn 3 rfl (Qc rfl (R7 T V e hke.kok (Ir hke) true)) ?_
    refine Qn 4 rfl (Qc rfl (Pk _ _ _ _ hR.2.2.1 (Ga e hke.kok true) (by omega) (by have:=Ir hke;omega))) ?_
    refine Ju.last _ _ 5 _ _ rfl (by kernel_rfl) rfl rfl (C6 (k:=0) (v:=.agg _) (cs':=[_,.bool _]) (H2:=_::_) Ai rfl rfl rfl rfl (rfl) rfl rfl rfl rfl) (by kernel_rfl) ?_
    rintro _ _ ⟨rfl,rfl⟩
    refine Bs (Ae (AW.region (Qp Fw (Qp A2 (Ag ?_)))))
    refine ⟨(p.1+1,Ek p.2 (Da T V e true)),?_,?_,GS.weaken ⟨rfl,rfl,rfl,rfl,rfl,trivial⟩ (.refl _)⟩
    · exact ⟨hlt,by unfold Ke;rw [Cr he,List.foldl_append];exact congrArg (fun z=>Ek z (Da T V e true)) hR.2.1,(Li hR.2.2.1 (Ga e hke.kok true)).mono (by simp only;omega),L8 hR.2.2.2 (Kl (P7 e hke.kok true) hkz)⟩
    · simp only;omega
   ·
    have hte:=C2 hc2
    have hpr:=hR.2.1
    rw [hte] at hpr
    have hvo:vOK T V p.2:=uB hR.2.2.1 hR.2.2.2 (by have:=hR.1;omega)
    refine AW.exit ?_
    refine A8 (A8 (Bw (Ae (Ah (Qp (Ck [_,_]) ?_)))))
    refine AOL.Abs (B1 (k:=0) (l:=[_,.bool _]) Ai rfl rfl rfl rfl rfl) rfl rfl ?_
    refine Qp (Qc rfl (bF T hst V hty hvl _ hvo)) ?_
    refine Qp Mt (Qp Jo (Qp zU (Qp Av (Qp V2 (Df (Qp A2 (Qp C4 (Qp Av (Qp V2 ?_)))))))))
    refine Qp Av (Ag (AW.ret ?_))
    refine ⟨.inr rfl,[Iq _,.sl _ _,Iq _],.cons (.tmp _ _ rfl) <| .cons (.tmp _ _ rfl) <| .cons (.tmp _ _ rfl) <| .nil,.cons _ (.refl _),?_⟩
    exact Eq.trans rfl (congrArg (fun q:Int×List Ev×Int=>AV.tuple [.int .i64 q.1,.sl 5 (q.2.1.map Ou),.int .i64 q.2.2]) (xS hc1 hpr)).symm
theorem Uc (T:List Sc)(hl:T.length≤1048576)(hst:∀s∈T,Jn s)(V:List Va)(hvl:V.length≤1048576)(a b:Ex)(ha:At a≤1048576)(hb:At b≤1048576):Ax Tryz.prog 24 [.sl 2 (T.map Nx),.sl 2 (V.map Uw),.agg (cE a),.agg (cE b)] (.tuple [.int .i64 (C9 T V a b).1,.int .i64 (C9 T V a b).2]):=by
 refine Ax.body (n:=43) Ai Tryz.func24 rfl rfl rfl fun H=>?_
 refine Ah (Qp K9 (Qp K9 (Qp Av (Qp Av (Df (Qp C4 (Qp C4 (Qp (Eo [_,_]) ?_))))))))
 refine Qe (Al (l:=[.sl 2 [],.sl 2 []]) (by kernel_rfl)) ?_
 rintro _ _ ⟨b10,rfl,rfl⟩
 refine Cn 0 [_,_] (_::_) ?_
 refine AOL.ghost (GS.Abn (t:=10) 0 rfl rfl) ?_
 refine Ag (AW.seq (Ah (Qp (Ck [_,_]) (Qp Dy (Qp Dy ?_)))))
 refine Qp (A1 (es:=[[Iq _,_,Iq _,Iq _,Iq _,Iq _,Iq _,.str _],[Iq _,_,Iq _,Iq _,Iq _,Iq _,Iq _,.str _]]) Ai rfl rfl rfl rfl rfl rfl rfl rfl rfl) ?_
 refine Qp (Qc rfl (Zf T hl hst V hvl [a,b] (by show (2:Nat)≤_;decide) (sO ha hb))) ?_
 refine Qp Av (Df (Qp A2 (Qp Cq (Ag (A5 (fun hc1=>?_) fun hc1=>?_)))))
 ·
  refine Ah (Qp A2 (Qp Av (Qp Av (Ag (Dr ?_)))))
  refine Kn (Iq _) (Iq _) ?_
  exact Eq.trans rfl (congrArg (fun q:Int×Int=>AV.tuple [.int .i64 q.1,.int .i64 q.2]) (Imp_1 hc1)).symm
 ·
  have hcz:=Xc hc1
  have hty:=eU hc1
  have hka:=(hcz.2 a (List.mem_cons_self ..)).1
  have hkb:=(hcz.2 b (List.mem_cons_of_mem _ (List.mem_cons_self ..))).1
  have hza:=Ir hka
  have hzb:=Ir hkb
  have hvo:vOK T V (K2 T V a b):=uB (Li (Ga a hka.kok true) (Ga b hkb.kok false)) (L8 (Kl (P7 a hka.kok true) hza) (Kl (P7 b hkb.kok false) hzb)) (by omega)
  refine Bz (AW.seq ?_)
  refine AW.draw mixed (fun _=>True) trivial (by kernel_rfl) ?_
  refine Qn 0 rfl (Ck [_,_]) (Qn 1 rfl (Ck [_,_]) (Qn 2 rfl Dy ?_))
  refine Qn 3 rfl (Qc rfl (R7 T V a hka.kok (Ir hka) true)) ?_
  refine Qn 4 rfl (Ck [_,_]) (Qn 5 rfl Dy ?_)
  refine Qn 6 rfl (Qc rfl (R7 T V b hkb.kok (Ir hkb) false)) ?_
  refine Qn 7 rfl (Qc rfl (Pk _ _ _ _ (Ga a hka.kok true) (Ga b hkb.kok false) (by have:=Ir hka;omega) (by have:=Ir hkb;omega))) ?_
  refine Qn 8 rfl (Qc rfl (bF T hst V hty hvl _ hvo)) ?_
  refine Qn 9 rfl Mt (Qn 10 rfl Jo (Qn 11 rfl zU (Qn 12 rfl Av (Qn 13 rfl V2 ?_))))
  refine Ju.done _ _ (by kernel_rfl) ?_
  refine Ae (AW.seq (Ah (Qp A2 (Ag (AW.block (Ah (Qp A7 (Qp Bg (Ag (A5 (fun hc2=>?_) fun hc2=>?_))))))))))
  ·
   refine Ah (Qp Av (Qp Av (Ag (AW.ret (Bc (Aj ?_))))))
   refine Kn (Iq _) (Iq _) ?_
   exact Eq.trans rfl (congrArg (fun q:Int×Int=>AV.tuple [.int .i64 q.1,.int .i64 q.2]) (Imp_2 hc1 hc2)).symm
  ·
   refine Ah (Qp A7 (Qp Bg (Ag (A5 (fun hc3=>?_) fun hc3=>?_))))
   ·
    refine Ah (Qp Av (Qp Av (Ag (AW.ret (Bc (Aj ?_))))))
    refine Kn (Iq _) (Iq _) ?_
    exact Eq.trans rfl (congrArg (fun q:Int×Int=>AV.tuple [.int .i64 q.1,.int .i64 q.2]) (Imp_3 hc1 hc2 hc3)).symm
   ·
    refine AW.skip (Bs (Ae (Ah (Qp A2 (Qp Av (Qp Av (Ag (AW.ret ?_))))))))
    refine Kn (Iq _) (Iq _) ?_
    exact Eq.trans rfl (congrArg (fun q:Int×Int=>AV.tuple [.int .i64 q.1,.int .i64 q.2]) (Imp_4 hc1 hc2 hc3)).symm

set_option maxHeartbeats 1600000
set_option maxRecDepth 20000

theorem Ym (a b:List Lit)(ha:a.length≤1048576)(hs:∀x∈a,At x.cond≤1048576):Ax Tryz.prog 55 [.sl 9 (a.map G2),.sl 9 (b.map G2)] (.bool (Hi a b)):=by
 refine Ax.body (n:=42) Ai Tryz.func55 rfl rfl rfl fun H=>?_
 refine Ah (Qp Bg (Ag (AW.seq (Ah (Qp C4 ?_)))))
 refine Qp (Ak (n:=a.length) Ai rfl rfl rfl (by simp)) ?_
 refine Qp C4 ?_
 refine Qp (Ak (n:=b.length) Ai rfl rfl rfl (by simp)) ?_
 refine Qp Cq (Ag (A5 (fun hc1=>?_) fun hc1=>?_))
 ·
  refine Ah (Qp Bg (Ag (Dr ?_)))
  refine Qr (.bool _) ?_
  exact Eq.trans rfl (congrArg (fun q:Bool=>AV.bool q) (bQ hc1)).symm
 ·
  have hln:a.length=b.length:=by have h:=eq_of_beq (by simpa [bne] using hc1:((a.length:Int)==(b.length:Int))=true);omega
  refine Bz (AW.seq (Ah (Qp Av (Ag (AW.block ?_)))))
  refine AW.Abo (fun (k:Nat)=>(⟨[(0,.sl 9 (a.map G2)),(1,.sl 9 (b.map G2)),(4,.bool false),(5,.int .i64 (k:Int))],H,42⟩:St)) (fun (k:Nat)=>k≤a.length∧a.take k=b.take k) (fun (k:Nat)=>a.length-k) (0) ?_ (GS.weaken ⟨rfl,rfl,rfl,rfl,trivial⟩ (.refl _)) ?_
  · simp
  ·
   rintro k hR
   refine AW.seq (Ah (Qp A2 (Qp C4 ?_)))
   refine Qp (Ak (n:=a.length) Ai rfl rfl rfl (by simp)) ?_
   refine Qp Cj (Ag (A5 (fun hc2=>?_) fun hc2=>?_))
   ·
    obtain ⟨x,hx⟩:=B4 hc2
    have hlx:=Bb hx
    obtain ⟨y,hy⟩:∃y,b[k]? = some y:=⟨_,List.getElem?_eq_getElem (by omega)⟩
    have hly:=Bb hy
    refine Bz (AW.seq (AW.block (AW.seq ?_)))
    refine AW.draw mixed (fun _=>True) trivial (by kernel_rfl) ?_
    refine Qn 0 rfl C4 (Qn 1 rfl A2 ?_)
    refine Qn 2 rfl (Af (c:=[Iq _,_,Iq _,Iq _,Iq _,Iq _,Iq _,.str _,.bool _]) Ai rfl rfl rfl rfl rfl rfl (by omega) (Bj hx)) ?_
    refine Qn 3 rfl (Qf [.bool _]) (Qn 4 rfl kC (Qn 5 rfl C4 (Qn 6 rfl A2 ?_)))
    refine Qn 7 rfl (Af (c:=[Iq _,_,Iq _,Iq _,Iq _,Iq _,Iq _,.str _,.bool _]) Ai rfl rfl rfl rfl rfl rfl (by omega) (Bj hy)) ?_
    refine Qn 8 rfl (Qf [.bool _]) (Qn 9 rfl kC ?_)
    refine Qn 10 rfl (Q4 Ai rfl rfl rfl rfl) ?_
    refine Qn 11 rfl Br (Qo 12 rfl [] Qw C4 (Qo 13 rfl [] Qw A2 ?_))
    refine Ju.pure _ _ 14 _ _ rfl (by kernel_rfl) (by kernel_rfl) rfl (.opt _ (.ptr _) [(29,_),(30,_)] rfl (tK.all ⟨Ent.Abm _ _,Ent.Abm _ _,trivial⟩) (fun hG=>Af (c:=[Iq _,_,Iq _,Iq _,Iq _,Iq _,Iq _,.str _,.bool _]) Ai rfl rfl rfl rfl rfl rfl (by omega) (Bj hx)) rfl) ?_
    refine Qo 15 rfl [(31,_)] Qw (Qf [Iq _,_,Iq _,Iq _,Iq _,Iq _,Iq _,.str _,.bool _]) (Qo 16 rfl [(32,_)] Qw Dy (Qo 17 rfl [] Qw C4 (Qo 18 rfl [] Qw A2 ?_)))
    refine Ju.pure _ _ 19 _ _ rfl (by kernel_rfl) (by kernel_rfl) rfl (.opt _ (.ptr _) [(34,_),(35,_)] rfl (tK.all ⟨Ent.Abm _ _,Ent.Abm _ _,trivial⟩) (fun hG=>Af (c:=[Iq _,_,Iq _,Iq _,Iq _,Iq _,Iq _,.str _,.bool _]) Ai rfl rfl rfl rfl rfl rfl (by omega) (Bj hy)) rfl) ?_
    refine Qo 20 rfl [(36,_)] Qw (Qf [Iq _,_,Iq _,Iq _,Iq _,Iq _,Iq _,.str _,.bool _]) (Qo 21 rfl [(37,_)] Qw Dy ?_)
    refine Ju.pure _ _ 22 _ _ rfl (by kernel_rfl) (by kernel_rfl) rfl (.opt _ (.bool _) [(33,_),(38,_)] rfl (tK.all ⟨Ent.Abm _ _,Ent.Abm _ _,trivial⟩) (fun hG=>C5 (by kernel_rfl) rfl rfl (c20 x.cond y.cond (hs x (List.mem_of_getElem? hx)))) rfl) ?_
    refine Qo 23 rfl [(39,_)] Qw Gj (Qn 24 rfl E2 ?_)
    refine Ju.done _ _ (by kernel_rfl) ?_
    refine Ae (A5 (fun hc3=>?_) fun hc3=>?_)
    ·
     refine Ah (Qp Bg (Ag (AW.ret (Bc (Aj (Aj (Bc (Aj ?_))))))))
     refine Qr (.bool _) ?_
     exact Eq.trans rfl (congrArg (fun q:Bool=>AV.bool q) (dG hx hy hc3)).symm
    ·
     refine AW.skip (Bs (Ae (AW.region (Qp A2 (Qp Fw (Qp Av (Ag ?_)))))))
     refine ⟨k+1,?_,?_,GS.weaken ⟨rfl,rfl,rfl,rfl,trivial⟩ (.refl _)⟩
     · exact ⟨hlx,by rw [Cr hx,Cr hy,hR.2,wI hc3]⟩
     · omega
   ·
    have hte:=C2 hc2
    have hall:=hR.2
    rw [hte] at hall
    have htb:b.take k=b:=List.take_of_length_le (by have:¬k<a.length:=(by simpa using hc2);omega)
    rw [htb] at hall
    refine AW.exit ?_
    refine A8 (A8 (Bw (Ae (Ah (Qp Bg (Ag (AW.ret ?_)))))))
    refine Qr (.bool _) ?_
    exact Eq.trans rfl (congrArg (fun q:Bool=>AV.bool q) ((F4 a b).2 hall)).symm
theorem Zi (a b:List (List Lit))(ha:a.length≤1048576)(hal:∀c∈a,c.length≤1048576)(hs:∀c∈a,∀x∈c,At x.cond≤1048576):Ax Tryz.prog 15 [.sl 1 (a.map Pp),.sl 1 (b.map Pp)] (.bool (J8 a b)):=by
 refine Ax.body (n:=27) Ai Tryz.func15 rfl rfl rfl fun H=>?_
 refine Ah (Qp Bg (Ag (AW.seq (Ah (Qp C4 ?_)))))
 refine Qp (Ak (n:=a.length) Ai rfl rfl rfl (by simp)) ?_
 refine Qp C4 ?_
 refine Qp (Ak (n:=b.length) Ai rfl rfl rfl (by simp)) ?_
 refine Qp Cq (Ag (A5 (fun hc1=>?_) fun hc1=>?_))
 ·
  refine Ah (Qp Bg (Ag (Dr ?_)))
  refine Qr (.bool _) ?_
  exact Eq.trans rfl (congrArg (fun q:Bool=>AV.bool q) (iI hc1)).symm
 ·
  have hln:a.length=b.length:=by have h:=eq_of_beq (by simpa [bne] using hc1:((a.length:Int)==(b.length:Int))=true);omega
  refine Bz (AW.seq (Ah (Qp Av (Ag (AW.block ?_)))))
  refine AW.Abo (fun (k:Nat)=>(⟨[(0,.sl 1 (a.map Pp)),(1,.sl 1 (b.map Pp)),(4,.bool false),(5,.int .i64 (k:Int))],H,27⟩:St)) (fun (k:Nat)=>k≤a.length∧a.take k=b.take k) (fun (k:Nat)=>a.length-k) (0) ?_ (GS.weaken ⟨rfl,rfl,rfl,rfl,trivial⟩ (.refl _)) ?_
  · simp
  ·
   rintro k hR
   refine AW.seq (Ah (Qp A2 (Qp C4 ?_)))
   refine Qp (Ak (n:=a.length) Ai rfl rfl rfl (by simp)) ?_
   refine Qp Cj (Ag (A5 (fun hc2=>?_) fun hc2=>?_))
   ·
    obtain ⟨x,hx⟩:=B4 hc2
    have hlx:=Bb hx
    obtain ⟨y,hy⟩:∃y,b[k]? = some y:=⟨_,List.getElem?_eq_getElem (by omega)⟩
    have hly:=Bb hy
    refine Bz (AW.seq (AW.block (AW.seq ?_)))
    refine AW.draw mixed (fun _=>True) trivial (by kernel_rfl) ?_
    refine Qn 0 rfl C4 (Qn 1 rfl A2 ?_)
    refine Qn 2 rfl (Af (c:=[_]) Ai rfl rfl rfl rfl rfl rfl (by omega) (Bj hx)) ?_
    refine Qn 3 rfl Dk (Qn 4 rfl C4 (Qn 5 rfl A2 ?_))
    refine Qn 6 rfl (Af (c:=[_]) Ai rfl rfl rfl rfl rfl rfl (by omega) (Bj hy)) ?_
    refine Qn 7 rfl Dk ?_
    refine Qn 8 rfl (Qc rfl (Ym x y (hal x (List.mem_of_getElem? hx)) (hs x (List.mem_of_getElem? hx)))) ?_
    refine Qn 9 rfl Gj ?_
    refine Ju.done _ _ (by kernel_rfl) ?_
    refine Ae (A5 (fun hc3=>?_) fun hc3=>?_)
    ·
     refine Ah (Qp Bg (Ag (AW.ret (Bc (Aj (Aj (Bc (Aj ?_))))))))
     refine Qr (.bool _) ?_
     exact Eq.trans rfl (congrArg (fun q:Bool=>AV.bool q) (gJ hx hy hc3)).symm
    ·
     refine AW.skip (Bs (Ae (AW.region (Qp A2 (Qp Fw (Qp Av (Ag ?_)))))))
     refine ⟨k+1,?_,?_,GS.weaken ⟨rfl,rfl,rfl,rfl,trivial⟩ (.refl _)⟩
     · exact ⟨hlx,by rw [Cr hx,Cr hy,hR.2,uS hc3]⟩
     · omega
   ·
    have hte:=C2 hc2
    have hall:=hR.2
    rw [hte] at hall
    have htb:b.take k=b:=List.take_of_length_le (by have:¬k<a.length:=(by simpa using hc2);omega)
    rw [htb] at hall
    refine AW.exit ?_
    refine A8 (A8 (Bw (Ae (Ah (Qp Bg (Ag (AW.ret ?_)))))))
    refine Qr (.bool _) ?_
    exact Eq.trans rfl (congrArg (fun q:Bool=>AV.bool q) ((Kg a b).2 hall)).symm


set_option maxHeartbeats 1600000
set_option maxRecDepth 20000

set_option maxRecDepth 100000
theorem Zx  : Ax Tryz.prog 39 [] (.agg (Cp qM tW)):=by
 refine Ax.body (n:=12) Ai Tryz.func39 rfl rfl rfl fun H=>?_
 refine Ah ?_
 refine Qe (Al (l:=[.sl 2 [],.sl 2 []]) (by kernel_rfl)) ?_
 rintro _ _ ⟨b0,rfl,rfl⟩
 refine Df (Qp (Eo [.str _,Iq _]) (Qp (Eo [.str _,Iq _]) ?_))
 refine Qp (A1 (es:=[[.str _,Iq _],[.str _,Iq _]]) Ai rfl rfl rfl rfl rfl rfl rfl rfl rfl) ?_
 refine Qp (Eo [.str _,_]) ?_
 refine Qe (Al (l:=[.str [],.sl 2 []]) (by kernel_rfl)) ?_
 rintro _ _ ⟨b1,rfl,rfl⟩
 refine Cn 0 [.str _,_] (_::_::_) ?_
 refine AOL.ghost (GS.Abn (t:=1) 0 rfl rfl) ?_
 refine Df (Qp (Ck [.str _,_]) ?_)
 refine Qp (A1 (es:=[[.str _,_]]) Ai rfl rfl rfl rfl rfl rfl rfl rfl rfl) ?_
 refine Qp (Eo [.str _,Iq _]) (Qp (Eo [.str _,Iq _]) ?_)
 refine Qp (A1 (es:=[[.str _,Iq _],[.str _,Iq _]]) Ai rfl rfl rfl rfl rfl rfl rfl rfl rfl) ?_
 refine Qp (Eo [_,_]) (Cn 0 [_,_] (_::_) (Ag (AW.ret ?_)))
 refine ⟨.inr rfl,[.agg [_,_]],.cons (.box _ _ _ 0 _ _ _ _ rfl rfl rfl rfl rfl rfl) <| .nil,.cons _ (.refl _),?_⟩
 rfl
theorem r_FewT (T:List Sc)(hl:T.length≤1048576)(hst:∀s∈T,Jn s):Ax Tryz.prog 38 [.sl 2 (T.map Nx)] (.bool (sS T)):=by
 refine Ax.body (n:=29) Ai Tryz.func38 rfl rfl rfl fun H=>?_
 refine Ah (Qp Bg (Ag (AW.seq (Ah (Qp Av (Ag (AW.block ?_)))))))
 refine AW.Abo (fun (k:Nat)=>(⟨[(0,.sl 2 (T.map Nx)),(3,.int .i64 (k:Int))],H,29⟩:St)) (fun (k:Nat)=>k≤T.length∧(T.take k).any bigSc=false) (fun (k:Nat)=>T.length-k) (0) ?_ (GS.weaken ⟨rfl,rfl,trivial⟩ (.refl _)) ?_
 · exact ⟨Nat.zero_le _,by simp⟩
 ·
  rintro k hR
  refine AW.seq (Ah (Qp A2 (Qp C4 ?_)))
  refine Qp (Ak (n:=T.length) Ai rfl rfl rfl (by simp)) ?_
  refine Qp Cj (Ag (A5 (fun hc1=>?_) fun hc1=>?_))
  ·
   obtain ⟨a,ha⟩:=B4 hc1
   have hlt:=Bb ha
   have hm:=List.mem_of_getElem? ha
   refine Bz (AW.seq (AW.block (Ah (Qp C4 (Qp A2 ?_)))))
   refine Qp (Af (c:=[.str _,_]) Ai rfl rfl rfl rfl rfl rfl (by omega) (Bj ha)) ?_
   refine Qp (Qf [_]) (Qp Dk ?_)
   refine Qp (Ak (n:=a.fields.length) Ai rfl rfl rfl (by simp)) ?_
   refine Qp Hl (Qp Br (Qg [] Qw C4 (Qg [] Qw A2 ?_)))
   refine AOL.Abp (y:=.ptr _) _ [(18,_),(19,_)] rfl (tK.all ⟨Ent.Abm _ _,Ent.Abm _ _,trivial⟩) (fun hG=>Af (c:=[.str _,_]) Ai rfl rfl rfl rfl rfl rfl (by omega) (Bj ha)) rfl ?_
   refine Qg [(20,_)] Qw (Qf [.str _,_]) (Qg [(21,_)] Qw Vp ?_)
   refine AOL.Abp (y:=Iq _) _ [(22,_)] rfl (tK.all ⟨Ent.Abm _ _,trivial⟩) (fun hG=>Hp (n:=a.name.length) Ai rfl rfl rfl (rfl)) rfl ?_
   refine Qg [(23,_)] Qw Hl (Qp E2 (Ag (A5 (fun hc2=>?_) fun hc2=>?_)))
   ·
    refine Ah (Qp Bg (Ag (AW.ret (Bc (Aj (Aj (Bc (Aj ?_))))))))
    refine Qr (.bool _) ?_
    exact Eq.trans rfl (congrArg (fun q:Bool=>AV.bool q) ((by unfold sS;rw [if_pos (eC ha hc2)]:sS T=false))).symm
   ·
    refine AW.skip (Bs (Ae (AW.region (Qp A2 (Qp Fw (Qp Av (Ag ?_)))))))
    refine ⟨k+1,?_,?_,GS.weaken ⟨rfl,rfl,trivial⟩ (.refl _)⟩
    · exact ⟨hlt,Xu hR.2 ha hc2⟩
    · omega
  ·
   have hte:=C2 hc1
   have hall:=hR.2
   rw [hte] at hall
   refine AW.exit ?_
   refine A8 (A8 (Bw (Ae (Ah (Qp C4 ?_)))))
   refine Qp (Ak (n:=T.length) Ai rfl rfl rfl (by simp)) ?_
   refine Qp Nu (Qp Bg (Ag (AW.ret ?_)))
   refine Qr (.bool _) ?_
   exact Eq.trans rfl (congrArg (fun q:Bool=>AV.bool q) ((by unfold sS;rw [Ci hall]:sS T=decide ((T.length:Int)≤20)))).symm
theorem l_few (T:List Sc)(hl:T.length≤1048576)(hst:∀s∈T,Jn s)(V:List Va)(hvl:V.length≤1048576)(es:List Ex)(hel:es.length≤1048576)(hes:∀e∈es,At e≤1048576):Ax Tryz.prog 9 [.agg (Cp T V),.sl 8 (es.map Fu)] (.bool (jE T V es)):=by
 refine Ax.body (n:=31) Ai Tryz.func9 rfl rfl rfl fun H=>?_
 refine Ah (Qp (Fz [_,_]) (Qp Bg (Ag (AW.seq (Ah (Qp C4 ?_))))))
 refine Qp (Ak (n:=es.length) Ai rfl rfl rfl (by simp)) ?_
 refine Qp A2 (Ag (AW.block ?_))
 refine AW.Abo (fun (k:Nat)=>(⟨[(1,.sl 8 (es.map Fu)),(2,.ptr (Cp T V)),(7,.sl 8 (es.map Fu)),(8,.int .i64 es.length),(9,.int .i64 (k:Int))],H,31⟩:St)) (fun (k:Nat)=>k≤es.length∧(es.take k).any (fun e=>!fewX e)=false) (fun (k:Nat)=>es.length-k) (0) ?_ (GS.weaken ⟨rfl,rfl,rfl,rfl,rfl,trivial⟩ (.refl _)) ?_
 · exact ⟨Nat.zero_le _,by simp⟩
 ·
  rintro k hR
  refine Ah (Qp Cj (Ag (AW.seq (A5 (fun hc1=>?_) fun hc1=>?_))))
  ·
   obtain ⟨e,he⟩:=B4 hc1
   have hlt:=Bb he
   have hem:=List.mem_of_getElem? he
   refine Bz (AW.seq (AW.block (Ah ?_)))
   refine Qp (Af (c:=[Iq _,_,Iq _,Iq _,Iq _,Iq _,Iq _,.str _]) Ai rfl rfl rfl rfl rfl rfl (by omega) (E9 he)) ?_
   refine Qp Dy ?_
   refine Qe (Al (l:=[.int .i64 0,.sl 8 [],.int .i64 0,.int .i64 0,.int .i64 0,.int .i64 0,.int .i64 0,.str []]) (by kernel_rfl)) ?_
   rintro _ _ ⟨b6,rfl,rfl⟩
   refine Cn 0 [Iq _,_,Iq _,Iq _,Iq _,Iq _,Iq _,.str _] (_::_) ?_
   refine AOL.ghost (GS.Abn (t:=6) 0 rfl rfl) ?_
   refine Df (Qp Dy ?_)
   refine Qp (Qc rfl (c34 e (hes e hem))) ?_
   refine Qp Gj (Ag (A5 (fun hc2=>?_) fun hc2=>?_))
   ·
    refine Ah (Qp Bg (Ag (AW.ret (Bc (Aj (Aj (Bc (Aj ?_))))))))
    refine Qr (.bool _) ?_
    exact Eq.trans rfl (congrArg (fun q:Bool=>AV.bool q) ((by unfold jE;rw [if_pos (eC he hc2)]:jE T V es=false))).symm
   ·
    refine AW.skip (Bs (Ae (AW.region (Qp Fw (Qp A2 (Ag ?_))))))
    refine ⟨k+1,?_,?_,GS.weaken ⟨rfl,rfl,rfl,rfl,rfl,trivial⟩ (.refl _)⟩
    · exact ⟨hlt,Xu hR.2 he hc2⟩
    · omega
  ·
   have hte:=C2 hc1
   have hall:=hR.2
   rw [hte] at hall
   refine AW.exit ?_
   refine A8 (A8 (Bw (Ae (Ah (Qp (Qf [_,_]) (Qp Dk ?_))))))
   refine Qp (Qc rfl (r_FewT T hl hst)) ?_
   refine Qp Br (Qg [] Qw (Qf [_]) (Qg [(21,_)] Qw Dk ?_))
   refine AOL.Abp (y:=Iq _) _ [(22,_)] rfl (tK.all ⟨Ent.Abm _ _,trivial⟩) (fun hG=>Ak (n:=V.length) Ai rfl rfl rfl (by simp)) rfl ?_
   refine Qg [(23,_)] Qw Nu (Qp Ez (Qp Br (Qg [] Qw C4 ?_)))
   refine AOL.Abp (y:=Iq _) _ [(27,_)] rfl (tK.all ⟨Ent.Abm _ _,trivial⟩) (fun hG=>Ak (n:=es.length) Ai rfl rfl rfl (by simp)) rfl ?_
   refine Qg [(28,_)] Qw Nu (Qp Ez (Qp Bg (Ag (AW.ret ?_))))
   refine Qr (.bool _) ?_
   exact Eq.trans rfl (congrArg (fun q:Bool=>AV.bool q) ((by unfold jE;rw [Ci hall]:jE T V es=_))).symm
theorem qR (es:List Ex)(hel:es.length≤1048576)(hes:∀e∈es,At e≤1048576):Ax Tryz.prog 45 [.sl 8 (es.map Fu),.sl 8 (es.map Fu)] (.bool true):=by
 refine Ax.body (n:=27) Ai Tryz.func45 rfl rfl rfl fun H=>?_
 refine Ah (Qp Bg (Ag (AW.seq (Ah (Qp C4 ?_)))))
 refine Qp (Ak (n:=es.length) Ai rfl rfl rfl (by simp)) ?_
 refine Qp C4 ?_
 refine Qp (Ak (n:=es.length) Ai rfl rfl rfl (by simp)) ?_
 refine Qp Cq (Ag (A5 (fun hc1=>?_) fun hc1=>?_))
 ·
  exact absurd hc1 (by simp)
 ·
  refine Bz (AW.seq (Ah (Qp Av (Ag (AW.block ?_)))))
  refine AW.Abo (fun (k:Nat)=>(⟨[(0,.sl 8 (es.map Fu)),(1,.sl 8 (es.map Fu)),(4,.bool false),(5,.int .i64 (k:Int))],H,27⟩:St)) (fun (k:Nat)=>k≤es.length) (fun (k:Nat)=>es.length-k) (0) ?_ (GS.weaken ⟨rfl,rfl,rfl,rfl,trivial⟩ (.refl _)) ?_
  · exact Nat.zero_le _
  ·
   rintro k hR
   refine AW.seq (Ah (Qp A2 (Qp C4 ?_)))
   refine Qp (Ak (n:=es.length) Ai rfl rfl rfl (by simp)) ?_
   refine Qp Cj (Ag (A5 (fun hc2=>?_) fun hc2=>?_))
   ·
    obtain ⟨e,he⟩:=B4 hc2
    have hlt:=Bb he
    have hem:=List.mem_of_getElem? he
    refine Bz (AW.seq (AW.block (AW.seq ?_)))
    refine AW.draw mixed (fun _=>True) trivial (by kernel_rfl) ?_
    refine Qn 0 rfl C4 (Qn 1 rfl A2 ?_)
    refine Qn 2 rfl (Af (c:=[Iq _,_,Iq _,Iq _,Iq _,Iq _,Iq _,.str _]) Ai rfl rfl rfl rfl rfl rfl (by omega) (E9 he)) ?_
    refine Qn 3 rfl Dy (Qn 4 rfl C4 (Qn 5 rfl A2 ?_))
    refine Qn 6 rfl (Af (c:=[Iq _,_,Iq _,Iq _,Iq _,Iq _,Iq _,.str _]) Ai rfl rfl rfl rfl rfl rfl (by omega) (E9 he)) ?_
    refine Qn 7 rfl Dy ?_
    refine Qn 8 rfl (Qc rfl (c20 e e (hes e hem))) ?_
    refine Qn 9 rfl Gj ?_
    refine Ju.done _ _ (by kernel_rfl) ?_
    refine Ae (A5 (fun hc3=>?_) fun hc3=>?_)
    ·
     exact absurd hc3 (by rw [(Ub e e).2 rfl];simp)
    ·
     refine AW.skip (Bs (Ae (AW.region (Qp A2 (Qp Fw (Qp Av (Ag ?_)))))))
     refine ⟨k+1,?_,?_,GS.weaken ⟨rfl,rfl,rfl,rfl,trivial⟩ (.refl _)⟩
     · exact hlt
     · omega
   ·
    refine AW.exit ?_
    refine A8 (A8 (Bw (Ae (Ah (Qp Bg (Ag (AW.ret ?_)))))))
    refine Qr (.bool _) ?_
    rfl
theorem r_SameZ (z:Zn)(hz:z.bs.length≤1048576):Ax Tryz.prog 44 [.agg (Tv z),.agg (Tv z)] (.bool true):=by
 refine Ax.body (n:=38) Ai Tryz.func44 rfl rfl rfl fun H=>?_
 refine Ah (Qp (Fz [Iq _,_]) (Qp (Fz [Iq _,_]) (Qp Bg (Ag (AW.seq (Ah (Qp (Qf [Iq _,_]) (Qp Bt (Qp (Qf [Iq _,_]) ?_)))))))))
 refine Qp Bt (Qp Cq (Qp Br (Qg [] Qw (Qf [_]) (Qg [(12,_)] Qw Dk ?_))))
 refine AOL.Abp (y:=Iq _) _ [(13,_)] rfl (tK.all ⟨Ent.Abm _ _,trivial⟩) (fun hG=>Ak (n:=z.bs.length) Ai rfl rfl rfl (by simp)) rfl ?_
 refine Qg [] Qw (Qf [_]) (Qg [(15,_)] Qw Dk ?_)
 refine AOL.Abp (y:=Iq _) _ [(16,_)] rfl (tK.all ⟨Ent.Abm _ _,trivial⟩) (fun hG=>Ak (n:=z.bs.length) Ai rfl rfl rfl (by simp)) rfl ?_
 refine AOL.Abp (y:=.bool _) _ [(14,_),(17,_)] rfl (tK.all ⟨Ent.Abm _ _,Ent.Abm _ _,trivial⟩) (fun hG=>Oi rfl rfl) rfl ?_
 refine Qp E2 (Ag (A5 (fun hc1=>?_) fun hc1=>?_))
 ·
  exact absurd hc1 (by simp)
 ·
  refine Bz (AW.seq (Ah (Qp Av (Ag (AW.block ?_)))))
  refine AW.Abo (fun (k:Nat)=>(⟨[(2,.ptr (Tv z)),(3,.ptr (Tv z)),(4,.bool false),(5,.int .i64 (k:Int))],H,38⟩:St)) (fun (k:Nat)=>k≤z.bs.length) (fun (k:Nat)=>z.bs.length-k) (0) ?_ (GS.weaken ⟨rfl,rfl,rfl,rfl,trivial⟩ (.refl _)) ?_
  · exact Nat.zero_le _
  ·
   rintro k hR
   refine AW.seq (Ah (Qp A2 (Qp (Qf [_]) (Qp Dk ?_))))
   refine Qp (Ak (n:=z.bs.length) Ai rfl rfl rfl (by simp)) ?_
   refine Qp Cj (Ag (A5 (fun hc2=>?_) fun hc2=>?_))
   ·
    obtain ⟨a,ha⟩:=B4 hc2
    have hlt:=Bb ha
    have hm:=List.mem_of_getElem? ha
    refine Bz (AW.seq (AW.block (AW.seq ?_)))
    refine AW.draw mixed (fun _=>True) trivial (by kernel_rfl) ?_
    refine Qn 0 rfl (Qf [_]) (Qn 1 rfl Dk (Qn 2 rfl A2 ?_))
    refine Qn 3 rfl (Af (c:=[Iq _,Iq _,Iq _]) Ai rfl rfl rfl rfl rfl rfl (by omega) (Bj ha)) ?_
    refine Qn 4 rfl (Ck [Iq _,Iq _,Iq _]) (Qn 5 rfl (Qf [_]) (Qn 6 rfl Dk (Qn 7 rfl A2 ?_)))
    refine Qn 8 rfl (Af (c:=[Iq _,Iq _,Iq _]) Ai rfl rfl rfl rfl rfl rfl (by omega) (Bj ha)) ?_
    refine Qn 9 rfl (Ck [Iq _,Iq _,Iq _]) ?_
    refine Qn 10 rfl (Hm Ai rfl rfl rfl rfl rfl) ?_
    refine Ju.done _ _ (by kernel_rfl) ?_
    refine Ae (A5 (fun hc3=>?_) fun hc3=>?_)
    ·
     exact absurd hc3 (by simp)
    ·
     refine AW.skip (Bs (Ae (AW.region (Qp A2 (Qp Fw (Qp Av (Ag ?_)))))))
     refine ⟨k+1,?_,?_,GS.weaken ⟨rfl,rfl,rfl,rfl,trivial⟩ (.refl _)⟩
     · exact hlt
     · omega
   ·
    refine AW.exit ?_
    refine A8 (A8 (Bw (Ae (Ah (Qp Bg (Ag (AW.ret ?_)))))))
    refine Qr (.bool _) ?_
    rfl
theorem zD (n:Int):Ax Tryz.prog 46 [.int .i64 n] (.agg (cE (iZ n))):=by
 refine Ax.body (n:=9) Ai Tryz.func46 rfl rfl rfl fun H=>?_
 refine Ah ?_
 refine Qe (Al (l:=[.int .i64 0,.sl 8 [],.int .i64 0,.int .i64 0,.int .i64 0,.int .i64 0,.int .i64 0,.str []]) (by kernel_rfl)) ?_
 rintro _ _ ⟨b2,rfl,rfl⟩
 refine Df ?_
 refine Qp (Qc rfl (Fy _)) ?_
 refine Qp (Qc rfl (Fy _)) ?_
 refine Qp A2 ?_
 refine Qp (Qc rfl (O4 _)) ?_
 refine Qp (Qc rfl (Lg _ _ _)) ?_
 refine Qp (Qc rfl (Lg _ _ _)) ?_
 refine Cn 0 [Iq _,_,Iq _,Iq _,Iq _,Iq _,Iq _,.str _] (_::_) (Ag (AW.ret ?_))
 refine ⟨.inr rfl,[.agg [Iq _,_,Iq _,Iq _,Iq _,Iq _,Iq _,.str _]],.cons (.box _ _ _ 0 _ _ _ _ rfl rfl rfl rfl rfl rfl) <| .nil,.cons _ (.refl _),?_⟩
 rfl
theorem tS (w:Int)(es:List Ex)(hel:es.length≤60)(hes:∀e∈es,At e≤1048576):Ax Tryz.prog 47 [.int .i64 w,.sl 8 (es.map Fu)] (.bool (kQ w es)):=by
 refine Ax.body (n:=27) Ai Tryz.func47 rfl rfl rfl fun H=>?_
 refine Ah (Qp Bg (Df ?_))
 refine Qp (Qc rfl (Zx)) ?_
 refine Qe (Al (l:=[.sl 2 [],.sl 2 []]) (by kernel_rfl)) ?_
 rintro _ _ ⟨b5,rfl,rfl⟩
 refine Cn 0 [_,_] (_::_) ?_
 refine AOL.ghost (GS.Abn (t:=5) 0 rfl rfl) ?_
 refine Df (Qp (Qf [_,_]) (Qp Dk (Qp (Qf [_]) (Qp Dk (Qp C4 ?_)))))
 refine Qp (Qc rfl (X8 qM (by decide) iB tW (by decide) es hel hes)) ?_
 refine Qp Mt (Qp Jo (Qp zU (Qp Jo (Qp Av (Qp V2 (Qp Av (Df (Qp A2 (Qp A7 ?_)))))))))
 refine Qp Br (Qg [] Qw A2 (Qg [] Qw A2 ?_))
 refine AOL.Abp (y:=.bool _) _ [(23,_),(24,_)] rfl (tK.all ⟨Ent.Abm _ _,Ent.Abm _ _,trivial⟩) (fun hG=>P_eql rfl rfl) rfl ?_
 refine Qp Ez (Qp Bg (Ag (AW.ret ?_)))
 refine Qr (.bool _) ?_
 rfl
theorem Lq (w:Int)(es:List Ex)(hel:es.length≤60)(hes:∀e∈es,At e≤1048576)(h:kQ w es=true):Ax Tryz.prog 47 [.int .i64 w,.sl 8 (es.map cE)] (.bool true):=by
 have h1:=tS w es hel hes
 rw [show es.map Fu=es.map cE from List.map_congr_left fun e _=>Jh e,h] at h1
 exact h1

set_option maxHeartbeats 1600000
set_option maxRecDepth 20000

theorem r_few1 (l:List Vl):Ax Tryz.prog 112 [.sl 3 (l.map cV)] (.bool (qG l)):=by
 refine Ax.body (n:=24) Ai Tryz.func112 rfl rfl rfl fun H=>?_
 refine Ah (Qp Bg (Ag (AW.seq (Ah (Qp Av (Ag (AW.block ?_)))))))
 refine AW.Abo (fun (k:Nat)=>(⟨[(0,.sl 3 (l.map cV)),(3,.int .i64 (k:Int))],H,24⟩:St)) (fun (k:Nat)=>k≤40∧(l.take k).any (fun v=>decide (128<v.text.length))=false) (fun (k:Nat)=>40-k) (0) ?_ (GS.weaken ⟨rfl,rfl,trivial⟩ (.refl _)) ?_
 · exact ⟨Nat.zero_le _,by simp⟩
 ·
  rintro k hR
  refine AW.seq (Ah (Qp A2 (Qp C4 ?_)))
  refine Qp (Ak (n:=l.length) Ai rfl rfl rfl (by simp)) ?_
  refine Qp Cj (Qp Br (Qg [] Qw A2 (Qg [(9,_)] Qw Cj (Qp Ez (Ag (A5 (fun hc1=>?_) fun hc1=>?_))))))
  ·
   rw [Bool.and_eq_true] at hc1
   have hk40:k<40:=by have:=of_decide_eq_true hc1.2;omega
   obtain ⟨a,ha⟩:=B4 hc1.1
   have hlt:=Bb ha
   have hm:=List.mem_of_getElem? ha
   refine Bz (AW.seq (AW.block (Ah (Qp C4 (Qp A2 ?_)))))
   refine Qp (Af (c:=[Iq _,Iq _,.str _]) Ai rfl rfl rfl rfl rfl rfl (by omega) (Bj ha)) ?_
   refine Qp Qf7 (Qp Vp ?_)
   refine Qp (Hp (n:=a.text.length) Ai rfl rfl rfl (rfl)) ?_
   refine Qp Hl (Ag (A5 (fun hc2=>?_) fun hc2=>?_))
   ·
    refine Ah (Qp Bg (Ag (AW.ret (Bc (Aj (Aj (Bc (Aj ?_))))))))
    refine Qr (.bool _) ?_
    exact congrArg AV.bool (yN ha hk40 hc2).symm
   ·
    refine AW.skip (Bs (Ae (AW.region (Qp A2 (Qp Fw (Qp Av (Ag ?_)))))))
    refine ⟨k+1,?_,?_,GS.weaken ⟨rfl,rfl,trivial⟩ (.refl _)⟩
    · exact ⟨hk40,rF ha hR.2 hc2⟩
    · omega
  ·
   refine AW.exit ?_
   refine A8 (A8 (Bw (Ae (Ah (Qp C4 ?_)))))
   refine Qp (Ak (n:=l.length) Ai rfl rfl rfl (by simp)) ?_
   refine Qp Cj (Qp Bg (Ag (AW.ret ?_)))
   refine Qr (.bool _) ?_
   exact congrArg AV.bool (xY hc1 hR.1 hR.2).symm
theorem r_FewE (e:Ev):Ax Tryz.prog 71 [.agg (Ou e)] (.bool (qG e.values)):=by
 refine Ax.body (n:=6) Ai Tryz.func71 rfl rfl rfl fun H=>?_
 refine Ah (Qp (Fz [Iq _,Iq _,Iq _,Iq _,_]) (Qp Bg (Df (Qp (Qf [_]) (Qp Dk ?_)))))
 refine Qp (Qc rfl (r_few1 e.values)) ?_
 refine Qp Bg (Ag (AW.ret ?_))
 refine Qr (.bool _) ?_
 rfl
theorem uU (l:List Ev):Ax Tryz.prog 33 [.sl 5 (l.map Ou)] (.bool (kK l)):=by
 refine Ax.body (n:=23) Ai Tryz.func33 rfl rfl rfl fun H=>?_
 refine Ah (Qp Bg (Ag (AW.seq (Ah (Qp Av (Ag (AW.block ?_)))))))
 refine AW.Abo (fun (k:Nat)=>(⟨[(0,.sl 5 (l.map Ou)),(3,.int .i64 (k:Int))],H,23⟩:St)) (fun (k:Nat)=>k≤20∧(l.take k).any (fun e=>!few1 e.values)=false) (fun (k:Nat)=>20-k) (0) ?_ (GS.weaken ⟨rfl,rfl,trivial⟩ (.refl _)) ?_
 · exact ⟨Nat.zero_le _,by simp⟩
 ·
  rintro k hR
  refine AW.seq (Ah (Qp A2 (Qp C4 ?_)))
  refine Qp (Ak (n:=l.length) Ai rfl rfl rfl (by simp)) ?_
  refine Qp Cj (Qp Br (Qg [] Qw A2 (Qg [(9,_)] Qw Cj (Qp Ez (Ag (A5 (fun hc1=>?_) fun hc1=>?_))))))
  ·
   rw [Bool.and_eq_true] at hc1
   have hk20:k<20:=by have:=of_decide_eq_true hc1.2;omega
   obtain ⟨a,ha⟩:=B4 hc1.1
   have hlt:=Bb ha
   have hm:=List.mem_of_getElem? ha
   refine Bz (AW.seq (AW.block (Ah (Qp C4 (Qp A2 ?_)))))
   refine Qp (Af (c:=[Iq _,Iq _,Iq _,Iq _,_]) Ai rfl rfl rfl rfl rfl rfl (by omega) (Bj ha)) ?_
   refine Qp (Ck [Iq _,Iq _,Iq _,Iq _,_]) ?_
   refine Qp (Qc rfl (r_FewE a)) ?_
   refine Qp Gj (Ag (A5 (fun hc2=>?_) fun hc2=>?_))
   ·
    refine Ah (Qp Bg (Ag (AW.ret (Bc (Aj (Aj (Bc (Aj ?_))))))))
    refine Qr (.bool _) ?_
    exact congrArg AV.bool (uO ha hk20 hc2).symm
   ·
    refine AW.skip (Bs (Ae (AW.region (Qp A2 (Qp Fw (Qp Av (Ag ?_)))))))
    refine ⟨k+1,?_,?_,GS.weaken ⟨rfl,rfl,trivial⟩ (.refl _)⟩
    · exact ⟨hk20,by rw [iS _ ha,hR.2,hc2];rfl⟩
    · omega
  ·
   refine AW.exit ?_
   refine A8 (A8 (Bw (Ae (Ah (Qp C4 ?_)))))
   refine Qp (Ak (n:=l.length) Ai rfl rfl rfl (by simp)) ?_
   refine Qp Nu (Qp Bg (Ag (AW.ret ?_)))
   refine Qr (.bool _) ?_
   exact congrArg AV.bool (xP hc1 hR.1 hR.2).symm
theorem Abe (T:List Sc)(hs:∀s∈T,Jn s)(e:Ev):Ax Tryz.prog 111 [.sl 2 (T.map Nx),.agg (Ou e)] (.int .i64 (Iz T e)):=by
 refine Ax.body (n:=83) Ai Tryz.func111 rfl rfl rfl fun H=>?_
 refine Ah (Qp (Fz [Iq _,Iq _,Iq _,Iq _,_]) (Qp Av (Ag (AW.seq (Ah (Qp (Qf [Iq _,Iq _,Iq _,Iq _,_]) (Qp Bt (Qp Cj (Qp Br ?_)))))))))
 refine Qg [] Qw (Qf [Iq _,Iq _,Iq _,Iq _,_]) (Qg [(12,_)] Qw Bt (Qg [(13,_)] Qw N7 (Qp E2 (Ag (A5 (fun hc1=>?_) fun hc1=>?_)))))
 ·
  refine Ah (Qp Av (Ag (Dr ?_)))
  refine Qr (Iq _) ?_
  have h0:Fj e=32:=by unfold Fj;rw [if_pos hc1]
  exact congrArg (AV.int .i64) (by unfold Iz;rw [h0];rfl)
 ·
  have hn0:(Fj e != 0)=false∨(decide (e.seq<0)||decide (1099511627776<e.seq)||decide (e.time<0)||decide (1099511627776<e.time))=true:=by
     unfold Fj;rw [Ci hc1];cases (decide (e.seq<0)||decide (1099511627776<e.seq)||decide (e.time<0)||decide (1099511627776<e.time)) <;> simp
  refine Bz (AW.seq (Ah (Qp (Qf [Iq _,Iq _,Iq _,_]) (Qp Bt (Qp Cj (Qp Br (Qg [] Qw (Qf [Iq _,Iq _,Iq _,_]) (Qg [(20,_)] Qw Bt (Qg [(21,_)] Qw Hl ?_)))))))))
  refine Qp E2 (Qp Br (Qg [] Qw (Qf [Iq _,_]) (Qg [(25,_)] Qw Bt (Qg [(26,_)] Qw Cj (Qp E2 (Qp Br (Qg [] Qw (Qf [Iq _,_]) (Qg [(30,_)] Qw Bt (Qg [(31,_)] Qw Hl ?_)))))))))
  refine Qp E2 (Ag (A5 (fun hc2=>?_) fun hc2=>?_))
  ·
   refine Ah (Qp Av (Ag (Dr ?_)))
   refine Qr (Iq _) ?_
   have h0:Fj e=2:=by unfold Fj;rw [Ci hc1,if_pos hc2]
   exact congrArg (AV.int .i64) (by unfold Iz;rw [h0];rfl)
  ·
   have hn1:(Fj e != 0)=false:=hn0.resolve_right (by rw [hc2];decide)
   refine Bz (AW.seq (Ah (Qp (Qf [Iq _,Iq _,_]) (Qp Bt (Qp Cj (Qp Br (Qg [] Qw (Qf [Iq _,Iq _,_]) (Qg [(38,_)] Qw Bt (Qg [] Qw C4 ?_)))))))))
   refine AOL.Abp (y:=Iq _) _ [(40,_)] rfl (tK.all ⟨Ent.Abm _ _,trivial⟩) (fun hG=>Ak (n:=T.length) Ai rfl rfl rfl (by simp)) rfl ?_
   refine AOL.Abp (y:=.bool _) _ [(39,_),(41,_)] rfl (tK.all ⟨Ent.Abm _ _,Ent.Abm _ _,trivial⟩) (fun hG=>Vc rfl rfl) rfl ?_
   refine Qp E2 (Ag (A5 (fun hc3=>?_) fun hc3=>?_))
   ·
    refine Ah (Qp Av (Ag (Dr ?_)))
    refine Qr (Iq _) ?_
    exact congrArg (AV.int .i64) (by unfold Iz;rw [Ci hn1,if_pos hc3])
   ·
    have hty:=ty_in hc3
    have hsc:T[e.type.toNat]? = some ((T[e.type.toNat]?).getD sc0):=cB sc0 hty.2
    refine Bz (Ah (Qp C4 (Qp (Qf [Iq _,Iq _,_]) (Qp Bt ?_))))
    refine Qp (Af (c:=[.str _,_]) Ai rfl rfl rfl rfl rfl rfl (hty.1) (Bj hsc)) ?_
    refine Qp (Qf [_]) (Qp Dk (Qp V2 (Ag (AW.seq (Ah (Qp (Qf [_]) (Qp Dk ?_)))))))
    refine Qp (Ak (n:=e.values.length) Ai rfl rfl rfl (by simp)) ?_
    refine Qp C4 ?_
    refine Qp (Ak (n:=(Er T e).length) Ai rfl rfl rfl (by simp [Er])) ?_
    refine Qp Cq (Ag (A5 (fun hc4=>?_) fun hc4=>?_))
    ·
     refine Ah (Qp Av (Ag (Dr ?_)))
     refine Qr (Iq _) ?_
     exact congrArg (AV.int .i64) (by unfold Iz;rw [Ci hn1,Ci hc3,if_pos hc4])
    ·
     have hfl:=lM hc4
     have hfb:(Er T e).length≤1048576:=(hs _ (List.mem_of_getElem? hsc)).2.1
     refine Bz (AW.seq (Ah (Qp Av (Ag (AW.block ?_)))))
     refine AW.Abo (fun (k:Nat)=>(⟨[(3,.ptr (Ou e)),(5,.sl 2 ((Er T e).map cFi)),(6,.int .i64 (k:Int))],H,83⟩:St)) (fun (k:Nat)=>k≤e.values.length∧N0 e.values (Er T e)=N0 (e.values.drop k) ((Er T e).drop k)) (fun (k:Nat)=>e.values.length-k) (0) ?_ (GS.weaken ⟨rfl,rfl,rfl,trivial⟩ (.refl _)) ?_
     · exact ⟨Nat.zero_le _,rfl⟩
     ·
      rintro k hR
      refine AW.seq (Ah (Qp A2 (Qp C4 ?_)))
      refine Qp (Ak (n:=(Er T e).length) Ai rfl rfl rfl (by simp)) ?_
      refine Qp Cj (Ag (A5 (fun hc5=>?_) fun hc5=>?_))
      ·
       have hk5:k<(Er T e).length:=by have:=of_decide_eq_true hc5;omega
       obtain ⟨a,ha⟩:=B4 (l:=e.values) (k:=k) (by simp;omega)
       have hlt:=Bb ha
       have hm:=List.mem_of_getElem? ha
       have hfk:(Er T e)[k]? = some (((Er T e)[k]?).getD fi0):=cB fi0 (by omega)
       have hstep:=rZ ha hfk
       refine Bz (AW.seq (AW.block (AW.seq (Ah (Qp (Qf [_]) (Qp Dk (Qp A2 ?_)))))))
       refine Qp (Af (c:=[Iq _,Iq _,.str _]) Ai rfl rfl rfl rfl rfl rfl (by omega) (Bj ha)) ?_
       refine Qp (Ck [Iq _,Iq _,.str _]) ?_
       refine Qp (Qc rfl (c79 a)) ?_
       refine Qp Av (Df (Qp A2 (Qp Cq (Ag (A5 (fun hc6=>?_) fun hc6=>?_)))))
       ·
        refine Ah (Qp A2 (Qp Av (Ag (Dr (Bc (Aj (Aj (Bc (Aj ?_)))))))))
        refine Qr (Iq _) ?_
        have he:Tk a (((Er T e)[k]?).getD fi0)=Ap a:=by unfold Tk;rw [if_pos hc6]
        exact congrArg (AV.int .i64) (by unfold Iz;rw [Ci hn1,Ci hc3,Ci hc4,hR.2,hstep,he,if_pos hc6])
       ·
        refine Bz (AW.seq ?_)
        refine AW.draw mixed (fun _=>True) trivial (by kernel_rfl) ?_
        refine Qn 0 rfl (Qf [_]) (Qn 1 rfl Dk (Qn 2 rfl A2 ?_))
        refine Qn 3 rfl (Af (c:=[Iq _,Iq _,.str _]) Ai rfl rfl rfl rfl rfl rfl (by omega) (Bj ha)) ?_
        refine Qn 4 rfl Jr (Qn 5 rfl Bt (Qn 6 rfl C4 (Qn 7 rfl A2 ?_)))
        refine Qn 8 rfl (Af (c:=[.str _,Iq _]) Ai rfl rfl rfl rfl rfl rfl (by omega) (Bj hfk)) ?_
        refine Qn 9 rfl (Qf [Iq _]) (Qn 10 rfl Bt (Qn 11 rfl Cq ?_))
        refine Ju.done _ _ (by kernel_rfl) ?_
        refine Ae (A5 (fun hc7=>?_) fun hc7=>?_)
        ·
         refine Ah (Qp Av (Ag (AW.ret (Bc (Aj (Aj (Bc (Aj ?_))))))))
         refine Qr (Iq _) ?_
         have he:Tk a (((Er T e)[k]?).getD fi0)=9:=by unfold Tk;rw [Ci hc6,if_pos hc7]
         exact congrArg (AV.int .i64) (by unfold Iz;rw [Ci hn1,Ci hc3,Ci hc4,hR.2,hstep,he];rfl)
        ·
         refine AW.skip (Bs (Ae (AW.region (Qp A2 (Qp Fw (Qp Av (Ag ?_)))))))
         refine ⟨k+1,?_,?_,GS.weaken ⟨rfl,rfl,rfl,trivial⟩ (.refl _)⟩
         · exact ⟨hlt,by rw [hR.2,hstep,if_neg];unfold Tk;rw [Ci hc6,Ci hc7];decide⟩
         · omega
      ·
       have hd:=Dh hc5
       refine AW.exit ?_
       refine A8 (A8 (Bw (Ae (Ah (Qp Av (Ag (AW.ret ?_)))))))
       refine Qr (Iq _) ?_
       exact congrArg (AV.int .i64) (by unfold Iz;rw [Ci hn1,Ci hc3,Ci hc4,hR.2,hd,tE])
theorem rB (T:List Sc)(hl:T.length≤1048576)(hs:∀s∈T,Jn s)(e:Ev):Ax Tryz.prog 70 [.sl 2 (T.map Nx),.agg (Ou e)] (.int .i64 (F2 T e)):=by
  refine Ax.body (n:=14) Ai Tryz.func70 rfl rfl rfl fun H=>?_
  refine AW.seq (AW.region (Qp (Fz [Iq _,Iq _,Iq _,Iq _,_]) (Qp Av (AOL.nil (Ae (AW.seq (AW.seq (AW.region (Qp C4 ?_)))))))))
  refine Qp (Qc rfl (c59 T hl hs)) ?_
  refine Qp Av (AOL.nil (Ae (AW.seq (AW.region (Qp A2 (Qp Cq (AOL.nil (Ae (A5 (fun hc1=>?_) fun hc1=>?_)))))))))
  · skip
    refine AW.seq (AW.region (Qp A2 (Qp Av (AOL.nil (Ae (Dr ?_))))))
    refine Qr (Iq _) ?_
    try simp only [Cw,Bool.and_true] at *
    first
      | (simp only [Ad,F2];(first | rw [if_pos hc1] | skip);first | done | rfl)
      | (try simp only [Bool.not_eq_true',Bool.not_eq_false'] at *
         first
         | (simp only [Ad,F2, *,Bool.false_eq_true,↓reduceIte,Bool.true_or,Bool.or_true,Bool.false_or,Bool.or_false,Bool.true_and,Bool.and_true,Bool.false_and,Bool.and_false,Bool.not_true,Bool.not_false];done)
         | (simp [Ad,F2, *];done)
         | (simp_all [Ad,F2];done))
      | skip
  · skip
    refine Bz (AW.seq (AW.region (Qp C4 (Qp (Ck [Iq _,Iq _,Iq _,Iq _,_]) ?_))))
    refine Qp (Qc rfl (Abe T hs e)) ?_
    refine Qp Av (AOL.nil (Ae (AW.ret ?_)))
    refine Qr (Iq _) ?_
    try simp only [Cw,Bool.and_true] at *
    first
      | (simp only [Ad,F2];(first | rw [iN hc1] | skip);first | done | rfl)
      | (try simp only [Bool.not_eq_true',Bool.not_eq_false'] at *
         first
         | (simp only [Ad,F2, *,Bool.false_eq_true,↓reduceIte,Bool.true_or,Bool.or_true,Bool.false_or,Bool.or_false,Bool.true_and,Bool.and_true,Bool.false_and,Bool.and_false,Bool.not_true,Bool.not_false];done)
         | (simp [Ad,F2, *];done)
         | (simp_all [Ad,F2];done))
      | skip
theorem nH (T:List Sc)(hl:T.length≤1048576)(hs:∀s∈T,Jn s)(V:List Va)(hvl:V.length≤1048576)(l:List Ev)(hel:l.length≤1048576):Ax Tryz.prog 32 [.sl 2 (T.map Nx),.sl 2 (V.map Uw),.sl 5 (l.map Ou)] (.bool (Jm T V l)):=by
 refine Ax.body (n:=45) Ai Tryz.func32 rfl rfl rfl fun H=>?_
 refine Ah (Qp Bg (Ag (AW.seq (Ah (Qp Av (Ag (AW.block ?_)))))))
 refine AW.Abo (fun (k:Nat)=>(⟨[(0,.sl 2 (T.map Nx)),(1,.sl 2 (V.map Uw)),(2,.sl 5 (l.map Ou)),(7,.int .i64 (k:Int))],H,45⟩:St)) (fun (k:Nat)=>k≤l.length∧((l.zip V).take k).any (Pv T)=false) (fun (k:Nat)=>l.length-k) (0) ?_ (GS.weaken ⟨rfl,rfl,rfl,rfl,trivial⟩ (.refl _)) ?_
 · exact ⟨Nat.zero_le _,by simp⟩
 ·
  rintro k hR
  refine AW.seq (Ah (Qp A2 (Qp C4 ?_)))
  refine Qp (Ak (n:=l.length) Ai rfl rfl rfl (by simp)) ?_
  refine Qp Cj (Qp Br (Qg [] Qw A2 (Qg [] Qw C4 ?_)))
  refine AOL.Abp (y:=Iq _) _ [(14,_)] rfl (tK.all ⟨Ent.Abm _ _,trivial⟩) (fun hG=>Ak (n:=V.length) Ai rfl rfl rfl (by simp)) rfl ?_
  refine AOL.Abp (y:=.bool _) _ [(13,_),(15,_)] rfl (tK.all ⟨Ent.Abm _ _,Ent.Abm _ _,trivial⟩) (fun hG=>P_lss rfl rfl) rfl ?_
  refine Qp Ez (Ag (A5 (fun hc1=>?_) fun hc1=>?_))
  ·
   rw [Bool.and_eq_true] at hc1
   obtain ⟨a,ha⟩:=B4 hc1.1
   have hlt:=Bb ha
   have hm:=List.mem_of_getElem? ha
   obtain ⟨w,hw⟩:=B4 hc1.2
   have hltw:=Bb hw
   have hzw:=oX ha hw
   refine Bz (AW.seq (AW.block (AW.seq ?_)))
   refine AW.draw mixed (fun _=>True) trivial (by kernel_rfl) ?_
   refine Qn 0 rfl C4 (Qn 1 rfl C4 (Qn 2 rfl A2 ?_))
   refine Qn 3 rfl (Af (c:=[Iq _,Iq _,Iq _,Iq _,_]) Ai rfl rfl rfl rfl rfl rfl (by omega) (Bj ha)) ?_
   refine Qn 4 rfl (Ck [Iq _,Iq _,Iq _,Iq _,_]) ?_
   refine Qn 5 rfl (Qc rfl (rB T hl hs a)) ?_
   refine Qn 6 rfl Cq (Qn 7 rfl Br (Qo 8 rfl [] Qw C4 (Qo 9 rfl [] Qw A2 ?_)))
   refine Ju.pure _ _ 10 _ _ rfl (by kernel_rfl) (by kernel_rfl) rfl (.opt _ (.ptr _) [(28,_),(29,_)] rfl (tK.all ⟨Ent.Abm _ _,Ent.Abm _ _,trivial⟩) (fun hG=>Af (c:=[Iq _,Iq _,Iq _,Iq _,_]) Ai rfl rfl rfl rfl rfl rfl (by omega) (Bj ha)) rfl) ?_
   refine Qo 11 rfl [(30,_)] Qw (Qf [Iq _,Iq _,_]) (Qo 12 rfl [(31,_)] Qw Bt (Qo 13 rfl [] Qw C4 (Qo 14 rfl [] Qw A2 ?_)))
   refine Ju.pure _ _ 15 _ _ rfl (by kernel_rfl) (by kernel_rfl) rfl (.opt _ (.ptr _) [(33,_),(34,_)] rfl (tK.all ⟨Ent.Abm _ _,Ent.Abm _ _,trivial⟩) (fun hG=>Af (c:=[.str _,Iq _]) Ai rfl rfl rfl rfl rfl rfl (by omega) (Bj hw)) rfl) ?_
   refine Qo 16 rfl [(35,_)] Qw (Qf [Iq _]) (Qo 17 rfl [(36,_)] Qw Bt ?_)
   refine Ju.pure _ _ 18 _ _ rfl (by kernel_rfl) (by kernel_rfl) rfl (.opt _ (.bool _) [(32,_),(37,_)] rfl (tK.all ⟨Ent.Abm _ _,Ent.Abm _ _,trivial⟩) (fun hG=>Oi rfl rfl) rfl) ?_
   refine Qn 19 rfl E2 ?_
   refine Ju.done _ _ (by kernel_rfl) ?_
   refine Ae (A5 (fun hc2=>?_) fun hc2=>?_)
   ·
    refine Ah (Qp Bg (Ag (AW.ret (Bc (Aj (Aj (Bc (Aj ?_))))))))
    refine Qr (.bool _) ?_
    exact Eq.trans rfl (congrArg (fun q:Bool=>AV.bool q) ((by unfold Jm;rw [if_pos (eC hzw hc2)]:Jm T V l=false))).symm
   ·
    refine AW.skip (Bs (Ae (AW.region (Qp A2 (Qp Fw (Qp Av (Ag ?_)))))))
    refine ⟨k+1,?_,?_,GS.weaken ⟨rfl,rfl,rfl,rfl,trivial⟩ (.refl _)⟩
    · exact ⟨hlt,Xu hR.2 hzw hc2⟩
    · omega
  ·
   have hte:=Aa5 hc1
   have hall:=hR.2
   rw [hte] at hall
   refine AW.exit ?_
   refine A8 (A8 (Bw (Ae (Ah (Qp C4 ?_)))))
   refine Qp (Ak (n:=l.length) Ai rfl rfl rfl (by simp)) ?_
   refine Qp C4 ?_
   refine Qp (Ak (n:=V.length) Ai rfl rfl rfl (by simp)) ?_
   refine Qp A7 (Qp Bg (Ag (AW.ret ?_)))
   refine Qr (.bool _) ?_
   exact Eq.trans rfl (congrArg (fun q:Bool=>AV.bool q) ((by unfold Jm;rw [Ci hall]:Jm T V l=_))).symm

set_option maxHeartbeats 1600000
set_option maxRecDepth 20000

theorem r_Bind (l:List Ev)(hel:l.length≤1048576):Ax Tryz.prog 26 [.sl 5 (l.map Ou)] (.agg (cEnv (Dz l))):=by
 refine Ax.body (n:=22) Ai Tryz.func26 rfl rfl rfl fun H=>?_
 refine Ah ?_
 refine Qe (Al (l:=[.sl 1 []]) (by kernel_rfl)) ?_
 rintro _ _ ⟨b2,rfl,rfl⟩
 refine Df ?_
 refine Qe (Al (l:=[.val (.slice none 0 0)]) (by kernel_rfl)) ?_
 rintro _ _ ⟨b3,rfl,rfl⟩
 refine AOL.ghost (GS.cellRow 0 0 58 1 rfl rfl rfl rfl) ?_
 refine Ag (AW.seq (Ah (Qp Av (Ag (AW.block ?_)))))
 refine AW.Abo (fun (p:Nat×List (List AV)×Value)=>(⟨[(0,.sl 5 (l.map Ou)),(2,.val (.pointer (some ⟨b2,0,none⟩))),(3,.val (.pointer (some ⟨b3,0,none⟩))),(4,.int .i64 (p.1:Int))],.row p.2.2 p.2.1.length 58 1 :: .box b3 47 [.row p.2.2 1 p.2.1] :: .box b2 47 [.sl 1 []]::H,22⟩:St)) (fun (p:Nat×List (List AV)×Value)=>p.1≤l.length∧p.2.1=((l.take p.1).map fun e=>[e]).map sV) (fun (p:Nat×List (List AV)×Value)=>l.length-p.1) ((0,[],.slice none 0 0)) ?_ (GS.weaken ⟨rfl,rfl,rfl,rfl,trivial⟩ (.refl _)) ?_
 · exact ⟨Nat.zero_le _,rfl⟩
 ·
  rintro p hR
  refine AW.seq (Ah (Qp A2 (Qp C4 ?_)))
  refine Qp (Ak (n:=l.length) Ai rfl rfl rfl (by simp)) ?_
  refine Qp Cj (Ag (A5 (fun hc1=>?_) fun hc1=>?_))
  ·
   obtain ⟨a,ha⟩:=B4 hc1
   have hlt:=Bb ha
   have hm:=List.mem_of_getElem? ha
   have hsc:∀c∈p.2.1,Bh c=true:=by rw [hR.2];exact Fl fun _=>rfl
   refine Bz (AW.seq (AW.block ?_))
   refine AW.draw mixed (fun H'=>_∈H') (List.mem_of_getElem? (i:=1) rfl) (by kernel_rfl) ?_
   refine Qn 0 rfl Ip ?_
   refine Qn 1 rfl (OpP.Abr (fun k=>A0 (k:=k) (c:=.row _ _ _) Ai rfl rfl rfl rfl) (fun _ h=>h)) ?_
   refine Qn 2 rfl C4 (Qn 3 rfl A2 ?_)
   refine Qn 4 rfl (Af (c:=[Iq _,Iq _,Iq _,Iq _,_]) Ai rfl rfl rfl rfl rfl rfl (by omega) (Bj ha)) ?_
   refine Qn 5 rfl (Ck [Iq _,Iq _,Iq _,Iq _,_]) ?_
   refine Qn 6 rfl (A1 (es:=[[Iq _,Iq _,Iq _,Iq _,_]]) Ai rfl rfl rfl rfl rfl rfl rfl rfl rfl) ?_
   refine Qn 7 rfl (A1 (es:=[[_]]) Ai rfl rfl rfl rfl rfl rfl rfl rfl rfl) ?_
   refine Ju.eff _ _ 8 _ _ rfl (by kernel_rfl) rfl rfl (Dm (k:=0) Ai rfl rfl rfl rfl rfl rfl rfl rfl (He rfl) (hsc) (by simp [hR.2];omega) (by simp [hR.2,maxLen];omega)) (by rintro _ _ ⟨v19,rfl,rfl⟩;simp) ?_
   rintro _ _ ⟨v19,rfl,rfl⟩
   refine Qn 9 rfl Ip ?_
   refine Ju.last _ _ 10 _ _ rfl (by kernel_rfl) rfl rfl (C6 (k:=1) (v:=.row _ _ _) (cs':=[_]) (H2:=_::_::_::_) Ai rfl rfl rfl rfl (rfl) rfl rfl rfl rfl) (by kernel_rfl) ?_
   rintro _ _ ⟨rfl,rfl⟩
   refine Bs (Ae (AW.region (Qp A2 (Qp Fw (Qp Av (Ag ?_))))))
   refine ⟨(p.1+1,p.2.1 ++ [sV [a]],v19),?_,?_,GS.weaken ⟨rfl,rfl,rfl,rfl,trivial⟩ (.refl _)⟩
   · exact ⟨hlt,by simp only;rw [Cr ha,hR.2];simp⟩
   · simp only;omega
  ·
   have hte:=C2 hc1
   obtain ⟨k,es,rv⟩:=p
   simp only at hR hte
   obtain rfl:es=(Dz l).map sV:=by rw [hR.2,hte];rfl
   refine AW.exit ?_
   refine A8 (A8 (Bw (Ae (Ah ?_))))
   refine AOL.ghost (GS.cell 1 0 rfl rfl rfl rfl Hd) ?_
   refine AOL.Abs (B1 (k:=1) (l:=[_]) Ai rfl rfl rfl rfl rfl) rfl rfl ?_
   refine Cn 2 [_] (_::_::_::_) (Ag (AW.ret ?_))
   refine ⟨.inr rfl,[.agg [_]],.cons (.box _ _ _ 2 _ _ _ _ rfl rfl rfl rfl rfl rfl) <| .nil,.cons _ (.cons _ (.cons _ (.refl _))),?_⟩
   rfl

end Go.Proofs.YtkddpedfbicbeaaGreatDoor
