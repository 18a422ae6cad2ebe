/-
  Walks of layer 11: classes of strings. No condition.
-/
import Derived.Test.YtkddpedfbicbeaaGreatDoorAz
import Derived.Test.YtkddpedfbicbeaaGreatDoorK18
import Derived.Test.YtkddpedfbicbeaaGreatDoorY7b
import Derived.KernelRfl
namespace Go.Proofs.YtkddpedfbicbeaaGreatDoor
open Go Go.Aw
set_option maxHeartbeats 3200000
set_option maxRecDepth 20000
set_option linter.unusedVariables false
set_option linter.unusedSimpArgs false

theorem On (e:Ex):Av Tryz.prog 164 [.agg (cE e)] (.agg (Lb (B9 e))):=by
 refine Av.body (n:=18) Ai Tryz.func164 rfl rfl rfl fun H=>?_
 refine Ah (Qp K8 ?_)
 refine Qe (Al (l:=[.bool false,.str [],.int .i64 0,.int .i64 0,.int .i64 0]) (by kernel_rfl)) ?_
 rintro _ _ ⟨b2,rfl,rfl⟩
 refine Ag (AW.seq (Ah (Qp Ks (Qp Bs (Qp A5 (Ag (A3 (fun hc1=>?_) fun hc1=>?_)))))))
 ·
  refine Ah (Qp Jp (Qp Qf7 (Qp Vr (Qp (Ep [.bool _,.str _,Iq _,Iq _,Iq _]) ?_))))
  refine Cm 0 [.bool _,.str _,Iq _,Iq _,Iq _] (_::_) ?_
  refine Ag (Dr ?_)
  refine ⟨.inr rfl,[.agg [.bool _,.str _,Iq _,Iq _,Iq _]],.cons (.box _ _ _ 0 _ _ _ _ rfl rfl rfl rfl rfl rfl) <| .nil,.cons _ (.refl _),?_⟩
  exact Eq.trans rfl (congrArg (fun q:Wd=>AV.agg (Lb q)) (cA hc1)).symm
 ·
  refine Bx (Ah (Qp Ks (Qp Bs (Qp Xo (Qp Bs (Qp Q2 (Qp Bs (Qp (Ep [Iq _,Iq _,Iq _]) (Qp (Ep [.bool _,.str _,Iq _,Iq _,Iq _]) ?_)))))))))
  refine Cm 0 [.bool _,.str _,Iq _,Iq _,Iq _] (_::_) ?_
  refine Ag (AW.ret ?_)
  refine ⟨.inr rfl,[.agg [.bool _,.str _,Iq _,Iq _,Iq _]],.cons (.box _ _ _ 0 _ _ _ _ rfl rfl rfl rfl rfl rfl) <| .nil,.cons _ (.refl _),?_⟩
  exact Eq.trans rfl (congrArg (fun q:Wd=>AV.agg (Lb q)) (bR hc1)).symm
theorem d_of (m:Nat)(w:Wm)(hw:Ru w)(x:Wd)(R:List HO):Dv Tryz.prog 163 (.kmap m (wE w)::R) [.val (.map (some m)),.agg (Lb x)] (fun r H'=>r = .agg (Lb (Cc w x))∧H' = .kmap m (wE w)::R):=by
 refine Dv.body (n:=17) Ai Tryz.func163 rfl rfl rfl ?_
 refine Ah ?_
 refine Qe (U7 (v:=.agg _) (cs:=[.bool _,.str _,Iq _,Iq _,Iq _]) rfl rfl (rfl)) ?_
 rintro _ _ ⟨b3,rfl,rfl⟩
 refine Qe (Al (l:=[.bool false,.str [],.int .i64 0,.int .i64 0,.int .i64 0]) (by kernel_rfl)) ?_
 rintro _ _ ⟨b4,rfl,rfl⟩
 refine Ag (AW.block ?_)
 refine AW.Aae (fun (p:Nat×Wd)=>(⟨[(0,.val (.map (some m))),(3,.val (.pointer (some ⟨b3,0,none⟩))),(4,.val (.pointer (some ⟨b4,0,none⟩)))],.box b4 214 [.bool false,.str [],.int .i64 0,.int .i64 0,.int .i64 0] :: .box b3 214 (Lb p.2) :: .kmap m (wE w)::R,17⟩:St)) (fun (p:Nat×Wd)=>qS w p.1 p.2∧Cc w x=Qj w p.1 p.2) (fun (p:Nat×Wd)=>p.1) ((w.length,x)) ?_ (GS.weaken ⟨rfl,rfl,rfl,trivial⟩ (.refl _)) ?_
 · exact ⟨Rp w x,rfl⟩
 ·
  rintro p hR
  refine AW.block (Ah (Qp H0 ?_))
  refine AOL.Aai (Bz (k:=1) (l:=[.bool _,.str _,Iq _,Iq _,Iq _]) Ai rfl rfl rfl rfl rfl) rfl rfl ?_
  refine AOL.Aai (uF (i:=2) (eq:=Jq p.2) Ai rfl rfl rfl rfl rfl (by kernel_rfl) rfl rfl (rfl) (wE_eq p.2 w) (look_w p.2 w) (has_w p.2 w)) rfl rfl ?_
  refine Qp Mv ?_
  refine Qp (Cb (v:=.agg [.bool _,.str _,Iq _,Iq _,Iq _]) rfl rfl) ?_
  refine Qp eN ?_
  refine Qe (Al (l:=[.bool false,.str [],.int .i64 0,.int .i64 0,.int .i64 0]) (by kernel_rfl)) ?_
  rintro _ _ ⟨b5,rfl,rfl⟩
  refine Cm 0 [.bool _,.str _,Iq _,Iq _,Iq _] (_::_::_::_::_) ?_
  refine Qp Be ?_
  refine AOL.ghost (GS.Aad (t:=5) 0 rfl rfl) ?_
  refine Ag (AW.seq (Ah (Qp Bp (Qp Ge (Ag (A3 (fun hc1=>?_) fun hc1=>?_))))))
  ·
   have hnn:=iF hc1
   refine Ah ?_
   refine AOL.Aai (Bz (k:=1) (l:=[.bool _,.str _,Iq _,Iq _,Iq _]) Ai rfl rfl rfl rfl rfl) rfl rfl ?_
   refine Cm 0 [.bool _,.str _,Iq _,Iq _,Iq _] (_::_::_::_) ?_
   refine Ag (Dr (Ba (Aj (Ba ?_))))
   refine ⟨.inr rfl,[.agg [.bool _,.str _,Iq _,Iq _,Iq _]],.cons (.box _ _ _ 0 _ _ _ _ rfl rfl rfl rfl rfl rfl) <| .nil,_,.cons _ (.cons _ (.refl _)),?_⟩
   exact ⟨congrArg (fun q:Wd=>AV.agg (Lb q)) ((hR.2.trans (Vx hnn)).symm),rfl⟩
  ·
   have hyy:=is_some (d:=wd0) hc1
   have hst:=T8 hw hR.1 hyy
   refine Bx (AW.region (Qp (Ck [.bool _,.str _,Iq _,Iq _,Iq _]) ?_))
   refine Cm 1 [.bool _,.str _,Iq _,Iq _,Iq _] (_::_::_::_) ?_
   refine AOL.nil (Bq (Ae ?_))
   refine ⟨(p.1-1,(F9 w p.2).getD wd0),?_,?_,GS.weaken ⟨rfl,rfl,rfl,trivial⟩ (.refl _)⟩
   · exact ⟨hst.2,hR.2.trans (dY hst.1 hyy)⟩
   · have:=hst.1;simp only;omega
theorem Sf (m:Nat)(w:Wm)(hw:Ru w)(x:Wd):∀(H:List HO) (k:Nat),H[k]? = some (.kmap m (wE w))→Dv Tryz.prog 163 H [.val (.map (some m)),.agg (Lb x)] fun r' H'=>r' = .agg (Lb (Cc w x))∧H'=H:=
 Dv.atFront (d_of m w hw x)
theorem d_str2 (bw m:Nat)(w:Wm)(x y:Wd)(hx:F9 w x=none)(hy:F9 w y=none)(R:List HO):Dv Tryz.prog 165 (.box bw 156 [.val (.map (some m))] :: .kmap m (wE w)::R) [.agg (Lb x),.agg (Lb y),.val (.pointer (some ⟨bw,0,none⟩))] (fun r H'=>r = .bool (Nr w x y).2∧H' = .box bw 156 [.val (.map (some m))] :: .kmap m (wE (Nr w x y).1)::R):=by
 refine Dv.body (n:=25) Ai Tryz.func165 rfl rfl rfl ?_
 refine Ah ?_
 refine Qe (U7 (v:=.agg _) (cs:=[.bool _,.str _,Iq _,Iq _,Iq _]) rfl rfl (rfl)) ?_
 rintro _ _ ⟨b3,rfl,rfl⟩
 refine Qe (U7 (v:=.agg _) (cs:=[.bool _,.str _,Iq _,Iq _,Iq _]) rfl rfl (rfl)) ?_
 rintro _ _ ⟨b4,rfl,rfl⟩
 refine Qp Be (Ag ?_)
 refine AW.cut (fun (p:Wd×Wd)=>(⟨[(2,.val (.pointer (some ⟨bw,0,none⟩))),(3,.val (.pointer (some ⟨b3,0,none⟩))),(4,.val (.pointer (some ⟨b4,0,none⟩)))],.box b4 214 (Lb p.2) :: .box b3 214 (Lb p.1) :: .box bw 156 [.val (.map (some m))] :: .kmap m (wE w)::R,25⟩:St)) (fun (p:Wd×Wd)=>F9 w p.1=none∧Nr w x y=(w ++ [p],true)) ?_ ?_
 ·
  refine AW.block (Ah ?_)
  refine AOL.Aai (Bz (k:=1) (l:=[.bool _,.str _,Iq _,Iq _,Iq _]) Ai rfl rfl rfl rfl rfl) rfl rfl ?_
  refine AOL.Aai (Bz (k:=0) (l:=[.bool _,.str _,Iq _,Iq _,Iq _]) Ai rfl rfl rfl rfl rfl) rfl rfl ?_
  refine Qp (P1 (r:=eF x y) Ai rfl rfl rfl rfl (Ng x y)) ?_
  refine Qp Be (Ag (A3 (fun hc1=>?_) fun hc1=>?_))
  ·
   refine Ah (Qp Be (Ag (AW.ret (Ba (Aj ?_)))))
   refine ⟨.inr rfl,[.bool _],.cons (.tmp _ _ rfl) <| .nil,_,.cons _ (.cons _ (.refl _)),?_⟩
   exact ⟨congrArg (fun q:Wm×Bool=>AV.bool q.2) (wD hc1).symm,congrArg (fun q:Wm×Bool=>(.box bw 156 [.val (.map (some m))] :: .kmap m (wE q.1)::R:List HO)) (wD hc1).symm⟩
  ·
   refine Ah (Qp Ir ?_)
   refine AOL.Aai (Ax (k:=1) (c:=.bool _) Ai rfl rfl rfl rfl) rfl rfl ?_
   refine Qp Bp (Qg [] Qw Ir ?_)
   refine AOL.gk (y:=.bool _) _ [(14,_)] rfl (rX.all ⟨Ent.Aac _ _,trivial⟩) (fun hG=>Ax (k:=0) (c:=.bool _) Ai rfl rfl rfl rfl) rfl rfl ?_
   refine Qp E1 (Qp Be (Ag (A3 (fun hc2=>?_) fun hc2=>?_)))
   ·
    refine Ah (Qp Be (Ag (AW.ret (Ba (Aj ?_)))))
    refine ⟨.inr rfl,[.bool _],.cons (.tmp _ _ rfl) <| .nil,_,.cons _ (.cons _ (.refl _)),?_⟩
    exact ⟨congrArg (fun q:Wm×Bool=>AV.bool q.2) (xI hc1 hc2).symm,congrArg (fun q:Wm×Bool=>(.box bw 156 [.val (.map (some m))] :: .kmap m (wE q.1)::R:List HO)) (xI hc1 hc2).symm⟩
   ·
    refine Ah (Qp Ir ?_)
    refine AOL.Aai (Ax (k:=1) (c:=.bool _) Ai rfl rfl rfl rfl) rfl rfl ?_
    refine Qp Be (Ag (A3 (fun hc3=>?_) fun hc3=>?_))
    ·
     refine AW.region ?_
     refine AOL.Aai (Bz (k:=0) (l:=[.bool _,.str _,Iq _,Iq _,Iq _]) Ai rfl rfl rfl rfl rfl) rfl rfl ?_
     refine AOL.Aai (Bz (k:=1) (l:=[.bool _,.str _,Iq _,Iq _,Iq _]) Ai rfl rfl rfl rfl rfl) rfl rfl ?_
     refine Cm 1 [.bool _,.str _,Iq _,Iq _,Iq _] (_::_::_::_::_) ?_
     refine Cm 0 [.bool _,.str _,Iq _,Iq _,Iq _] (_::_::_::_::_) ?_
     refine AOL.nil (Bq (Ae ?_))
     refine ⟨(y,x),?_,GS.weaken ⟨rfl,rfl,rfl,trivial⟩ (.refl _)⟩
     exact ⟨hy,eqAB_3 hc1 hc2 hc3⟩
    ·
     refine AW.skip (Bq (Ae ?_))
     refine ⟨(x,y),?_,GS.weaken ⟨rfl,rfl,rfl,trivial⟩ (.refl _)⟩
     exact ⟨hx,eqAB_4 hc1 hc2 hc3⟩
 ·
  rintro p hR
  refine Ah ?_
  refine AOL.Aai (Ax (k:=2) (c:=.val _) Ai rfl rfl rfl rfl) rfl rfl ?_
  refine AOL.Aai (Bz (k:=1) (l:=[.bool _,.str _,Iq _,Iq _,Iq _]) Ai rfl rfl rfl rfl rfl) rfl rfl ?_
  refine AOL.Aai (Bz (k:=0) (l:=[.bool _,.str _,Iq _,Iq _,Iq _]) Ai rfl rfl rfl rfl rfl) rfl rfl ?_
  refine Qe (Tu (i:=3) (eq:=Jq p.1) (H2:=_::_::_::_::_) Ai rfl rfl rfl rfl rfl rfl rfl (rfl) (wE_eq p.1 w) rfl (new_w hR.1) rfl) ?_
  rintro _ _ ⟨rfl,rfl⟩
  refine Df (Qp Be (Ag (AW.ret ?_)))
  refine ⟨.inr rfl,[.bool _],.cons (.tmp _ _ rfl) <| .nil,_,.cons _ (.cons _ (.refl _)),?_⟩
  exact ⟨congrArg (fun q:Wm×Bool=>AV.bool q.2) hR.2.symm,(congrArg (fun e=>(.box bw 156 [.val (.map (some m))] :: .kmap m e::R:List HO)) (wE_snoc w p).symm).trans (congrArg (fun q:Wm×Bool=>(.box bw 156 [.val (.map (some m))] :: .kmap m (wE q.1)::R:List HO)) hR.2.symm)⟩
theorem d_str3 (x y:Wd):Av Tryz.prog 166 [.agg (Lb x),.agg (Lb y)] (.bool (!(eF x y))):=by
 refine Av.body (n:=8) Ai Tryz.func166 rfl rfl rfl fun H=>?_
 refine Ah (Qp (F5 [.bool _,.str _,Iq _,Iq _,Iq _]) (Qp (F5 [.bool _,.str _,Iq _,Iq _,Iq _]) (Qp Be (Df (Qp (Ck [.bool _,.str _,Iq _,Iq _,Iq _]) (Qp (Ck [.bool _,.str _,Iq _,Iq _,Iq _]) ?_))))))
 refine Qp (Hm (r:=eF x y) Ai rfl rfl rfl rfl (Ng x y)) ?_
 refine Qp Be (Ag (AW.ret ?_))
 refine Qr (.bool _) ?_
 rfl
theorem d_eachT (T:List Sc)(V:List Va)(l:List Lit)(hlk:Ve T V l)(bw m:Nat)(R:List HO):Dv Tryz.prog 162 (.box bw 156 [.val (.map (some m))] :: .kmap m (wE [])::R) [.bool true,.fn (.func 165) [] [.val (.pointer (some ⟨bw,0,none⟩))],.ptr [.sl 9 (l.map G3)],.ptr (Co T V),.val (.pointer (some ⟨bw,0,none⟩))] (fun r H'=>r = .bool (I9 T V l []).2∧H' = .box bw 156 [.val (.map (some m))] :: .kmap m (wE (I9 T V l []).1)::R):=by
 refine Dv.body (n:=54) Ai Tryz.func162 rfl rfl rfl ?_
 refine Ah (Qp Be (Ag (AW.seq (Ah (Qp Dk ?_)))))
 refine Qp (Ak (n:=l.length) Ai rfl rfl rfl (by simp)) ?_
 refine Qp A0 (Ag (AW.block ?_))
 refine AW.sllen 10 rfl fun hlen=>?_
 simp only [List.length_map,maxLen] at hlen
 refine AW.Aae (fun (p:Nat×Wm)=>(⟨[(0,.bool true),(1,.fn (.func 165) [] [.val (.pointer (some ⟨bw,0,none⟩))]),(2,.ptr [.sl 9 (l.map G3)]),(3,.ptr (Co T V)),(4,.val (.pointer (some ⟨bw,0,none⟩))),(10,.sl 9 (l.map G3)),(11,.int .i64 l.length),(12,.int .i64 (p.1:Int))],.box bw 156 [.val (.map (some m))] :: .kmap m (wE p.2)::R,54⟩:St)) (fun (p:Nat×Wm)=>p.1≤l.length∧I9 T V l []=I9 T V (l.drop p.1) p.2∧Ru p.2) (fun (p:Nat×Wm)=>l.length-p.1) ((0,[])) ?_ (GS.weaken ⟨rfl,rfl,rfl,rfl,rfl,rfl,rfl,rfl,trivial⟩ (.refl _)) ?_
 · exact ⟨Nat.zero_le _,rfl,Vw⟩
 ·
  rintro p hR
  have hwp:=hR.2.2
  refine Ah (Qp Cj (Ag (AW.seq (A3 (fun hc1=>?_) fun hc1=>?_))))
  ·
   obtain ⟨c,hc⟩:=B2 hc1
   have hlt:=A9 hc
   have hcm:=List.mem_of_getElem? hc
   have hck:=(hlk c hcm).1
   have hcs:=Nat.le_trans (hlk c hcm).2 (by decide:64≤1048576)
   have hdc:=A8 hc
   have hR2:=hR.2.1
   rw [hdc] at hR2
   refine Bx (AW.seq (AW.block (Ah ?_)))
   refine Qp (Af (c:=[Iq _,_,Iq _,Iq _,Iq _,Iq _,Iq _,.str _,.bool _]) Ai rfl rfl rfl rfl rfl rfl (by omega) (Bh hc)) ?_
   refine Qp (Ck [Iq _,_,Iq _,Iq _,Iq _,Iq _,Iq _,.str _,.bool _]) ?_
   refine Qe (Al (l:=[.int .i64 0,.sl 8 [],.int .i64 0,.int .i64 0,.int .i64 0,.int .i64 0,.int .i64 0,.str [],.bool false]) (by kernel_rfl)) ?_
   rintro _ _ ⟨b9,rfl,rfl⟩
   refine Cm 0 [Iq _,_,Iq _,Iq _,Iq _,Iq _,Iq _,.str _,.bool _] (_::_::_::_) ?_
   refine AOL.ghost (GS.Aad (t:=9) 0 rfl rfl) ?_
   refine Ag (AW.seq ?_)
   refine AW.drawI mixed (fun j H'=>(j==18||j==25||j==26||j==33)=true→_∈H'∧_∈H') (fun _ _=>⟨(List.mem_of_getElem? (i:=0) rfl),(List.mem_of_getElem? (i:=1) rfl)⟩) (by kernel_rfl) ?_
   refine CanonI.pure _ _ 0 _ _ rfl (by kernel_rfl) (by kernel_rfl) rfl (.run rfl (B7 (cs':=[.bool _]) Ai rfl rfl rfl rfl rfl rfl)) ?_
   refine CanonI.pure _ _ 1 _ _ rfl (by kernel_rfl) (by kernel_rfl) rfl (.run rfl (Ec (c:=.bool _) Ai rfl rfl rfl)) ?_
   refine CanonI.pure _ _ 2 _ _ rfl (by kernel_rfl) (by kernel_rfl) rfl (.run rfl (Bj (v:=.bool _) rfl)) ?_
   refine CanonI.pure _ _ 3 _ _ rfl (by kernel_rfl) (by kernel_rfl) rfl (.run rfl (Rn Ai rfl rfl rfl rfl)) ?_
   refine CanonI.pure _ _ 4 _ _ rfl (by kernel_rfl) (by kernel_rfl) rfl (.run rfl (Bj (v:=.bool _) rfl)) ?_
   refine CanonI.pure _ _ 5 _ _ rfl (by kernel_rfl) (by kernel_rfl) rfl (.opt _ (.agg _) [] rfl (rX.all trivial) (fun hG=>Eu (l:=[_,_]) Ai rfl rfl rfl rfl rfl) rfl) ?_
   refine CanonI.pure _ _ 6 _ _ rfl (by kernel_rfl) (by kernel_rfl) rfl (.opt _ (.ptr _) [] rfl (rX.all trivial) (fun hG=>B7 (cs':=[Iq _,_,Iq _,Iq _,Iq _,Iq _,Iq _,.str _,.bool _]) Ai rfl rfl rfl rfl rfl rfl) rfl) ?_
   refine CanonI.pure _ _ 7 _ _ rfl (by kernel_rfl) (by kernel_rfl) rfl (.opt _ (.agg _) [(22,_)] rfl (rX.all ⟨Ent.Aac _ _,trivial⟩) (fun hG=>Eu (l:=[Iq _,_,Iq _,Iq _,Iq _,Iq _,Iq _,.str _]) Ai rfl rfl rfl rfl rfl) rfl) ?_
   refine CanonI.pure _ _ 8 _ _ rfl (by kernel_rfl) (by kernel_rfl) rfl (.opt _ (.bool _) [(21,_),(23,_)] rfl (rX.all ⟨Ent.Aac _ _,Ent.Aac _ _,trivial⟩) (fun hG=>C7 (by kernel_rfl) rfl rfl (Rx T V c.cond hck)) rfl) ?_
   refine CanonI.pure _ _ 9 _ _ rfl (by kernel_rfl) (by kernel_rfl) rfl (.run rfl (Nu rfl rfl rfl)) ?_
   refine CanonI.pure _ _ 10 _ _ rfl (by kernel_rfl) (by kernel_rfl) rfl (.run rfl (Bj (v:=.bool _) rfl)) ?_
   refine CanonI.pure _ _ 11 _ _ rfl (by kernel_rfl) (by kernel_rfl) rfl (.opt _ (.agg _) [] rfl (rX.all trivial) (fun hG=>Eu (l:=[_,_]) Ai rfl rfl rfl rfl rfl) rfl) ?_
   refine CanonI.pure _ _ 12 _ _ rfl (by kernel_rfl) (by kernel_rfl) rfl (.opt _ (.ptr _) [] rfl (rX.all trivial) (fun hG=>B7 (cs':=[Iq _,_,Iq _,Iq _,Iq _,Iq _,Iq _,.str _,.bool _]) Ai rfl rfl rfl rfl rfl rfl) rfl) ?_
   refine CanonI.pure _ _ 13 _ _ rfl (by kernel_rfl) (by kernel_rfl) rfl (.opt _ (.agg _) [(28,_)] rfl (rX.all ⟨Ent.Aac _ _,trivial⟩) (fun hG=>Eu (l:=[Iq _,_,Iq _,Iq _,Iq _,Iq _,Iq _,.str _]) Ai rfl rfl rfl rfl rfl) rfl) ?_
   refine CanonI.pure _ _ 14 _ _ rfl (by kernel_rfl) (by kernel_rfl) rfl (.opt _ (.bool _) [(27,_),(29,_)] rfl (rX.all ⟨Ent.Aac _ _,Ent.Aac _ _,trivial⟩) (fun hG=>C7 (by kernel_rfl) rfl rfl (R4 T V c.cond hck hcs)) rfl) ?_
   refine CanonI.pure _ _ 15 _ _ rfl (by kernel_rfl) (by kernel_rfl) rfl (.run rfl (Nu rfl rfl rfl)) ?_
   refine CanonI.pure _ _ 16 _ _ rfl (by kernel_rfl) (by kernel_rfl) rfl (.run rfl (Bj (v:=.bool _) rfl)) ?_
   refine CanonI.pure _ _ 17 _ _ rfl (by kernel_rfl) (by kernel_rfl) rfl (.opt _ (.fn _ _ _) [] rfl (rX.all trivial) (fun hG=>Bj (v:=.fn _ _ _) rfl) rfl) ?_
   refine CanonI.pure _ _ 18 _ _ rfl (by kernel_rfl) (by kernel_rfl) rfl (.opt _ (.val _) [] rfl (rX.all trivial) (fun hG=>OpP.Aah (fun k=>Ax (k:=k) (c:=.val _) Ai rfl rfl rfl rfl) (fun _ h=>(h rfl).1)) rfl) ?_
   refine CanonI.pure _ _ 19 _ _ rfl (by kernel_rfl) (by kernel_rfl) rfl (.opt _ (.ptr _) [] rfl (rX.all trivial) (fun hG=>B7 (cs':=[Iq _,_,Iq _,Iq _,Iq _,Iq _,Iq _,.str _,.bool _]) Ai rfl rfl rfl rfl rfl rfl) rfl) ?_
   refine CanonI.pure _ _ 20 _ _ rfl (by kernel_rfl) (by kernel_rfl) rfl (.opt _ (.ptr _) [(35,_)] rfl (rX.all ⟨Ent.Aac _ _,trivial⟩) (fun hG=>B7 (cs':=[_,Iq _,Iq _,Iq _,Iq _,Iq _,.str _,.bool _]) Ai rfl rfl rfl rfl rfl rfl) rfl) ?_
   refine CanonI.pure _ _ 21 _ _ rfl (by kernel_rfl) (by kernel_rfl) rfl (.opt _ (.sl _ _) [(36,_)] rfl (rX.all ⟨Ent.Aac _ _,trivial⟩) (fun hG=>Ec (c:=.sl _ _) Ai rfl rfl rfl) rfl) ?_
   refine CanonI.pure _ _ 22 _ _ rfl (by kernel_rfl) (by kernel_rfl) rfl (.opt _ (.ptr _) [(37,_)] rfl (rX.all ⟨Ent.Aac _ _,trivial⟩) (fun hG=>Af (c:=[Iq _,_,Iq _,Iq _,Iq _,Iq _,Iq _,.str _]) Ai rfl rfl rfl rfl rfl rfl (by decide) (Fp (Nat.lt_of_succ_lt (Ky hck (Mg (J7 (g1' hG))))))) rfl) ?_
   refine CanonI.pure _ _ 23 _ _ rfl (by kernel_rfl) (by kernel_rfl) rfl (.opt _ (.agg _) [(38,_)] rfl (rX.all ⟨Ent.Aac _ _,trivial⟩) (fun hG=>Eu (l:=[Iq _,_,Iq _,Iq _,Iq _,Iq _,Iq _,.str _]) Ai rfl rfl rfl rfl rfl) rfl) ?_
   refine CanonI.pure _ _ 24 _ _ rfl (by kernel_rfl) (by kernel_rfl) rfl (.opt _ (.agg _) [(39,_)] rfl (rX.all ⟨Ent.Aac _ _,trivial⟩) (fun hG=>C7 (by kernel_rfl) rfl rfl (On _)) rfl) ?_
   refine CanonI.pure _ _ 25 _ _ rfl (by kernel_rfl) (by kernel_rfl) rfl (.opt _ (.agg _) [(34,_),(40,_)] rfl (rX.all ⟨Ent.Aac _ _,Ent.Aac _ _,trivial⟩) (fun hG=>Rz (ho:=.kmap m (wE p.2)) (by kernel_rfl) rfl rfl (Sf m p.2 hwp (B9 (Ao c.cond))) (fun _ h=>(h rfl).2)) rfl) ?_
   refine CanonI.pure _ _ 26 _ _ rfl (by kernel_rfl) (by kernel_rfl) rfl (.opt _ (.val _) [] rfl (rX.all trivial) (fun hG=>OpP.Aah (fun k=>Ax (k:=k) (c:=.val _) Ai rfl rfl rfl rfl) (fun _ h=>(h rfl).1)) rfl) ?_
   refine CanonI.pure _ _ 27 _ _ rfl (by kernel_rfl) (by kernel_rfl) rfl (.opt _ (.ptr _) [] rfl (rX.all trivial) (fun hG=>B7 (cs':=[Iq _,_,Iq _,Iq _,Iq _,Iq _,Iq _,.str _,.bool _]) Ai rfl rfl rfl rfl rfl rfl) rfl) ?_
   refine CanonI.pure _ _ 28 _ _ rfl (by kernel_rfl) (by kernel_rfl) rfl (.opt _ (.ptr _) [(43,_)] rfl (rX.all ⟨Ent.Aac _ _,trivial⟩) (fun hG=>B7 (cs':=[_,Iq _,Iq _,Iq _,Iq _,Iq _,.str _,.bool _]) Ai rfl rfl rfl rfl rfl rfl) rfl) ?_
   refine CanonI.pure _ _ 29 _ _ rfl (by kernel_rfl) (by kernel_rfl) rfl (.opt _ (.sl _ _) [(44,_)] rfl (rX.all ⟨Ent.Aac _ _,trivial⟩) (fun hG=>Ec (c:=.sl _ _) Ai rfl rfl rfl) rfl) ?_
   refine CanonI.pure _ _ 30 _ _ rfl (by kernel_rfl) (by kernel_rfl) rfl (.opt _ (.ptr _) [(45,_)] rfl (rX.all ⟨Ent.Aac _ _,trivial⟩) (fun hG=>Af (c:=[Iq _,_,Iq _,Iq _,Iq _,Iq _,Iq _,.str _]) Ai rfl rfl rfl rfl rfl rfl (by decide) (Ie (Ky hck (Mg (J7 (g1' hG)))))) rfl) ?_
   refine CanonI.pure _ _ 31 _ _ rfl (by kernel_rfl) (by kernel_rfl) rfl (.opt _ (.agg _) [(46,_)] rfl (rX.all ⟨Ent.Aac _ _,trivial⟩) (fun hG=>Eu (l:=[Iq _,_,Iq _,Iq _,Iq _,Iq _,Iq _,.str _]) Ai rfl rfl rfl rfl rfl) rfl) ?_
   refine CanonI.pure _ _ 32 _ _ rfl (by kernel_rfl) (by kernel_rfl) rfl (.opt _ (.agg _) [(47,_)] rfl (rX.all ⟨Ent.Aac _ _,trivial⟩) (fun hG=>C7 (by kernel_rfl) rfl rfl (On _)) rfl) ?_
   refine CanonI.pure _ _ 33 _ _ rfl (by kernel_rfl) (by kernel_rfl) rfl (.opt _ (.agg _) [(42,_),(48,_)] rfl (rX.all ⟨Ent.Aac _ _,Ent.Aac _ _,trivial⟩) (fun hG=>Rz (ho:=.kmap m (wE p.2)) (by kernel_rfl) rfl rfl (Sf m p.2 hwp (B9 (Bg c.cond))) (fun _ h=>(h rfl).2)) rfl) ?_
   refine CanonI.phaseg (fun _ _=>True) _ _ 34 _ _ [(41,_),(49,_),(33,_)] _ _ rfl (by kernel_rfl) rfl rfl (rX.all ⟨Ent.Aac _ _,Ent.Aac _ _,Ent.Aac _ _,trivial⟩) (fun hG=>Je (by kernel_rfl) rfl rfl rfl (Dv.front2 (R:=_) 1 0 rfl rfl rfl ((d_str2 bw m p.2 (Cc p.2 (B9 (Ao c.cond))) (Cc p.2 (B9 (Bg c.cond))) (I1 hwp _) (I1 hwp _) _).mono' (fun r K h=>⟨h.1,h.2.trans (congrArg (fun w=>(.box bw 156 [.val (.map (some m))] :: .kmap m (wE w)::R:List HO)) (Zt (Zi (g1' hG))))⟩)))) (fun hG=>congrArg (fun w=>(.box bw 156 [.val (.map (some m))] :: .kmap m (wE w)::R:List HO)) (xN (qU (g1n hG))).symm) (fun j _ _ hr _ _ hj=>?_) (fun _=>trivial) ?_
   ·
    rcases (by simpa only [Bool.or_eq_true,beq_iff_eq,or_assoc] using hj:j=18∨j=25∨j=26∨j=33) with rfl | rfl | rfl | rfl
    · exact Bool.noConfusion ((show Iw _ 7 _ 18=true by kernel_rfl).symm.trans hr)
    · exact Bool.noConfusion ((show Iw _ 7 _ 25=true by kernel_rfl).symm.trans hr)
    · exact Bool.noConfusion ((show Iw _ 7 _ 26=true by kernel_rfl).symm.trans hr)
    · exact Bool.noConfusion ((show Iw _ 7 _ 33=true by kernel_rfl).symm.trans hr)
   refine CanonI.pure _ _ 35 _ _ rfl (by kernel_rfl) (by kernel_rfl) rfl (.opt _ (.bool _) [(50,_)] rfl (rX.all ⟨Ent.Aac _ _,trivial⟩) (fun hG=>P_not rfl) rfl) ?_
   refine CanonI.pure _ _ 36 _ _ rfl (by kernel_rfl) (by kernel_rfl) rfl (.run rfl (Nu rfl rfl rfl)) ?_
   refine CanonI.done _ _ (by kernel_rfl) ?_
   refine Ae (A3 (fun hc2=>?_) fun hc2=>?_)
   ·
    have hs2:=Bool.and_eq_true_iff.mp hc2
    have hst:=Zi hs2.1
    have hfin:=hR2.trans (Mm hst ((Bool.not_eq_true' _).mp hs2.2))
    have hf1:(I9 T V l []).1=(E8 p.2 c).1:=by rw [hfin]
    refine Ah (Qp Be (Ag (AW.ret (Ba (Aj (Aj (Ba (Aj ?_))))))))
    refine ⟨.inr rfl,[.bool _],.cons (.tmp _ _ rfl) <| .nil,_,.refl _,?_⟩
    exact ⟨congrArg (fun q:Wm×Bool=>AV.bool q.2) hfin.symm,congrArg (fun w=>(.box bw 156 [.val (.map (some m))] :: .kmap m (wE w)::R:List HO)) ((Zt hst).symm.trans hf1.symm)⟩
   ·
    refine AW.skip (Bq (Ae (AW.region (Qp Fv (Qp A0 (Ag ?_))))))
    refine ⟨(p.1+1,Vj T V p.2 c),?_,?_,GS.weaken ⟨rfl,rfl,rfl,rfl,rfl,rfl,rfl,rfl,trivial⟩ (.refl _)⟩
    · exact ⟨hlt,hR2.trans (xW hc2),fC hwp c⟩
    · simp only;omega
  ·
   have hde:=Dh hc1
   have hR2:=hR.2.1
   rw [hde] at hR2
   refine AW.exit ?_
   refine A6 (A6 (Bv (Ae (Ah (Qp Be (Ag (AW.ret ?_)))))))
   refine ⟨.inr rfl,[.bool _],.cons (.tmp _ _ rfl) <| .nil,_,.refl _,?_⟩
   exact ⟨congrArg (fun q:Wm×Bool=>AV.bool q.2) hR2.symm,congrArg (fun q:Wm×Bool=>(.box bw 156 [.val (.map (some m))] :: .kmap m (wE q.1)::R:List HO)) hR2.symm⟩
theorem d_eachF (T:List Sc)(V:List Va)(l:List Lit)(hlk:Ve T V l)(bw m:Nat)(w:Wm)(hwp:Ru w)(R:List HO):Dv Tryz.prog 162 (.box bw 156 [.val (.map (some m))] :: .kmap m (wE w)::R) [.bool false,.fn (.func 166) [] [],.ptr [.sl 9 (l.map G3)],.ptr (Co T V),.val (.pointer (some ⟨bw,0,none⟩))] (fun r H'=>r = .bool (N6 T V w l)∧H' = .box bw 156 [.val (.map (some m))] :: .kmap m (wE w)::R):=by
 refine Dv.body (n:=54) Ai Tryz.func162 rfl rfl rfl ?_
 refine Ah (Qp Be (Ag (AW.seq (Ah (Qp Dk ?_)))))
 refine Qp (Ak (n:=l.length) Ai rfl rfl rfl (by simp)) ?_
 refine Qp A0 (Ag (AW.block ?_))
 refine AW.sllen 10 rfl fun hlen=>?_
 simp only [List.length_map,maxLen] at hlen
 refine AW.Aae (fun (p:Nat)=>(⟨[(0,.bool false),(1,.fn (.func 166) [] []),(2,.ptr [.sl 9 (l.map G3)]),(3,.ptr (Co T V)),(4,.val (.pointer (some ⟨bw,0,none⟩))),(10,.sl 9 (l.map G3)),(11,.int .i64 l.length),(12,.int .i64 (p:Int))],.box bw 156 [.val (.map (some m))] :: .kmap m (wE w)::R,54⟩:St)) (fun (p:Nat)=>p≤l.length∧N6 T V w l=N6 T V w (l.drop p)) (fun (p:Nat)=>l.length-p) (0) ?_ (GS.weaken ⟨rfl,rfl,rfl,rfl,rfl,rfl,rfl,rfl,trivial⟩ (.refl _)) ?_
 · exact ⟨Nat.zero_le _,rfl⟩
 ·
  rintro p hR
  refine Ah (Qp Cj (Ag (AW.seq (A3 (fun hc1=>?_) fun hc1=>?_))))
  ·
   obtain ⟨c,hc⟩:=B2 hc1
   have hlt:=A9 hc
   have hcm:=List.mem_of_getElem? hc
   have hck:=(hlk c hcm).1
   have hcs:=Nat.le_trans (hlk c hcm).2 (by decide:64≤1048576)
   have hdc:=A8 hc
   have hR2:=hR.2
   rw [hdc] at hR2
   refine Bx (AW.seq (AW.block (Ah ?_)))
   refine Qp (Af (c:=[Iq _,_,Iq _,Iq _,Iq _,Iq _,Iq _,.str _,.bool _]) Ai rfl rfl rfl rfl rfl rfl (by omega) (Bh hc)) ?_
   refine Qp (Ck [Iq _,_,Iq _,Iq _,Iq _,Iq _,Iq _,.str _,.bool _]) ?_
   refine Qe (Al (l:=[.int .i64 0,.sl 8 [],.int .i64 0,.int .i64 0,.int .i64 0,.int .i64 0,.int .i64 0,.str [],.bool false]) (by kernel_rfl)) ?_
   rintro _ _ ⟨b9,rfl,rfl⟩
   refine Cm 0 [Iq _,_,Iq _,Iq _,Iq _,Iq _,Iq _,.str _,.bool _] (_::_::_::_) ?_
   refine AOL.ghost (GS.Aad (t:=9) 0 rfl rfl) ?_
   refine Ag (AW.seq ?_)
   refine AW.draw mixed (fun H'=>_∈H'∧_∈H') ⟨(List.mem_of_getElem? (i:=0) rfl),(List.mem_of_getElem? (i:=1) rfl)⟩ (by kernel_rfl) ?_
   refine Qn 0 rfl (Qf [.bool _]) (Qn 1 rfl jV (Qn 2 rfl Bp ?_))
   refine Qn 3 rfl (Rn Ai rfl rfl rfl rfl) ?_
   refine Qn 4 rfl Bp (Qo 5 rfl [] Qw (Ck [_,_]) (Qo 6 rfl [] Qw (Qf [Iq _,_,Iq _,Iq _,Iq _,Iq _,Iq _,.str _,.bool _]) (Qo 7 rfl [(22,_)] Qw D0 ?_)))
   refine Jv.pure _ _ 8 _ _ rfl (by kernel_rfl) (by kernel_rfl) rfl (.opt _ (.bool _) [(21,_),(23,_)] rfl (rX.all ⟨Ent.Aac _ _,Ent.Aac _ _,trivial⟩) (fun hG=>C7 (by kernel_rfl) rfl rfl (Rx T V c.cond hck)) rfl) ?_
   refine Qn 9 rfl E1 (Qn 10 rfl Bp (Qo 11 rfl [] Qw (Ck [_,_]) (Qo 12 rfl [] Qw (Qf [Iq _,_,Iq _,Iq _,Iq _,Iq _,Iq _,.str _,.bool _]) (Qo 13 rfl [(28,_)] Qw D0 ?_))))
   refine Jv.pure _ _ 14 _ _ rfl (by kernel_rfl) (by kernel_rfl) rfl (.opt _ (.bool _) [(27,_),(29,_)] rfl (rX.all ⟨Ent.Aac _ _,Ent.Aac _ _,trivial⟩) (fun hG=>C7 (by kernel_rfl) rfl rfl (R4 T V c.cond hck hcs)) rfl) ?_
   refine Qn 15 rfl E1 (Qn 16 rfl Bp ?_)
   refine Jv.pure _ _ 17 _ _ rfl (by kernel_rfl) (by kernel_rfl) rfl (.opt _ (.fn _ _ _) [] rfl (rX.all trivial) (fun hG=>Bj (v:=.fn _ _ _) rfl) rfl) ?_
   refine Jv.pure _ _ 18 _ _ rfl (by kernel_rfl) (by kernel_rfl) rfl (.opt _ (.val _) [] rfl (rX.all trivial) (fun hG=>OpP.Aah (fun k=>Ax (k:=k) (c:=.val _) Ai rfl rfl rfl rfl) (fun _ h=>h.1)) rfl) ?_
   refine Qo 19 rfl [] Qw (Qf [Iq _,_,Iq _,Iq _,Iq _,Iq _,Iq _,.str _,.bool _]) (Qo 20 rfl [(35,_)] Qw (Qf [_,Iq _,Iq _,Iq _,Iq _,Iq _,.str _,.bool _]) (Qo 21 rfl [(36,_)] Qw Dk ?_))
   refine Jv.pure _ _ 22 _ _ rfl (by kernel_rfl) (by kernel_rfl) rfl (.opt _ (.ptr _) [(37,_)] rfl (rX.all ⟨Ent.Aac _ _,trivial⟩) (fun hG=>Af (c:=[Iq _,_,Iq _,Iq _,Iq _,Iq _,Iq _,.str _]) Ai rfl rfl rfl rfl rfl rfl (by decide) (Fp (Nat.lt_of_succ_lt (Ky hck (Mg (J7 (g1' hG))))))) rfl) ?_
   refine Qo 23 rfl [(38,_)] Qw D0 ?_
   refine Qo 24 rfl [(39,_)] Qw (Qc rfl (On _)) ?_
   refine Jv.pure _ _ 25 _ _ rfl (by kernel_rfl) (by kernel_rfl) rfl (.opt _ (.agg _) [(34,_),(40,_)] rfl (rX.all ⟨Ent.Aac _ _,Ent.Aac _ _,trivial⟩) (fun hG=>Rz (ho:=.kmap m (wE w)) (by kernel_rfl) rfl rfl (Sf m w hwp (B9 (Ao c.cond))) (fun _ h=>h.2)) rfl) ?_
   refine Jv.pure _ _ 26 _ _ rfl (by kernel_rfl) (by kernel_rfl) rfl (.opt _ (.val _) [] rfl (rX.all trivial) (fun hG=>OpP.Aah (fun k=>Ax (k:=k) (c:=.val _) Ai rfl rfl rfl rfl) (fun _ h=>h.1)) rfl) ?_
   refine Qo 27 rfl [] Qw (Qf [Iq _,_,Iq _,Iq _,Iq _,Iq _,Iq _,.str _,.bool _]) (Qo 28 rfl [(43,_)] Qw (Qf [_,Iq _,Iq _,Iq _,Iq _,Iq _,.str _,.bool _]) (Qo 29 rfl [(44,_)] Qw Dk ?_))
   refine Jv.pure _ _ 30 _ _ rfl (by kernel_rfl) (by kernel_rfl) rfl (.opt _ (.ptr _) [(45,_)] rfl (rX.all ⟨Ent.Aac _ _,trivial⟩) (fun hG=>Af (c:=[Iq _,_,Iq _,Iq _,Iq _,Iq _,Iq _,.str _]) Ai rfl rfl rfl rfl rfl rfl (by decide) (Ie (Ky hck (Mg (J7 (g1' hG)))))) rfl) ?_
   refine Qo 31 rfl [(46,_)] Qw D0 ?_
   refine Qo 32 rfl [(47,_)] Qw (Qc rfl (On _)) ?_
   refine Jv.pure _ _ 33 _ _ rfl (by kernel_rfl) (by kernel_rfl) rfl (.opt _ (.agg _) [(42,_),(48,_)] rfl (rX.all ⟨Ent.Aac _ _,Ent.Aac _ _,trivial⟩) (fun hG=>Rz (ho:=.kmap m (wE w)) (by kernel_rfl) rfl rfl (Sf m w hwp (B9 (Bg c.cond))) (fun _ h=>h.2)) rfl) ?_
   refine Jv.pure _ _ 34 _ _ rfl (by kernel_rfl) (by kernel_rfl) rfl (.opt _ (.bool _) [(41,_),(49,_),(33,_)] rfl (rX.all ⟨Ent.Aac _ _,Ent.Aac _ _,Ent.Aac _ _,trivial⟩) (fun hG=>Dz (by kernel_rfl) rfl rfl rfl (d_str3 (Cc w (B9 (Ao c.cond))) (Cc w (B9 (Bg c.cond))))) rfl) ?_
   refine Qo 35 rfl [(50,_)] Qw Ge (Qn 36 rfl E1 ?_)
   refine Jv.done _ _ (by kernel_rfl) ?_
   refine Ae (A3 (fun hc2=>?_) fun hc2=>?_)
   ·
    have hfin:=hR2.trans (lL hc2)
    refine Ah (Qp Be (Ag (AW.ret (Ba (Aj (Aj (Ba (Aj ?_))))))))
    refine ⟨.inr rfl,[.bool _],.cons (.tmp _ _ rfl) <| .nil,_,.refl _,?_⟩
    exact ⟨congrArg AV.bool hfin.symm,rfl⟩
   ·
    refine AW.skip (Bq (Ae (AW.region (Qp Fv (Qp A0 (Ag ?_))))))
    refine ⟨p+1,?_,?_,GS.weaken ⟨rfl,rfl,rfl,rfl,rfl,rfl,rfl,rfl,trivial⟩ (.refl _)⟩
    · exact ⟨hlt,hR2.trans (lB hc2)⟩
    · omega
  ·
   have hde:=Dh hc1
   have hR2:=hR.2
   rw [hde] at hR2
   refine AW.exit ?_
   refine A6 (A6 (Bv (Ae (Ah (Qp Be (Ag (AW.ret ?_)))))))
   refine ⟨.inr rfl,[.bool _],.cons (.tmp _ _ rfl) <| .nil,_,.refl _,?_⟩
   exact ⟨congrArg AV.bool hR2.symm,rfl⟩

end Go.Proofs.YtkddpedfbicbeaaGreatDoor
