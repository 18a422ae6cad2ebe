/-
  Several texts in one: Y9, Y8, Y8b, Y8c. No condition.
-/
import Derived.Test.YtkddpedfbicbeaaGreatDoorK01
import Derived.Test.YtkddpedfbicbeaaGreatDoorK09
import Derived.Test.YtkddpedfbicbeaaGreatDoorK16
import Derived.KernelRfl
set_option linter.unusedVariables false
set_option linter.unusedSimpArgs false
namespace Go.Proofs.YtkddpedfbicbeaaGreatDoor
open Go Go.Aw
set_option maxHeartbeats 3200000
set_option maxRecDepth 20000

theorem Or (e:Ex):Ax Tryz.prog 164 [.agg (cE e)] (.agg (Ld (Cb e))):=by
 refine Ax.body (n:=18) Ai Tryz.func164 rfl rfl rfl fun H=>?_
 refine Ah (Qp La ?_)
 refine Qe (Al (l:=[.bool false,.str [],.int .i64 0,.int .i64 0,.int .i64 0]) (by kernel_rfl)) ?_
 rintro _ _ ⟨b2,rfl,rfl⟩
 refine Ag (AW.seq (Ah (Qp Kv (Qp Bt (Qp A7 (Ag (A5 (fun hc1=>?_) fun hc1=>?_)))))))
 ·
  refine Ah (Qp Jr (Qp Qf7 (Qp Vu (Qp (Et [.bool _,.str _,Iq _,Iq _,Iq _]) (Co 0 [.bool _,.str _,Iq _,Iq _,Iq _] (_::_) (Ag (Du ?_)))))))
  refine ⟨.inr rfl,[.agg [.bool _,.str _,Iq _,Iq _,Iq _]],.cons (.box _ _ _ 0 _ _ _ _ rfl rfl rfl rfl rfl rfl) <| .nil,.cons _ (.refl _),?_⟩
  exact Eq.trans rfl (congrArg (fun q:Wd=>AV.agg (Ld q)) (dX hc1)).symm
 ·
  refine Bz (Ah (Qp Kv (Qp Bt (Qp Yy (Qp Bt (Qp Qt (Qp Bt (Qp (Et [Iq _,Iq _,Iq _]) (Qp (Et [.bool _,.str _,Iq _,Iq _,Iq _]) ?_)))))))))
  refine Co 0 [.bool _,.str _,Iq _,Iq _,Iq _] (_::_) (Ag (AW.ret ?_))
  refine ⟨.inr rfl,[.agg [.bool _,.str _,Iq _,Iq _,Iq _]],.cons (.box _ _ _ 0 _ _ _ _ rfl rfl rfl rfl rfl rfl) <| .nil,.cons _ (.refl _),?_⟩
  exact Eq.trans rfl (congrArg (fun q:Wd=>AV.agg (Ld q)) (cO hc1)).symm
theorem d_of (m:Nat)(w:Wm)(hw:Rv w)(x:Wd)(R:List HO):Dx Tryz.prog 163 (.kmap m (wE w)::R) [.val (.map (some m)),.agg (Ld x)] (fun r H'=>r = .agg (Ld (Cf w x))∧H' = .kmap m (wE w)::R):=by
 refine Dx.body (n:=17) Ai Tryz.func163 rfl rfl rfl ?_
 refine Ah ?_
 refine Qe (Vb (v:=.agg _) (cs:=[.bool _,.str _,Iq _,Iq _,Iq _]) rfl rfl (rfl)) ?_
 rintro _ _ ⟨b3,rfl,rfl⟩
 refine Qe (Al (l:=[.bool false,.str [],.int .i64 0,.int .i64 0,.int .i64 0]) (by kernel_rfl)) ?_
 rintro _ _ ⟨b4,rfl,rfl⟩
 refine Ag (AW.block ?_)
 refine AW.Aa5 (fun (p:Nat×Wd)=>(⟨[(0,.val (.map (some m))),(3,.val (.pointer (some ⟨b3,0,none⟩))),(4,.val (.pointer (some ⟨b4,0,none⟩)))],.box b4 214 [.bool false,.str [],.int .i64 0,.int .i64 0,.int .i64 0] :: .box b3 214 (Ld p.2) :: .kmap m (wE w)::R,17⟩:St)) (fun (p:Nat×Wd)=>qC w p.1 p.2∧Cf w x=Qk w p.1 p.2) (fun (p:Nat×Wd)=>p.1) ((w.length,x)) ?_ (GS.weaken ⟨rfl,rfl,rfl,trivial⟩ (.refl _)) ?_
 · exact ⟨Rm w x,rfl⟩
 ·
  rintro p hR
  refine AW.block (Ah (Qp H4 ?_))
  refine AOL.Aa9 (B1 (k:=1) (l:=[.bool _,.str _,Iq _,Iq _,Iq _]) Ai rfl rfl rfl rfl rfl) rfl rfl ?_
  refine AOL.Aa9 (xZ (i:=2) (eq:=Jt p.2) Ai rfl rfl rfl rfl rfl (by kernel_rfl) rfl rfl (rfl) (wE_eq p.2 w) (look_w p.2 w) (has_w p.2 w)) rfl rfl ?_
  refine Qp Mx ?_
  refine Qp (Cd (v:=.agg [.bool _,.str _,Iq _,Iq _,Iq _]) rfl rfl) ?_
  refine Qp kA ?_
  refine Qe (Al (l:=[.bool false,.str [],.int .i64 0,.int .i64 0,.int .i64 0]) (by kernel_rfl)) ?_
  rintro _ _ ⟨b5,rfl,rfl⟩
  refine Co 0 [.bool _,.str _,Iq _,Iq _,Iq _] (_::_::_::_::_) (Qp Bg ?_)
  refine AOL.ghost (GS.Aa4 (t:=5) 0 rfl rfl) ?_
  refine Ag (AW.seq (Ah (Qp Br (Qp Gt (Ag (A5 (fun hc1=>?_) fun hc1=>?_))))))
  ·
   have hnn:=fD hc1
   refine Ah ?_
   refine AOL.Aa9 (B1 (k:=1) (l:=[.bool _,.str _,Iq _,Iq _,Iq _]) Ai rfl rfl rfl rfl rfl) rfl rfl ?_
   refine Co 0 [.bool _,.str _,Iq _,Iq _,Iq _] (_::_::_::_) (Ag (Du (Bc (Aj (Bc ?_)))))
   refine ⟨.inr rfl,[.agg [.bool _,.str _,Iq _,Iq _,Iq _]],.cons (.box _ _ _ 0 _ _ _ _ rfl rfl rfl rfl rfl rfl) <| .nil,_,.cons _ (.cons _ (.refl _)),?_⟩
   exact ⟨congrArg (fun q:Wd=>AV.agg (Ld q)) ((hR.2.trans (V4 hnn)).symm),rfl⟩
  ·
   have hyy:=is_some (d:=wd0) hc1
   have hst:=Ti hw hR.1 hyy
   refine Bz (AW.region (Qp (Cm [.bool _,.str _,Iq _,Iq _,Iq _]) (Co 1 [.bool _,.str _,Iq _,Iq _,Iq _] (_::_::_::_) (AOL.nil (Bs (Ae ?_))))))
   refine ⟨(p.1-1,(Gb w p.2).getD wd0),?_,?_,GS.weaken ⟨rfl,rfl,rfl,trivial⟩ (.refl _)⟩
   · exact ⟨hst.2,hR.2.trans (bU hst.1 hyy)⟩
   · have:=hst.1;simp only;omega
theorem Sz (m:Nat)(w:Wm)(hw:Rv w)(x:Wd):∀(H:List HO) (k:Nat),H[k]? = some (.kmap m (wE w))→Dx Tryz.prog 163 H [.val (.map (some m)),.agg (Ld x)] fun r' H'=>r' = .agg (Ld (Cf w x))∧H'=H:=
 Dx.atFront (d_of m w hw x)
theorem d_str2 (bw m:Nat)(w:Wm)(x y:Wd)(hx:Gb w x=none)(hy:Gb w y=none)(R:List HO):Dx Tryz.prog 165 (.box bw 156 [.val (.map (some m))] :: .kmap m (wE w)::R) [.agg (Ld x),.agg (Ld y),.val (.pointer (some ⟨bw,0,none⟩))] (fun r H'=>r = .bool (Nz w x y).2∧H' = .box bw 156 [.val (.map (some m))] :: .kmap m (wE (Nz w x y).1)::R):=by
 refine Dx.body (n:=25) Ai Tryz.func165 rfl rfl rfl ?_
 refine Ah ?_
 refine Qe (Vb (v:=.agg _) (cs:=[.bool _,.str _,Iq _,Iq _,Iq _]) rfl rfl (rfl)) ?_
 rintro _ _ ⟨b3,rfl,rfl⟩
 refine Qe (Vb (v:=.agg _) (cs:=[.bool _,.str _,Iq _,Iq _,Iq _]) rfl rfl (rfl)) ?_
 rintro _ _ ⟨b4,rfl,rfl⟩
 refine Qp Bg (Ag ?_)
 refine AW.cut (fun (p:Wd×Wd)=>(⟨[(2,.val (.pointer (some ⟨bw,0,none⟩))),(3,.val (.pointer (some ⟨b3,0,none⟩))),(4,.val (.pointer (some ⟨b4,0,none⟩)))],.box b4 214 (Ld p.2) :: .box b3 214 (Ld p.1) :: .box bw 156 [.val (.map (some m))] :: .kmap m (wE w)::R,25⟩:St)) (fun (p:Wd×Wd)=>Gb w p.1=none∧Nz w x y=(w ++ [p],true)) ?_ ?_
 ·
  refine AW.block (Ah ?_)
  refine AOL.Aa9 (B1 (k:=1) (l:=[.bool _,.str _,Iq _,Iq _,Iq _]) Ai rfl rfl rfl rfl rfl) rfl rfl ?_
  refine AOL.Aa9 (B1 (k:=0) (l:=[.bool _,.str _,Iq _,Iq _,Iq _]) Ai rfl rfl rfl rfl rfl) rfl rfl ?_
  refine Qp (Pz (r:=eN x y) Ai rfl rfl rfl rfl (Nt x y)) ?_
  refine Qp Bg (Ag (A5 (fun hc1=>?_) fun hc1=>?_))
  ·
   refine Ah (Qp Bg (Ag (AW.ret (Bc (Aj ?_)))))
   refine ⟨.inr rfl,[.bool _],.cons (.tmp _ _ rfl) <| .nil,_,.cons _ (.cons _ (.refl _)),?_⟩
   exact ⟨congrArg (fun q:Wm×Bool=>AV.bool q.2) (uR hc1).symm,congrArg (fun q:Wm×Bool=>(.box bw 156 [.val (.map (some m))] :: .kmap m (wE q.1)::R:List HO)) (uR hc1).symm⟩
  ·
   refine Ah (Qp Ir ?_)
   refine AOL.Aa9 (A0 (k:=1) (c:=.bool _) Ai rfl rfl rfl rfl) rfl rfl ?_
   refine Qp Br (Qg [] Qw Ir ?_)
   refine AOL.gk (y:=.bool _) _ [(14,_)] rfl (sF.all ⟨Ent.Aa3 _ _,trivial⟩) (fun hG=>A0 (k:=0) (c:=.bool _) Ai rfl rfl rfl rfl) rfl rfl ?_
   refine Qp E3 (Qp Bg (Ag (A5 (fun hc2=>?_) fun hc2=>?_)))
   ·
    refine Ah (Qp Bg (Ag (AW.ret (Bc (Aj ?_)))))
    refine ⟨.inr rfl,[.bool _],.cons (.tmp _ _ rfl) <| .nil,_,.cons _ (.cons _ (.refl _)),?_⟩
    exact ⟨congrArg (fun q:Wm×Bool=>AV.bool q.2) (xO hc1 hc2).symm,congrArg (fun q:Wm×Bool=>(.box bw 156 [.val (.map (some m))] :: .kmap m (wE q.1)::R:List HO)) (xO hc1 hc2).symm⟩
   ·
    refine Ah (Qp Ir ?_)
    refine AOL.Aa9 (A0 (k:=1) (c:=.bool _) Ai rfl rfl rfl rfl) rfl rfl ?_
    refine Qp Bg (Ag (A5 (fun hc3=>?_) fun hc3=>?_))
    ·
     refine AW.region ?_
     refine AOL.Aa9 (B1 (k:=0) (l:=[.bool _,.str _,Iq _,Iq _,Iq _]) Ai rfl rfl rfl rfl rfl) rfl rfl ?_
     refine AOL.Aa9 (B1 (k:=1) (l:=[.bool _,.str _,Iq _,Iq _,Iq _]) Ai rfl rfl rfl rfl rfl) rfl rfl ?_
     refine Co 1 [.bool _,.str _,Iq _,Iq _,Iq _] (_::_::_::_::_) (Co 0 [.bool _,.str _,Iq _,Iq _,Iq _] (_::_::_::_::_) (AOL.nil (Bs (Ae ?_))))
     refine ⟨(y,x),?_,GS.weaken ⟨rfl,rfl,rfl,trivial⟩ (.refl _)⟩
     exact ⟨hy,eqAB_3 hc1 hc2 hc3⟩
    ·
     refine AW.skip (Bs (Ae ?_))
     refine ⟨(x,y),?_,GS.weaken ⟨rfl,rfl,rfl,trivial⟩ (.refl _)⟩
     exact ⟨hx,eqAB_4 hc1 hc2 hc3⟩
 ·
  rintro p hR
  refine Ah ?_
  refine AOL.Aa9 (A0 (k:=2) (c:=.val _) Ai rfl rfl rfl rfl) rfl rfl ?_
  refine AOL.Aa9 (B1 (k:=1) (l:=[.bool _,.str _,Iq _,Iq _,Iq _]) Ai rfl rfl rfl rfl rfl) rfl rfl ?_
  refine AOL.Aa9 (B1 (k:=0) (l:=[.bool _,.str _,Iq _,Iq _,Iq _]) Ai rfl rfl rfl rfl rfl) rfl rfl ?_
  refine Qe (Tl (i:=3) (eq:=Jt p.1) (H2:=_::_::_::_::_) Ai rfl rfl rfl rfl rfl rfl rfl (rfl) (wE_eq p.1 w) rfl (new_w hR.1) rfl) ?_
  rintro _ _ ⟨rfl,rfl⟩
  refine Dh (Qp Bg (Ag (AW.ret ?_)))
  refine ⟨.inr rfl,[.bool _],.cons (.tmp _ _ rfl) <| .nil,_,.cons _ (.cons _ (.refl _)),?_⟩
  exact ⟨congrArg (fun q:Wm×Bool=>AV.bool q.2) hR.2.symm,(congrArg (fun e=>(.box bw 156 [.val (.map (some m))] :: .kmap m e::R:List HO)) (wE_snoc w p).symm).trans (congrArg (fun q:Wm×Bool=>(.box bw 156 [.val (.map (some m))] :: .kmap m (wE q.1)::R:List HO)) hR.2.symm)⟩
theorem d_str3 (x y:Wd):Ax Tryz.prog 166 [.agg (Ld x),.agg (Ld y)] (.bool (!(eN x y))):=by
 refine Ax.body (n:=8) Ai Tryz.func166 rfl rfl rfl fun H=>?_
 refine Ah (Qp (F5 [.bool _,.str _,Iq _,Iq _,Iq _]) (Qp (F5 [.bool _,.str _,Iq _,Iq _,Iq _]) (Qp Bg (Dh (Qp (Cm [.bool _,.str _,Iq _,Iq _,Iq _]) (Qp (Cm [.bool _,.str _,Iq _,Iq _,Iq _]) ?_))))))
 refine Qp (Hp (r:=eN x y) Ai rfl rfl rfl rfl (Nt x y)) ?_
 refine Qp Bg (Ag (AW.ret ?_))
 refine Qr (.bool _) ?_
 rfl
theorem d_eachT (T:List Sc)(V:List Va)(l:List Lit)(hlk:Vk T V l)(bw m:Nat)(R:List HO):Dx Tryz.prog 162 (.box bw 156 [.val (.map (some m))] :: .kmap m (wE [])::R) [.bool true,.fn (.func 165) [] [.val (.pointer (some ⟨bw,0,none⟩))],.ptr [.sl 9 (l.map G5)],.ptr (Cq T V),.val (.pointer (some ⟨bw,0,none⟩))] (fun r H'=>r = .bool (Jb T V l []).2∧H' = .box bw 156 [.val (.map (some m))] :: .kmap m (wE (Jb T V l []).1)::R):=by
 refine Dx.body (n:=54) Ai Tryz.func162 rfl rfl rfl ?_
 refine Ah (Qp Bg (Ag (AW.seq (Ah (Qp Dm ?_)))))
 refine Qp (Ak (n:=l.length) Ai rfl rfl rfl (by simp)) ?_
 refine Qp A2 (Ag (AW.block ?_))
 refine AW.sllen 10 rfl fun hlen=>?_
 simp only [List.length_map,maxLen] at hlen
 refine AW.Aa5 (fun (p:Nat×Wm)=>(⟨[(0,.bool true),(1,.fn (.func 165) [] [.val (.pointer (some ⟨bw,0,none⟩))]),(2,.ptr [.sl 9 (l.map G5)]),(3,.ptr (Cq T V)),(4,.val (.pointer (some ⟨bw,0,none⟩))),(10,.sl 9 (l.map G5)),(11,.int .i64 l.length),(12,.int .i64 (p.1:Int))],.box bw 156 [.val (.map (some m))] :: .kmap m (wE p.2)::R,54⟩:St)) (fun (p:Nat×Wm)=>p.1≤l.length∧Jb T V l []=Jb T V (l.drop p.1) p.2∧Rv p.2) (fun (p:Nat×Wm)=>l.length-p.1) ((0,[])) ?_ (GS.weaken ⟨rfl,rfl,rfl,rfl,rfl,rfl,rfl,rfl,trivial⟩ (.refl _)) ?_
 · exact ⟨Nat.zero_le _,rfl,V9⟩
 ·
  rintro p hR
  have hwp:=hR.2.2
  refine Ah (Qp Cl (Ag (AW.seq (A5 (fun hc1=>?_) fun hc1=>?_))))
  ·
   obtain ⟨c,hc⟩:=B4 hc1
   have hlt:=Bb hc
   have hcm:=List.mem_of_getElem? hc
   have hck:=(hlk c hcm).1
   have hcs:=Nat.le_trans (hlk c hcm).2 (by decide:64≤1048576)
   have hdc:=Ba hc
   have hR2:=hR.2.1
   rw [hdc] at hR2
   refine Bz (AW.seq (AW.block (Ah ?_)))
   refine Qp (Af (c:=[Iq _,_,Iq _,Iq _,Iq _,Iq _,Iq _,.str _,.bool _]) Ai rfl rfl rfl rfl rfl rfl (by omega) (Bj hc)) ?_
   refine Qp (Cm [Iq _,_,Iq _,Iq _,Iq _,Iq _,Iq _,.str _,.bool _]) ?_
   refine Qe (Al (l:=[.int .i64 0,.sl 8 [],.int .i64 0,.int .i64 0,.int .i64 0,.int .i64 0,.int .i64 0,.str [],.bool false]) (by kernel_rfl)) ?_
   rintro _ _ ⟨b9,rfl,rfl⟩
   refine Co 0 [Iq _,_,Iq _,Iq _,Iq _,Iq _,Iq _,.str _,.bool _] (_::_::_::_) ?_
   refine AOL.ghost (GS.Aa4 (t:=9) 0 rfl rfl) ?_
   refine Ag (AW.seq ?_)
   refine AW.drawI mixed (fun j H'=>(j==18||j==25||j==26||j==33)=true→_∈H'∧_∈H') (fun _ _=>⟨(List.mem_of_getElem? (i:=0) rfl),(List.mem_of_getElem? (i:=1) rfl)⟩) (by kernel_rfl) ?_
   refine CanonI.pure _ _ 0 _ _ rfl (by kernel_rfl) (by kernel_rfl) rfl (.run rfl (B9 (cs':=[.bool _]) Ai rfl rfl rfl rfl rfl rfl)) ?_
   refine CanonI.pure _ _ 1 _ _ rfl (by kernel_rfl) (by kernel_rfl) rfl (.run rfl (Eh (c:=.bool _) Ai rfl rfl rfl)) ?_
   refine CanonI.pure _ _ 2 _ _ rfl (by kernel_rfl) (by kernel_rfl) rfl (.run rfl (Bl (v:=.bool _) rfl)) ?_
   refine CanonI.pure _ _ 3 _ _ rfl (by kernel_rfl) (by kernel_rfl) rfl (.run rfl (Rg Ai rfl rfl rfl rfl)) ?_
   refine CanonI.pure _ _ 4 _ _ rfl (by kernel_rfl) (by kernel_rfl) rfl (.run rfl (Bl (v:=.bool _) rfl)) ?_
   refine CanonI.pure _ _ 5 _ _ rfl (by kernel_rfl) (by kernel_rfl) rfl (.opt _ (.agg _) [] rfl (sF.all trivial) (fun hG=>Ey (l:=[_,_]) Ai rfl rfl rfl rfl rfl) rfl) ?_
   refine CanonI.pure _ _ 6 _ _ rfl (by kernel_rfl) (by kernel_rfl) rfl (.opt _ (.ptr _) [] rfl (sF.all trivial) (fun hG=>B9 (cs':=[Iq _,_,Iq _,Iq _,Iq _,Iq _,Iq _,.str _,.bool _]) Ai rfl rfl rfl rfl rfl rfl) rfl) ?_
   refine CanonI.pure _ _ 7 _ _ rfl (by kernel_rfl) (by kernel_rfl) rfl (.opt _ (.agg _) [(22,_)] rfl (sF.all ⟨Ent.Aa3 _ _,trivial⟩) (fun hG=>Ey (l:=[Iq _,_,Iq _,Iq _,Iq _,Iq _,Iq _,.str _]) Ai rfl rfl rfl rfl rfl) rfl) ?_
   refine CanonI.pure _ _ 8 _ _ rfl (by kernel_rfl) (by kernel_rfl) rfl (.opt _ (.bool _) [(21,_),(23,_)] rfl (sF.all ⟨Ent.Aa3 _ _,Ent.Aa3 _ _,trivial⟩) (fun hG=>C8 (by kernel_rfl) rfl rfl (R3 T V c.cond hck)) rfl) ?_
   refine CanonI.pure _ _ 9 _ _ rfl (by kernel_rfl) (by kernel_rfl) rfl (.run rfl (Nk rfl rfl rfl)) ?_
   refine CanonI.pure _ _ 10 _ _ rfl (by kernel_rfl) (by kernel_rfl) rfl (.run rfl (Bl (v:=.bool _) rfl)) ?_
   refine CanonI.pure _ _ 11 _ _ rfl (by kernel_rfl) (by kernel_rfl) rfl (.opt _ (.agg _) [] rfl (sF.all trivial) (fun hG=>Ey (l:=[_,_]) Ai rfl rfl rfl rfl rfl) rfl) ?_
   refine CanonI.pure _ _ 12 _ _ rfl (by kernel_rfl) (by kernel_rfl) rfl (.opt _ (.ptr _) [] rfl (sF.all trivial) (fun hG=>B9 (cs':=[Iq _,_,Iq _,Iq _,Iq _,Iq _,Iq _,.str _,.bool _]) Ai rfl rfl rfl rfl rfl rfl) rfl) ?_
   refine CanonI.pure _ _ 13 _ _ rfl (by kernel_rfl) (by kernel_rfl) rfl (.opt _ (.agg _) [(28,_)] rfl (sF.all ⟨Ent.Aa3 _ _,trivial⟩) (fun hG=>Ey (l:=[Iq _,_,Iq _,Iq _,Iq _,Iq _,Iq _,.str _]) Ai rfl rfl rfl rfl rfl) rfl) ?_
   refine CanonI.pure _ _ 14 _ _ rfl (by kernel_rfl) (by kernel_rfl) rfl (.opt _ (.bool _) [(27,_),(29,_)] rfl (sF.all ⟨Ent.Aa3 _ _,Ent.Aa3 _ _,trivial⟩) (fun hG=>C8 (by kernel_rfl) rfl rfl (Sx T V c.cond hck hcs)) rfl) ?_
   refine CanonI.pure _ _ 15 _ _ rfl (by kernel_rfl) (by kernel_rfl) rfl (.run rfl (Nk rfl rfl rfl)) ?_
   refine CanonI.pure _ _ 16 _ _ rfl (by kernel_rfl) (by kernel_rfl) rfl (.run rfl (Bl (v:=.bool _) rfl)) ?_
   refine CanonI.pure _ _ 17 _ _ rfl (by kernel_rfl) (by kernel_rfl) rfl (.opt _ (.fn _ _ _) [] rfl (sF.all trivial) (fun hG=>Bl (v:=.fn _ _ _) rfl) rfl) ?_
   refine CanonI.pure _ _ 18 _ _ rfl (by kernel_rfl) (by kernel_rfl) rfl (.opt _ (.val _) [] rfl (sF.all trivial) (fun hG=>OpP.Aa8 (fun k=>A0 (k:=k) (c:=.val _) Ai rfl rfl rfl rfl) (fun _ h=>(h rfl).1)) rfl) ?_
   refine CanonI.pure _ _ 19 _ _ rfl (by kernel_rfl) (by kernel_rfl) rfl (.opt _ (.ptr _) [] rfl (sF.all trivial) (fun hG=>B9 (cs':=[Iq _,_,Iq _,Iq _,Iq _,Iq _,Iq _,.str _,.bool _]) Ai rfl rfl rfl rfl rfl rfl) rfl) ?_
   refine CanonI.pure _ _ 20 _ _ rfl (by kernel_rfl) (by kernel_rfl) rfl (.opt _ (.ptr _) [(35,_)] rfl (sF.all ⟨Ent.Aa3 _ _,trivial⟩) (fun hG=>B9 (cs':=[_,Iq _,Iq _,Iq _,Iq _,Iq _,.str _,.bool _]) Ai rfl rfl rfl rfl rfl rfl) rfl) ?_
   refine CanonI.pure _ _ 21 _ _ rfl (by kernel_rfl) (by kernel_rfl) rfl (.opt _ (.sl _ _) [(36,_)] rfl (sF.all ⟨Ent.Aa3 _ _,trivial⟩) (fun hG=>Eh (c:=.sl _ _) Ai rfl rfl rfl) rfl) ?_
   refine CanonI.pure _ _ 22 _ _ rfl (by kernel_rfl) (by kernel_rfl) rfl (.opt _ (.ptr _) [(37,_)] rfl (sF.all ⟨Ent.Aa3 _ _,trivial⟩) (fun hG=>Af (c:=[Iq _,_,Iq _,Iq _,Iq _,Iq _,Iq _,.str _]) Ai rfl rfl rfl rfl rfl rfl (by decide) (Fq (Nat.lt_of_succ_lt (K3 hck (Mf (Kc (g1' hG))))))) rfl) ?_
   refine CanonI.pure _ _ 23 _ _ rfl (by kernel_rfl) (by kernel_rfl) rfl (.opt _ (.agg _) [(38,_)] rfl (sF.all ⟨Ent.Aa3 _ _,trivial⟩) (fun hG=>Ey (l:=[Iq _,_,Iq _,Iq _,Iq _,Iq _,Iq _,.str _]) Ai rfl rfl rfl rfl rfl) rfl) ?_
   refine CanonI.pure _ _ 24 _ _ rfl (by kernel_rfl) (by kernel_rfl) rfl (.opt _ (.agg _) [(39,_)] rfl (sF.all ⟨Ent.Aa3 _ _,trivial⟩) (fun hG=>C8 (by kernel_rfl) rfl rfl (Or _)) rfl) ?_
   refine CanonI.pure _ _ 25 _ _ rfl (by kernel_rfl) (by kernel_rfl) rfl (.opt _ (.agg _) [(34,_),(40,_)] rfl (sF.all ⟨Ent.Aa3 _ _,Ent.Aa3 _ _,trivial⟩) (fun hG=>S4 (ho:=.kmap m (wE p.2)) (by kernel_rfl) rfl rfl (Sz m p.2 hwp (Cb (Ao c.cond))) (fun _ h=>(h rfl).2)) rfl) ?_
   refine CanonI.pure _ _ 26 _ _ rfl (by kernel_rfl) (by kernel_rfl) rfl (.opt _ (.val _) [] rfl (sF.all trivial) (fun hG=>OpP.Aa8 (fun k=>A0 (k:=k) (c:=.val _) Ai rfl rfl rfl rfl) (fun _ h=>(h rfl).1)) rfl) ?_
   refine CanonI.pure _ _ 27 _ _ rfl (by kernel_rfl) (by kernel_rfl) rfl (.opt _ (.ptr _) [] rfl (sF.all trivial) (fun hG=>B9 (cs':=[Iq _,_,Iq _,Iq _,Iq _,Iq _,Iq _,.str _,.bool _]) Ai rfl rfl rfl rfl rfl rfl) rfl) ?_
   refine CanonI.pure _ _ 28 _ _ rfl (by kernel_rfl) (by kernel_rfl) rfl (.opt _ (.ptr _) [(43,_)] rfl (sF.all ⟨Ent.Aa3 _ _,trivial⟩) (fun hG=>B9 (cs':=[_,Iq _,Iq _,Iq _,Iq _,Iq _,.str _,.bool _]) Ai rfl rfl rfl rfl rfl rfl) rfl) ?_
   refine CanonI.pure _ _ 29 _ _ rfl (by kernel_rfl) (by kernel_rfl) rfl (.opt _ (.sl _ _) [(44,_)] rfl (sF.all ⟨Ent.Aa3 _ _,trivial⟩) (fun hG=>Eh (c:=.sl _ _) Ai rfl rfl rfl) rfl) ?_
   refine CanonI.pure _ _ 30 _ _ rfl (by kernel_rfl) (by kernel_rfl) rfl (.opt _ (.ptr _) [(45,_)] rfl (sF.all ⟨Ent.Aa3 _ _,trivial⟩) (fun hG=>Af (c:=[Iq _,_,Iq _,Iq _,Iq _,Iq _,Iq _,.str _]) Ai rfl rfl rfl rfl rfl rfl (by decide) (Id (K3 hck (Mf (Kc (g1' hG)))))) rfl) ?_
   refine CanonI.pure _ _ 31 _ _ rfl (by kernel_rfl) (by kernel_rfl) rfl (.opt _ (.agg _) [(46,_)] rfl (sF.all ⟨Ent.Aa3 _ _,trivial⟩) (fun hG=>Ey (l:=[Iq _,_,Iq _,Iq _,Iq _,Iq _,Iq _,.str _]) Ai rfl rfl rfl rfl rfl) rfl) ?_
   refine CanonI.pure _ _ 32 _ _ rfl (by kernel_rfl) (by kernel_rfl) rfl (.opt _ (.agg _) [(47,_)] rfl (sF.all ⟨Ent.Aa3 _ _,trivial⟩) (fun hG=>C8 (by kernel_rfl) rfl rfl (Or _)) rfl) ?_
   refine CanonI.pure _ _ 33 _ _ rfl (by kernel_rfl) (by kernel_rfl) rfl (.opt _ (.agg _) [(42,_),(48,_)] rfl (sF.all ⟨Ent.Aa3 _ _,Ent.Aa3 _ _,trivial⟩) (fun hG=>S4 (ho:=.kmap m (wE p.2)) (by kernel_rfl) rfl rfl (Sz m p.2 hwp (Cb (Bi c.cond))) (fun _ h=>(h rfl).2)) rfl) ?_
   refine CanonI.phaseg (fun _ _=>True) _ _ 34 _ _ [(41,_),(49,_),(33,_)] _ _ rfl (by kernel_rfl) rfl rfl (sF.all ⟨Ent.Aa3 _ _,Ent.Aa3 _ _,Ent.Aa3 _ _,trivial⟩) (fun hG=>Jm (by kernel_rfl) rfl rfl rfl (Dx.front2 (R:=_) 1 0 rfl rfl rfl ((d_str2 bw m p.2 (Cf p.2 (Cb (Ao c.cond))) (Cf p.2 (Cb (Bi c.cond))) (I5 hwp _) (I5 hwp _) _).mono' (fun r K h=>⟨h.1,h.2.trans (congrArg (fun w=>(.box bw 156 [.val (.map (some m))] :: .kmap m (wE w)::R:List HO)) (bD (aN (g1' hG))))⟩)))) (fun hG=>congrArg (fun w=>(.box bw 156 [.val (.map (some m))] :: .kmap m (wE w)::R:List HO)) (yI (tA (g1n hG))).symm) (fun j _ _ hr _ _ hj=>?_) (fun _=>trivial) ?_
   ·
    rcases (by simpa only [Bool.or_eq_true,beq_iff_eq,or_assoc] using hj:j=18∨j=25∨j=26∨j=33) with rfl | rfl | rfl | rfl
    · exact Bool.noConfusion ((show Iy _ 7 _ 18=true by kernel_rfl).symm.trans hr)
    · exact Bool.noConfusion ((show Iy _ 7 _ 25=true by kernel_rfl).symm.trans hr)
    · exact Bool.noConfusion ((show Iy _ 7 _ 26=true by kernel_rfl).symm.trans hr)
    · exact Bool.noConfusion ((show Iy _ 7 _ 33=true by kernel_rfl).symm.trans hr)
   refine CanonI.pure _ _ 35 _ _ rfl (by kernel_rfl) (by kernel_rfl) rfl (.opt _ (.bool _) [(50,_)] rfl (sF.all ⟨Ent.Aa3 _ _,trivial⟩) (fun hG=>P_not rfl) rfl) ?_
   refine CanonI.pure _ _ 36 _ _ rfl (by kernel_rfl) (by kernel_rfl) rfl (.run rfl (Nk rfl rfl rfl)) ?_
   refine CanonI.done _ _ (by kernel_rfl) ?_
   refine Ae (A5 (fun hc2=>?_) fun hc2=>?_)
   ·
    have hs2:=Bool.and_eq_true_iff.mp hc2
    have hst:=aN hs2.1
    have hfin:=hR2.trans (Mp hst ((Bool.not_eq_true' _).mp hs2.2))
    have hf1:(Jb T V l []).1=(E9 p.2 c).1:=by rw [hfin]
    refine Ah (Qp Bg (Ag (AW.ret (Bc (Aj (Aj (Bc (Aj ?_))))))))
    refine ⟨.inr rfl,[.bool _],.cons (.tmp _ _ rfl) <| .nil,_,.refl _,?_⟩
    exact ⟨congrArg (fun q:Wm×Bool=>AV.bool q.2) hfin.symm,congrArg (fun w=>(.box bw 156 [.val (.map (some m))] :: .kmap m (wE w)::R:List HO)) ((bD hst).symm.trans hf1.symm)⟩
   ·
    refine AW.skip (Bs (Ae (AW.region (Qp Fx (Qp A2 (Ag ?_))))))
    refine ⟨(p.1+1,Uv T V p.2 c),?_,?_,GS.weaken ⟨rfl,rfl,rfl,rfl,rfl,rfl,rfl,rfl,trivial⟩ (.refl _)⟩
    · exact ⟨hlt,hR2.trans (xJ hc2),iB hwp c⟩
    · simp only;omega
  ·
   have hde:=Di hc1
   have hR2:=hR.2.1
   rw [hde] at hR2
   refine AW.exit ?_
   refine A8 (A8 (Bw (Ae (Ah (Qp Bg (Ag (AW.ret ?_)))))))
   refine ⟨.inr rfl,[.bool _],.cons (.tmp _ _ rfl) <| .nil,_,.refl _,?_⟩
   exact ⟨congrArg (fun q:Wm×Bool=>AV.bool q.2) hR2.symm,congrArg (fun q:Wm×Bool=>(.box bw 156 [.val (.map (some m))] :: .kmap m (wE q.1)::R:List HO)) hR2.symm⟩
theorem Aac (T:List Sc)(V:List Va)(l:List Lit)(hlk:Vk T V l)(bw m:Nat)(w:Wm)(hwp:Rv w)(R:List HO):Dx Tryz.prog 162 (.box bw 156 [.val (.map (some m))] :: .kmap m (wE w)::R) [.bool false,.fn (.func 166) [] [],.ptr [.sl 9 (l.map G5)],.ptr (Cq T V),.val (.pointer (some ⟨bw,0,none⟩))] (fun r H'=>r = .bool (N6 T V w l)∧H' = .box bw 156 [.val (.map (some m))] :: .kmap m (wE w)::R):=by
 refine Dx.body (n:=54) Ai Tryz.func162 rfl rfl rfl ?_
 refine Ah (Qp Bg (Ag (AW.seq (Ah (Qp Dm ?_)))))
 refine Qp (Ak (n:=l.length) Ai rfl rfl rfl (by simp)) ?_
 refine Qp A2 (Ag (AW.block ?_))
 refine AW.sllen 10 rfl fun hlen=>?_
 simp only [List.length_map,maxLen] at hlen
 refine AW.Aa5 (fun (p:Nat)=>(⟨[(0,.bool false),(1,.fn (.func 166) [] []),(2,.ptr [.sl 9 (l.map G5)]),(3,.ptr (Cq T V)),(4,.val (.pointer (some ⟨bw,0,none⟩))),(10,.sl 9 (l.map G5)),(11,.int .i64 l.length),(12,.int .i64 (p:Int))],.box bw 156 [.val (.map (some m))] :: .kmap m (wE w)::R,54⟩:St)) (fun (p:Nat)=>p≤l.length∧N6 T V w l=N6 T V w (l.drop p)) (fun (p:Nat)=>l.length-p) (0) ?_ (GS.weaken ⟨rfl,rfl,rfl,rfl,rfl,rfl,rfl,rfl,trivial⟩ (.refl _)) ?_
 · exact ⟨Nat.zero_le _,rfl⟩
 ·
  rintro p hR
  refine Ah (Qp Cl (Ag (AW.seq (A5 (fun hc1=>?_) fun hc1=>?_))))
  ·
   obtain ⟨c,hc⟩:=B4 hc1
   have hlt:=Bb hc
   have hcm:=List.mem_of_getElem? hc
   have hck:=(hlk c hcm).1
   have hcs:=Nat.le_trans (hlk c hcm).2 (by decide:64≤1048576)
   have hdc:=Ba hc
   have hR2:=hR.2
   rw [hdc] at hR2
   refine Bz (AW.seq (AW.block (Ah ?_)))
   refine Qp (Af (c:=[Iq _,_,Iq _,Iq _,Iq _,Iq _,Iq _,.str _,.bool _]) Ai rfl rfl rfl rfl rfl rfl (by omega) (Bj hc)) ?_
   refine Qp (Cm [Iq _,_,Iq _,Iq _,Iq _,Iq _,Iq _,.str _,.bool _]) ?_
   refine Qe (Al (l:=[.int .i64 0,.sl 8 [],.int .i64 0,.int .i64 0,.int .i64 0,.int .i64 0,.int .i64 0,.str [],.bool false]) (by kernel_rfl)) ?_
   rintro _ _ ⟨b9,rfl,rfl⟩
   refine Co 0 [Iq _,_,Iq _,Iq _,Iq _,Iq _,Iq _,.str _,.bool _] (_::_::_::_) ?_
   refine AOL.ghost (GS.Aa4 (t:=9) 0 rfl rfl) ?_
   refine Ag (AW.seq ?_)
   refine AW.draw mixed (fun H'=>_∈H'∧_∈H') ⟨(List.mem_of_getElem? (i:=0) rfl),(List.mem_of_getElem? (i:=1) rfl)⟩ (by kernel_rfl) ?_
   refine Qn 0 rfl (Qf [.bool _]) (Qn 1 rfl kE (Qn 2 rfl Br ?_))
   refine Qn 3 rfl (Rg Ai rfl rfl rfl rfl) ?_
   refine Qn 4 rfl Br (Qo 5 rfl [] Qw (Cm [_,_]) (Qo 6 rfl [] Qw (Qf [Iq _,_,Iq _,Iq _,Iq _,Iq _,Iq _,.str _,.bool _]) (Qo 7 rfl [(22,_)] Qw D1 ?_)))
   refine Jx.pure _ _ 8 _ _ rfl (by kernel_rfl) (by kernel_rfl) rfl (.opt _ (.bool _) [(21,_),(23,_)] rfl (sF.all ⟨Ent.Aa3 _ _,Ent.Aa3 _ _,trivial⟩) (fun hG=>C8 (by kernel_rfl) rfl rfl (R3 T V c.cond hck)) rfl) ?_
   refine Qn 9 rfl E3 (Qn 10 rfl Br (Qo 11 rfl [] Qw (Cm [_,_]) (Qo 12 rfl [] Qw (Qf [Iq _,_,Iq _,Iq _,Iq _,Iq _,Iq _,.str _,.bool _]) (Qo 13 rfl [(28,_)] Qw D1 ?_))))
   refine Jx.pure _ _ 14 _ _ rfl (by kernel_rfl) (by kernel_rfl) rfl (.opt _ (.bool _) [(27,_),(29,_)] rfl (sF.all ⟨Ent.Aa3 _ _,Ent.Aa3 _ _,trivial⟩) (fun hG=>C8 (by kernel_rfl) rfl rfl (Sx T V c.cond hck hcs)) rfl) ?_
   refine Qn 15 rfl E3 (Qn 16 rfl Br ?_)
   refine Jx.pure _ _ 17 _ _ rfl (by kernel_rfl) (by kernel_rfl) rfl (.opt _ (.fn _ _ _) [] rfl (sF.all trivial) (fun hG=>Bl (v:=.fn _ _ _) rfl) rfl) ?_
   refine Jx.pure _ _ 18 _ _ rfl (by kernel_rfl) (by kernel_rfl) rfl (.opt _ (.val _) [] rfl (sF.all trivial) (fun hG=>OpP.Aa8 (fun k=>A0 (k:=k) (c:=.val _) Ai rfl rfl rfl rfl) (fun _ h=>h.1)) rfl) ?_
   refine Qo 19 rfl [] Qw (Qf [Iq _,_,Iq _,Iq _,Iq _,Iq _,Iq _,.str _,.bool _]) (Qo 20 rfl [(35,_)] Qw (Qf [_,Iq _,Iq _,Iq _,Iq _,Iq _,.str _,.bool _]) (Qo 21 rfl [(36,_)] Qw Dm ?_))
   refine Jx.pure _ _ 22 _ _ rfl (by kernel_rfl) (by kernel_rfl) rfl (.opt _ (.ptr _) [(37,_)] rfl (sF.all ⟨Ent.Aa3 _ _,trivial⟩) (fun hG=>Af (c:=[Iq _,_,Iq _,Iq _,Iq _,Iq _,Iq _,.str _]) Ai rfl rfl rfl rfl rfl rfl (by decide) (Fq (Nat.lt_of_succ_lt (K3 hck (Mf (Kc (g1' hG))))))) rfl) ?_
   refine Qo 23 rfl [(38,_)] Qw D1 ?_
   refine Qo 24 rfl [(39,_)] Qw (Qc rfl (Or _)) ?_
   refine Jx.pure _ _ 25 _ _ rfl (by kernel_rfl) (by kernel_rfl) rfl (.opt _ (.agg _) [(34,_),(40,_)] rfl (sF.all ⟨Ent.Aa3 _ _,Ent.Aa3 _ _,trivial⟩) (fun hG=>S4 (ho:=.kmap m (wE w)) (by kernel_rfl) rfl rfl (Sz m w hwp (Cb (Ao c.cond))) (fun _ h=>h.2)) rfl) ?_
   refine Jx.pure _ _ 26 _ _ rfl (by kernel_rfl) (by kernel_rfl) rfl (.opt _ (.val _) [] rfl (sF.all trivial) (fun hG=>OpP.Aa8 (fun k=>A0 (k:=k) (c:=.val _) Ai rfl rfl rfl rfl) (fun _ h=>h.1)) rfl) ?_
   refine Qo 27 rfl [] Qw (Qf [Iq _,_,Iq _,Iq _,Iq _,Iq _,Iq _,.str _,.bool _]) (Qo 28 rfl [(43,_)] Qw (Qf [_,Iq _,Iq _,Iq _,Iq _,Iq _,.str _,.bool _]) (Qo 29 rfl [(44,_)] Qw Dm ?_))
   refine Jx.pure _ _ 30 _ _ rfl (by kernel_rfl) (by kernel_rfl) rfl (.opt _ (.ptr _) [(45,_)] rfl (sF.all ⟨Ent.Aa3 _ _,trivial⟩) (fun hG=>Af (c:=[Iq _,_,Iq _,Iq _,Iq _,Iq _,Iq _,.str _]) Ai rfl rfl rfl rfl rfl rfl (by decide) (Id (K3 hck (Mf (Kc (g1' hG)))))) rfl) ?_
   refine Qo 31 rfl [(46,_)] Qw D1 ?_
   refine Qo 32 rfl [(47,_)] Qw (Qc rfl (Or _)) ?_
   refine Jx.pure _ _ 33 _ _ rfl (by kernel_rfl) (by kernel_rfl) rfl (.opt _ (.agg _) [(42,_),(48,_)] rfl (sF.all ⟨Ent.Aa3 _ _,Ent.Aa3 _ _,trivial⟩) (fun hG=>S4 (ho:=.kmap m (wE w)) (by kernel_rfl) rfl rfl (Sz m w hwp (Cb (Bi c.cond))) (fun _ h=>h.2)) rfl) ?_
   refine Jx.pure _ _ 34 _ _ rfl (by kernel_rfl) (by kernel_rfl) rfl (.opt _ (.bool _) [(41,_),(49,_),(33,_)] rfl (sF.all ⟨Ent.Aa3 _ _,Ent.Aa3 _ _,Ent.Aa3 _ _,trivial⟩) (fun hG=>D2 (by kernel_rfl) rfl rfl rfl (d_str3 (Cf w (Cb (Ao c.cond))) (Cf w (Cb (Bi c.cond))))) rfl) ?_
   refine Qo 35 rfl [(50,_)] Qw Gt (Qn 36 rfl E3 ?_)
   refine Jx.done _ _ (by kernel_rfl) ?_
   refine Ae (A5 (fun hc2=>?_) fun hc2=>?_)
   ·
    have hfin:=hR2.trans (mV hc2)
    refine Ah (Qp Bg (Ag (AW.ret (Bc (Aj (Aj (Bc (Aj ?_))))))))
    refine ⟨.inr rfl,[.bool _],.cons (.tmp _ _ rfl) <| .nil,_,.refl _,?_⟩
    exact ⟨congrArg AV.bool hfin.symm,rfl⟩
   ·
    refine AW.skip (Bs (Ae (AW.region (Qp Fx (Qp A2 (Ag ?_))))))
    refine ⟨p+1,?_,?_,GS.weaken ⟨rfl,rfl,rfl,rfl,rfl,rfl,rfl,rfl,trivial⟩ (.refl _)⟩
    · exact ⟨hlt,hR2.trans (mQ hc2)⟩
    · omega
  ·
   have hde:=Di hc1
   have hR2:=hR.2
   rw [hde] at hR2
   refine AW.exit ?_
   refine A8 (A8 (Bw (Ae (Ah (Qp Bg (Ag (AW.ret ?_)))))))
   refine ⟨.inr rfl,[.bool _],.cons (.tmp _ _ rfl) <| .nil,_,.refl _,?_⟩
   exact ⟨congrArg AV.bool hR2.symm,rfl⟩

set_option maxHeartbeats 3200000
set_option maxRecDepth 20000

theorem f_check (n:Int)(b:Bd):Ax Tryz.prog 174 [.int .i64 n,.agg (Rw b)] (.int .i64 (bdE n b)):=by
 refine Ax.body (n:=35) Ai Tryz.func174 rfl rfl rfl fun H=>?_
 refine Ah (Qp (F5 [Iq _,Iq _,Iq _]) (Qp Av (Ag (AW.seq (Ah (Qp (Qf [Iq _,Iq _,Iq _]) (Qp Bt (Qp Cl (Qp Br ?_)))))))))
 refine Qg [] Qw (Qf [Iq _,Iq _,Iq _]) (Qg [(9,_)] Qw Bt (Qg [] Qw A2 ?_))
 refine AOL.Aa6 (y:=.bool _) _ [(10,_),(11,_)] rfl (sF.all ⟨Ent.Aa3 _ _,Ent.Aa3 _ _,trivial⟩) (fun hG=>Uo rfl rfl) rfl ?_
 refine Qp E5 (Qp Br (Qg [] Qw (Qf [Iq _,Iq _]) (Qg [(15,_)] Qw Bt (Qg [(16,_)] Qw Cl (Qp E5 (Qp Br (Qg [] Qw (Qf [Iq _,Iq _]) (Qg [(20,_)] Qw Bt (Qg [] Qw A2 ?_)))))))))
 refine AOL.Aa6 (y:=.bool _) _ [(21,_),(22,_)] rfl (sF.all ⟨Ent.Aa3 _ _,Ent.Aa3 _ _,trivial⟩) (fun hG=>Uo rfl rfl) rfl ?_
 refine Qp E5 (Qp Br (Qg [] Qw (Qf [Iq _]) (Qg [(26,_)] Qw Bt (Qg [(27,_)] Qw Cl (Qp E5 (Qp Br (Qg [] Qw (Qf [Iq _]) (Qg [(31,_)] Qw Bt (Qg [(32,_)] Qw Hi ?_)))))))))
 refine Qp E5 (Ag (A5 (fun hc1=>?_) fun hc1=>?_))
 ·
  refine Ah (Qp Av (Ag (Du ?_)))
  refine Qr (Iq _) ?_
  exact Eq.trans rfl (congrArg (fun q:Int=>AV.int .i64 q) (if_pos hc1)).symm
 ·
  refine Bz (Ah (Qp Av (Ag (AW.ret ?_))))
  refine Qr (Iq _) ?_
  exact Eq.trans rfl (congrArg (fun q:Int=>AV.int .i64 q) (Ck hc1)).symm
theorem pP (z:Zn):Ax Tryz.prog 167 [.agg (T6 z)] (.int .i64 (I6 z)):=by
 refine Ax.body (n:=35) Ai Tryz.func167 rfl rfl rfl fun H=>?_
 refine Ah (Qp (F5 [Iq _,_]) (Qp Av (Ag (AW.seq (AW.block (Ah (Qp (Qf [Iq _,_]) (Qp Bt (Qp Cl ?_)))))))))
 refine Qp Br (Qg [] Qw (Qf [Iq _,_]) (Qg [(11,_)] Qw Bt (Qg [(12,_)] Qw Hi (Qp E5 (Qp Bg (Ag (A5 (fun hc1=>?_) fun hc1=>?_)))))))
 ·
  refine Ah (Qp Av (Ag (AW.ret (Bc (Aj ?_)))))
  refine Qr (Iq _) ?_
  exact Eq.trans rfl (congrArg (fun q:Int=>AV.int .i64 q) (if_pos hc1)).symm
 ·
  refine Ah (Qp (Qf [_]) (Qp Dm ?_))
  refine Qp (Ak (n:=z.bs.length) Ai rfl rfl rfl (by simp)) ?_
  refine Qp Hi (Qp Bg (Ag (A5 (fun hc2=>?_) fun hc2=>?_)))
  ·
   refine Ah (Qp Av (Ag (AW.ret (Bc (Aj ?_)))))
   refine Qr (Iq _) ?_
   exact Eq.trans rfl (congrArg (fun q:Int=>AV.int .i64 q) ((Ck hc1).trans (if_pos hc2))).symm
  ·
   refine AW.skip (Bs (Ae (AW.seq (Ah (Qp (Qf [_]) (Qp Dm ?_))))))
   refine Qp (Ak (n:=z.bs.length) Ai rfl rfl rfl (by simp)) ?_
   refine Qp A2 (Ag (AW.block ?_))
   refine AW.sllen 21 rfl fun hlen=>?_
   simp only [List.length_map,maxLen] at hlen
   refine AW.Aa5 (fun (k:Nat)=>(⟨[(1,.ptr (T6 z)),(21,.sl 3 (z.bs.map Rw)),(22,.int .i64 z.bs.length),(23,.int .i64 (k:Int))],H,35⟩:St)) (fun (k:Nat)=>k≤z.bs.length∧Aq (bdE z.n) (z.bs.take k)=0) (fun (k:Nat)=>z.bs.length-k) (0) ?_ (GS.weaken ⟨rfl,rfl,rfl,rfl,trivial⟩ (.refl _)) ?_
   · exact ⟨Nat.zero_le _,rfl⟩
   ·
    rintro k hR
    refine Ah (Qp Cl (Ag (AW.seq (A5 (fun hc3=>?_) fun hc3=>?_))))
    ·
     obtain ⟨c,hc⟩:=B4 hc3
     have hlt:=Bb hc
     refine Bz (AW.seq (AW.block (Ah ?_)))
     refine Qp (Af (c:=[Iq _,Iq _,Iq _]) Ai rfl rfl rfl rfl rfl rfl (by omega) (Bj hc)) ?_
     refine Qp (Cm [Iq _,Iq _,Iq _]) ?_
     refine Qe (Al (l:=[.int .i64 0,.int .i64 0,.int .i64 0]) (by kernel_rfl)) ?_
     rintro _ _ ⟨b4,rfl,rfl⟩
     refine Co 0 [Iq _,Iq _,Iq _] (_::_) ?_
     refine AOL.ghost (GS.Aa4 (t:=4) 0 rfl rfl) ?_
     refine Dh (Qp (Qf [Iq _,_]) (Qp Bt (Qp (Cm [Iq _,Iq _,Iq _]) ?_)))
     refine Qp (Qc rfl (f_check z.n c)) ?_
     refine Qp Av (Dh (Qp A2 (Qp Ct (Ag (A5 (fun hc4=>?_) fun hc4=>?_)))))
     ·
      refine Ah (Qp A2 (Qp Av (Ag (AW.ret (Bc (Aj (Aj (Bc (Aj ?_)))))))))
      refine Qr (Iq _) ?_
      exact Eq.trans rfl (congrArg (fun q:Int=>AV.int .i64 q) (((Ck hc1).trans (Ck hc2)).trans (M0 hR.2 hc (by simpa using hc4)))).symm
     ·
      refine AW.skip (Bs (Ae (AW.region (Qp Fx (Qp A2 (Ag ?_))))))
      refine ⟨k+1,?_,?_,GS.weaken ⟨rfl,rfl,rfl,rfl,trivial⟩ (.refl _)⟩
      · exact ⟨hlt,Rk hR.2 hc (by simpa using hc4)⟩
      · omega
    ·
     have hte:=C5 hc3
     have hall:=hR.2
     rw [hte] at hall
     refine AW.exit ?_
     refine A8 (A8 (Bw (Ae (Ah (Qp Av (Ag (AW.ret ?_)))))))
     refine Qr (Iq _) ?_
     exact Eq.trans rfl (congrArg (fun q:Int=>AV.int .i64 q) (((Ck hc1).trans (Ck hc2)).trans hall)).symm
theorem gG (H:List HO)(n:Nat)(h0:0<n)(hn:n≤1048576):Dx Tryz.prog 175 H [.sl 1 [[.int .i64 (-1)]],.int .i64 (n:Int)] (fun r H'=>∃b,r = .val (.slice (some ⟨b,0,none⟩) n n)∧H' = .box b 3 (bI (N2 n))::H):=by
 have hmx:1048576≤maxLen:=by decide
 refine Dx.body (n:=48) Ai Tryz.func175 rfl rfl rfl ?_
 refine Ah ?_
 refine Qp (B2 (z:=1) rfl) ?_
 refine Ag (AW.seq (Ah (Qp A2 (Qp Cl (Ag (A5 (fun hc1=>?_) fun hc1=>?_))))))
 ·
  have:=of_decide_eq_true hc1
  omega
 ·
  refine Bz (Ah (Qp C6 ?_))
  refine Qp (Ak (n:=1) Ai rfl rfl rfl (rfl)) ?_
  refine Qp (kR (m:=1) Ai rfl rfl rfl rfl rfl (rfl)) ?_
  refine Qp A2 ?_
  refine Qp (kR (m:=(n:Int)) Ai rfl rfl rfl rfl rfl (u64_in hn)) ?_
  refine Qp (Qc rfl (kMul1 n hn)) ?_
  refine Qp Mx ?_
  refine Qp (Cd (v:=.int .u64 _) rfl rfl) ?_
  refine Qp (Cd (v:=.int .u64 _) rfl rfl) ?_
  refine Qp (C3 (v:=.int .u64 _) rfl) ?_
  refine Qp (C3 (v:=.int .u64 _) rfl) ?_
  refine Ag (AW.seq (Ah ?_))
  refine Qp (Bl (v:=.int .u64 _) rfl) ?_
  refine Qp Hi (Qp Br ?_)
  refine AOL.Aa6 (y:=.int .u64 _) _ [] rfl (sF.all trivial) (fun hG=>Bl (v:=.int .u64 _) rfl) rfl ?_
  refine Qg [(24,_)] Qw Hi (Qp E5 (Ag (A5 (fun hc2=>?_) fun hc2=>?_)))
  ·
   exact absurd hc2 (by simp;omega)
  ·
   refine Bz (Ah ?_)
   refine Qp (Bl (v:=.int .u64 _) rfl) ?_
   refine Qp (kR (m:=(n:Int)) Ai rfl rfl rfl rfl rfl (i64_in hn)) ?_
   refine Qe (Pm (n:=n) Ai rfl rfl rfl rfl rfl rfl rfl (by show 8*n≤_;omega) (by omega)) ?_
   rintro _ _ ⟨b30,rfl,rfl⟩
   refine Qp N8 ?_
   refine AOL.ghost (GS.cells 0 rfl ((cA n).trans (congrArg bI (show List.replicate n 0=Ll n 0 by simp [Ll])))) ?_
   refine Dh (Qp H4 (Qp C6 ?_))
   refine Qe (uN (k:=0) (m:=1) (cs':=bI (Ll n 1)) (H2:=_::_) Ai rfl rfl rfl rfl rfl rfl rfl (by simp) (Hg rfl) (Nat.min_eq_left (by show 1≤n;omega)) (by rw [Yg,Yp (by omega)];omega) (lG h0) rfl) ?_
   rintro _ _ ⟨rfl,rfl⟩
   refine Qp Av (Ag (AW.seq (AW.block ?_)))
   refine AW.Aa5 (fun (k:Nat)=>(⟨[(7,.val (.slice (some ⟨b30,0,none⟩) n n)),(8,.int .i64 (k:Int))],.box b30 3 (bI (Ll n k))::H,48⟩:St)) (fun (k:Nat)=>1≤k∧k≤n) (fun (k:Nat)=>n-k) (1) ?_ (GS.weaken ⟨rfl,rfl,trivial⟩ (.refl _)) ?_
   · exact ⟨Nat.le_refl _,h0⟩
   ·
    rintro k hR
    refine AW.seq (Ah (Qp A2 (Qp H4 ?_)))
    refine Qp (bG Ai rfl rfl rfl) ?_
    refine Qp Cl (Ag (A5 (fun hc3=>?_) fun hc3=>?_))
    ·
     have hlt:k<n:=by have:=of_decide_eq_true hc3;omega
     refine Bz (AW.block ?_)
     refine AW.draw mixed (fun _=>True) trivial (by kernel_rfl) ?_
     refine Qn 0 rfl A2 (Qn 1 rfl H4 (Qn 2 rfl A2 ?_))
     refine Qn 3 rfl (U2 (l:=k) (h:=n) (o':=k) Ai rfl rfl rfl rfl rfl (⟨_,rfl⟩) (rfl) (by omega) (by omega) (by omega) (by omega) (by simp)) ?_
     refine Qn 4 rfl H4 (Qn 5 rfl A2 ?_)
     refine Qn 6 rfl (U2 (l:=0) (h:=k) (o':=0) Ai rfl rfl rfl rfl rfl (rfl) (⟨_,rfl⟩) (by omega) (by omega) (by omega) (by omega) (rfl)) ?_
     refine Jx.eff _ _ 7 _ _ rfl (by kernel_rfl) rfl rfl (sJ (k:=0) (m:=min k (n-k)) (cs':=bI (Ll n (k+min k (n-k)))) (H2:=_::_) Ai rfl rfl rfl rfl rfl rfl rfl (bI_sc _) (by first | rfl | (simp only [Nat.sub_zero];done) | (simp only [Nat.sub_zero];rfl)) (by rw [Yg,Yp hR.2];omega) (by rw [Yg,Yp hR.2];omega) (rN (by omega) (by omega)) rfl) (fun _ _ _=>trivial) ?_
     rintro _ _ ⟨rfl,rfl⟩
     refine Qn 8 rfl Fx (Qn 9 rfl Av ?_)
     refine Jx.done _ _ (by kernel_rfl) ?_
     refine Bs (Ae ?_)
     refine ⟨k+min k (n-k),?_,?_,GS.weaken ⟨rfl,rfl,trivial⟩ (.refl _)⟩
     · omega
     · omega
    ·
     have hkn:k=n:=by have:=of_decide_eq_false hc3;omega
     refine AW.exit ?_
     refine A8 (A8 (Bw (Ae (Ah (Qp H4 (Qp N8 (Ag (AW.ret ?_))))))))
     refine ⟨.inr rfl,[.val _],.cons (.tmp _ _ rfl) <| .nil,_,.refl _,?_⟩
     exact ⟨b30,rfl,congrArg (fun l=>HO.box b30 3 (bI l)::H) ((congrArg (Ll n) hkn).trans (sG n))⟩
theorem Aao (bd b1 b2 n:Nat)(bs:List Bd)(hz:znOK n bs)(C:Int)(hC:0≤C)(hC2:C≤4000000000000000000)(d:Ds)(hd:dsOK n C d)(R:List HO):Dx Tryz.prog 176 (.box bd 231 [.val (.slice (some ⟨b1,0,none⟩) n n),.val (.slice (some ⟨b2,0,none⟩) n n)] :: .box b1 3 (bI d.sums) :: .box b2 3 (bI d.last)::R) [.val (.pointer (some ⟨bd,0,none⟩)),.agg (T6 (zn n bs))] (fun r H'=>r = .int .i64 (Js bs d).2∧H' = .box bd 231 [.val (.slice (some ⟨b1,0,none⟩) n n),.val (.slice (some ⟨b2,0,none⟩) n n)] :: .box b1 3 (bI (Js bs d).1.sums) :: .box b2 3 (bI (Js bs d).1.last)::R):=by
 have hbl:=hz.len
 have hn64:=hz.n64
 have hbb:Jp=140737488355329:=rfl
 refine Dx.body (n:=58) Ai Tryz.func176 rfl rfl rfl ?_
 refine Ah (Qp (F5 [Iq _,_]) (Qp Av (Dh (Qp Av (Ag (AW.seq (Ah (Qp (Qf [_]) (Qp Dm ?_)))))))))
 refine Qp (Ak (n:=bs.length) Ai rfl rfl rfl (by simp [zn])) ?_
 refine Qp A2 (Ag (AW.block ?_))
 refine AW.Aa5 (fun (p:Nat×Ds×Int)=>(⟨[(0,.val (.pointer (some ⟨bd,0,none⟩))),(3,.ptr (T6 (zn n bs))),(5,.int .i64 p.2.2),(10,.sl 3 (bs.map Rw)),(11,.int .i64 bs.length),(12,.int .i64 (p.1:Int))],.box bd 231 [.val (.slice (some ⟨b1,0,none⟩) n n),.val (.slice (some ⟨b2,0,none⟩) n n)] :: .box b1 3 (bI p.2.1.sums) :: .box b2 3 (bI p.2.1.last)::R,58⟩:St)) (fun (p:Nat×Ds×Int)=>p.1≤bs.length∧Js bs d=F8 p.1 (bs.drop p.1) p.2∧dsOK n (C+(p.1:Int)*Jp) p.2.1) (fun (p:Nat×Ds×Int)=>bs.length-p.1) ((0,d,-1)) ?_ (GS.weaken ⟨rfl,rfl,rfl,rfl,rfl,rfl,trivial⟩ (.refl _)) ?_
 · exact ⟨Nat.zero_le _,rfl,by simpa using hd⟩
 ·
  rintro p hR
  have hd2:=hR.2.2
  have hpl:=hR.1
  have hkb:(p.1:Int)*Jp≤256*Jp:=by unfold Jp;omega
  have hks:((p.1+1:Nat):Int)*Jp=(p.1:Int)*Jp+Jp:=by push_cast;rw [Int.add_mul];omega
  refine Ah (Qp Cl (Ag (AW.seq (A5 (fun hc1=>?_) fun hc1=>?_))))
  ·
   obtain ⟨c,hc⟩:=B4 hc1
   have hlt:=Bb hc
   have hcm:=List.mem_of_getElem? hc
   have hb:=hz.bd c hcm
   have hm:=hz.most c hcm
   have hi1:=hd2.ix hb.2.2.1 hb.2.2.2
   refine Bz (AW.seq (AW.block (Ah (Qp A2 ?_))))
   refine Qp (Af (c:=[.int .i64 c.x,.int .i64 c.y,.int .i64 c.most]) Ai rfl rfl rfl rfl rfl rfl (by omega) (lQ hc)) ?_
   refine Qp (Cm [Iq _,Iq _,Iq _]) ?_
   refine Qe (Al (l:=[.int .i64 0,.int .i64 0,.int .i64 0]) (by kernel_rfl)) ?_
   rintro _ _ ⟨b7,rfl,rfl⟩
   refine Qp Av (Co 0 [Iq _,Iq _,Iq _] (_::_::_::_::_) ?_)
   refine AOL.ghost (GS.Aa4 (t:=7) 0 rfl rfl) ?_
   refine Ag (AW.seq ?_)
   refine AW.draw mixed (fun H'=>_∈H'∧_∈H') ⟨(List.mem_of_getElem? (i:=0) rfl),(List.mem_of_getElem? (i:=1) rfl)⟩ (by kernel_rfl) ?_
   refine Qn 0 rfl H4 ?_
   refine Qn 1 rfl (Bn rfl) ?_
   refine Qn 2 rfl Ir ?_
   refine Qn 3 rfl (OpP.Aa8 (fun k=>A0 (k:=k) (c:=.val _) Ai rfl rfl rfl rfl) (fun _ h=>h.1)) ?_
   refine Qn 4 rfl (Qf [Iq _,Iq _]) (Qn 5 rfl Bt ?_)
   refine Qn 6 rfl (Ca (o':=c.y.toNat) Ai rfl rfl rfl rfl rfl (hb.2.2.1) (by have:=hb.2.2.2;omega) (dG _)) ?_
   refine Qn 7 rfl (OpP.Aa8 (fun k=>A0 (k:=k) (c:=.int .i64 (E2 p.2.1.sums c.y)) Ai rfl rfl rfl (Wt hb.2.2.1 (by rw [hd2.s];exact hb.2.2.2))) (fun _ h=>h.2)) ?_
   refine Qn 8 rfl (Qf [Iq _]) (Qn 9 rfl Bt (Qn 10 rfl Fx (Qn 11 rfl Av ?_)))
   refine Jx.done _ _ (by kernel_rfl) ?_
   refine Ae (AW.seq ?_)
   refine AW.draw mixed (fun H'=>_∈H'∧_∈H') ⟨(List.mem_of_getElem? (i:=0) rfl),(List.mem_of_getElem? (i:=1) rfl)⟩ (by kernel_rfl) ?_
   refine Qn 0 rfl A2 (Qn 1 rfl H4 ?_)
   refine Qn 2 rfl (Bn rfl) ?_
   refine Qn 3 rfl Ir ?_
   refine Qn 4 rfl (OpP.Aa8 (fun k=>A0 (k:=k) (c:=.val _) Ai rfl rfl rfl rfl) (fun _ h=>h.1)) ?_
   refine Qn 5 rfl (Qf [Iq _,Iq _,Iq _]) (Qn 6 rfl Bt ?_)
   refine Qn 7 rfl (Ca (o':=c.x.toNat) Ai rfl rfl rfl rfl rfl (hb.1) (by have:=hb.2.1;omega) (dG _)) ?_
   refine Qn 8 rfl (OpP.Aa8 (fun k=>A0 (k:=k) (c:=.int .i64 (E2 p.2.1.sums c.x)) Ai rfl rfl rfl (Wt hb.1 (by rw [hd2.s];exact hb.2.1))) (fun _ h=>h.2)) ?_
   refine Qn 9 rfl Cl ?_
   refine Jx.done _ _ (by kernel_rfl) ?_
   refine Ae (A5 (fun hc2=>?_) fun hc2=>?_)
   ·
    refine AW.seq ?_
    refine AW.draw mixed (fun H'=>_∈H') (List.mem_of_getElem? (i:=0) rfl) (by kernel_rfl) ?_
    refine Qn 0 rfl H4 ?_
    refine Qn 1 rfl (Bn rfl) ?_
    refine Qn 2 rfl Ir ?_
    refine Qn 3 rfl (OpP.Aa8 (fun k=>A0 (k:=k) (c:=.val _) Ai rfl rfl rfl rfl) (fun _ h=>h)) ?_
    refine Qn 4 rfl (Qf [Iq _,Iq _,Iq _]) (Qn 5 rfl Bt (Qn 6 rfl H4 ?_))
    refine Qn 7 rfl (Bn rfl) ?_
    refine Qn 8 rfl Ir ?_
    refine Qn 9 rfl (OpP.Aa8 (fun k=>A0 (k:=k) (c:=.val _) Ai rfl rfl rfl rfl) (fun _ h=>h)) ?_
    refine Qn 10 rfl (Qf [Iq _,Iq _,Iq _]) (Qn 11 rfl Bt (Qn 12 rfl A2 (Qn 13 rfl A2 ?_)))
    refine Qn 14 rfl (Ca (o':=c.x.toNat) Ai rfl rfl rfl rfl rfl (hb.1) (by have:=hb.2.1;omega) (dG _)) ?_
    refine Jx.eff _ _ 15 _ _ rfl (by kernel_rfl) rfl rfl (C7 (k:=1) (v:=Iq _) (cs':=bI (p.2.1.sums.set c.x.toNat (E2 p.2.1.sums c.y+c.most))) (H2:=_::_::_::_) Ai rfl rfl rfl rfl rfl rfl (eJ (by rw [hd2.s];omega)) (dA (by rw [hd2.s];omega)) rfl) (by rintro _ _ ⟨rfl,rfl⟩;simp) ?_
    rintro _ _ ⟨rfl,rfl⟩
    refine Qn 16 rfl (Ca (o':=c.x.toNat) Ai rfl rfl rfl rfl rfl (hb.1) (by have:=hb.2.1;omega) (dG _)) ?_
    refine Jx.last _ _ 17 _ _ rfl (by kernel_rfl) rfl rfl (C7 (k:=2) (v:=Iq _) (cs':=bI (p.2.1.last.set c.x.toNat (p.1:Int))) (H2:=_::_::_::_) Ai rfl rfl rfl rfl rfl rfl (eJ (by rw [hd2.l];omega)) (dA (by rw [hd2.l];omega)) rfl) (by kernel_rfl) ?_
    rintro _ _ ⟨rfl,rfl⟩
    refine Ae (AW.region (Qp (Qf [Iq _,Iq _,Iq _]) (Qp Bt (Qp Av (AOL.nil (Bs (Ae (AW.region (Qp Fx ?_)))))))))
    refine Qp A2 (Ag ?_)
    refine ⟨(p.1+1,⟨p.2.1.sums.set c.x.toNat (E2 p.2.1.sums c.y+c.most),p.2.1.last.set c.x.toNat (p.1:Int)⟩,c.x),?_,?_,GS.weaken ⟨rfl,rfl,rfl,rfl,rfl,rfl,trivial⟩ (.refl _)⟩
    · exact ⟨hlt,hR.2.1.trans ((Ri hc).trans (congrArg _ (Pu hc2))),by have:=wZ (i:=p.1) hd2 hb hm;rw [Pu hc2] at this;exact this.mono (by simp only [hks];omega)⟩
    · simp only;omega
   ·
    refine AW.skip (Bs (Ae (AW.region (Qp Fx (Qp A2 (Ag ?_))))))
    refine ⟨(p.1+1,p.2),?_,?_,GS.weaken ⟨rfl,rfl,rfl,rfl,rfl,rfl,trivial⟩ (.refl _)⟩
    · exact ⟨hlt,hR.2.1.trans ((Ri hc).trans (congrArg _ (Yc hc2))),hd2.mono (by simp only [hks];omega)⟩
    · simp only;omega
  ·
   have hde:=Di hc1
   have hfin:=hR.2.1.trans (Zw hde)
   refine AW.exit ?_
   refine A8 (A8 (Bw (Ae (Ah (Qp A2 (Qp Av (Ag (AW.ret ?_))))))))
   refine ⟨.inr rfl,[Iq _],.cons (.tmp _ _ rfl) <| .nil,_,.refl _,?_⟩
   exact ⟨congrArg (fun q:Ds×Int=>AV.int .i64 q.2) hfin.symm,congrArg (fun q:Ds×Int=>(.box bd 231 [.val (.slice (some ⟨b1,0,none⟩) n n),.val (.slice (some ⟨b2,0,none⟩) n n)] :: .box b1 3 (bI q.1.sums) :: .box b2 3 (bI q.1.last)::R:List HO)) hfin.symm⟩
theorem f_back (bd n:Nat)(bs:List Bd)(f:Int):Ax Tryz.prog 177 [.val (.pointer (some ⟨bd,0,none⟩)),.agg (T6 (zn n bs)),.int .i64 f] (.fn (.func 189) [] [.ptr [.int .i64 f],.ptr [.val (.pointer (some ⟨bd,0,none⟩))],.ptr (T6 (zn n bs))]):=by
 refine Ax.body (n:=8) Ai Tryz.func177 rfl rfl rfl fun H=>?_
 refine Ah ?_
 refine Qp (bC (v:=.val _) (cs:=[_]) rfl rfl rfl) ?_
 refine Qp (F5 [Iq _,_]) ?_
 refine Qp (bC (v:=Iq _) (cs:=[Iq _]) rfl rfl rfl) ?_
 refine Qp N8 (Dh ?_)
 refine Qp (Bf (l:=[]) (l':=[.ptr _,.ptr _,.ptr _]) rfl rfl) ?_
 refine Qp (C3 (v:=.fn _ _ _) rfl) ?_
 refine Ag (AW.ret ?_)
 refine Qr (.fn _ _ _) ?_
 rfl

set_option maxHeartbeats 1600000
set_option maxRecDepth 20000

theorem f_back1 (l:Nat)(rec:Loop)(bd b1 b2 n:Nat)(bs:List Bd)(d:Ds)(hn:n≤64)(hdl:d.last.length=n)(G:Value→List Int→List HO)(hp:rec.params.size=1)(i0:Nat)(hi:∀v pre,(G v pre)[i0]? = some (.obj l (.loop rec)))(f:Int)(hc:Mn bs d f (n+1) f=true)(hY:∀v pre x,pre.length≤64→mD Tryz.prog l rec (.box bd 231 [.val (.slice (some ⟨b1,0,none⟩) n n),.val (.slice (some ⟨b2,0,none⟩) n n)] :: .box b1 3 (bI d.sums) :: .box b2 3 (bI d.last)::G v pre) [.int .i64 x] (fun r H'=>r = .bool true∧∃v',H' = .box bd 231 [.val (.slice (some ⟨b1,0,none⟩) n n),.val (.slice (some ⟨b2,0,none⟩) n n)] :: .box b1 3 (bI d.sums) :: .box b2 3 (bI d.last)::G v' (pre ++ [x])))(v0:Value):Dx Tryz.prog 189 (.box bd 231 [.val (.slice (some ⟨b1,0,none⟩) n n),.val (.slice (some ⟨b2,0,none⟩) n n)] :: .box b1 3 (bI d.sums) :: .box b2 3 (bI d.last)::G v0 []) [.val (.func (.yield l) #[] #[]),.ptr [.int .i64 f],.ptr [.val (.pointer (some ⟨bd,0,none⟩))],.ptr (T6 (zn n bs))] (fun r H'=>r = .tuple []∧∃v' es,es≠[]∧H' = .box bd 231 [.val (.slice (some ⟨b1,0,none⟩) n n),.val (.slice (some ⟨b2,0,none⟩) n n)] :: .box b1 3 (bI d.sums) :: .box b2 3 (bI d.last)::G v' es):=by
 refine Dx.body (n:=31) Ai Tryz.func189 rfl rfl rfl ?_
 refine Ah (Qp Bt (Qp Av (Ag (AW.block ?_))))
 refine AW.Aa5 (fun (p:Int×List Int×Value)=>(⟨[(0,.val (.func (.yield l) #[] #[])),(1,.ptr [.int .i64 f]),(2,.ptr [.val (.pointer (some ⟨bd,0,none⟩))]),(3,.ptr (T6 (zn n bs))),(5,.int .i64 p.1)],.box bd 231 [.val (.slice (some ⟨b1,0,none⟩) n n),.val (.slice (some ⟨b2,0,none⟩) n n)] :: .box b1 3 (bI d.sums) :: .box b2 3 (bI d.last)::G p.2.2 p.2.1,31⟩:St)) (fun (p:Int×List Int×Value)=>p.2.1.length≤n∧Mn bs d f (n+1-p.2.1.length) p.1=true) (fun (p:Int×List Int×Value)=>n+1-p.2.1.length) ((f,[],v0)) ?_ (GS.weaken ⟨rfl,rfl,rfl,rfl,rfl,trivial⟩ (.refl _)) ?_
 · exact ⟨Nat.zero_le _,hc⟩
 ·
  rintro p hR
  have hpl:=hR.1
  refine (eY (zI hR.2)).elim fun c ok=>?_
  refine AW.seq (AW.seq ?_)
  refine AW.regionY rfl (by kernel_rfl) ?_
  refine Qp H4 (Qp Qlv ?_)
  refine Qp (Bn rfl) ?_
  refine Qp Ir ?_
  refine AOL.Aa9 (A0 (k:=0) (c:=.val _) Ai rfl rfl rfl rfl) rfl rfl ?_
  refine Qp A2 ?_
  refine Qp (Ca (o':=p.1.toNat) Ai rfl rfl rfl rfl rfl (ok.a0) (by have:=ok.al;omega) (dG _)) ?_
  refine AOL.Aa9 (A0 (k:=2) (c:=.int .i64 (E2 d.last p.1)) Ai rfl rfl rfl (Wt ok.a0 ok.al)) rfl rfl ?_
  refine AOL.nil ?_
  refine ⟨l,rec,_,⟨i0+3,hi p.2.2 p.2.1⟩,rfl,hp.symm,rfl,hY p.2.2 p.2.1 (E2 d.last p.1) (by omega),?_⟩
  rintro _ _ ⟨rfl,v1,rfl⟩
  refine Ae (A5 (fun hc1=>?_) fun hc1=>?_)
  ·
   refine Bz (AW.block (AW.seq ?_))
   refine AW.draw mixed (fun H'=>_∈H'∧_∈H') ⟨(List.mem_of_getElem? (i:=0) rfl),(List.mem_of_getElem? (i:=2) rfl)⟩ (by kernel_rfl) ?_
   refine Qn 0 rfl (Qf [_]) (Qn 1 rfl Dm (Qn 2 rfl Qlv ?_))
   refine Qn 3 rfl (Bn rfl) ?_
   refine Qn 4 rfl Ir ?_
   refine Qn 5 rfl (OpP.Aa8 (fun k=>A0 (k:=k) (c:=.val _) Ai rfl rfl rfl rfl) (fun _ h=>h.1)) ?_
   refine Qn 6 rfl A2 ?_
   refine Qn 7 rfl (Ca (o':=p.1.toNat) Ai rfl rfl rfl rfl rfl (ok.a0) (by have:=ok.al;omega) (dG _)) ?_
   refine Qn 8 rfl (OpP.Aa8 (fun k=>A0 (k:=k) (c:=.int .i64 (E2 d.last p.1)) Ai rfl rfl rfl (Wt ok.a0 ok.al)) (fun _ h=>h.2)) ?_
   refine Qn 9 rfl (Af (c:=[.int .i64 c.x,.int .i64 c.y,.int .i64 c.most]) Ai rfl rfl rfl rfl rfl rfl (ok.l0) (lQ ok.at_)) ?_
   refine Qn 10 rfl (Qf [Iq _,Iq _]) (Qn 11 rfl Bt (Qn 12 rfl Av ?_))
   refine Jx.done _ _ (by kernel_rfl) ?_
   refine Ae (Ah (Qp A2 (Qp Bt (Qp A7 (Ag (A5 (fun hc2=>?_) fun hc2=>?_))))))
   ·
    refine AW.ret (Bc (Aj (Bc ?_)))
    refine ⟨.inr rfl,[],.nil,_,.refl _,?_⟩
    exact ⟨rfl,v1,p.2.1 ++ [E2 d.last p.1],by simp,rfl⟩
   ·
    refine AW.skip (Bs (Ae ?_))
    refine ⟨(c.y,p.2.1 ++ [E2 d.last p.1],v1),?_,?_,GS.weaken ⟨rfl,rfl,rfl,rfl,rfl,trivial⟩ (.refl _)⟩
    ·
     have h9:=iW hR.2 ok hc2
     exact ⟨by simp only [List.length_append,List.length_singleton];omega,by simp only [List.length_append,List.length_singleton];rw [show n+1-(p.2.1.length+1)=n+1-p.2.1.length-1 by omega];exact h9.1⟩
    ·
     have h9:=iW hR.2 ok hc2
     simp only [List.length_append,List.length_singleton];omega
  ·
   cases hc1

set_option maxHeartbeats 3200000
set_option maxRecDepth 20000

theorem pD (n:Nat)(bs:List Bd)(hz:znOK n bs)(hW:decide ((Em (zn n bs)).2<0)=false→Np n bs=true)(H:List HO):Dx Tryz.prog 168 H [.agg (T6 (zn n bs))] (fun r H'=>if decide ((Em (zn n bs)).2<0) then (∃b,r = .tuple [.val (.slice (some ⟨b,0,none⟩) n n),.val (.slice none 0 0)]∧H' = .box b 3 (bI (Em (zn n bs)).1.sums)::H) else (∃es,es≠[]∧r = .tuple [.val (.slice none 0 0),.sl 1 es]∧H'=H)):=by
 have hmx:1048576≤maxLen:=by decide
 have hn1:=hz.n1
 have hn64:=hz.n64
 have hzn:(zn n bs).n=(n:Int):=rfl
 have hbb:Jp=140737488355329:=rfl
 refine Dx.bodyX (n:=59) Ai Tryz.func168 rfl rfl rfl ?_
 refine AWX.seq ?_
 refine AW.region (Qp (F5 [Iq _,_]) (Qp N8 (Qp N8 (Ag ?_))))
 refine AWX.cut (fun (u:Nat×Nat×Nat)=>(⟨[(1,.ptr (T6 (zn n bs))),(4,.val (.pointer (some ⟨u.1,0,none⟩)))],.box u.1 231 [.val (.slice (some ⟨u.2.1,0,none⟩) n n),.val (.slice (some ⟨u.2.2,0,none⟩) n n)] :: .box u.2.1 3 (bI (⟨List.replicate n 0,N2 n⟩:Ds).sums) :: .box u.2.2 3 (bI (⟨List.replicate n 0,N2 n⟩:Ds).last)::H,59⟩:St)) (fun (u:Nat×Nat×Nat)=>True) ?_ ?_
 ·
  refine AW.draw mixed (fun _=>True) trivial (by kernel_rfl) ?_
  refine Qn 0 rfl (Qf [Iq _,_]) (Qn 1 rfl Bt ?_)
  refine Qn 3 rfl (A1 (es:=[[Iq _]]) Ai rfl rfl rfl rfl rfl rfl rfl rfl rfl) ?_
  refine Qn 4 rfl (Qf [Iq _,_]) (Qn 5 rfl Bt ?_)
  refine Jx.two _ _ 2 6 _ _ _ _ rfl rfl (by kernel_rfl) rfl rfl rfl rfl (Pm (n:=n) Ai rfl rfl rfl rfl rfl rfl rfl (by show 8*n≤_;omega) (by omega)) (Fr (by kernel_rfl) rfl rfl (gG _ n hn1 (by omega))) (by rintro _ _ ⟨b10,rfl,rfl⟩;trivial) (by rintro _ _ ⟨b14,rfl,rfl⟩;trivial) ?_ ?_
  ·
   rintro _ _ ⟨b10,rfl,rfl⟩
   refine Jx.eff _ _ 6 _ _ rfl (by kernel_rfl) rfl rfl (Fr (by kernel_rfl) rfl rfl (gG _ n hn1 (by omega))) (fun _ _ _=>trivial) ?_
   rintro _ _ ⟨b14,rfl,rfl⟩
   refine Qn 7 rfl (Et [_,_]) ?_
   refine Jx.eff _ _ 8 _ _ rfl (by kernel_rfl) rfl rfl (Vb (v:=.agg _) (cs:=[_,_]) rfl rfl (rfl)) (fun _ _ _=>trivial) ?_
   rintro _ _ ⟨b16,rfl,rfl⟩
   refine Qn 9 rfl N8 ?_
   refine Jx.done _ _ (by kernel_rfl) ?_
   refine Ae ?_
   refine ⟨(b16,b10,b14),?_,GS.trans (GS.cells 2 rfl (cA n)) (GS.trans (GS.perm (List.Perm.cons _ (List.Perm.swap _ _ _))) (GS.weaken ⟨rfl,rfl,trivial⟩ (.refl _)))⟩
   trivial
  ·
   rintro _ _ ⟨b14,rfl,rfl⟩
   refine Jx.eff _ _ 2 _ _ rfl (by kernel_rfl) rfl rfl (Pm (n:=n) Ai rfl rfl rfl rfl rfl rfl rfl (by show 8*n≤_;omega) (by omega)) (fun _ _ _=>trivial) ?_
   rintro _ _ ⟨b10,rfl,rfl⟩
   refine Qn 7 rfl (Et [_,_]) ?_
   refine Jx.eff _ _ 8 _ _ rfl (by kernel_rfl) rfl rfl (Vb (v:=.agg _) (cs:=[_,_]) rfl rfl (rfl)) (fun _ _ _=>trivial) ?_
   rintro _ _ ⟨b16,rfl,rfl⟩
   refine Qn 9 rfl N8 ?_
   refine Jx.done _ _ (by kernel_rfl) ?_
   refine Ae ?_
   refine ⟨(b16,b10,b14),?_,GS.trans (GS.cells 1 rfl (cA n)) (GS.trans (GS.refl _) (GS.weaken ⟨rfl,rfl,trivial⟩ (.refl _)))⟩
   trivial
 ·
  rintro u _
  refine AWX.seq ?_
  refine AW.region (Qp Av (Ag ?_))
  refine AWX.seq ?_
  refine Ah (Qp (Qf [Iq _,_]) (Qp Bt (Qp Fx (Qp A2 (Ag (AW.block ?_))))))
  refine AW.Aa5 (fun (p:Nat×Ds×Int)=>(⟨[(1,.ptr (T6 (zn n bs))),(4,.val (.pointer (some ⟨u.1,0,none⟩))),(5,.int .i64 p.2.2),(19,.int .i64 ((n:Int)+1)),(20,.int .i64 (p.1:Int))],.box u.1 231 [.val (.slice (some ⟨u.2.1,0,none⟩) n n),.val (.slice (some ⟨u.2.2,0,none⟩) n n)] :: .box u.2.1 3 (bI p.2.1.sums) :: .box u.2.2 3 (bI p.2.1.last)::H,59⟩:St)) (fun (p:Nat×Ds×Int)=>p.1≤n+1∧Em (zn n bs)=D9 bs (n+1-p.1) p.2∧dsOK n ((p.1:Int)*(256*Jp)) p.2.1∧(0<p.1→0≤p.2.2)) (fun (p:Nat×Ds×Int)=>n+1-p.1) ((0,⟨List.replicate n 0,N2 n⟩,-1)) ?_ (GS.weaken ⟨rfl,rfl,rfl,rfl,rfl,trivial⟩ (.refl _)) ?_
  · exact ⟨Nat.zero_le _,My n bs,by simpa using jI n,fun h=>absurd h (by simp)⟩
  ·
   rintro p hR
   have hd2:=hR.2.2.1
   have hpl:=hR.1
   have hC0:(0:Int)≤(p.1:Int)*(256*Jp):=by unfold Jp;omega
   have hC2:(p.1:Int)*(256*Jp)≤4000000000000000000:=by unfold Jp;omega
   have hks:((p.1+1:Nat):Int)*(256*Jp)=(p.1:Int)*(256*Jp)+256*Jp:=by push_cast;rw [Int.add_mul];omega
   refine Ah (Qp Cl (Ag (AW.seq (A5 (fun hc1=>?_) fun hc1=>?_))))
   ·
    have hlt:p.1<n+1:=by have:=of_decide_eq_true hc1;omega
    refine Bz (AW.seq (AW.block (Ah (Qp H4 (Qp (Cm [Iq _,_]) ?_)))))
    refine Qe (Fr (by kernel_rfl) rfl rfl (Dx.front3 (R:=_) 2 1 0 rfl rfl rfl rfl (Aao u.1 u.2.1 u.2.2 n bs hz _ hC0 hC2 p.2.1 hd2 _))) ?_
    rintro _ _ ⟨rfl,rfl⟩
    refine Qp Av (Dh (Qp A2 (Qp Cl (Ag (A5 (fun hc2=>?_) fun hc2=>?_)))))
    ·
     have hend:=uT hR.2.1 hlt hc2
     refine Ah (Qp H4 ?_)
     refine Qp (Bn rfl) ?_
     refine Qp Ir ?_
     refine AOL.Aa9 (A0 (k:=0) (c:=.val _) Ai rfl rfl rfl rfl) rfl rfl ?_
     refine Qp N8 (Qp N8 (Ag (AW.ret (Bc (Aj (Aj (Bc (Aj ?_))))))))
     refine ⟨.inr rfl,[.val _,.val _],.cons (.tmp _ _ rfl) <| .cons (.tmp _ _ rfl) <| .nil,_,.cons _ (.cons_cons _ (.cons _ (.refl _))),?_⟩
     exact Eq.mpr (if_pos (by rw [hend];exact hc2)) ⟨_,rfl,congrArg (fun q:Ds×Int=>(.box u.2.1 3 (bI q.1.sums)::H:List HO)) hend.symm⟩
    ·
     refine AW.skip (Bs (Ae (AW.region (Qp Fx (Qp A2 (Ag ?_))))))
     refine ⟨(p.1+1,Js bs p.2.1),?_,?_,GS.weaken ⟨rfl,rfl,rfl,rfl,rfl,trivial⟩ (.refl _)⟩
     · exact ⟨hlt,end_on hR.2.1 hlt hc2,(dE hz hd2).mono (by simp only [hks];omega),fun _=>by simpa using hc2⟩
     · simp only;omega
   ·
    have hge1:n+1≤p.1:=by have:=of_decide_eq_false hc1;omega
    have hend:=end_all hR.2.1 hge1
    have hge:decide ((Em (zn n bs)).2<0)=false:=by rw [hend];have:=hR.2.2.2 (by omega);simpa using this
    have hws:=kN (hW hge) hend
    have hcy:=hws.2
    refine AW.exit ?_
    refine A8 (A8 (Bw (Ae ?_)))
    refine AWX.seq ?_
    refine Ah (Qp (Qf [Iq _,_]) (Qp Bt (Qp A2 (Ag (AW.block ?_)))))
    refine AW.Aa5 (fun (q:Nat×Int)=>(⟨[(1,.ptr (T6 (zn n bs))),(4,.val (.pointer (some ⟨u.1,0,none⟩))),(5,.int .i64 q.2),(33,.int .i64 (n:Int)),(34,.int .i64 (q.1:Int))],.box u.1 231 [.val (.slice (some ⟨u.2.1,0,none⟩) n n),.val (.slice (some ⟨u.2.2,0,none⟩) n n)] :: .box u.2.1 3 (bI p.2.1.sums) :: .box u.2.2 3 (bI p.2.1.last)::H,59⟩:St)) (fun (q:Nat×Int)=>q.1≤n∧Kt bs p.2.1 n p.2.2=Kt bs p.2.1 (n-q.1) q.2∧Lr bs p.2.1 (n-q.1) q.2=true) (fun (q:Nat×Int)=>n-q.1) ((0,p.2.2)) ?_ (GS.weaken ⟨rfl,rfl,rfl,rfl,rfl,trivial⟩ (.refl _)) ?_
    · exact ⟨Nat.zero_le _,rfl,hws.1⟩
    ·
     rintro q hQ
     refine Ah (Qp Cl (Ag (AW.seq (A5 (fun hc3=>?_) fun hc3=>?_))))
     ·
      have hlt3:q.1<n:=by have:=of_decide_eq_true hc3;omega
      have hb9:=tF hQ.2.2 hlt3
      refine (eY hb9.1).elim fun c ok=>?_
      have hdl:=hd2.l
      refine Bz (AW.seq (AW.block ?_))
      refine AW.draw mixed (fun H'=>_∈H'∧_∈H') ⟨(List.mem_of_getElem? (i:=0) rfl),(List.mem_of_getElem? (i:=2) rfl)⟩ (by kernel_rfl) ?_
      refine Qn 0 rfl (Qf [_]) (Qn 1 rfl Dm (Qn 2 rfl H4 ?_))
      refine Qn 3 rfl (Bn rfl) ?_
      refine Qn 4 rfl Ir ?_
      refine Qn 5 rfl (OpP.Aa8 (fun k=>A0 (k:=k) (c:=.val _) Ai rfl rfl rfl rfl) (fun _ h=>h.1)) ?_
      refine Qn 6 rfl A2 ?_
      refine Qn 7 rfl (Ca (o':=q.2.toNat) Ai rfl rfl rfl rfl rfl (ok.a0) (by have:=ok.al;omega) (dG _)) ?_
      refine Qn 8 rfl (OpP.Aa8 (fun k=>A0 (k:=k) (c:=.int .i64 (E2 p.2.1.last q.2)) Ai rfl rfl rfl (Wt ok.a0 ok.al)) (fun _ h=>h.2)) ?_
      refine Qn 9 rfl (Af (c:=[.int .i64 c.x,.int .i64 c.y,.int .i64 c.most]) Ai rfl rfl rfl rfl rfl rfl (ok.l0) (lQ ok.at_)) ?_
      refine Qn 10 rfl (Qf [Iq _,Iq _]) (Qn 11 rfl Bt (Qn 12 rfl Av ?_))
      refine Jx.done _ _ (by kernel_rfl) ?_
      refine Bs (Ae (AW.region (Qp Fx (Qp A2 (Ag ?_)))))
      refine ⟨(q.1+1,c.y),?_,?_,GS.weaken ⟨rfl,rfl,rfl,rfl,rfl,trivial⟩ (.refl _)⟩
      · exact ⟨hlt3,qF hQ.2.1 hlt3 ok,by have:=hb9.2;rw [ok.pred] at this;exact this⟩
      · simp only;omega
     ·
      have hge3:n≤q.1:=by have:=of_decide_eq_false hc3;omega
      have hfr:Kt bs p.2.1 n p.2.2=q.2:=hQ.2.1.trans (by rw [show n-q.1=0 by omega];rfl)
      refine AW.exit ?_
      refine A8 (A8 (Bw (Ae ?_)))
      refine AWX.seq ?_
      refine AW.region ?_
      refine Qe (Al (l:=[.val (.slice none 0 0)]) (by kernel_rfl)) ?_
      rintro _ _ ⟨b6,rfl,rfl⟩
      refine AOL.ghost (GS.cellRow 0 0 3 1 rfl rfl rfl rfl) ?_
      refine Ag ?_
      refine AWX.assoc ?_
      refine AW.region (Qp H4 (Qp (Cm [Iq _,_]) (Qp A2 ?_)))
      refine Qp (Qc rfl (f_back u.1 n bs q.2)) ?_
      refine Ag ?_
      refine AWX.rangeTail Ai (fun H2=>∃v es,es≠[]∧H2 = .row v es.length 3 1 :: .box b6 154 [.row v 1 es]::(.box u.1 231 [.val (.slice (some ⟨u.2.1,0,none⟩) n n),.val (.slice (some ⟨u.2.2,0,none⟩) n n)] :: .box u.2.1 3 (bI p.2.1.sums) :: .box u.2.2 3 (bI p.2.1.last)::H)) rfl (by kernel_rfl) (fun rec D l hst hpe hps has hbo hsz htm=>?_) (fun D H2 hZ=>?_)
      ·
       have h6:=htm 6 _ rfl
       refine Dx.post (Dx.perm (List.perm_append_comm.append_right _:(([_,_,_,_] ++ [_,_,_])++H).Perm _) (f_back1 l rec u.1 u.2.1 u.2.2 n bs p.2.1 hz.n64 hd2.l (fun v pre=>.obj l (.loop rec) :: .obj D (.deferred (some [])) :: .row v ((pre.map cI)).length 3 1 :: .box b6 154 [.row v 1 ((pre.map cI))]::H) (by rw [hps];rfl) 0 (fun _ _=>rfl) q.2 (by rw [←hfr];exact hcy) (fun v pre x hpl=>?_) (.slice none 0 0))) ?_
       ·
        refine mD.of (sl:=[(53,.int .i64 x),(6,.val (.pointer (some ⟨b6,0,none⟩)))]) hst hpe hsz (by rw [hps];exact mE hsz rfl h6) ?_
        rw [has,hbo]
        refine AWr.region (by kernel_rfl) ?_
        refine Qp Av (AOL.nil ?_)
        refine ⟨rfl,3,rfl,?_⟩
        refine AWr.block (AWr.region (by kernel_rfl) ?_)
        refine AOL.Aa9 (A0 (k:=6) (c:=.row _ _ _) Ai rfl rfl rfl rfl) rfl rfl ?_
        refine Qp A2 ?_
        refine Qp (A1 (es:=[[Iq _]]) Ai rfl rfl rfl rfl rfl rfl rfl rfl rfl) ?_
        refine Qe (Dn (k:=5) Ai rfl rfl rfl rfl rfl rfl rfl rfl (Hg rfl) (Fo fun _=>rfl) (by simp;omega) (by simp [maxLen];omega)) ?_
        rintro _ _ ⟨v57,rfl,rfl⟩
        refine Co 6 [_] (_::_::_::_::_::_::_::_) (AOL.nil ?_)
        exact ⟨rfl,3,rfl,rfl,v57,congrArg (fun es:List (List AV)=>(.box u.1 231 [.val (.slice (some ⟨u.2.1,0,none⟩) n n),.val (.slice (some ⟨u.2.2,0,none⟩) n n)] :: .box u.2.1 3 (bI p.2.1.sums) :: .box u.2.2 3 (bI p.2.1.last) :: .obj l (.loop rec) :: .obj D (.deferred (some [])) :: .row v57 (es).length 3 1 :: .box b6 154 [.row v57 1 (es)]::H:List HO)) (List.map_append (f:=cI) (l₁:=pre) (l₂:=[x])).symm⟩
       ·
        rintro r K ⟨rfl,v,es,hne,rfl⟩
        exact ⟨_,(List.perm_append_comm.append_right _:(([_,_,_] ++ [_,_,_,_])++H).Perm _),rec,_,rfl,by rw [hst];decide,hpe,v,es.map cI,fun h=>hne (List.map_eq_nil_iff.1 h),rfl⟩
      ·
       obtain ⟨v,es,hne,rfl⟩:=hZ
       refine ⟨_,GS.cell (H2:=_::_::_::_::_::_::_) 2 0 rfl rfl rfl rfl G9,?_⟩
       refine AWD.draw mixed (fun H'=>_∈H') (List.mem_of_getElem? (i:=2) rfl) (by kernel_rfl) ?_
       refine Qn 0 rfl (OpP.Aa8 (fun k=>A0 (k:=k) (c:=.sl _ _) Ai rfl rfl rfl rfl) (fun _ h=>h)) ?_
       refine Qn 1 rfl N8 (Qn 2 rfl Vy ?_)
       refine Jx.done _ _ (by kernel_rfl) ?_
       refine ⟨0,rfl,[_,_],.cons (.tmp _ _ rfl) (.cons (.tmp _ _ rfl) .nil),H,.cons _ (.cons _ (.cons _ (.cons _ (.cons _ (.cons _ (.refl _)))))),?_⟩
       exact Eq.mpr (if_neg (by rw [hge];decide)) ⟨es,hne,rfl,rfl⟩

end Go.Proofs.YtkddpedfbicbeaaGreatDoor
