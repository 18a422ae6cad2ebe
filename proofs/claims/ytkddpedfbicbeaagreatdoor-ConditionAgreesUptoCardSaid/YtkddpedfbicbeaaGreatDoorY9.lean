/-
  Walks of layer 11: classes of strings. No condition.
-/
import Derived.Test.YtkddpedfbicbeaaGreatDoorAz
import Derived.Test.YtkddpedfbicbeaaGreatDoorK19
import Derived.Test.YtkddpedfbicbeaaGreatDoorY7b
import Derived.KernelRfl
namespace Go.Proofs.YtkddpedfbicbeaaGreatDoor
open Go Go.Aw
set_option maxHeartbeats 3200000
set_option maxRecDepth 20000
set_option linter.unusedVariables false
set_option linter.unusedSimpArgs false

theorem O1 (e:Ex):Ar Tryz.prog 164 [.agg (cE e)] (.agg (Ld (B8 e))):=by
 refine Ar.body (n:=18) Ai Tryz.func164 rfl rfl rfl fun H=>?_
 refine Ah (Qp K3 ?_)
 refine Qe (Aj (l:=[.bool false,.str [],.int .i64 0,.int .i64 0,.int .i64 0]) (by kernel_rfl)) ?_
 rintro _ _ ⟨b2,rfl,rfl⟩
 refine Ag (AW.seq (Ah (Qp Kw (Qp Br (Qp A6 (Ag (A2 (fun hc1=>?_) fun hc1=>?_)))))))
 ·
  refine Ah (Qp J2 (Qp Qf7 (Qp Vn (Qp (El [.bool _,.str _,Iq _,Iq _,Iq _]) ?_))))
  refine Cq 0 [.bool _,.str _,Iq _,Iq _,Iq _] (_::_) ?_
  refine Ag (Dq ?_)
  refine ⟨.inr rfl,[.agg [.bool _,.str _,Iq _,Iq _,Iq _]],.cons (.box _ _ _ 0 _ _ _ _ rfl rfl rfl rfl rfl rfl) <| .nil,.cons _ (.refl _),?_⟩
  exact Eq.trans rfl (congrArg (fun q:Wd=>AV.agg (Ld q)) (cL hc1)).symm
 ·
  refine Bv (Ah (Qp Kw (Qp Br (Qp Ym (Qp Br (Qp Qv (Qp Br (Qp (El [Iq _,Iq _,Iq _]) (Qp (El [.bool _,.str _,Iq _,Iq _,Iq _]) ?_)))))))))
  refine Cq 0 [.bool _,.str _,Iq _,Iq _,Iq _] (_::_) ?_
  refine Ag (AW.ret ?_)
  refine ⟨.inr rfl,[.agg [.bool _,.str _,Iq _,Iq _,Iq _]],.cons (.box _ _ _ 0 _ _ _ _ rfl rfl rfl rfl rfl rfl) <| .nil,.cons _ (.refl _),?_⟩
  exact Eq.trans rfl (congrArg (fun q:Wd=>AV.agg (Ld q)) (dD hc1)).symm
theorem d_of (m:Nat)(w:Wm)(hw:Rq w)(x:Wd)(R:List HO):Dr Tryz.prog 163 (.kmap m (wE w)::R) [.val (.map (some m)),.agg (Ld x)] (fun r H'=>r = .agg (Ld (Cb w x))∧H' = .kmap m (wE w)::R):=by
 refine Dr.body (n:=17) Ai Tryz.func163 rfl rfl rfl ?_
 refine Ah ?_
 refine Qe (Uw (v:=.agg _) (cs:=[.bool _,.str _,Iq _,Iq _,Iq _]) rfl rfl (rfl)) ?_
 rintro _ _ ⟨b3,rfl,rfl⟩
 refine Qe (Aj (l:=[.bool false,.str [],.int .i64 0,.int .i64 0,.int .i64 0]) (by kernel_rfl)) ?_
 rintro _ _ ⟨b4,rfl,rfl⟩
 refine Ag (AW.block ?_)
 refine AW.Aau (fun (p:Nat×Wd)=>(⟨[(0,.val (.map (some m))),(3,.val (.pointer (some ⟨b3,0,none⟩))),(4,.val (.pointer (some ⟨b4,0,none⟩)))],.box b4 214 [.bool false,.str [],.int .i64 0,.int .i64 0,.int .i64 0] :: .box b3 214 (Ld p.2) :: .kmap m (wE w)::R,17⟩:St)) (fun (p:Nat×Wd)=>sJ w p.1 p.2∧Cb w x=Qd w p.1 p.2) (fun (p:Nat×Wd)=>p.1) ((w.length,x)) ?_ (GS.weaken ⟨rfl,rfl,rfl,trivial⟩ (.refl _)) ?_
 · exact ⟨Q8 w x,rfl⟩
 ·
  rintro p hR
  refine AW.block (Ah (Qp Hw ?_))
  refine AOL.Aay (By (k:=1) (l:=[.bool _,.str _,Iq _,Iq _,Iq _]) Ai rfl rfl rfl rfl rfl) rfl rfl ?_
  refine AOL.Aay (yQ (i:=2) (eq:=Jo p.2) Ai rfl rfl rfl rfl rfl (by kernel_rfl) rfl rfl (rfl) (wE_eq p.2 w) (look_w p.2 w) (has_w p.2 w)) rfl rfl ?_
  refine Qp Lv ?_
  refine Qp (Ch (v:=.agg [.bool _,.str _,Iq _,Iq _,Iq _]) rfl rfl) ?_
  refine Qp dK ?_
  refine Qe (Aj (l:=[.bool false,.str [],.int .i64 0,.int .i64 0,.int .i64 0]) (by kernel_rfl)) ?_
  rintro _ _ ⟨b5,rfl,rfl⟩
  refine Cq 0 [.bool _,.str _,Iq _,Iq _,Iq _] (_::_::_::_::_) ?_
  refine Qp Bc ?_
  refine AOL.ghost (GS.Aat (t:=5) 0 rfl rfl) ?_
  refine Ag (AW.seq (Ah (Qp Bm (Qp Ge (Ag (A2 (fun hc1=>?_) fun hc1=>?_))))))
  ·
   have hnn:=fQ hc1
   refine Ah ?_
   refine AOL.Aay (By (k:=1) (l:=[.bool _,.str _,Iq _,Iq _,Iq _]) Ai rfl rfl rfl rfl rfl) rfl rfl ?_
   refine Cq 0 [.bool _,.str _,Iq _,Iq _,Iq _] (_::_::_::_) ?_
   refine Ag (Dq (A9 (Al (A9 ?_))))
   refine ⟨.inr rfl,[.agg [.bool _,.str _,Iq _,Iq _,Iq _]],.cons (.box _ _ _ 0 _ _ _ _ rfl rfl rfl rfl rfl rfl) <| .nil,_,.cons _ (.cons _ (.refl _)),?_⟩
   exact ⟨congrArg (fun q:Wd=>AV.agg (Ld q)) ((hR.2.trans (V5 hnn)).symm),rfl⟩
  ·
   have hyy:=zU (d:=wd0) hc1
   have hst:=Ts hw hR.1 hyy
   refine Bv (AW.region (Qp (Cd [.bool _,.str _,Iq _,Iq _,Iq _]) ?_))
   refine Cq 1 [.bool _,.str _,Iq _,Iq _,Iq _] (_::_::_::_) ?_
   refine AOL.nil (Bp (Ae ?_))
   refine ⟨(p.1-1,(Ga w p.2).getD wd0),?_,?_,GS.weaken ⟨rfl,rfl,rfl,trivial⟩ (.refl _)⟩
   · exact ⟨hst.2,hR.2.trans (dL hst.1 hyy)⟩
   · have:=hst.1;simp only;omega
theorem Rt (m:Nat)(w:Wm)(hw:Rq w)(x:Wd):∀(H:List HO) (k:Nat),H[k]? = some (.kmap m (wE w))→Dr Tryz.prog 163 H [.val (.map (some m)),.agg (Ld x)] fun r' H'=>r' = .agg (Ld (Cb w x))∧H'=H:=
 Dr.atFront (d_of m w hw x)
theorem d_str2 (bw m:Nat)(w:Wm)(x y:Wd)(hx:Ga w x=none)(hy:Ga w y=none)(R:List HO):Dr Tryz.prog 165 (.box bw 156 [.val (.map (some m))] :: .kmap m (wE w)::R) [.agg (Ld x),.agg (Ld y),.val (.pointer (some ⟨bw,0,none⟩))] (fun r H'=>r = .bool (Nu w x y).2∧H' = .box bw 156 [.val (.map (some m))] :: .kmap m (wE (Nu w x y).1)::R):=by
 refine Dr.body (n:=25) Ai Tryz.func165 rfl rfl rfl ?_
 refine Ah ?_
 refine Qe (Uw (v:=.agg _) (cs:=[.bool _,.str _,Iq _,Iq _,Iq _]) rfl rfl (rfl)) ?_
 rintro _ _ ⟨b3,rfl,rfl⟩
 refine Qe (Uw (v:=.agg _) (cs:=[.bool _,.str _,Iq _,Iq _,Iq _]) rfl rfl (rfl)) ?_
 rintro _ _ ⟨b4,rfl,rfl⟩
 refine Qp Bc (Ag ?_)
 refine AW.cut (fun (p:Wd×Wd)=>(⟨[(2,.val (.pointer (some ⟨bw,0,none⟩))),(3,.val (.pointer (some ⟨b3,0,none⟩))),(4,.val (.pointer (some ⟨b4,0,none⟩)))],.box b4 214 (Ld p.2) :: .box b3 214 (Ld p.1) :: .box bw 156 [.val (.map (some m))] :: .kmap m (wE w)::R,25⟩:St)) (fun (p:Wd×Wd)=>Ga w p.1=none∧Nu w x y=(w ++ [p],true)) ?_ ?_
 ·
  refine AW.block (Ah ?_)
  refine AOL.Aay (By (k:=1) (l:=[.bool _,.str _,Iq _,Iq _,Iq _]) Ai rfl rfl rfl rfl rfl) rfl rfl ?_
  refine AOL.Aay (By (k:=0) (l:=[.bool _,.str _,Iq _,Iq _,Iq _]) Ai rfl rfl rfl rfl rfl) rfl rfl ?_
  refine Qp (P1 (r:=eE x y) Ai rfl rfl rfl rfl (Nz x y)) ?_
  refine Qp Bc (Ag (A2 (fun hc1=>?_) fun hc1=>?_))
  ·
   refine Ah (Qp Bc (Ag (AW.ret (A9 (Al ?_)))))
   refine ⟨.inr rfl,[.bool _],.cons (.tmp _ _ rfl) <| .nil,_,.cons _ (.cons _ (.refl _)),?_⟩
   exact ⟨congrArg (fun q:Wm×Bool=>AV.bool q.2) (uQ hc1).symm,congrArg (fun q:Wm×Bool=>(.box bw 156 [.val (.map (some m))] :: .kmap m (wE q.1)::R:List HO)) (uQ hc1).symm⟩
  ·
   refine Ah (Qp Iu ?_)
   refine AOL.Aay (At (k:=1) (c:=.bool _) Ai rfl rfl rfl rfl) rfl rfl ?_
   refine Qp Bm (Qg [] Qw Iu ?_)
   refine AOL.gk (y:=.bool _) _ [(14,_)] rfl (sB.all ⟨tO.self _ _,trivial⟩) (fun hG=>At (k:=0) (c:=.bool _) Ai rfl rfl rfl rfl) rfl rfl ?_
   refine Qp Em (Qp Bc (Ag (A2 (fun hc2=>?_) fun hc2=>?_)))
   ·
    refine Ah (Qp Bc (Ag (AW.ret (A9 (Al ?_)))))
    refine ⟨.inr rfl,[.bool _],.cons (.tmp _ _ rfl) <| .nil,_,.cons _ (.cons _ (.refl _)),?_⟩
    exact ⟨congrArg (fun q:Wm×Bool=>AV.bool q.2) (xW hc1 hc2).symm,congrArg (fun q:Wm×Bool=>(.box bw 156 [.val (.map (some m))] :: .kmap m (wE q.1)::R:List HO)) (xW hc1 hc2).symm⟩
   ·
    refine Ah (Qp Iu ?_)
    refine AOL.Aay (At (k:=1) (c:=.bool _) Ai rfl rfl rfl rfl) rfl rfl ?_
    refine Qp Bc (Ag (A2 (fun hc3=>?_) fun hc3=>?_))
    ·
     refine AW.region ?_
     refine AOL.Aay (By (k:=0) (l:=[.bool _,.str _,Iq _,Iq _,Iq _]) Ai rfl rfl rfl rfl rfl) rfl rfl ?_
     refine AOL.Aay (By (k:=1) (l:=[.bool _,.str _,Iq _,Iq _,Iq _]) Ai rfl rfl rfl rfl rfl) rfl rfl ?_
     refine Cq 1 [.bool _,.str _,Iq _,Iq _,Iq _] (_::_::_::_::_) ?_
     refine Cq 0 [.bool _,.str _,Iq _,Iq _,Iq _] (_::_::_::_::_) ?_
     refine AOL.nil (Bp (Ae ?_))
     refine ⟨(y,x),?_,GS.weaken ⟨rfl,rfl,rfl,trivial⟩ (.refl _)⟩
     exact ⟨hy,eqAB_3 hc1 hc2 hc3⟩
    ·
     refine AW.skip (Bp (Ae ?_))
     refine ⟨(x,y),?_,GS.weaken ⟨rfl,rfl,rfl,trivial⟩ (.refl _)⟩
     exact ⟨hx,eqAB_4 hc1 hc2 hc3⟩
 ·
  rintro p hR
  refine Ah ?_
  refine AOL.Aay (At (k:=2) (c:=.val _) Ai rfl rfl rfl rfl) rfl rfl ?_
  refine AOL.Aay (By (k:=1) (l:=[.bool _,.str _,Iq _,Iq _,Iq _]) Ai rfl rfl rfl rfl rfl) rfl rfl ?_
  refine AOL.Aay (By (k:=0) (l:=[.bool _,.str _,Iq _,Iq _,Iq _]) Ai rfl rfl rfl rfl rfl) rfl rfl ?_
  refine Qe (Uc (i:=3) (eq:=Jo p.1) (H2:=_::_::_::_::_) Ai rfl rfl rfl rfl rfl rfl rfl (rfl) (wE_eq p.1 w) rfl (new_w hR.1) rfl) ?_
  rintro _ _ ⟨rfl,rfl⟩
  refine Db (Qp Bc (Ag (AW.ret ?_)))
  refine ⟨.inr rfl,[.bool _],.cons (.tmp _ _ rfl) <| .nil,_,.cons _ (.cons _ (.refl _)),?_⟩
  exact ⟨congrArg (fun q:Wm×Bool=>AV.bool q.2) hR.2.symm,(congrArg (fun e=>(.box bw 156 [.val (.map (some m))] :: .kmap m e::R:List HO)) (wE_snoc w p).symm).trans (congrArg (fun q:Wm×Bool=>(.box bw 156 [.val (.map (some m))] :: .kmap m (wE q.1)::R:List HO)) hR.2.symm)⟩
theorem d_str3 (x y:Wd):Ar Tryz.prog 166 [.agg (Ld x),.agg (Ld y)] (.bool (!(eE x y))):=by
 refine Ar.body (n:=8) Ai Tryz.func166 rfl rfl rfl fun H=>?_
 refine Ah (Qp (Fx [.bool _,.str _,Iq _,Iq _,Iq _]) (Qp (Fx [.bool _,.str _,Iq _,Iq _,Iq _]) (Qp Bc (Db (Qp (Cd [.bool _,.str _,Iq _,Iq _,Iq _]) (Qp (Cd [.bool _,.str _,Iq _,Iq _,Iq _]) ?_))))))
 refine Qp (Hg (r:=eE x y) Ai rfl rfl rfl rfl (Nz x y)) ?_
 refine Qp Bc (Ag (AW.ret ?_))
 refine Qr (.bool _) ?_
 rfl
theorem zY (T:List Sc)(V:List Va)(l:List Lit)(hlk:Un T V l)(bw m:Nat)(R:List HO):Dr Tryz.prog 162 (.box bw 156 [.val (.map (some m))] :: .kmap m (wE [])::R) [.bool true,.fn (.func 165) [] [.val (.pointer (some ⟨bw,0,none⟩))],.ptr [.sl 9 (l.map Gw)],.ptr (Cj T V),.val (.pointer (some ⟨bw,0,none⟩))] (fun r H'=>r = .bool (Jb T V l []).2∧H' = .box bw 156 [.val (.map (some m))] :: .kmap m (wE (Jb T V l []).1)::R):=by
 refine Dr.body (n:=54) Ai Tryz.func162 rfl rfl rfl ?_
 refine Ah (Qp Bc (Ag (AW.seq (Ah (Qp Dg ?_)))))
 refine Qp (Ak (n:=l.length) Ai rfl rfl rfl (by simp)) ?_
 refine Qp Az (Ag (AW.block ?_))
 refine AW.sllen 10 rfl fun hlen=>?_
 simp only [List.length_map,maxLen] at hlen
 refine AW.Aau (fun (p:Nat×Wm)=>(⟨[(0,.bool true),(1,.fn (.func 165) [] [.val (.pointer (some ⟨bw,0,none⟩))]),(2,.ptr [.sl 9 (l.map Gw)]),(3,.ptr (Cj T V)),(4,.val (.pointer (some ⟨bw,0,none⟩))),(10,.sl 9 (l.map Gw)),(11,.int .i64 l.length),(12,.int .i64 (p.1:Int))],.box bw 156 [.val (.map (some m))] :: .kmap m (wE p.2)::R,54⟩:St)) (fun (p:Nat×Wm)=>p.1≤l.length∧Jb T V l []=Jb T V (l.drop p.1) p.2∧Rq p.2) (fun (p:Nat×Wm)=>l.length-p.1) ((0,[])) ?_ (GS.weaken ⟨rfl,rfl,rfl,rfl,rfl,rfl,rfl,rfl,trivial⟩ (.refl _)) ?_
 · exact ⟨Nat.zero_le _,rfl,Vz⟩
 ·
  rintro p hR
  have hwp:=hR.2.2
  refine Ah (Qp Cf (Ag (AW.seq (A2 (fun hc1=>?_) fun hc1=>?_))))
  ·
   obtain ⟨c,hc⟩:=B1 hc1
   have hlt:=A8 hc
   have hcm:=List.mem_of_getElem? hc
   have hck:=(hlk c hcm).1
   have hcs:=Nat.le_trans (hlk c hcm).2 (by decide:64≤1048576)
   have hdc:=A5 hc
   have hR2:=hR.2.1
   rw [hdc] at hR2
   refine Bv (AW.seq (AW.block (Ah ?_)))
   refine Qp (Af (c:=[Iq _,_,Iq _,Iq _,Iq _,Iq _,Iq _,.str _,.bool _]) Ai rfl rfl rfl rfl rfl rfl (by omega) (Bg hc)) ?_
   refine Qp (Cd [Iq _,_,Iq _,Iq _,Iq _,Iq _,Iq _,.str _,.bool _]) ?_
   refine Qe (Aj (l:=[.int .i64 0,.sl 8 [],.int .i64 0,.int .i64 0,.int .i64 0,.int .i64 0,.int .i64 0,.str [],.bool false]) (by kernel_rfl)) ?_
   rintro _ _ ⟨b9,rfl,rfl⟩
   refine Cq 0 [Iq _,_,Iq _,Iq _,Iq _,Iq _,Iq _,.str _,.bool _] (_::_::_::_) ?_
   refine AOL.ghost (GS.Aat (t:=9) 0 rfl rfl) ?_
   refine Ag (AW.seq ?_)
   refine AW.drawI mixed (fun j H'=>(j==18||j==25||j==26||j==33)=true→_∈H'∧_∈H') (fun _ _=>⟨(List.mem_of_getElem? (i:=0) rfl),(List.mem_of_getElem? (i:=1) rfl)⟩) (by kernel_rfl) ?_
   refine CanonI.pure _ _ 0 _ _ rfl (by kernel_rfl) (by kernel_rfl) rfl (.run rfl (B4 (cs':=[.bool _]) Ai rfl rfl rfl rfl rfl rfl)) ?_
   refine CanonI.pure _ _ 1 _ _ rfl (by kernel_rfl) (by kernel_rfl) rfl (.run rfl (D9 (c:=.bool _) Ai rfl rfl rfl)) ?_
   refine CanonI.pure _ _ 2 _ _ rfl (by kernel_rfl) (by kernel_rfl) rfl (.run rfl (Bk (v:=.bool _) rfl)) ?_
   refine CanonI.pure _ _ 3 _ _ rfl (by kernel_rfl) (by kernel_rfl) rfl (.run rfl (Q6 Ai rfl rfl rfl rfl)) ?_
   refine CanonI.pure _ _ 4 _ _ rfl (by kernel_rfl) (by kernel_rfl) rfl (.run rfl (Bk (v:=.bool _) rfl)) ?_
   refine CanonI.pure _ _ 5 _ _ rfl (by kernel_rfl) (by kernel_rfl) rfl (.opt _ (.agg _) [] rfl (sB.all trivial) (fun hG=>Ep (l:=[_,_]) Ai rfl rfl rfl rfl rfl) rfl) ?_
   refine CanonI.pure _ _ 6 _ _ rfl (by kernel_rfl) (by kernel_rfl) rfl (.opt _ (.ptr _) [] rfl (sB.all trivial) (fun hG=>B4 (cs':=[Iq _,_,Iq _,Iq _,Iq _,Iq _,Iq _,.str _,.bool _]) Ai rfl rfl rfl rfl rfl rfl) rfl) ?_
   refine CanonI.pure _ _ 7 _ _ rfl (by kernel_rfl) (by kernel_rfl) rfl (.opt _ (.agg _) [(22,_)] rfl (sB.all ⟨tO.self _ _,trivial⟩) (fun hG=>Ep (l:=[Iq _,_,Iq _,Iq _,Iq _,Iq _,Iq _,.str _]) Ai rfl rfl rfl rfl rfl) rfl) ?_
   refine CanonI.pure _ _ 8 _ _ rfl (by kernel_rfl) (by kernel_rfl) rfl (.opt _ (.bool _) [(21,_),(23,_)] rfl (sB.all ⟨tO.self _ _,tO.self _ _,trivial⟩) (fun hG=>Ct (by kernel_rfl) rfl rfl (S8 T V c.cond hck)) rfl) ?_
   refine CanonI.pure _ _ 9 _ _ rfl (by kernel_rfl) (by kernel_rfl) rfl (.run rfl (Nj rfl rfl rfl)) ?_
   refine CanonI.pure _ _ 10 _ _ rfl (by kernel_rfl) (by kernel_rfl) rfl (.run rfl (Bk (v:=.bool _) rfl)) ?_
   refine CanonI.pure _ _ 11 _ _ rfl (by kernel_rfl) (by kernel_rfl) rfl (.opt _ (.agg _) [] rfl (sB.all trivial) (fun hG=>Ep (l:=[_,_]) Ai rfl rfl rfl rfl rfl) rfl) ?_
   refine CanonI.pure _ _ 12 _ _ rfl (by kernel_rfl) (by kernel_rfl) rfl (.opt _ (.ptr _) [] rfl (sB.all trivial) (fun hG=>B4 (cs':=[Iq _,_,Iq _,Iq _,Iq _,Iq _,Iq _,.str _,.bool _]) Ai rfl rfl rfl rfl rfl rfl) rfl) ?_
   refine CanonI.pure _ _ 13 _ _ rfl (by kernel_rfl) (by kernel_rfl) rfl (.opt _ (.agg _) [(28,_)] rfl (sB.all ⟨tO.self _ _,trivial⟩) (fun hG=>Ep (l:=[Iq _,_,Iq _,Iq _,Iq _,Iq _,Iq _,.str _]) Ai rfl rfl rfl rfl rfl) rfl) ?_
   refine CanonI.pure _ _ 14 _ _ rfl (by kernel_rfl) (by kernel_rfl) rfl (.opt _ (.bool _) [(27,_),(29,_)] rfl (sB.all ⟨tO.self _ _,tO.self _ _,trivial⟩) (fun hG=>Ct (by kernel_rfl) rfl rfl (Ph T V c.cond hck hcs)) rfl) ?_
   refine CanonI.pure _ _ 15 _ _ rfl (by kernel_rfl) (by kernel_rfl) rfl (.run rfl (Nj rfl rfl rfl)) ?_
   refine CanonI.pure _ _ 16 _ _ rfl (by kernel_rfl) (by kernel_rfl) rfl (.run rfl (Bk (v:=.bool _) rfl)) ?_
   refine CanonI.pure _ _ 17 _ _ rfl (by kernel_rfl) (by kernel_rfl) rfl (.opt _ (.fn _ _ _) [] rfl (sB.all trivial) (fun hG=>Bk (v:=.fn _ _ _) rfl) rfl) ?_
   refine CanonI.pure _ _ 18 _ _ rfl (by kernel_rfl) (by kernel_rfl) rfl (.opt _ (.val _) [] rfl (sB.all trivial) (fun hG=>OpP.Aax (fun k=>At (k:=k) (c:=.val _) Ai rfl rfl rfl rfl) (fun _ h=>(h rfl).1)) rfl) ?_
   refine CanonI.pure _ _ 19 _ _ rfl (by kernel_rfl) (by kernel_rfl) rfl (.opt _ (.ptr _) [] rfl (sB.all trivial) (fun hG=>B4 (cs':=[Iq _,_,Iq _,Iq _,Iq _,Iq _,Iq _,.str _,.bool _]) Ai rfl rfl rfl rfl rfl rfl) rfl) ?_
   refine CanonI.pure _ _ 20 _ _ rfl (by kernel_rfl) (by kernel_rfl) rfl (.opt _ (.ptr _) [(35,_)] rfl (sB.all ⟨tO.self _ _,trivial⟩) (fun hG=>B4 (cs':=[_,Iq _,Iq _,Iq _,Iq _,Iq _,.str _,.bool _]) Ai rfl rfl rfl rfl rfl rfl) rfl) ?_
   refine CanonI.pure _ _ 21 _ _ rfl (by kernel_rfl) (by kernel_rfl) rfl (.opt _ (.sl _ _) [(36,_)] rfl (sB.all ⟨tO.self _ _,trivial⟩) (fun hG=>D9 (c:=.sl _ _) Ai rfl rfl rfl) rfl) ?_
   refine CanonI.pure _ _ 22 _ _ rfl (by kernel_rfl) (by kernel_rfl) rfl (.opt _ (.ptr _) [(37,_)] rfl (sB.all ⟨tO.self _ _,trivial⟩) (fun hG=>Af (c:=[Iq _,_,Iq _,Iq _,Iq _,Iq _,Iq _,.str _]) Ai rfl rfl rfl rfl rfl rfl (by decide) (Id (Nat.lt_of_succ_lt (K6 hck (Mx (J8 (g1' hG))))))) rfl) ?_
   refine CanonI.pure _ _ 23 _ _ rfl (by kernel_rfl) (by kernel_rfl) rfl (.opt _ (.agg _) [(38,_)] rfl (sB.all ⟨tO.self _ _,trivial⟩) (fun hG=>Ep (l:=[Iq _,_,Iq _,Iq _,Iq _,Iq _,Iq _,.str _]) Ai rfl rfl rfl rfl rfl) rfl) ?_
   refine CanonI.pure _ _ 24 _ _ rfl (by kernel_rfl) (by kernel_rfl) rfl (.opt _ (.agg _) [(39,_)] rfl (sB.all ⟨tO.self _ _,trivial⟩) (fun hG=>Ct (by kernel_rfl) rfl rfl (O1 _)) rfl) ?_
   refine CanonI.pure _ _ 25 _ _ rfl (by kernel_rfl) (by kernel_rfl) rfl (.opt _ (.agg _) [(34,_),(40,_)] rfl (sB.all ⟨tO.self _ _,tO.self _ _,trivial⟩) (fun hG=>Sk (ho:=.kmap m (wE p.2)) (by kernel_rfl) rfl rfl (Rt m p.2 hwp (B8 (Ao c.cond))) (fun _ h=>(h rfl).2)) rfl) ?_
   refine CanonI.pure _ _ 26 _ _ rfl (by kernel_rfl) (by kernel_rfl) rfl (.opt _ (.val _) [] rfl (sB.all trivial) (fun hG=>OpP.Aax (fun k=>At (k:=k) (c:=.val _) Ai rfl rfl rfl rfl) (fun _ h=>(h rfl).1)) rfl) ?_
   refine CanonI.pure _ _ 27 _ _ rfl (by kernel_rfl) (by kernel_rfl) rfl (.opt _ (.ptr _) [] rfl (sB.all trivial) (fun hG=>B4 (cs':=[Iq _,_,Iq _,Iq _,Iq _,Iq _,Iq _,.str _,.bool _]) Ai rfl rfl rfl rfl rfl rfl) rfl) ?_
   refine CanonI.pure _ _ 28 _ _ rfl (by kernel_rfl) (by kernel_rfl) rfl (.opt _ (.ptr _) [(43,_)] rfl (sB.all ⟨tO.self _ _,trivial⟩) (fun hG=>B4 (cs':=[_,Iq _,Iq _,Iq _,Iq _,Iq _,.str _,.bool _]) Ai rfl rfl rfl rfl rfl rfl) rfl) ?_
   refine CanonI.pure _ _ 29 _ _ rfl (by kernel_rfl) (by kernel_rfl) rfl (.opt _ (.sl _ _) [(44,_)] rfl (sB.all ⟨tO.self _ _,trivial⟩) (fun hG=>D9 (c:=.sl _ _) Ai rfl rfl rfl) rfl) ?_
   refine CanonI.pure _ _ 30 _ _ rfl (by kernel_rfl) (by kernel_rfl) rfl (.opt _ (.ptr _) [(45,_)] rfl (sB.all ⟨tO.self _ _,trivial⟩) (fun hG=>Af (c:=[Iq _,_,Iq _,Iq _,Iq _,Iq _,Iq _,.str _]) Ai rfl rfl rfl rfl rfl rfl (by decide) (Ky (K6 hck (Mx (J8 (g1' hG)))))) rfl) ?_
   refine CanonI.pure _ _ 31 _ _ rfl (by kernel_rfl) (by kernel_rfl) rfl (.opt _ (.agg _) [(46,_)] rfl (sB.all ⟨tO.self _ _,trivial⟩) (fun hG=>Ep (l:=[Iq _,_,Iq _,Iq _,Iq _,Iq _,Iq _,.str _]) Ai rfl rfl rfl rfl rfl) rfl) ?_
   refine CanonI.pure _ _ 32 _ _ rfl (by kernel_rfl) (by kernel_rfl) rfl (.opt _ (.agg _) [(47,_)] rfl (sB.all ⟨tO.self _ _,trivial⟩) (fun hG=>Ct (by kernel_rfl) rfl rfl (O1 _)) rfl) ?_
   refine CanonI.pure _ _ 33 _ _ rfl (by kernel_rfl) (by kernel_rfl) rfl (.opt _ (.agg _) [(42,_),(48,_)] rfl (sB.all ⟨tO.self _ _,tO.self _ _,trivial⟩) (fun hG=>Sk (ho:=.kmap m (wE p.2)) (by kernel_rfl) rfl rfl (Rt m p.2 hwp (B8 (Bj c.cond))) (fun _ h=>(h rfl).2)) rfl) ?_
   refine CanonI.phaseg (fun _ _=>True) _ _ 34 _ _ [(41,_),(49,_),(33,_)] _ _ rfl (by kernel_rfl) rfl rfl (sB.all ⟨tO.self _ _,tO.self _ _,tO.self _ _,trivial⟩) (fun hG=>Jh (by kernel_rfl) rfl rfl rfl (Dr.front2 (R:=_) 1 0 rfl rfl rfl ((d_str2 bw m p.2 (Cb p.2 (B8 (Ao c.cond))) (Cb p.2 (B8 (Bj c.cond))) (I8 hwp _) (I8 hwp _) _).mono' (fun r K h=>⟨h.1,h.2.trans (congrArg (fun w=>(.box bw 156 [.val (.map (some m))] :: .kmap m (wE w)::R:List HO)) (Zs (Z3 (g1' hG))))⟩)))) (fun hG=>congrArg (fun w=>(.box bw 156 [.val (.map (some m))] :: .kmap m (wE w)::R:List HO)) (uJ (qK (g1n hG))).symm) (fun j _ _ hr _ _ hj=>?_) (fun _=>trivial) ?_
   ·
    rcases (by simpa only [Bool.or_eq_true,beq_iff_eq,or_assoc] using hj:j=18∨j=25∨j=26∨j=33) with rfl | rfl | rfl | rfl
    · exact Bool.noConfusion ((show Iw _ 7 _ 18=true by kernel_rfl).symm.trans hr)
    · exact Bool.noConfusion ((show Iw _ 7 _ 25=true by kernel_rfl).symm.trans hr)
    · exact Bool.noConfusion ((show Iw _ 7 _ 26=true by kernel_rfl).symm.trans hr)
    · exact Bool.noConfusion ((show Iw _ 7 _ 33=true by kernel_rfl).symm.trans hr)
   refine CanonI.pure _ _ 35 _ _ rfl (by kernel_rfl) (by kernel_rfl) rfl (.opt _ (.bool _) [(50,_)] rfl (sB.all ⟨tO.self _ _,trivial⟩) (fun hG=>P_not rfl) rfl) ?_
   refine CanonI.pure _ _ 36 _ _ rfl (by kernel_rfl) (by kernel_rfl) rfl (.run rfl (Nj rfl rfl rfl)) ?_
   refine CanonI.done _ _ (by kernel_rfl) ?_
   refine Ae (A2 (fun hc2=>?_) fun hc2=>?_)
   ·
    have hs2:=Bool.and_eq_true_iff.mp hc2
    have hst:=Z3 hs2.1
    have hfin:=hR2.trans (Mg hst ((Bool.not_eq_true' _).mp hs2.2))
    have hf1:(Jb T V l []).1=(E3 p.2 c).1:=by rw [hfin]
    refine Ah (Qp Bc (Ag (AW.ret (A9 (Al (Al (A9 (Al ?_))))))))
    refine ⟨.inr rfl,[.bool _],.cons (.tmp _ _ rfl) <| .nil,_,.refl _,?_⟩
    exact ⟨congrArg (fun q:Wm×Bool=>AV.bool q.2) hfin.symm,congrArg (fun w=>(.box bw 156 [.val (.map (some m))] :: .kmap m (wE w)::R:List HO)) ((Zs hst).symm.trans hf1.symm)⟩
   ·
    refine AW.skip (Bp (Ae (AW.region (Qp Fu (Qp Az (Ag ?_))))))
    refine ⟨(p.1+1,Vd T V p.2 c),?_,?_,GS.weaken ⟨rfl,rfl,rfl,rfl,rfl,rfl,rfl,rfl,trivial⟩ (.refl _)⟩
    · exact ⟨hlt,hR2.trans (yC hc2),gX hwp c⟩
    · simp only;omega
  ·
   have hde:=Df hc1
   have hR2:=hR.2.1
   rw [hde] at hR2
   refine AW.exit ?_
   refine A3 (A3 (Bq (Ae (Ah (Qp Bc (Ag (AW.ret ?_)))))))
   refine ⟨.inr rfl,[.bool _],.cons (.tmp _ _ rfl) <| .nil,_,.refl _,?_⟩
   exact ⟨congrArg (fun q:Wm×Bool=>AV.bool q.2) hR2.symm,congrArg (fun q:Wm×Bool=>(.box bw 156 [.val (.map (some m))] :: .kmap m (wE q.1)::R:List HO)) hR2.symm⟩
theorem Aad (T:List Sc)(V:List Va)(l:List Lit)(hlk:Un T V l)(bw m:Nat)(w:Wm)(hwp:Rq w)(R:List HO):Dr Tryz.prog 162 (.box bw 156 [.val (.map (some m))] :: .kmap m (wE w)::R) [.bool false,.fn (.func 166) [] [],.ptr [.sl 9 (l.map Gw)],.ptr (Cj T V),.val (.pointer (some ⟨bw,0,none⟩))] (fun r H'=>r = .bool (Oe T V w l)∧H' = .box bw 156 [.val (.map (some m))] :: .kmap m (wE w)::R):=by
 refine Dr.body (n:=54) Ai Tryz.func162 rfl rfl rfl ?_
 refine Ah (Qp Bc (Ag (AW.seq (Ah (Qp Dg ?_)))))
 refine Qp (Ak (n:=l.length) Ai rfl rfl rfl (by simp)) ?_
 refine Qp Az (Ag (AW.block ?_))
 refine AW.sllen 10 rfl fun hlen=>?_
 simp only [List.length_map,maxLen] at hlen
 refine AW.Aau (fun (p:Nat)=>(⟨[(0,.bool false),(1,.fn (.func 166) [] []),(2,.ptr [.sl 9 (l.map Gw)]),(3,.ptr (Cj T V)),(4,.val (.pointer (some ⟨bw,0,none⟩))),(10,.sl 9 (l.map Gw)),(11,.int .i64 l.length),(12,.int .i64 (p:Int))],.box bw 156 [.val (.map (some m))] :: .kmap m (wE w)::R,54⟩:St)) (fun (p:Nat)=>p≤l.length∧Oe T V w l=Oe T V w (l.drop p)) (fun (p:Nat)=>l.length-p) (0) ?_ (GS.weaken ⟨rfl,rfl,rfl,rfl,rfl,rfl,rfl,rfl,trivial⟩ (.refl _)) ?_
 · exact ⟨Nat.zero_le _,rfl⟩
 ·
  rintro p hR
  refine Ah (Qp Cf (Ag (AW.seq (A2 (fun hc1=>?_) fun hc1=>?_))))
  ·
   obtain ⟨c,hc⟩:=B1 hc1
   have hlt:=A8 hc
   have hcm:=List.mem_of_getElem? hc
   have hck:=(hlk c hcm).1
   have hcs:=Nat.le_trans (hlk c hcm).2 (by decide:64≤1048576)
   have hdc:=A5 hc
   have hR2:=hR.2
   rw [hdc] at hR2
   refine Bv (AW.seq (AW.block (Ah ?_)))
   refine Qp (Af (c:=[Iq _,_,Iq _,Iq _,Iq _,Iq _,Iq _,.str _,.bool _]) Ai rfl rfl rfl rfl rfl rfl (by omega) (Bg hc)) ?_
   refine Qp (Cd [Iq _,_,Iq _,Iq _,Iq _,Iq _,Iq _,.str _,.bool _]) ?_
   refine Qe (Aj (l:=[.int .i64 0,.sl 8 [],.int .i64 0,.int .i64 0,.int .i64 0,.int .i64 0,.int .i64 0,.str [],.bool false]) (by kernel_rfl)) ?_
   rintro _ _ ⟨b9,rfl,rfl⟩
   refine Cq 0 [Iq _,_,Iq _,Iq _,Iq _,Iq _,Iq _,.str _,.bool _] (_::_::_::_) ?_
   refine AOL.ghost (GS.Aat (t:=9) 0 rfl rfl) ?_
   refine Ag (AW.seq ?_)
   refine AW.draw mixed (fun H'=>_∈H'∧_∈H') ⟨(List.mem_of_getElem? (i:=0) rfl),(List.mem_of_getElem? (i:=1) rfl)⟩ (by kernel_rfl) ?_
   refine Qn 0 rfl (Qf [.bool _]) (Qn 1 rfl jS (Qn 2 rfl Bm ?_))
   refine Qn 3 rfl (Q6 Ai rfl rfl rfl rfl) ?_
   refine Qn 4 rfl Bm (Qo 5 rfl [] Qw (Cd [_,_]) (Qo 6 rfl [] Qw (Qf [Iq _,_,Iq _,Iq _,Iq _,Iq _,Iq _,.str _,.bool _]) (Qo 7 rfl [(22,_)] Qw Dh ?_)))
   refine Js.pure _ _ 8 _ _ rfl (by kernel_rfl) (by kernel_rfl) rfl (.opt _ (.bool _) [(21,_),(23,_)] rfl (sB.all ⟨tO.self _ _,tO.self _ _,trivial⟩) (fun hG=>Ct (by kernel_rfl) rfl rfl (S8 T V c.cond hck)) rfl) ?_
   refine Qn 9 rfl Em (Qn 10 rfl Bm (Qo 11 rfl [] Qw (Cd [_,_]) (Qo 12 rfl [] Qw (Qf [Iq _,_,Iq _,Iq _,Iq _,Iq _,Iq _,.str _,.bool _]) (Qo 13 rfl [(28,_)] Qw Dh ?_))))
   refine Js.pure _ _ 14 _ _ rfl (by kernel_rfl) (by kernel_rfl) rfl (.opt _ (.bool _) [(27,_),(29,_)] rfl (sB.all ⟨tO.self _ _,tO.self _ _,trivial⟩) (fun hG=>Ct (by kernel_rfl) rfl rfl (Ph T V c.cond hck hcs)) rfl) ?_
   refine Qn 15 rfl Em (Qn 16 rfl Bm ?_)
   refine Js.pure _ _ 17 _ _ rfl (by kernel_rfl) (by kernel_rfl) rfl (.opt _ (.fn _ _ _) [] rfl (sB.all trivial) (fun hG=>Bk (v:=.fn _ _ _) rfl) rfl) ?_
   refine Js.pure _ _ 18 _ _ rfl (by kernel_rfl) (by kernel_rfl) rfl (.opt _ (.val _) [] rfl (sB.all trivial) (fun hG=>OpP.Aax (fun k=>At (k:=k) (c:=.val _) Ai rfl rfl rfl rfl) (fun _ h=>h.1)) rfl) ?_
   refine Qo 19 rfl [] Qw (Qf [Iq _,_,Iq _,Iq _,Iq _,Iq _,Iq _,.str _,.bool _]) (Qo 20 rfl [(35,_)] Qw (Qf [_,Iq _,Iq _,Iq _,Iq _,Iq _,.str _,.bool _]) (Qo 21 rfl [(36,_)] Qw Dg ?_))
   refine Js.pure _ _ 22 _ _ rfl (by kernel_rfl) (by kernel_rfl) rfl (.opt _ (.ptr _) [(37,_)] rfl (sB.all ⟨tO.self _ _,trivial⟩) (fun hG=>Af (c:=[Iq _,_,Iq _,Iq _,Iq _,Iq _,Iq _,.str _]) Ai rfl rfl rfl rfl rfl rfl (by decide) (Id (Nat.lt_of_succ_lt (K6 hck (Mx (J8 (g1' hG))))))) rfl) ?_
   refine Qo 23 rfl [(38,_)] Qw Dh ?_
   refine Qo 24 rfl [(39,_)] Qw (Qc rfl (O1 _)) ?_
   refine Js.pure _ _ 25 _ _ rfl (by kernel_rfl) (by kernel_rfl) rfl (.opt _ (.agg _) [(34,_),(40,_)] rfl (sB.all ⟨tO.self _ _,tO.self _ _,trivial⟩) (fun hG=>Sk (ho:=.kmap m (wE w)) (by kernel_rfl) rfl rfl (Rt m w hwp (B8 (Ao c.cond))) (fun _ h=>h.2)) rfl) ?_
   refine Js.pure _ _ 26 _ _ rfl (by kernel_rfl) (by kernel_rfl) rfl (.opt _ (.val _) [] rfl (sB.all trivial) (fun hG=>OpP.Aax (fun k=>At (k:=k) (c:=.val _) Ai rfl rfl rfl rfl) (fun _ h=>h.1)) rfl) ?_
   refine Qo 27 rfl [] Qw (Qf [Iq _,_,Iq _,Iq _,Iq _,Iq _,Iq _,.str _,.bool _]) (Qo 28 rfl [(43,_)] Qw (Qf [_,Iq _,Iq _,Iq _,Iq _,Iq _,.str _,.bool _]) (Qo 29 rfl [(44,_)] Qw Dg ?_))
   refine Js.pure _ _ 30 _ _ rfl (by kernel_rfl) (by kernel_rfl) rfl (.opt _ (.ptr _) [(45,_)] rfl (sB.all ⟨tO.self _ _,trivial⟩) (fun hG=>Af (c:=[Iq _,_,Iq _,Iq _,Iq _,Iq _,Iq _,.str _]) Ai rfl rfl rfl rfl rfl rfl (by decide) (Ky (K6 hck (Mx (J8 (g1' hG)))))) rfl) ?_
   refine Qo 31 rfl [(46,_)] Qw Dh ?_
   refine Qo 32 rfl [(47,_)] Qw (Qc rfl (O1 _)) ?_
   refine Js.pure _ _ 33 _ _ rfl (by kernel_rfl) (by kernel_rfl) rfl (.opt _ (.agg _) [(42,_),(48,_)] rfl (sB.all ⟨tO.self _ _,tO.self _ _,trivial⟩) (fun hG=>Sk (ho:=.kmap m (wE w)) (by kernel_rfl) rfl rfl (Rt m w hwp (B8 (Bj c.cond))) (fun _ h=>h.2)) rfl) ?_
   refine Js.pure _ _ 34 _ _ rfl (by kernel_rfl) (by kernel_rfl) rfl (.opt _ (.bool _) [(41,_),(49,_),(33,_)] rfl (sB.all ⟨tO.self _ _,tO.self _ _,tO.self _ _,trivial⟩) (fun hG=>D4 (by kernel_rfl) rfl rfl rfl (d_str3 (Cb w (B8 (Ao c.cond))) (Cb w (B8 (Bj c.cond))))) rfl) ?_
   refine Qo 35 rfl [(50,_)] Qw Ge (Qn 36 rfl Em ?_)
   refine Js.done _ _ (by kernel_rfl) ?_
   refine Ae (A2 (fun hc2=>?_) fun hc2=>?_)
   ·
    have hfin:=hR2.trans (lL hc2)
    refine Ah (Qp Bc (Ag (AW.ret (A9 (Al (Al (A9 (Al ?_))))))))
    refine ⟨.inr rfl,[.bool _],.cons (.tmp _ _ rfl) <| .nil,_,.refl _,?_⟩
    exact ⟨congrArg AV.bool hfin.symm,rfl⟩
   ·
    refine AW.skip (Bp (Ae (AW.region (Qp Fu (Qp Az (Ag ?_))))))
    refine ⟨p+1,?_,?_,GS.weaken ⟨rfl,rfl,rfl,rfl,rfl,rfl,rfl,rfl,trivial⟩ (.refl _)⟩
    · exact ⟨hlt,hR2.trans (kS hc2)⟩
    · omega
  ·
   have hde:=Df hc1
   have hR2:=hR.2
   rw [hde] at hR2
   refine AW.exit ?_
   refine A3 (A3 (Bq (Ae (Ah (Qp Bc (Ag (AW.ret ?_)))))))
   refine ⟨.inr rfl,[.bool _],.cons (.tmp _ _ rfl) <| .nil,_,.refl _,?_⟩
   exact ⟨congrArg AV.bool hR2.symm,rfl⟩

end Go.Proofs.YtkddpedfbicbeaaGreatDoor
