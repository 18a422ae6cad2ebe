/-
  Several texts in one: Y9, Y8b. No condition.
-/
import Derived.Test.YtjedflcpjlgokaaGreatDoorAz
import Derived.Test.YtjedflcpjlgokaaGreatDoorK14
import Derived.Test.YtjedflcpjlgokaaGreatDoorY7b
import Derived.KernelRfl
import Derived.Test.YtjedflcpjlgokaaGreatDoorK15
import Derived.Test.YtjedflcpjlgokaaGreatDoorK29
set_option linter.unusedVariables false
set_option linter.unusedSimpArgs false
namespace Go.Proofs.YtjedflcpjlgokaaGreatDoor
open Go Go.Aw
set_option maxHeartbeats 3200000
set_option maxRecDepth 20000

theorem Nv (e:Ex):A1 Tryz.prog 124 [.agg (cE e)] (.agg (Jz (Ff e))):=by
 refine A1.body (n:=18) Aj Tryz.func124 rfl rfl rfl fun H=>?_
 refine Ah (Qp Mt ?_)
 refine Qe (A0 (l:=[.bool false,.str [],.int .i64 0,.int .i64 0,.int .i64 0]) (by kernel_rfl)) ?_
 rintro _ _ ⟨b2,rfl,rfl⟩
 refine Ag (AW.seq (Ah (Qp Lm (Qp B2 (Qp Ba (Ag (A4 (fun hc1=>?_) fun hc1=>?_)))))))
 ·
  refine Ah (Qp Mv (Qp Qf7 (Qp Uj (Qp (Ij [.bool _,.str _,Iq _,Iq _,Iq _]) ?_))))
  refine Eu 0 [.bool _,.str _,Iq _,Iq _,Iq _] (_::_) ?_
  refine Ag (D4 ?_)
  refine ⟨.inr rfl,[.agg [.bool _,.str _,Iq _,Iq _,Iq _]],.cons (.box _ _ _ 0 _ _ _ _ rfl rfl rfl rfl rfl rfl) <| .nil,.cons _ (.refl _),?_⟩
  exact Eq.trans rfl (congrArg (fun q:Wd=>AV.agg (Jz q)) (Aat hc1)).symm
 ·
  refine Bx (Ah (Qp Lm (Qp B2 (Qp aW (Qp B2 (Qp aV (Qp B2 (Qp (Ij [Iq _,Iq _,Iq _]) (Qp (Ij [.bool _,.str _,Iq _,Iq _,Iq _]) ?_)))))))))
  refine Eu 0 [.bool _,.str _,Iq _,Iq _,Iq _] (_::_) ?_
  refine Ag (AW.ret ?_)
  refine ⟨.inr rfl,[.agg [.bool _,.str _,Iq _,Iq _,Iq _]],.cons (.box _ _ _ 0 _ _ _ _ rfl rfl rfl rfl rfl rfl) <| .nil,.cons _ (.refl _),?_⟩
  exact Eq.trans rfl (congrArg (fun q:Wd=>AV.agg (Jz q)) (zX hc1)).symm
theorem d_of (m:Nat)(w:Wm)(hw:Wp w)(x:Wd)(R:List HO):C7 Tryz.prog 123 (.kmap m (wE w)::R) [.val (.map (some m)),.agg (Jz x)] (fun r H'=>r = .agg (Jz (Df w x))∧H' = .kmap m (wE w)::R):=by
 refine C7.body (n:=17) Aj Tryz.func123 rfl rfl rfl ?_
 refine Ah ?_
 refine Qe (Wc (v:=.agg _) (cs:=[.bool _,.str _,Iq _,Iq _,Iq _]) rfl rfl (rfl)) ?_
 rintro _ _ ⟨b3,rfl,rfl⟩
 refine Qe (A0 (l:=[.bool false,.str [],.int .i64 0,.int .i64 0,.int .i64 0]) (by kernel_rfl)) ?_
 rintro _ _ ⟨b4,rfl,rfl⟩
 refine Ag (AW.block ?_)
 refine AW.Aa3 (fun (p:Nat×Wd)=>(⟨[(0,.val (.map (some m))),(3,.val (.pointer (some ⟨b3,0,none⟩))),(4,.val (.pointer (some ⟨b4,0,none⟩)))],.box b4 200 [.bool false,.str [],.int .i64 0,.int .i64 0,.int .i64 0] :: .box b3 200 (Jz p.2) :: .kmap m (wE w)::R,17⟩:St)) (fun (p:Nat×Wd)=>sK w p.1 p.2∧Df w x=aS w p.1 p.2) (fun (p:Nat×Wd)=>p.1) ((w.length,x)) ?_ (GS.weaken ⟨rfl,rfl,rfl,trivial⟩ (.refl _)) ?_
 · exact ⟨V9 w x,rfl⟩
 ·
  rintro p hR
  refine AW.block (Ah (Qp Gn ?_))
  refine AOL.Aa7 (Cb (k:=1) (l:=[.bool _,.str _,Iq _,Iq _,Iq _]) Aj rfl rfl rfl rfl rfl) rfl rfl ?_
  refine AOL.Aa7 (rP (i:=2) (eq:=Ir p.2) Aj rfl rfl rfl rfl rfl (by kernel_rfl) rfl rfl (rfl) (yE p.2 w) (Aad p.2 w) (has_w p.2 w)) rfl rfl ?_
  refine Qp Om ?_
  refine Qp (Dt (v:=.agg [.bool _,.str _,Iq _,Iq _,Iq _]) rfl rfl) ?_
  refine Qp X9 ?_
  refine Qe (A0 (l:=[.bool false,.str [],.int .i64 0,.int .i64 0,.int .i64 0]) (by kernel_rfl)) ?_
  rintro _ _ ⟨b5,rfl,rfl⟩
  refine Eu 0 [.bool _,.str _,Iq _,Iq _,Iq _] (_::_::_::_::_) ?_
  refine Qp Bb ?_
  refine AOL.ghost (GS.Aa2 (t:=5) 0 rfl rfl) ?_
  refine Ag (AW.seq (Ah (Qp Bt (Qp Gj (Ag (A4 (fun hc1=>?_) fun hc1=>?_))))))
  ·
   have hnn:=bO hc1
   refine Ah ?_
   refine AOL.Aa7 (Cb (k:=1) (l:=[.bool _,.str _,Iq _,Iq _,Iq _]) Aj rfl rfl rfl rfl rfl) rfl rfl ?_
   refine Eu 0 [.bool _,.str _,Iq _,Iq _,Iq _] (_::_::_::_) ?_
   refine Ag (D4 (A6 (Ai (A6 ?_))))
   refine ⟨.inr rfl,[.agg [.bool _,.str _,Iq _,Iq _,Iq _]],.cons (.box _ _ _ 0 _ _ _ _ rfl rfl rfl rfl rfl rfl) <| .nil,_,.cons _ (.cons _ (.refl _)),?_⟩
   exact ⟨congrArg (fun q:Wd=>AV.agg (Jz q)) ((hR.2.trans (kB hnn)).symm),rfl⟩
  ·
   have hyy:=uT (d:=wd0) hc1
   have hst:=X2 hw hR.1 hyy
   refine Bx (AW.region (Qp (C8 [.bool _,.str _,Iq _,Iq _,Iq _]) ?_))
   refine Eu 1 [.bool _,.str _,Iq _,Iq _,Iq _] (_::_::_::_) ?_
   refine AOL.nil (Bn (Ad ?_))
   refine ⟨(p.1-1,(Il w p.2).getD wd0),?_,?_,GS.weaken ⟨rfl,rfl,rfl,trivial⟩ (.refl _)⟩
   · exact ⟨hst.2,hR.2.trans (kX hst.1 hyy)⟩
   · have:=hst.1;simp only;omega
theorem P0 (m:Nat)(w:Wm)(hw:Wp w)(x:Wd):∀(H:List HO) (k:Nat),H[k]? = some (.kmap m (wE w))→C7 Tryz.prog 123 H [.val (.map (some m)),.agg (Jz x)] fun r' H'=>r' = .agg (Jz (Df w x))∧H'=H:=
 C7.atFront (d_of m w hw x)
theorem Aah (bw m:Nat)(w:Wm)(x y:Wd)(hx:Il w x=none)(hy:Il w y=none)(R:List HO):C7 Tryz.prog 125 (.box bw 134 [.val (.map (some m))] :: .kmap m (wE w)::R) [.agg (Jz x),.agg (Jz y),.val (.pointer (some ⟨bw,0,none⟩))] (fun r H'=>r = .bool (Te w x y).2∧H' = .box bw 134 [.val (.map (some m))] :: .kmap m (wE (Te w x y).1)::R):=by
 refine C7.body (n:=25) Aj Tryz.func125 rfl rfl rfl ?_
 refine Ah ?_
 refine Qe (Wc (v:=.agg _) (cs:=[.bool _,.str _,Iq _,Iq _,Iq _]) rfl rfl (rfl)) ?_
 rintro _ _ ⟨b3,rfl,rfl⟩
 refine Qe (Wc (v:=.agg _) (cs:=[.bool _,.str _,Iq _,Iq _,Iq _]) rfl rfl (rfl)) ?_
 rintro _ _ ⟨b4,rfl,rfl⟩
 refine Qp Bb (Ag ?_)
 refine AW.cut (fun (p:Wd×Wd)=>(⟨[(2,.val (.pointer (some ⟨bw,0,none⟩))),(3,.val (.pointer (some ⟨b3,0,none⟩))),(4,.val (.pointer (some ⟨b4,0,none⟩)))],.box b4 200 (Jz p.2) :: .box b3 200 (Jz p.1) :: .box bw 134 [.val (.map (some m))] :: .kmap m (wE w)::R,25⟩:St)) (fun (p:Wd×Wd)=>Il w p.1=none∧Te w x y=(w ++ [p],true)) ?_ ?_
 ·
  refine AW.block (Ah ?_)
  refine AOL.Aa7 (Cb (k:=1) (l:=[.bool _,.str _,Iq _,Iq _,Iq _]) Aj rfl rfl rfl rfl rfl) rfl rfl ?_
  refine AOL.Aa7 (Cb (k:=0) (l:=[.bool _,.str _,Iq _,Iq _,Iq _]) Aj rfl rfl rfl rfl rfl) rfl rfl ?_
  refine Qp (lW (r:=aX x y) Aj rfl rfl rfl rfl (Lx x y)) ?_
  refine Qp Bb (Ag (A4 (fun hc1=>?_) fun hc1=>?_))
  ·
   refine Ah (Qp Bb (Ag (AW.ret (A6 (Ai ?_)))))
   refine ⟨.inr rfl,[.bool _],.cons (.tmp _ _ rfl) <| .nil,_,.cons _ (.cons _ (.refl _)),?_⟩
   exact ⟨congrArg (fun q:Wm×Bool=>AV.bool q.2) (qH hc1).symm,congrArg (fun q:Wm×Bool=>(.box bw 134 [.val (.map (some m))] :: .kmap m (wE q.1)::R:List HO)) (qH hc1).symm⟩
  ·
   refine Ah (Qp Ia ?_)
   refine AOL.Aa7 (Am (k:=1) (c:=.bool _) Aj rfl rfl rfl rfl) rfl rfl ?_
   refine Qp Bt (Qg [] Qw Ia ?_)
   refine AOL.gk (y:=.bool _) _ [(14,_)] rfl (nI.all ⟨Ent.Aa1 _ _,trivial⟩) (fun hG=>Am (k:=0) (c:=.bool _) Aj rfl rfl rfl rfl) rfl rfl ?_
   refine Qp G1 (Qp Bb (Ag (A4 (fun hc2=>?_) fun hc2=>?_)))
   ·
    refine Ah (Qp Bb (Ag (AW.ret (A6 (Ai ?_)))))
    refine ⟨.inr rfl,[.bool _],.cons (.tmp _ _ rfl) <| .nil,_,.cons _ (.cons _ (.refl _)),?_⟩
    exact ⟨congrArg (fun q:Wm×Bool=>AV.bool q.2) (sI hc1 hc2).symm,congrArg (fun q:Wm×Bool=>(.box bw 134 [.val (.map (some m))] :: .kmap m (wE q.1)::R:List HO)) (sI hc1 hc2).symm⟩
   ·
    refine Ah (Qp Ia ?_)
    refine AOL.Aa7 (Am (k:=1) (c:=.bool _) Aj rfl rfl rfl rfl) rfl rfl ?_
    refine Qp Bb (Ag (A4 (fun hc3=>?_) fun hc3=>?_))
    ·
     refine AW.region ?_
     refine AOL.Aa7 (Cb (k:=0) (l:=[.bool _,.str _,Iq _,Iq _,Iq _]) Aj rfl rfl rfl rfl rfl) rfl rfl ?_
     refine AOL.Aa7 (Cb (k:=1) (l:=[.bool _,.str _,Iq _,Iq _,Iq _]) Aj rfl rfl rfl rfl rfl) rfl rfl ?_
     refine Eu 1 [.bool _,.str _,Iq _,Iq _,Iq _] (_::_::_::_::_) ?_
     refine Eu 0 [.bool _,.str _,Iq _,Iq _,Iq _] (_::_::_::_::_) ?_
     refine AOL.nil (Bn (Ad ?_))
     refine ⟨(y,x),?_,GS.weaken ⟨rfl,rfl,rfl,trivial⟩ (.refl _)⟩
     exact ⟨hy,eqAB_3 hc1 hc2 hc3⟩
    ·
     refine AW.skip (Bn (Ad ?_))
     refine ⟨(x,y),?_,GS.weaken ⟨rfl,rfl,rfl,trivial⟩ (.refl _)⟩
     exact ⟨hx,eqAB_4 hc1 hc2 hc3⟩
 ·
  rintro p hR
  refine Ah ?_
  refine AOL.Aa7 (Am (k:=2) (c:=.val _) Aj rfl rfl rfl rfl) rfl rfl ?_
  refine AOL.Aa7 (Cb (k:=1) (l:=[.bool _,.str _,Iq _,Iq _,Iq _]) Aj rfl rfl rfl rfl rfl) rfl rfl ?_
  refine AOL.Aa7 (Cb (k:=0) (l:=[.bool _,.str _,Iq _,Iq _,Iq _]) Aj rfl rfl rfl rfl rfl) rfl rfl ?_
  refine Qe (R5 (i:=3) (eq:=Ir p.1) (H2:=_::_::_::_::_) Aj rfl rfl rfl rfl rfl rfl rfl (rfl) (yE p.1 w) rfl (new_w hR.1) rfl) ?_
  rintro _ _ ⟨rfl,rfl⟩
  refine Dv (Qp Bb (Ag (AW.ret ?_)))
  refine ⟨.inr rfl,[.bool _],.cons (.tmp _ _ rfl) <| .nil,_,.cons _ (.cons _ (.refl _)),?_⟩
  exact ⟨congrArg (fun q:Wm×Bool=>AV.bool q.2) hR.2.symm,(congrArg (fun e=>(.box bw 134 [.val (.map (some m))] :: .kmap m e::R:List HO)) (wD w p).symm).trans (congrArg (fun q:Wm×Bool=>(.box bw 134 [.val (.map (some m))] :: .kmap m (wE q.1)::R:List HO)) hR.2.symm)⟩
theorem d_str3 (x y:Wd):A1 Tryz.prog 126 [.agg (Jz x),.agg (Jz y)] (.bool (!(aX x y))):=by
 refine A1.body (n:=8) Aj Tryz.func126 rfl rfl rfl fun H=>?_
 refine Ah (Qp (It [.bool _,.str _,Iq _,Iq _,Iq _]) (Qp (It [.bool _,.str _,Iq _,Iq _,Iq _]) (Qp Bb (Dv (Qp (C8 [.bool _,.str _,Iq _,Iq _,Iq _]) (Qp (C8 [.bool _,.str _,Iq _,Iq _,Iq _]) ?_))))))
 refine Qp (H0 (r:=aX x y) Aj rfl rfl rfl rfl (Lx x y)) ?_
 refine Qp Bb (Ag (AW.ret ?_))
 refine Qr (.bool _) ?_
 rfl
theorem uS (T:List Sc)(V:List Va)(l:List Lit)(hlk:Q9 T V l)(bw m:Nat)(R:List HO):C7 Tryz.prog 122 (.box bw 134 [.val (.map (some m))] :: .kmap m (wE [])::R) [.bool true,.fn (.func 125) [] [.val (.pointer (some ⟨bw,0,none⟩))],.ptr [.sl 9 (l.map Fy)],.ptr (B9 T V),.val (.pointer (some ⟨bw,0,none⟩))] (fun r H'=>r = .bool (Jj T V l []).2∧H' = .box bw 134 [.val (.map (some m))] :: .kmap m (wE (Jj T V l []).1)::R):=by
 refine C7.body (n:=54) Aj Tryz.func122 rfl rfl rfl ?_
 refine Ah (Qp Bb (Ag (AW.seq (Ah (Qp D1 ?_)))))
 refine Qp (Al (n:=l.length) Aj rfl rfl rfl (by simp)) ?_
 refine Qp Az (Ag (AW.block ?_))
 refine AW.sllen 10 rfl fun hlen=>?_
 simp only [List.length_map,maxLen] at hlen
 refine AW.Aa3 (fun (p:Nat×Wm)=>(⟨[(0,.bool true),(1,.fn (.func 125) [] [.val (.pointer (some ⟨bw,0,none⟩))]),(2,.ptr [.sl 9 (l.map Fy)]),(3,.ptr (B9 T V)),(4,.val (.pointer (some ⟨bw,0,none⟩))),(10,.sl 9 (l.map Fy)),(11,.int .i64 l.length),(12,.int .i64 (p.1:Int))],.box bw 134 [.val (.map (some m))] :: .kmap m (wE p.2)::R,54⟩:St)) (fun (p:Nat×Wm)=>p.1≤l.length∧Jj T V l []=Jj T V (l.drop p.1) p.2∧Wp p.2) (fun (p:Nat×Wm)=>l.length-p.1) ((0,[])) ?_ (GS.weaken ⟨rfl,rfl,rfl,rfl,rfl,rfl,rfl,rfl,trivial⟩ (.refl _)) ?_
 · exact ⟨Nat.zero_le _,rfl,Ze⟩
 ·
  rintro p hR
  have hwp:=hR.2.2
  refine Ah (Qp Co (Ag (AW.seq (A4 (fun hc1=>?_) fun hc1=>?_))))
  ·
   obtain ⟨c,hc⟩:=B5 hc1
   have hlt:=Bh hc
   have hcm:=List.mem_of_getElem? hc
   have hck:=(hlk c hcm).1
   have hcs:=Nat.le_trans (hlk c hcm).2 (by decide:64≤1048576)
   have hdc:=Bi hc
   have hR2:=hR.2.1
   rw [hdc] at hR2
   refine Bx (AW.seq (AW.block (Ah ?_)))
   refine Qp (Af (c:=[Iq _,_,Iq _,Iq _,Iq _,Iq _,Iq _,.str _,.bool _]) Aj rfl rfl rfl rfl rfl rfl (by omega) (B1 hc)) ?_
   refine Qp (C8 [Iq _,_,Iq _,Iq _,Iq _,Iq _,Iq _,.str _,.bool _]) ?_
   refine Qe (A0 (l:=[.int .i64 0,.sl 8 [],.int .i64 0,.int .i64 0,.int .i64 0,.int .i64 0,.int .i64 0,.str [],.bool false]) (by kernel_rfl)) ?_
   rintro _ _ ⟨b9,rfl,rfl⟩
   refine Eu 0 [Iq _,_,Iq _,Iq _,Iq _,Iq _,Iq _,.str _,.bool _] (_::_::_::_) ?_
   refine AOL.ghost (GS.Aa2 (t:=9) 0 rfl rfl) ?_
   refine Ag (AW.seq ?_)
   refine AW.drawI mixed (fun j H'=>(j==18||j==25||j==26||j==33)=true→_∈H'∧_∈H') (fun _ _=>⟨(List.mem_of_getElem? (i:=0) rfl),(List.mem_of_getElem? (i:=1) rfl)⟩) (by kernel_rfl) ?_
   refine CanonI.pure _ _ 0 _ _ rfl (by kernel_rfl) (by kernel_rfl) rfl (.run rfl (B0 (cs':=[.bool _]) Aj rfl rfl rfl rfl rfl rfl)) ?_
   refine CanonI.pure _ _ 1 _ _ rfl (by kernel_rfl) (by kernel_rfl) rfl (.run rfl (Er (c:=.bool _) Aj rfl rfl rfl)) ?_
   refine CanonI.pure _ _ 2 _ _ rfl (by kernel_rfl) (by kernel_rfl) rfl (.run rfl (Bk (v:=.bool _) rfl)) ?_
   refine CanonI.pure _ _ 3 _ _ rfl (by kernel_rfl) (by kernel_rfl) rfl (.run rfl (Uk Aj rfl rfl rfl rfl)) ?_
   refine CanonI.pure _ _ 4 _ _ rfl (by kernel_rfl) (by kernel_rfl) rfl (.run rfl (Bk (v:=.bool _) rfl)) ?_
   refine CanonI.pure _ _ 5 _ _ rfl (by kernel_rfl) (by kernel_rfl) rfl (.opt _ (.agg _) [] rfl (nI.all trivial) (fun hG=>D7 (l:=[_,_]) Aj rfl rfl rfl rfl rfl) rfl) ?_
   refine CanonI.pure _ _ 6 _ _ rfl (by kernel_rfl) (by kernel_rfl) rfl (.opt _ (.ptr _) [] rfl (nI.all trivial) (fun hG=>B0 (cs':=[Iq _,_,Iq _,Iq _,Iq _,Iq _,Iq _,.str _,.bool _]) Aj rfl rfl rfl rfl rfl rfl) rfl) ?_
   refine CanonI.pure _ _ 7 _ _ rfl (by kernel_rfl) (by kernel_rfl) rfl (.opt _ (.agg _) [(22,_)] rfl (nI.all ⟨Ent.Aa1 _ _,trivial⟩) (fun hG=>D7 (l:=[Iq _,_,Iq _,Iq _,Iq _,Iq _,Iq _,.str _]) Aj rfl rfl rfl rfl rfl) rfl) ?_
   refine CanonI.pure _ _ 8 _ _ rfl (by kernel_rfl) (by kernel_rfl) rfl (.opt _ (.bool _) [(21,_),(23,_)] rfl (nI.all ⟨Ent.Aa1 _ _,Ent.Aa1 _ _,trivial⟩) (fun hG=>Fk (by kernel_rfl) rfl rfl (P2 T V c.cond hck)) rfl) ?_
   refine CanonI.pure _ _ 9 _ _ rfl (by kernel_rfl) (by kernel_rfl) rfl (.run rfl (L2 rfl rfl rfl)) ?_
   refine CanonI.pure _ _ 10 _ _ rfl (by kernel_rfl) (by kernel_rfl) rfl (.run rfl (Bk (v:=.bool _) rfl)) ?_
   refine CanonI.pure _ _ 11 _ _ rfl (by kernel_rfl) (by kernel_rfl) rfl (.opt _ (.agg _) [] rfl (nI.all trivial) (fun hG=>D7 (l:=[_,_]) Aj rfl rfl rfl rfl rfl) rfl) ?_
   refine CanonI.pure _ _ 12 _ _ rfl (by kernel_rfl) (by kernel_rfl) rfl (.opt _ (.ptr _) [] rfl (nI.all trivial) (fun hG=>B0 (cs':=[Iq _,_,Iq _,Iq _,Iq _,Iq _,Iq _,.str _,.bool _]) Aj rfl rfl rfl rfl rfl rfl) rfl) ?_
   refine CanonI.pure _ _ 13 _ _ rfl (by kernel_rfl) (by kernel_rfl) rfl (.opt _ (.agg _) [(28,_)] rfl (nI.all ⟨Ent.Aa1 _ _,trivial⟩) (fun hG=>D7 (l:=[Iq _,_,Iq _,Iq _,Iq _,Iq _,Iq _,.str _]) Aj rfl rfl rfl rfl rfl) rfl) ?_
   refine CanonI.pure _ _ 14 _ _ rfl (by kernel_rfl) (by kernel_rfl) rfl (.opt _ (.bool _) [(27,_),(29,_)] rfl (nI.all ⟨Ent.Aa1 _ _,Ent.Aa1 _ _,trivial⟩) (fun hG=>Fk (by kernel_rfl) rfl rfl (Nx T V c.cond hck hcs)) rfl) ?_
   refine CanonI.pure _ _ 15 _ _ rfl (by kernel_rfl) (by kernel_rfl) rfl (.run rfl (L2 rfl rfl rfl)) ?_
   refine CanonI.pure _ _ 16 _ _ rfl (by kernel_rfl) (by kernel_rfl) rfl (.run rfl (Bk (v:=.bool _) rfl)) ?_
   refine CanonI.pure _ _ 17 _ _ rfl (by kernel_rfl) (by kernel_rfl) rfl (.opt _ (.fn _ _ _) [] rfl (nI.all trivial) (fun hG=>Bk (v:=.fn _ _ _) rfl) rfl) ?_
   refine CanonI.pure _ _ 18 _ _ rfl (by kernel_rfl) (by kernel_rfl) rfl (.opt _ (.val _) [] rfl (nI.all trivial) (fun hG=>OpP.Aa4 (fun k=>Am (k:=k) (c:=.val _) Aj rfl rfl rfl rfl) (fun _ h=>(h rfl).1)) rfl) ?_
   refine CanonI.pure _ _ 19 _ _ rfl (by kernel_rfl) (by kernel_rfl) rfl (.opt _ (.ptr _) [] rfl (nI.all trivial) (fun hG=>B0 (cs':=[Iq _,_,Iq _,Iq _,Iq _,Iq _,Iq _,.str _,.bool _]) Aj rfl rfl rfl rfl rfl rfl) rfl) ?_
   refine CanonI.pure _ _ 20 _ _ rfl (by kernel_rfl) (by kernel_rfl) rfl (.opt _ (.ptr _) [(35,_)] rfl (nI.all ⟨Ent.Aa1 _ _,trivial⟩) (fun hG=>B0 (cs':=[_,Iq _,Iq _,Iq _,Iq _,Iq _,.str _,.bool _]) Aj rfl rfl rfl rfl rfl rfl) rfl) ?_
   refine CanonI.pure _ _ 21 _ _ rfl (by kernel_rfl) (by kernel_rfl) rfl (.opt _ (.sl _ _) [(36,_)] rfl (nI.all ⟨Ent.Aa1 _ _,trivial⟩) (fun hG=>Er (c:=.sl _ _) Aj rfl rfl rfl) rfl) ?_
   refine CanonI.pure _ _ 22 _ _ rfl (by kernel_rfl) (by kernel_rfl) rfl (.opt _ (.ptr _) [(37,_)] rfl (nI.all ⟨Ent.Aa1 _ _,trivial⟩) (fun hG=>Af (c:=[Iq _,_,Iq _,Iq _,Iq _,Iq _,Iq _,.str _]) Aj rfl rfl rfl rfl rfl rfl (by decide) (Gf (Nat.lt_of_succ_lt (Jt hck (Ld (I3 (g1' hG))))))) rfl) ?_
   refine CanonI.pure _ _ 23 _ _ rfl (by kernel_rfl) (by kernel_rfl) rfl (.opt _ (.agg _) [(38,_)] rfl (nI.all ⟨Ent.Aa1 _ _,trivial⟩) (fun hG=>D7 (l:=[Iq _,_,Iq _,Iq _,Iq _,Iq _,Iq _,.str _]) Aj rfl rfl rfl rfl rfl) rfl) ?_
   refine CanonI.pure _ _ 24 _ _ rfl (by kernel_rfl) (by kernel_rfl) rfl (.opt _ (.agg _) [(39,_)] rfl (nI.all ⟨Ent.Aa1 _ _,trivial⟩) (fun hG=>Fk (by kernel_rfl) rfl rfl (Nv _)) rfl) ?_
   refine CanonI.pure _ _ 25 _ _ rfl (by kernel_rfl) (by kernel_rfl) rfl (.opt _ (.agg _) [(34,_),(40,_)] rfl (nI.all ⟨Ent.Aa1 _ _,Ent.Aa1 _ _,trivial⟩) (fun hG=>Pt (ho:=.kmap m (wE p.2)) (by kernel_rfl) rfl rfl (P0 m p.2 hwp (Ff (Ap c.cond))) (fun _ h=>(h rfl).2)) rfl) ?_
   refine CanonI.pure _ _ 26 _ _ rfl (by kernel_rfl) (by kernel_rfl) rfl (.opt _ (.val _) [] rfl (nI.all trivial) (fun hG=>OpP.Aa4 (fun k=>Am (k:=k) (c:=.val _) Aj rfl rfl rfl rfl) (fun _ h=>(h rfl).1)) rfl) ?_
   refine CanonI.pure _ _ 27 _ _ rfl (by kernel_rfl) (by kernel_rfl) rfl (.opt _ (.ptr _) [] rfl (nI.all trivial) (fun hG=>B0 (cs':=[Iq _,_,Iq _,Iq _,Iq _,Iq _,Iq _,.str _,.bool _]) Aj rfl rfl rfl rfl rfl rfl) rfl) ?_
   refine CanonI.pure _ _ 28 _ _ rfl (by kernel_rfl) (by kernel_rfl) rfl (.opt _ (.ptr _) [(43,_)] rfl (nI.all ⟨Ent.Aa1 _ _,trivial⟩) (fun hG=>B0 (cs':=[_,Iq _,Iq _,Iq _,Iq _,Iq _,.str _,.bool _]) Aj rfl rfl rfl rfl rfl rfl) rfl) ?_
   refine CanonI.pure _ _ 29 _ _ rfl (by kernel_rfl) (by kernel_rfl) rfl (.opt _ (.sl _ _) [(44,_)] rfl (nI.all ⟨Ent.Aa1 _ _,trivial⟩) (fun hG=>Er (c:=.sl _ _) Aj rfl rfl rfl) rfl) ?_
   refine CanonI.pure _ _ 30 _ _ rfl (by kernel_rfl) (by kernel_rfl) rfl (.opt _ (.ptr _) [(45,_)] rfl (nI.all ⟨Ent.Aa1 _ _,trivial⟩) (fun hG=>Af (c:=[Iq _,_,Iq _,Iq _,Iq _,Iq _,Iq _,.str _]) Aj rfl rfl rfl rfl rfl rfl (by decide) (Jw (Jt hck (Ld (I3 (g1' hG)))))) rfl) ?_
   refine CanonI.pure _ _ 31 _ _ rfl (by kernel_rfl) (by kernel_rfl) rfl (.opt _ (.agg _) [(46,_)] rfl (nI.all ⟨Ent.Aa1 _ _,trivial⟩) (fun hG=>D7 (l:=[Iq _,_,Iq _,Iq _,Iq _,Iq _,Iq _,.str _]) Aj rfl rfl rfl rfl rfl) rfl) ?_
   refine CanonI.pure _ _ 32 _ _ rfl (by kernel_rfl) (by kernel_rfl) rfl (.opt _ (.agg _) [(47,_)] rfl (nI.all ⟨Ent.Aa1 _ _,trivial⟩) (fun hG=>Fk (by kernel_rfl) rfl rfl (Nv _)) rfl) ?_
   refine CanonI.pure _ _ 33 _ _ rfl (by kernel_rfl) (by kernel_rfl) rfl (.opt _ (.agg _) [(42,_),(48,_)] rfl (nI.all ⟨Ent.Aa1 _ _,Ent.Aa1 _ _,trivial⟩) (fun hG=>Pt (ho:=.kmap m (wE p.2)) (by kernel_rfl) rfl rfl (P0 m p.2 hwp (Ff (B3 c.cond))) (fun _ h=>(h rfl).2)) rfl) ?_
   refine CanonI.phaseg (fun _ _=>True) _ _ 34 _ _ [(41,_),(49,_),(33,_)] _ _ rfl (by kernel_rfl) rfl rfl (nI.all ⟨Ent.Aa1 _ _,Ent.Aa1 _ _,Ent.Aa1 _ _,trivial⟩) (fun hG=>Ib (by kernel_rfl) rfl rfl rfl (C7.front2 (R:=_) 1 0 rfl rfl rfl ((Aah bw m p.2 (Df p.2 (Ff (Ap c.cond))) (Df p.2 (Ff (B3 c.cond))) (N8 hwp _) (N8 hwp _) _).mono' (fun r K h=>⟨h.1,h.2.trans (congrArg (fun w=>(.box bw 134 [.val (.map (some m))] :: .kmap m (wE w)::R:List HO)) (X5 (Yj (g1' hG))))⟩)))) (fun hG=>congrArg (fun w=>(.box bw 134 [.val (.map (some m))] :: .kmap m (wE w)::R:List HO)) (rJ (mE (g1n hG))).symm) (fun j _ _ hr _ _ hj=>?_) (fun _=>trivial) ?_
   ·
    rcases (by simpa only [Bool.or_eq_true,beq_iff_eq,or_assoc] using hj:j=18∨j=25∨j=26∨j=33) with rfl | rfl | rfl | rfl
    · exact Bool.noConfusion ((show Hu _ 7 _ 18=true by kernel_rfl).symm.trans hr)
    · exact Bool.noConfusion ((show Hu _ 7 _ 25=true by kernel_rfl).symm.trans hr)
    · exact Bool.noConfusion ((show Hu _ 7 _ 26=true by kernel_rfl).symm.trans hr)
    · exact Bool.noConfusion ((show Hu _ 7 _ 33=true by kernel_rfl).symm.trans hr)
   refine CanonI.pure _ _ 35 _ _ rfl (by kernel_rfl) (by kernel_rfl) rfl (.opt _ (.bool _) [(50,_)] rfl (nI.all ⟨Ent.Aa1 _ _,trivial⟩) (fun hG=>yK rfl) rfl) ?_
   refine CanonI.pure _ _ 36 _ _ rfl (by kernel_rfl) (by kernel_rfl) rfl (.run rfl (L2 rfl rfl rfl)) ?_
   refine CanonI.done _ _ (by kernel_rfl) ?_
   refine Ad (A4 (fun hc2=>?_) fun hc2=>?_)
   ·
    have hs2:=Bool.and_eq_true_iff.mp hc2
    have hst:=Yj hs2.1
    have hfin:=hR2.trans (Yw hst ((Bool.not_eq_true' _).mp hs2.2))
    have hf1:(Jj T V l []).1=(Io p.2 c).1:=by rw [hfin]
    refine Ah (Qp Bb (Ag (AW.ret (A6 (Ai (Ai (A6 (Ai ?_))))))))
    refine ⟨.inr rfl,[.bool _],.cons (.tmp _ _ rfl) <| .nil,_,.refl _,?_⟩
    exact ⟨congrArg (fun q:Wm×Bool=>AV.bool q.2) hfin.symm,congrArg (fun w=>(.box bw 134 [.val (.map (some m))] :: .kmap m (wE w)::R:List HO)) ((X5 hst).symm.trans hf1.symm)⟩
   ·
    refine AW.skip (Bn (Ad (AW.region (Qp Fb (Qp Az (Ag ?_))))))
    refine ⟨(p.1+1,S1 T V p.2 c),?_,?_,GS.weaken ⟨rfl,rfl,rfl,rfl,rfl,rfl,rfl,rfl,trivial⟩ (.refl _)⟩
    · exact ⟨hlt,hR2.trans (pL hc2),eF hwp c⟩
    · simp only;omega
  ·
   have hde:=Dq hc1
   have hR2:=hR.2.1
   rw [hde] at hR2
   refine AW.exit ?_
   refine A2 (A2 (Bo (Ad (Ah (Qp Bb (Ag (AW.ret ?_)))))))
   refine ⟨.inr rfl,[.bool _],.cons (.tmp _ _ rfl) <| .nil,_,.refl _,?_⟩
   exact ⟨congrArg (fun q:Wm×Bool=>AV.bool q.2) hR2.symm,congrArg (fun q:Wm×Bool=>(.box bw 134 [.val (.map (some m))] :: .kmap m (wE q.1)::R:List HO)) hR2.symm⟩
theorem uW (T:List Sc)(V:List Va)(l:List Lit)(hlk:Q9 T V l)(bw m:Nat)(w:Wm)(hwp:Wp w)(R:List HO):C7 Tryz.prog 122 (.box bw 134 [.val (.map (some m))] :: .kmap m (wE w)::R) [.bool false,.fn (.func 126) [] [],.ptr [.sl 9 (l.map Fy)],.ptr (B9 T V),.val (.pointer (some ⟨bw,0,none⟩))] (fun r H'=>r = .bool (Ot T V w l)∧H' = .box bw 134 [.val (.map (some m))] :: .kmap m (wE w)::R):=by
 refine C7.body (n:=54) Aj Tryz.func122 rfl rfl rfl ?_
 refine Ah (Qp Bb (Ag (AW.seq (Ah (Qp D1 ?_)))))
 refine Qp (Al (n:=l.length) Aj rfl rfl rfl (by simp)) ?_
 refine Qp Az (Ag (AW.block ?_))
 refine AW.sllen 10 rfl fun hlen=>?_
 simp only [List.length_map,maxLen] at hlen
 refine AW.Aa3 (fun (p:Nat)=>(⟨[(0,.bool false),(1,.fn (.func 126) [] []),(2,.ptr [.sl 9 (l.map Fy)]),(3,.ptr (B9 T V)),(4,.val (.pointer (some ⟨bw,0,none⟩))),(10,.sl 9 (l.map Fy)),(11,.int .i64 l.length),(12,.int .i64 (p:Int))],.box bw 134 [.val (.map (some m))] :: .kmap m (wE w)::R,54⟩:St)) (fun (p:Nat)=>p≤l.length∧Ot T V w l=Ot T V w (l.drop p)) (fun (p:Nat)=>l.length-p) (0) ?_ (GS.weaken ⟨rfl,rfl,rfl,rfl,rfl,rfl,rfl,rfl,trivial⟩ (.refl _)) ?_
 · exact ⟨Nat.zero_le _,rfl⟩
 ·
  rintro p hR
  refine Ah (Qp Co (Ag (AW.seq (A4 (fun hc1=>?_) fun hc1=>?_))))
  ·
   obtain ⟨c,hc⟩:=B5 hc1
   have hlt:=Bh hc
   have hcm:=List.mem_of_getElem? hc
   have hck:=(hlk c hcm).1
   have hcs:=Nat.le_trans (hlk c hcm).2 (by decide:64≤1048576)
   have hdc:=Bi hc
   have hR2:=hR.2
   rw [hdc] at hR2
   refine Bx (AW.seq (AW.block (Ah ?_)))
   refine Qp (Af (c:=[Iq _,_,Iq _,Iq _,Iq _,Iq _,Iq _,.str _,.bool _]) Aj rfl rfl rfl rfl rfl rfl (by omega) (B1 hc)) ?_
   refine Qp (C8 [Iq _,_,Iq _,Iq _,Iq _,Iq _,Iq _,.str _,.bool _]) ?_
   refine Qe (A0 (l:=[.int .i64 0,.sl 8 [],.int .i64 0,.int .i64 0,.int .i64 0,.int .i64 0,.int .i64 0,.str [],.bool false]) (by kernel_rfl)) ?_
   rintro _ _ ⟨b9,rfl,rfl⟩
   refine Eu 0 [Iq _,_,Iq _,Iq _,Iq _,Iq _,Iq _,.str _,.bool _] (_::_::_::_) ?_
   refine AOL.ghost (GS.Aa2 (t:=9) 0 rfl rfl) ?_
   refine Ag (AW.seq ?_)
   refine AW.draw mixed (fun H'=>_∈H'∧_∈H') ⟨(List.mem_of_getElem? (i:=0) rfl),(List.mem_of_getElem? (i:=1) rfl)⟩ (by kernel_rfl) ?_
   refine Qn 0 rfl (Qf [.bool _]) (Qn 1 rfl kM (Qn 2 rfl Bt ?_))
   refine Qn 3 rfl (Uk Aj rfl rfl rfl rfl) ?_
   refine Qn 4 rfl Bt (Qo 5 rfl [] Qw (C8 [_,_]) (Qo 6 rfl [] Qw (Qf [Iq _,_,Iq _,Iq _,Iq _,Iq _,Iq _,.str _,.bool _]) (Qo 7 rfl [(22,_)] Qw E2 ?_)))
   refine Iu.pure _ _ 8 _ _ rfl (by kernel_rfl) (by kernel_rfl) rfl (.opt _ (.bool _) [(21,_),(23,_)] rfl (nI.all ⟨Ent.Aa1 _ _,Ent.Aa1 _ _,trivial⟩) (fun hG=>Fk (by kernel_rfl) rfl rfl (P2 T V c.cond hck)) rfl) ?_
   refine Qn 9 rfl G1 (Qn 10 rfl Bt (Qo 11 rfl [] Qw (C8 [_,_]) (Qo 12 rfl [] Qw (Qf [Iq _,_,Iq _,Iq _,Iq _,Iq _,Iq _,.str _,.bool _]) (Qo 13 rfl [(28,_)] Qw E2 ?_))))
   refine Iu.pure _ _ 14 _ _ rfl (by kernel_rfl) (by kernel_rfl) rfl (.opt _ (.bool _) [(27,_),(29,_)] rfl (nI.all ⟨Ent.Aa1 _ _,Ent.Aa1 _ _,trivial⟩) (fun hG=>Fk (by kernel_rfl) rfl rfl (Nx T V c.cond hck hcs)) rfl) ?_
   refine Qn 15 rfl G1 (Qn 16 rfl Bt ?_)
   refine Iu.pure _ _ 17 _ _ rfl (by kernel_rfl) (by kernel_rfl) rfl (.opt _ (.fn _ _ _) [] rfl (nI.all trivial) (fun hG=>Bk (v:=.fn _ _ _) rfl) rfl) ?_
   refine Iu.pure _ _ 18 _ _ rfl (by kernel_rfl) (by kernel_rfl) rfl (.opt _ (.val _) [] rfl (nI.all trivial) (fun hG=>OpP.Aa4 (fun k=>Am (k:=k) (c:=.val _) Aj rfl rfl rfl rfl) (fun _ h=>h.1)) rfl) ?_
   refine Qo 19 rfl [] Qw (Qf [Iq _,_,Iq _,Iq _,Iq _,Iq _,Iq _,.str _,.bool _]) (Qo 20 rfl [(35,_)] Qw (Qf [_,Iq _,Iq _,Iq _,Iq _,Iq _,.str _,.bool _]) (Qo 21 rfl [(36,_)] Qw D1 ?_))
   refine Iu.pure _ _ 22 _ _ rfl (by kernel_rfl) (by kernel_rfl) rfl (.opt _ (.ptr _) [(37,_)] rfl (nI.all ⟨Ent.Aa1 _ _,trivial⟩) (fun hG=>Af (c:=[Iq _,_,Iq _,Iq _,Iq _,Iq _,Iq _,.str _]) Aj rfl rfl rfl rfl rfl rfl (by decide) (Gf (Nat.lt_of_succ_lt (Jt hck (Ld (I3 (g1' hG))))))) rfl) ?_
   refine Qo 23 rfl [(38,_)] Qw E2 ?_
   refine Qo 24 rfl [(39,_)] Qw (Qc rfl (Nv _)) ?_
   refine Iu.pure _ _ 25 _ _ rfl (by kernel_rfl) (by kernel_rfl) rfl (.opt _ (.agg _) [(34,_),(40,_)] rfl (nI.all ⟨Ent.Aa1 _ _,Ent.Aa1 _ _,trivial⟩) (fun hG=>Pt (ho:=.kmap m (wE w)) (by kernel_rfl) rfl rfl (P0 m w hwp (Ff (Ap c.cond))) (fun _ h=>h.2)) rfl) ?_
   refine Iu.pure _ _ 26 _ _ rfl (by kernel_rfl) (by kernel_rfl) rfl (.opt _ (.val _) [] rfl (nI.all trivial) (fun hG=>OpP.Aa4 (fun k=>Am (k:=k) (c:=.val _) Aj rfl rfl rfl rfl) (fun _ h=>h.1)) rfl) ?_
   refine Qo 27 rfl [] Qw (Qf [Iq _,_,Iq _,Iq _,Iq _,Iq _,Iq _,.str _,.bool _]) (Qo 28 rfl [(43,_)] Qw (Qf [_,Iq _,Iq _,Iq _,Iq _,Iq _,.str _,.bool _]) (Qo 29 rfl [(44,_)] Qw D1 ?_))
   refine Iu.pure _ _ 30 _ _ rfl (by kernel_rfl) (by kernel_rfl) rfl (.opt _ (.ptr _) [(45,_)] rfl (nI.all ⟨Ent.Aa1 _ _,trivial⟩) (fun hG=>Af (c:=[Iq _,_,Iq _,Iq _,Iq _,Iq _,Iq _,.str _]) Aj rfl rfl rfl rfl rfl rfl (by decide) (Jw (Jt hck (Ld (I3 (g1' hG)))))) rfl) ?_
   refine Qo 31 rfl [(46,_)] Qw E2 ?_
   refine Qo 32 rfl [(47,_)] Qw (Qc rfl (Nv _)) ?_
   refine Iu.pure _ _ 33 _ _ rfl (by kernel_rfl) (by kernel_rfl) rfl (.opt _ (.agg _) [(42,_),(48,_)] rfl (nI.all ⟨Ent.Aa1 _ _,Ent.Aa1 _ _,trivial⟩) (fun hG=>Pt (ho:=.kmap m (wE w)) (by kernel_rfl) rfl rfl (P0 m w hwp (Ff (B3 c.cond))) (fun _ h=>h.2)) rfl) ?_
   refine Iu.pure _ _ 34 _ _ rfl (by kernel_rfl) (by kernel_rfl) rfl (.opt _ (.bool _) [(41,_),(49,_),(33,_)] rfl (nI.all ⟨Ent.Aa1 _ _,Ent.Aa1 _ _,Ent.Aa1 _ _,trivial⟩) (fun hG=>Fq (by kernel_rfl) rfl rfl rfl (d_str3 (Df w (Ff (Ap c.cond))) (Df w (Ff (B3 c.cond))))) rfl) ?_
   refine Qo 35 rfl [(50,_)] Qw Gj (Qn 36 rfl G1 ?_)
   refine Iu.done _ _ (by kernel_rfl) ?_
   refine Ad (A4 (fun hc2=>?_) fun hc2=>?_)
   ·
    have hfin:=hR2.trans (iA hc2)
    refine Ah (Qp Bb (Ag (AW.ret (A6 (Ai (Ai (A6 (Ai ?_))))))))
    refine ⟨.inr rfl,[.bool _],.cons (.tmp _ _ rfl) <| .nil,_,.refl _,?_⟩
    exact ⟨congrArg AV.bool hfin.symm,rfl⟩
   ·
    refine AW.skip (Bn (Ad (AW.region (Qp Fb (Qp Az (Ag ?_))))))
    refine ⟨p+1,?_,?_,GS.weaken ⟨rfl,rfl,rfl,rfl,rfl,rfl,rfl,rfl,trivial⟩ (.refl _)⟩
    · exact ⟨hlt,hR2.trans (gR hc2)⟩
    · omega
  ·
   have hde:=Dq hc1
   have hR2:=hR.2
   rw [hde] at hR2
   refine AW.exit ?_
   refine A2 (A2 (Bo (Ad (Ah (Qp Bb (Ag (AW.ret ?_)))))))
   refine ⟨.inr rfl,[.bool _],.cons (.tmp _ _ rfl) <| .nil,_,.refl _,?_⟩
   exact ⟨congrArg AV.bool hR2.symm,rfl⟩

set_option maxHeartbeats 1600000
set_option maxRecDepth 20000

theorem vS (l:Nat)(rec:Loop)(bd b1 b2 n:Nat)(bs:List Bd)(d:Ds)(hn:n≤64)(hdl:d.last.length=n)(G:Value→List Int→List HO)(hp:rec.params.size=1)(i0:Nat)(hi:∀v pre,(G v pre)[i0]? = some (.obj l (.loop rec)))(f:Int)(hc:Ih bs d f (n+1) f=true)(hY:∀v pre x,pre.length≤64→fO Tryz.prog l rec (.box bd 156 [.val (.slice (some ⟨b1,0,none⟩) n n),.val (.slice (some ⟨b2,0,none⟩) n n)] :: .box b1 3 (bI d.sums) :: .box b2 3 (bI d.last)::G v pre) [.int .i64 x] (fun r H'=>r = .bool true∧∃v',H' = .box bd 156 [.val (.slice (some ⟨b1,0,none⟩) n n),.val (.slice (some ⟨b2,0,none⟩) n n)] :: .box b1 3 (bI d.sums) :: .box b2 3 (bI d.last)::G v' (pre ++ [x])))(v0:Value):C7 Tryz.prog 104 (.box bd 156 [.val (.slice (some ⟨b1,0,none⟩) n n),.val (.slice (some ⟨b2,0,none⟩) n n)] :: .box b1 3 (bI d.sums) :: .box b2 3 (bI d.last)::G v0 []) [.val (.func (.yield l) #[] #[]),.ptr [.int .i64 f],.ptr [.val (.pointer (some ⟨bd,0,none⟩))],.ptr (Ss (zn n bs))] (fun r H'=>r = .tuple []∧∃v',H' = .box bd 156 [.val (.slice (some ⟨b1,0,none⟩) n n),.val (.slice (some ⟨b2,0,none⟩) n n)] :: .box b1 3 (bI d.sums) :: .box b2 3 (bI d.last)::G v' (Hb bs d f (n+1) f)):=by
 refine C7.body (n:=31) Aj Tryz.func104 rfl rfl rfl ?_
 refine Ah (Qp B2 (Qp Aq (Ag (AW.block ?_))))
 refine AW.Aa3 (fun (p:Int×List Int×Value)=>(⟨[(0,.val (.func (.yield l) #[] #[])),(1,.ptr [.int .i64 f]),(2,.ptr [.val (.pointer (some ⟨bd,0,none⟩))]),(3,.ptr (Ss (zn n bs))),(5,.int .i64 p.1)],.box bd 156 [.val (.slice (some ⟨b1,0,none⟩) n n),.val (.slice (some ⟨b2,0,none⟩) n n)] :: .box b1 3 (bI d.sums) :: .box b2 3 (bI d.last)::G p.2.2 p.2.1,31⟩:St)) (fun (p:Int×List Int×Value)=>p.2.1.length≤n∧Ih bs d f (n+1-p.2.1.length) p.1=true∧Hb bs d f (n+1) f=p.2.1++Hb bs d f (n+1-p.2.1.length) p.1) (fun (p:Int×List Int×Value)=>n+1-p.2.1.length) ((f,[],v0)) ?_ (GS.weaken ⟨rfl,rfl,rfl,rfl,rfl,trivial⟩ (.refl _)) ?_
 · exact ⟨Nat.zero_le _,hc,rfl⟩
 ·
  rintro p hR
  have hpl:=hR.1
  refine (T5 (sP hR.2.1)).elim fun c ok=>?_
  refine AW.seq (AW.seq ?_)
  refine AW.regionY rfl (by kernel_rfl) ?_
  refine Qp Gn (Qp Qlv ?_)
  refine Qp (Bc rfl) ?_
  refine Qp Ia ?_
  refine AOL.Aa7 (Am (k:=0) (c:=.val _) Aj rfl rfl rfl rfl) rfl rfl ?_
  refine Qp Az ?_
  refine Qp (B4 (o':=p.1.toNat) Aj rfl rfl rfl rfl rfl (ok.a0) (by have:=ok.al;omega) (aT _)) ?_
  refine AOL.Aa7 (Am (k:=2) (c:=.int .i64 (C5 d.last p.1)) Aj rfl rfl rfl (Ve ok.a0 ok.al)) rfl rfl ?_
  refine AOL.nil ?_
  refine ⟨l,rec,_,⟨i0+3,hi p.2.2 p.2.1⟩,rfl,hp.symm,rfl,hY p.2.2 p.2.1 (C5 d.last p.1) (by omega),?_⟩
  rintro _ _ ⟨rfl,v1,rfl⟩
  refine Ad (A4 (fun hc1=>?_) fun hc1=>?_)
  ·
   refine Bx (AW.block (AW.seq ?_))
   refine AW.draw mixed (fun H'=>_∈H'∧_∈H') ⟨(List.mem_of_getElem? (i:=0) rfl),(List.mem_of_getElem? (i:=2) rfl)⟩ (by kernel_rfl) ?_
   refine Qn 0 rfl (Qf [_]) (Qn 1 rfl D1 (Qn 2 rfl Qlv ?_))
   refine Qn 3 rfl (Bc rfl) ?_
   refine Qn 4 rfl Ia ?_
   refine Qn 5 rfl (OpP.Aa4 (fun k=>Am (k:=k) (c:=.val _) Aj rfl rfl rfl rfl) (fun _ h=>h.1)) ?_
   refine Qn 6 rfl Az ?_
   refine Qn 7 rfl (B4 (o':=p.1.toNat) Aj rfl rfl rfl rfl rfl (ok.a0) (by have:=ok.al;omega) (aT _)) ?_
   refine Qn 8 rfl (OpP.Aa4 (fun k=>Am (k:=k) (c:=.int .i64 (C5 d.last p.1)) Aj rfl rfl rfl (Ve ok.a0 ok.al)) (fun _ h=>h.2)) ?_
   refine Qn 9 rfl (Af (c:=[.int .i64 c.x,.int .i64 c.y,.int .i64 c.most]) Aj rfl rfl rfl rfl rfl rfl (ok.l0) (gZ ok.at_)) ?_
   refine Qn 10 rfl (Qf [Iq _,Iq _]) (Qn 11 rfl B2 (Qn 12 rfl Aq ?_))
   refine Iu.done _ _ (by kernel_rfl) ?_
   refine Ad (Ah (Qp Az (Qp B2 (Qp Ba (Ag (A4 (fun hc2=>?_) fun hc2=>?_))))))
   ·
    refine AW.ret (A6 (Ai (A6 ?_)))
    refine ⟨.inr rfl,[],.nil,_,.refl _,?_⟩
    exact ⟨rfl,v1,congrArg (fun es:List Int=>(.box bd 156 [.val (.slice (some ⟨b1,0,none⟩) n n),.val (.slice (some ⟨b2,0,none⟩) n n)] :: .box b1 3 (bI d.sums) :: .box b2 3 (bI d.last)::G v1 es:List HO)) (vT hR.2.2 hR.2.1 ok hc2)⟩
   ·
    refine AW.skip (Bn (Ad ?_))
    refine ⟨(c.y,p.2.1 ++ [C5 d.last p.1],v1),?_,?_,GS.weaken ⟨rfl,rfl,rfl,rfl,rfl,trivial⟩ (.refl _)⟩
    ·
     have h9:=dY hR.2.1 ok hc2
     exact ⟨by simp only [List.length_append,List.length_singleton];omega,by simp only [List.length_append,List.length_singleton];rw [show n+1-(p.2.1.length+1)=n+1-p.2.1.length-1 by omega];exact h9.1,by simp only [List.length_append,List.length_singleton];exact cyc_on hR.2.2 hR.2.1 ok hc2⟩
    ·
     have h9:=dY hR.2.1 ok hc2
     simp only [List.length_append,List.length_singleton];omega
  ·
   cases hc1

end Go.Proofs.YtjedflcpjlgokaaGreatDoor
