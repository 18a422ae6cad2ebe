/-
  Several texts in one: Y9, Y8b. No condition.
-/
import Derived.Test.YtjedflcpjlgokaaGreatDoorAz
import Derived.Test.YtjedflcpjlgokaaGreatDoorK19
import Derived.Test.YtjedflcpjlgokaaGreatDoorY7b
import Derived.KernelRfl
import Derived.Test.YtjedflcpjlgokaaGreatDoorK20
import Derived.Test.YtjedflcpjlgokaaGreatDoorK35
set_option linter.unusedVariables false
set_option linter.unusedSimpArgs false
namespace Go.Proofs.YtjedflcpjlgokaaGreatDoor
open Go Go.Aw
set_option maxHeartbeats 3200000
set_option maxRecDepth 20000

theorem Pa (e:Ex):Ax Tryz.prog 124 [.agg (cE e)] (.agg (K8 (Ga e))):=by
 refine Ax.body (n:=18) Ah Tryz.func124 rfl rfl rfl fun H=>?_
 refine Ai (Qp Kx ?_)
 refine Qe (Ak (l:=[.bool false,.str [],.int .i64 0,.int .i64 0,.int .i64 0]) (by kernel_rfl)) ?_
 rintro _ _ ⟨b2,rfl,rfl⟩
 refine Ag (AW.seq (Ai (Qp Jl (Qp Bp (Qp A9 (Ag (A6 (fun hc1=>?_) fun hc1=>?_)))))))
 ·
  refine Ai (Qp Jq (Qp Qf7 (Qp Us (Qp (Fz [.bool _,.str _,Iq _,Iq _,Iq _]) ?_))))
  refine Cv 0 [.bool _,.str _,Iq _,Iq _,Iq _] (_::_) ?_
  refine Ag (Dw ?_)
  refine ⟨.inr rfl,[.agg [.bool _,.str _,Iq _,Iq _,Iq _]],.cons (.box _ _ _ 0 _ _ _ _ rfl rfl rfl rfl rfl rfl) <| .nil,.cons _ (.refl _),?_⟩
  exact Eq.trans rfl (congrArg (fun q:Wd=>AV.agg (K8 q)) (asWd_1 hc1)).symm
 ·
  refine By (Ai (Qp Jl (Qp Bp (Qp Te (Qp Bp (Qp Oq (Qp Bp (Qp (Fz [Iq _,Iq _,Iq _]) (Qp (Fz [.bool _,.str _,Iq _,Iq _,Iq _]) ?_)))))))))
  refine Cv 0 [.bool _,.str _,Iq _,Iq _,Iq _] (_::_) ?_
  refine Ag (AW.ret ?_)
  refine ⟨.inr rfl,[.agg [.bool _,.str _,Iq _,Iq _,Iq _]],.cons (.box _ _ _ 0 _ _ _ _ rfl rfl rfl rfl rfl rfl) <| .nil,.cons _ (.refl _),?_⟩
  exact Eq.trans rfl (congrArg (fun q:Wd=>AV.agg (K8 q)) (asWd_2 hc1)).symm
theorem d_of (m:Nat)(w:Wm)(hw:X4 w)(x:Wd)(R:List HO):Dk Tryz.prog 123 (.kmap m (wE w)::R) [.val (.map (some m)),.agg (K8 x)] (fun r H'=>r = .agg (K8 (D4 w x))∧H' = .kmap m (wE w)::R):=by
 refine Dk.body (n:=17) Ah Tryz.func123 rfl rfl rfl ?_
 refine Ai ?_
 refine Qe (O8 (v:=.agg _) (cs:=[.bool _,.str _,Iq _,Iq _,Iq _]) rfl rfl (rfl)) ?_
 rintro _ _ ⟨b3,rfl,rfl⟩
 refine Qe (Ak (l:=[.bool false,.str [],.int .i64 0,.int .i64 0,.int .i64 0]) (by kernel_rfl)) ?_
 rintro _ _ ⟨b4,rfl,rfl⟩
 refine Ag (AW.block ?_)
 refine AW.Aao (fun (p:Nat×Wd)=>(⟨[(0,.val (.map (some m))),(3,.val (.pointer (some ⟨b3,0,none⟩))),(4,.val (.pointer (some ⟨b4,0,none⟩)))],.box b4 200 [.bool false,.str [],.int .i64 0,.int .i64 0,.int .i64 0] :: .box b3 200 (K8 p.2) :: .kmap m (wE w)::R,17⟩:St)) (fun (p:Nat×Wd)=>vO w p.1 p.2∧D4 w x=bK w p.1 p.2) (fun (p:Nat×Wd)=>p.1) ((w.length,x)) ?_ (GS.weaken ⟨rfl,rfl,rfl,trivial⟩ (.refl _)) ?_
 · exact ⟨Wf w x,rfl⟩
 ·
  rintro p hR
  refine AW.block (Ai (Qp Gr ?_))
  refine AOL.Aas (A7 (k:=1) (l:=[.bool _,.str _,Iq _,Iq _,Iq _]) Ah rfl rfl rfl rfl rfl) rfl rfl ?_
  refine AOL.Aas (tO (i:=2) (eq:=Jm p.2) Ah rfl rfl rfl rfl rfl (by kernel_rfl) rfl rfl (rfl) (wE_eq p.2 w) (look_w p.2 w) (has_w p.2 w)) rfl rfl ?_
  refine Qp N6 ?_
  refine Qp (Ci (v:=.agg [.bool _,.str _,Iq _,Iq _,Iq _]) rfl rfl) ?_
  refine Qp bB ?_
  refine Qe (Ak (l:=[.bool false,.str [],.int .i64 0,.int .i64 0,.int .i64 0]) (by kernel_rfl)) ?_
  rintro _ _ ⟨b5,rfl,rfl⟩
  refine Cv 0 [.bool _,.str _,Iq _,Iq _,Iq _] (_::_::_::_::_) ?_
  refine Qp Bl ?_
  refine AOL.ghost (GS.Aan (t:=5) 0 rfl rfl) ?_
  refine Ag (AW.seq (Ai (Qp B0 (Qp Hc (Ag (A6 (fun hc1=>?_) fun hc1=>?_))))))
  ·
   have hnn:=eY hc1
   refine Ai ?_
   refine AOL.Aas (A7 (k:=1) (l:=[.bool _,.str _,Iq _,Iq _,Iq _]) Ah rfl rfl rfl rfl rfl) rfl rfl ?_
   refine Cv 0 [.bool _,.str _,Iq _,Iq _,Iq _] (_::_::_::_) ?_
   refine Ag (Dw (Bb (Aj (Bb ?_))))
   refine ⟨.inr rfl,[.agg [.bool _,.str _,Iq _,Iq _,Iq _]],.cons (.box _ _ _ 0 _ _ _ _ rfl rfl rfl rfl rfl rfl) <| .nil,_,.cons _ (.cons _ (.refl _)),?_⟩
   exact ⟨congrArg (fun q:Wd=>AV.agg (K8 q)) ((hR.2.trans (mL hnn)).symm),rfl⟩
  ·
   have hyy:=xZ (d:=wd0) hc1
   have hst:=Yz hw hR.1 hyy
   refine By (AW.region (Qp (Cq [.bool _,.str _,Iq _,Iq _,Iq _]) ?_))
   refine Cv 1 [.bool _,.str _,Iq _,Iq _,Iq _] (_::_::_::_) ?_
   refine AOL.nil (Bu (Ad ?_))
   refine ⟨(p.1-1,(Jf w p.2).getD wd0),?_,?_,GS.weaken ⟨rfl,rfl,rfl,trivial⟩ (.refl _)⟩
   · exact ⟨hst.2,hR.2.trans (mF hst.1 hyy)⟩
   · have:=hst.1;simp only;omega
theorem Rz (m:Nat)(w:Wm)(hw:X4 w)(x:Wd):∀(H:List HO) (k:Nat),H[k]? = some (.kmap m (wE w))→Dk Tryz.prog 123 H [.val (.map (some m)),.agg (K8 x)] fun r' H'=>r' = .agg (K8 (D4 w x))∧H'=H:=
 Dk.atFront (d_of m w hw x)
theorem d_str2 (bw m:Nat)(w:Wm)(x y:Wd)(hx:Jf w x=none)(hy:Jf w y=none)(R:List HO):Dk Tryz.prog 125 (.box bw 134 [.val (.map (some m))] :: .kmap m (wE w)::R) [.agg (K8 x),.agg (K8 y),.val (.pointer (some ⟨bw,0,none⟩))] (fun r H'=>r = .bool (Uh w x y).2∧H' = .box bw 134 [.val (.map (some m))] :: .kmap m (wE (Uh w x y).1)::R):=by
 refine Dk.body (n:=25) Ah Tryz.func125 rfl rfl rfl ?_
 refine Ai ?_
 refine Qe (O8 (v:=.agg _) (cs:=[.bool _,.str _,Iq _,Iq _,Iq _]) rfl rfl (rfl)) ?_
 rintro _ _ ⟨b3,rfl,rfl⟩
 refine Qe (O8 (v:=.agg _) (cs:=[.bool _,.str _,Iq _,Iq _,Iq _]) rfl rfl (rfl)) ?_
 rintro _ _ ⟨b4,rfl,rfl⟩
 refine Qp Bl (Ag ?_)
 refine AW.cut (fun (p:Wd×Wd)=>(⟨[(2,.val (.pointer (some ⟨bw,0,none⟩))),(3,.val (.pointer (some ⟨b3,0,none⟩))),(4,.val (.pointer (some ⟨b4,0,none⟩)))],.box b4 200 (K8 p.2) :: .box b3 200 (K8 p.1) :: .box bw 134 [.val (.map (some m))] :: .kmap m (wE w)::R,25⟩:St)) (fun (p:Wd×Wd)=>Jf w p.1=none∧Uh w x y=(w ++ [p],true)) ?_ ?_
 ·
  refine AW.block (Ai ?_)
  refine AOL.Aas (A7 (k:=1) (l:=[.bool _,.str _,Iq _,Iq _,Iq _]) Ah rfl rfl rfl rfl rfl) rfl rfl ?_
  refine AOL.Aas (A7 (k:=0) (l:=[.bool _,.str _,Iq _,Iq _,Iq _]) Ah rfl rfl rfl rfl rfl) rfl rfl ?_
  refine Qp (Pk (r:=cS x y) Ah rfl rfl rfl rfl (Mt x y)) ?_
  refine Qp Bl (Ag (A6 (fun hc1=>?_) fun hc1=>?_))
  ·
   refine Ai (Qp Bl (Ag (AW.ret (Bb (Aj ?_)))))
   refine ⟨.inr rfl,[.bool _],.cons (.tmp _ _ rfl) <| .nil,_,.cons _ (.cons _ (.refl _)),?_⟩
   exact ⟨congrArg (fun q:Wm×Bool=>AV.bool q.2) (uP hc1).symm,congrArg (fun q:Wm×Bool=>(.box bw 134 [.val (.map (some m))] :: .kmap m (wE q.1)::R:List HO)) (uP hc1).symm⟩
  ·
   refine Ai (Qp Gc ?_)
   refine AOL.Aas (Am (k:=1) (c:=.bool _) Ah rfl rfl rfl rfl) rfl rfl ?_
   refine Qp B0 (Qg [] Qw Gc ?_)
   refine AOL.gk (y:=.bool _) _ [(14,_)] rfl (nC.all ⟨Ent.Aam _ _,trivial⟩) (fun hG=>Am (k:=0) (c:=.bool _) Ah rfl rfl rfl rfl) rfl rfl ?_
   refine Qp F7 (Qp Bl (Ag (A6 (fun hc2=>?_) fun hc2=>?_)))
   ·
    refine Ai (Qp Bl (Ag (AW.ret (Bb (Aj ?_)))))
    refine ⟨.inr rfl,[.bool _],.cons (.tmp _ _ rfl) <| .nil,_,.cons _ (.cons _ (.refl _)),?_⟩
    exact ⟨congrArg (fun q:Wm×Bool=>AV.bool q.2) (sU hc1 hc2).symm,congrArg (fun q:Wm×Bool=>(.box bw 134 [.val (.map (some m))] :: .kmap m (wE q.1)::R:List HO)) (sU hc1 hc2).symm⟩
   ·
    refine Ai (Qp Gc ?_)
    refine AOL.Aas (Am (k:=1) (c:=.bool _) Ah rfl rfl rfl rfl) rfl rfl ?_
    refine Qp Bl (Ag (A6 (fun hc3=>?_) fun hc3=>?_))
    ·
     refine AW.region ?_
     refine AOL.Aas (A7 (k:=0) (l:=[.bool _,.str _,Iq _,Iq _,Iq _]) Ah rfl rfl rfl rfl rfl) rfl rfl ?_
     refine AOL.Aas (A7 (k:=1) (l:=[.bool _,.str _,Iq _,Iq _,Iq _]) Ah rfl rfl rfl rfl rfl) rfl rfl ?_
     refine Cv 1 [.bool _,.str _,Iq _,Iq _,Iq _] (_::_::_::_::_) ?_
     refine Cv 0 [.bool _,.str _,Iq _,Iq _,Iq _] (_::_::_::_::_) ?_
     refine AOL.nil (Bu (Ad ?_))
     refine ⟨(y,x),?_,GS.weaken ⟨rfl,rfl,rfl,trivial⟩ (.refl _)⟩
     exact ⟨hy,eqAB_3 hc1 hc2 hc3⟩
    ·
     refine AW.skip (Bu (Ad ?_))
     refine ⟨(x,y),?_,GS.weaken ⟨rfl,rfl,rfl,trivial⟩ (.refl _)⟩
     exact ⟨hx,eqAB_4 hc1 hc2 hc3⟩
 ·
  rintro p hR
  refine Ai ?_
  refine AOL.Aas (Am (k:=2) (c:=.val _) Ah rfl rfl rfl rfl) rfl rfl ?_
  refine AOL.Aas (A7 (k:=1) (l:=[.bool _,.str _,Iq _,Iq _,Iq _]) Ah rfl rfl rfl rfl rfl) rfl rfl ?_
  refine AOL.Aas (A7 (k:=0) (l:=[.bool _,.str _,Iq _,Iq _,Iq _]) Ah rfl rfl rfl rfl rfl) rfl rfl ?_
  refine Qe (S8 (i:=3) (eq:=Jm p.1) (H2:=_::_::_::_::_) Ah rfl rfl rfl rfl rfl rfl rfl (rfl) (wE_eq p.1 w) rfl (new_w hR.1) rfl) ?_
  rintro _ _ ⟨rfl,rfl⟩
  refine Dm (Qp Bl (Ag (AW.ret ?_)))
  refine ⟨.inr rfl,[.bool _],.cons (.tmp _ _ rfl) <| .nil,_,.cons _ (.cons _ (.refl _)),?_⟩
  exact ⟨congrArg (fun q:Wm×Bool=>AV.bool q.2) hR.2.symm,(congrArg (fun e=>(.box bw 134 [.val (.map (some m))] :: .kmap m e::R:List HO)) (yG w p).symm).trans (congrArg (fun q:Wm×Bool=>(.box bw 134 [.val (.map (some m))] :: .kmap m (wE q.1)::R:List HO)) hR.2.symm)⟩
theorem d_str3 (x y:Wd):Ax Tryz.prog 126 [.agg (K8 x),.agg (K8 y)] (.bool (!(cS x y))):=by
 refine Ax.body (n:=8) Ah Tryz.func126 rfl rfl rfl fun H=>?_
 refine Ai (Qp (Gd [.bool _,.str _,Iq _,Iq _,Iq _]) (Qp (Gd [.bool _,.str _,Iq _,Iq _,Iq _]) (Qp Bl (Dm (Qp (Cq [.bool _,.str _,Iq _,Iq _,Iq _]) (Qp (Cq [.bool _,.str _,Iq _,Iq _,Iq _]) ?_))))))
 refine Qp (H0 (r:=cS x y) Ah rfl rfl rfl rfl (Mt x y)) ?_
 refine Qp Bl (Ag (AW.ret ?_))
 refine Qr (.bool _) ?_
 rfl
theorem yO (T:List Sc)(V:List Va)(l:List Lit)(hlk:Sq T V l)(bw m:Nat)(R:List HO):Dk Tryz.prog 122 (.box bw 134 [.val (.map (some m))] :: .kmap m (wE [])::R) [.bool true,.fn (.func 125) [] [.val (.pointer (some ⟨bw,0,none⟩))],.ptr [.sl 9 (l.map F0)],.ptr (Cf T V),.val (.pointer (some ⟨bw,0,none⟩))] (fun r H'=>r = .bool (Kw T V l []).2∧H' = .box bw 134 [.val (.map (some m))] :: .kmap m (wE (Kw T V l []).1)::R):=by
 refine Dk.body (n:=54) Ah Tryz.func122 rfl rfl rfl ?_
 refine Ai (Qp Bl (Ag (AW.seq (Ai (Qp Dy ?_)))))
 refine Qp (Al (n:=l.length) Ah rfl rfl rfl (by simp)) ?_
 refine Qp Az (Ag (AW.block ?_))
 refine AW.sllen 10 rfl fun hlen=>?_
 simp only [List.length_map,maxLen] at hlen
 refine AW.Aao (fun (p:Nat×Wm)=>(⟨[(0,.bool true),(1,.fn (.func 125) [] [.val (.pointer (some ⟨bw,0,none⟩))]),(2,.ptr [.sl 9 (l.map F0)]),(3,.ptr (Cf T V)),(4,.val (.pointer (some ⟨bw,0,none⟩))),(10,.sl 9 (l.map F0)),(11,.int .i64 l.length),(12,.int .i64 (p.1:Int))],.box bw 134 [.val (.map (some m))] :: .kmap m (wE p.2)::R,54⟩:St)) (fun (p:Nat×Wm)=>p.1≤l.length∧Kw T V l []=Kw T V (l.drop p.1) p.2∧X4 p.2) (fun (p:Nat×Wm)=>l.length-p.1) ((0,[])) ?_ (GS.weaken ⟨rfl,rfl,rfl,rfl,rfl,rfl,rfl,rfl,trivial⟩ (.refl _)) ?_
 · exact ⟨Nat.zero_le _,rfl,bJ⟩
 ·
  rintro p hR
  have hwp:=hR.2.2
  refine Ai (Qp Ch (Ag (AW.seq (A6 (fun hc1=>?_) fun hc1=>?_))))
  ·
   obtain ⟨c,hc⟩:=B5 hc1
   have hlt:=A4 hc
   have hcm:=List.mem_of_getElem? hc
   have hck:=(hlk c hcm).1
   have hcs:=Nat.le_trans (hlk c hcm).2 (by decide:64≤1048576)
   have hdc:=A8 hc
   have hR2:=hR.2.1
   rw [hdc] at hR2
   refine By (AW.seq (AW.block (Ai ?_)))
   refine Qp (Af (c:=[Iq _,_,Iq _,Iq _,Iq _,Iq _,Iq _,.str _,.bool _]) Ah rfl rfl rfl rfl rfl rfl (by omega) (Bi hc)) ?_
   refine Qp (Cq [Iq _,_,Iq _,Iq _,Iq _,Iq _,Iq _,.str _,.bool _]) ?_
   refine Qe (Ak (l:=[.int .i64 0,.sl 8 [],.int .i64 0,.int .i64 0,.int .i64 0,.int .i64 0,.int .i64 0,.str [],.bool false]) (by kernel_rfl)) ?_
   rintro _ _ ⟨b9,rfl,rfl⟩
   refine Cv 0 [Iq _,_,Iq _,Iq _,Iq _,Iq _,Iq _,.str _,.bool _] (_::_::_::_) ?_
   refine AOL.ghost (GS.Aan (t:=9) 0 rfl rfl) ?_
   refine Ag (AW.seq ?_)
   refine AW.drawI mixed (fun j H'=>(j==18||j==25||j==26||j==33)=true→_∈H'∧_∈H') (fun _ _=>⟨(List.mem_of_getElem? (i:=0) rfl),(List.mem_of_getElem? (i:=1) rfl)⟩) (by kernel_rfl) ?_
   refine CanonI.pure _ _ 0 _ _ rfl (by kernel_rfl) (by kernel_rfl) rfl (.run rfl (Bw (cs':=[.bool _]) Ah rfl rfl rfl rfl rfl rfl)) ?_
   refine CanonI.pure _ _ 1 _ _ rfl (by kernel_rfl) (by kernel_rfl) rfl (.run rfl (Df (c:=.bool _) Ah rfl rfl rfl)) ?_
   refine CanonI.pure _ _ 2 _ _ rfl (by kernel_rfl) (by kernel_rfl) rfl (.run rfl (Bm (v:=.bool _) rfl)) ?_
   refine CanonI.pure _ _ 3 _ _ rfl (by kernel_rfl) (by kernel_rfl) rfl (.run rfl (Wa Ah rfl rfl rfl rfl)) ?_
   refine CanonI.pure _ _ 4 _ _ rfl (by kernel_rfl) (by kernel_rfl) rfl (.run rfl (Bm (v:=.bool _) rfl)) ?_
   refine CanonI.pure _ _ 5 _ _ rfl (by kernel_rfl) (by kernel_rfl) rfl (.opt _ (.agg _) [] rfl (nC.all trivial) (fun hG=>C2 (l:=[_,_]) Ah rfl rfl rfl rfl rfl) rfl) ?_
   refine CanonI.pure _ _ 6 _ _ rfl (by kernel_rfl) (by kernel_rfl) rfl (.opt _ (.ptr _) [] rfl (nC.all trivial) (fun hG=>Bw (cs':=[Iq _,_,Iq _,Iq _,Iq _,Iq _,Iq _,.str _,.bool _]) Ah rfl rfl rfl rfl rfl rfl) rfl) ?_
   refine CanonI.pure _ _ 7 _ _ rfl (by kernel_rfl) (by kernel_rfl) rfl (.opt _ (.agg _) [(22,_)] rfl (nC.all ⟨Ent.Aam _ _,trivial⟩) (fun hG=>C2 (l:=[Iq _,_,Iq _,Iq _,Iq _,Iq _,Iq _,.str _]) Ah rfl rfl rfl rfl rfl) rfl) ?_
   refine CanonI.pure _ _ 8 _ _ rfl (by kernel_rfl) (by kernel_rfl) rfl (.opt _ (.bool _) [(21,_),(23,_)] rfl (nC.all ⟨Ent.Aam _ _,Ent.Aam _ _,trivial⟩) (fun hG=>E3 (by kernel_rfl) rfl rfl (R4 T V c.cond hck)) rfl) ?_
   refine CanonI.pure _ _ 9 _ _ rfl (by kernel_rfl) (by kernel_rfl) rfl (.run rfl (Nd rfl rfl rfl)) ?_
   refine CanonI.pure _ _ 10 _ _ rfl (by kernel_rfl) (by kernel_rfl) rfl (.run rfl (Bm (v:=.bool _) rfl)) ?_
   refine CanonI.pure _ _ 11 _ _ rfl (by kernel_rfl) (by kernel_rfl) rfl (.opt _ (.agg _) [] rfl (nC.all trivial) (fun hG=>C2 (l:=[_,_]) Ah rfl rfl rfl rfl rfl) rfl) ?_
   refine CanonI.pure _ _ 12 _ _ rfl (by kernel_rfl) (by kernel_rfl) rfl (.opt _ (.ptr _) [] rfl (nC.all trivial) (fun hG=>Bw (cs':=[Iq _,_,Iq _,Iq _,Iq _,Iq _,Iq _,.str _,.bool _]) Ah rfl rfl rfl rfl rfl rfl) rfl) ?_
   refine CanonI.pure _ _ 13 _ _ rfl (by kernel_rfl) (by kernel_rfl) rfl (.opt _ (.agg _) [(28,_)] rfl (nC.all ⟨Ent.Aam _ _,trivial⟩) (fun hG=>C2 (l:=[Iq _,_,Iq _,Iq _,Iq _,Iq _,Iq _,.str _]) Ah rfl rfl rfl rfl rfl) rfl) ?_
   refine CanonI.pure _ _ 14 _ _ rfl (by kernel_rfl) (by kernel_rfl) rfl (.opt _ (.bool _) [(27,_),(29,_)] rfl (nC.all ⟨Ent.Aam _ _,Ent.Aam _ _,trivial⟩) (fun hG=>E3 (by kernel_rfl) rfl rfl (R5 T V c.cond hck hcs)) rfl) ?_
   refine CanonI.pure _ _ 15 _ _ rfl (by kernel_rfl) (by kernel_rfl) rfl (.run rfl (Nd rfl rfl rfl)) ?_
   refine CanonI.pure _ _ 16 _ _ rfl (by kernel_rfl) (by kernel_rfl) rfl (.run rfl (Bm (v:=.bool _) rfl)) ?_
   refine CanonI.pure _ _ 17 _ _ rfl (by kernel_rfl) (by kernel_rfl) rfl (.opt _ (.fn _ _ _) [] rfl (nC.all trivial) (fun hG=>Bm (v:=.fn _ _ _) rfl) rfl) ?_
   refine CanonI.pure _ _ 18 _ _ rfl (by kernel_rfl) (by kernel_rfl) rfl (.opt _ (.val _) [] rfl (nC.all trivial) (fun hG=>OpP.Aaq (fun k=>Am (k:=k) (c:=.val _) Ah rfl rfl rfl rfl) (fun _ h=>(h rfl).1)) rfl) ?_
   refine CanonI.pure _ _ 19 _ _ rfl (by kernel_rfl) (by kernel_rfl) rfl (.opt _ (.ptr _) [] rfl (nC.all trivial) (fun hG=>Bw (cs':=[Iq _,_,Iq _,Iq _,Iq _,Iq _,Iq _,.str _,.bool _]) Ah rfl rfl rfl rfl rfl rfl) rfl) ?_
   refine CanonI.pure _ _ 20 _ _ rfl (by kernel_rfl) (by kernel_rfl) rfl (.opt _ (.ptr _) [(35,_)] rfl (nC.all ⟨Ent.Aam _ _,trivial⟩) (fun hG=>Bw (cs':=[_,Iq _,Iq _,Iq _,Iq _,Iq _,.str _,.bool _]) Ah rfl rfl rfl rfl rfl rfl) rfl) ?_
   refine CanonI.pure _ _ 21 _ _ rfl (by kernel_rfl) (by kernel_rfl) rfl (.opt _ (.sl _ _) [(36,_)] rfl (nC.all ⟨Ent.Aam _ _,trivial⟩) (fun hG=>Df (c:=.sl _ _) Ah rfl rfl rfl) rfl) ?_
   refine CanonI.pure _ _ 22 _ _ rfl (by kernel_rfl) (by kernel_rfl) rfl (.opt _ (.ptr _) [(37,_)] rfl (nC.all ⟨Ent.Aam _ _,trivial⟩) (fun hG=>Af (c:=[Iq _,_,Iq _,Iq _,Iq _,Iq _,Iq _,.str _]) Ah rfl rfl rfl rfl rfl rfl (by decide) (E4 (Nat.lt_of_succ_lt (Je hck (L9 (J2 (g1' hG))))))) rfl) ?_
   refine CanonI.pure _ _ 23 _ _ rfl (by kernel_rfl) (by kernel_rfl) rfl (.opt _ (.agg _) [(38,_)] rfl (nC.all ⟨Ent.Aam _ _,trivial⟩) (fun hG=>C2 (l:=[Iq _,_,Iq _,Iq _,Iq _,Iq _,Iq _,.str _]) Ah rfl rfl rfl rfl rfl) rfl) ?_
   refine CanonI.pure _ _ 24 _ _ rfl (by kernel_rfl) (by kernel_rfl) rfl (.opt _ (.agg _) [(39,_)] rfl (nC.all ⟨Ent.Aam _ _,trivial⟩) (fun hG=>E3 (by kernel_rfl) rfl rfl (Pa _)) rfl) ?_
   refine CanonI.pure _ _ 25 _ _ rfl (by kernel_rfl) (by kernel_rfl) rfl (.opt _ (.agg _) [(34,_),(40,_)] rfl (nC.all ⟨Ent.Aam _ _,Ent.Aam _ _,trivial⟩) (fun hG=>Rm (ho:=.kmap m (wE p.2)) (by kernel_rfl) rfl rfl (Rz m p.2 hwp (Ga (Av c.cond))) (fun _ h=>(h rfl).2)) rfl) ?_
   refine CanonI.pure _ _ 26 _ _ rfl (by kernel_rfl) (by kernel_rfl) rfl (.opt _ (.val _) [] rfl (nC.all trivial) (fun hG=>OpP.Aaq (fun k=>Am (k:=k) (c:=.val _) Ah rfl rfl rfl rfl) (fun _ h=>(h rfl).1)) rfl) ?_
   refine CanonI.pure _ _ 27 _ _ rfl (by kernel_rfl) (by kernel_rfl) rfl (.opt _ (.ptr _) [] rfl (nC.all trivial) (fun hG=>Bw (cs':=[Iq _,_,Iq _,Iq _,Iq _,Iq _,Iq _,.str _,.bool _]) Ah rfl rfl rfl rfl rfl rfl) rfl) ?_
   refine CanonI.pure _ _ 28 _ _ rfl (by kernel_rfl) (by kernel_rfl) rfl (.opt _ (.ptr _) [(43,_)] rfl (nC.all ⟨Ent.Aam _ _,trivial⟩) (fun hG=>Bw (cs':=[_,Iq _,Iq _,Iq _,Iq _,Iq _,.str _,.bool _]) Ah rfl rfl rfl rfl rfl rfl) rfl) ?_
   refine CanonI.pure _ _ 29 _ _ rfl (by kernel_rfl) (by kernel_rfl) rfl (.opt _ (.sl _ _) [(44,_)] rfl (nC.all ⟨Ent.Aam _ _,trivial⟩) (fun hG=>Df (c:=.sl _ _) Ah rfl rfl rfl) rfl) ?_
   refine CanonI.pure _ _ 30 _ _ rfl (by kernel_rfl) (by kernel_rfl) rfl (.opt _ (.ptr _) [(45,_)] rfl (nC.all ⟨Ent.Aam _ _,trivial⟩) (fun hG=>Af (c:=[Iq _,_,Iq _,Iq _,Iq _,Iq _,Iq _,.str _]) Ah rfl rfl rfl rfl rfl rfl (by decide) (H7 (Je hck (L9 (J2 (g1' hG)))))) rfl) ?_
   refine CanonI.pure _ _ 31 _ _ rfl (by kernel_rfl) (by kernel_rfl) rfl (.opt _ (.agg _) [(46,_)] rfl (nC.all ⟨Ent.Aam _ _,trivial⟩) (fun hG=>C2 (l:=[Iq _,_,Iq _,Iq _,Iq _,Iq _,Iq _,.str _]) Ah rfl rfl rfl rfl rfl) rfl) ?_
   refine CanonI.pure _ _ 32 _ _ rfl (by kernel_rfl) (by kernel_rfl) rfl (.opt _ (.agg _) [(47,_)] rfl (nC.all ⟨Ent.Aam _ _,trivial⟩) (fun hG=>E3 (by kernel_rfl) rfl rfl (Pa _)) rfl) ?_
   refine CanonI.pure _ _ 33 _ _ rfl (by kernel_rfl) (by kernel_rfl) rfl (.opt _ (.agg _) [(42,_),(48,_)] rfl (nC.all ⟨Ent.Aam _ _,Ent.Aam _ _,trivial⟩) (fun hG=>Rm (ho:=.kmap m (wE p.2)) (by kernel_rfl) rfl rfl (Rz m p.2 hwp (Ga (Cc c.cond))) (fun _ h=>(h rfl).2)) rfl) ?_
   refine CanonI.phaseg (fun _ _=>True) _ _ 34 _ _ [(41,_),(49,_),(33,_)] _ _ rfl (by kernel_rfl) rfl rfl (nC.all ⟨Ent.Aam _ _,Ent.Aam _ _,Ent.Aam _ _,trivial⟩) (fun hG=>Jd (by kernel_rfl) rfl rfl rfl (ACall.Aat (R:=_) 1 0 rfl rfl rfl ((d_str2 bw m p.2 (D4 p.2 (Ga (Av c.cond))) (D4 p.2 (Ga (Cc c.cond))) (Py hwp _) (Py hwp _) _).mono' (fun r K h=>⟨h.1,h.2.trans (congrArg (fun w=>(.box bw 134 [.val (.map (some m))] :: .kmap m (wE w)::R:List HO)) (Yg (Zv (g1' hG))))⟩)))) (fun hG=>congrArg (fun w=>(.box bw 134 [.val (.map (some m))] :: .kmap m (wE w)::R:List HO)) (rH (pJ (g1n hG))).symm) (fun j _ _ hr _ _ hj=>?_) (fun _=>trivial) ?_
   ·
    rcases (by simpa only [Bool.or_eq_true,beq_iff_eq,or_assoc] using hj:j=18∨j=25∨j=26∨j=33) with rfl | rfl | rfl | rfl
    · exact Bool.noConfusion ((show Gx _ 7 _ 18=true by kernel_rfl).symm.trans hr)
    · exact Bool.noConfusion ((show Gx _ 7 _ 25=true by kernel_rfl).symm.trans hr)
    · exact Bool.noConfusion ((show Gx _ 7 _ 26=true by kernel_rfl).symm.trans hr)
    · exact Bool.noConfusion ((show Gx _ 7 _ 33=true by kernel_rfl).symm.trans hr)
   refine CanonI.pure _ _ 35 _ _ rfl (by kernel_rfl) (by kernel_rfl) rfl (.opt _ (.bool _) [(50,_)] rfl (nC.all ⟨Ent.Aam _ _,trivial⟩) (fun hG=>Aaj rfl) rfl) ?_
   refine CanonI.pure _ _ 36 _ _ rfl (by kernel_rfl) (by kernel_rfl) rfl (.run rfl (Nd rfl rfl rfl)) ?_
   refine CanonI.done _ _ (by kernel_rfl) ?_
   refine Ad (A6 (fun hc2=>?_) fun hc2=>?_)
   ·
    have hs2:=Bool.and_eq_true_iff.mp hc2
    have hst:=Zv hs2.1
    have hfin:=hR2.trans (Yr hst ((Bool.not_eq_true' _).mp hs2.2))
    have hf1:(Kw T V l []).1=(Jc p.2 c).1:=by rw [hfin]
    refine Ai (Qp Bl (Ag (AW.ret (Bb (Aj (Aj (Bb (Aj ?_))))))))
    refine ⟨.inr rfl,[.bool _],.cons (.tmp _ _ rfl) <| .nil,_,.refl _,?_⟩
    exact ⟨congrArg (fun q:Wm×Bool=>AV.bool q.2) hfin.symm,congrArg (fun w=>(.box bw 134 [.val (.map (some m))] :: .kmap m (wE w)::R:List HO)) ((Yg hst).symm.trans hf1.symm)⟩
   ·
    refine AW.skip (Bu (Ad (AW.region (Qp Ey (Qp Az (Ag ?_))))))
    refine ⟨(p.1+1,T5 T V p.2 c),?_,?_,GS.weaken ⟨rfl,rfl,rfl,rfl,rfl,rfl,rfl,rfl,trivial⟩ (.refl _)⟩
    · exact ⟨hlt,hR2.trans (uS hc2),dI hwp c⟩
    · simp only;omega
  ·
   have hde:=Dc hc1
   have hR2:=hR.2.1
   rw [hde] at hR2
   refine AW.exit ?_
   refine A5 (A5 (Bq (Ad (Ai (Qp Bl (Ag (AW.ret ?_)))))))
   refine ⟨.inr rfl,[.bool _],.cons (.tmp _ _ rfl) <| .nil,_,.refl _,?_⟩
   exact ⟨congrArg (fun q:Wm×Bool=>AV.bool q.2) hR2.symm,congrArg (fun q:Wm×Bool=>(.box bw 134 [.val (.map (some m))] :: .kmap m (wE q.1)::R:List HO)) hR2.symm⟩
theorem xV (T:List Sc)(V:List Va)(l:List Lit)(hlk:Sq T V l)(bw m:Nat)(w:Wm)(hwp:X4 w)(R:List HO):Dk Tryz.prog 122 (.box bw 134 [.val (.map (some m))] :: .kmap m (wE w)::R) [.bool false,.fn (.func 126) [] [],.ptr [.sl 9 (l.map F0)],.ptr (Cf T V),.val (.pointer (some ⟨bw,0,none⟩))] (fun r H'=>r = .bool (Sl T V w l)∧H' = .box bw 134 [.val (.map (some m))] :: .kmap m (wE w)::R):=by
 refine Dk.body (n:=54) Ah Tryz.func122 rfl rfl rfl ?_
 refine Ai (Qp Bl (Ag (AW.seq (Ai (Qp Dy ?_)))))
 refine Qp (Al (n:=l.length) Ah rfl rfl rfl (by simp)) ?_
 refine Qp Az (Ag (AW.block ?_))
 refine AW.sllen 10 rfl fun hlen=>?_
 simp only [List.length_map,maxLen] at hlen
 refine AW.Aao (fun (p:Nat)=>(⟨[(0,.bool false),(1,.fn (.func 126) [] []),(2,.ptr [.sl 9 (l.map F0)]),(3,.ptr (Cf T V)),(4,.val (.pointer (some ⟨bw,0,none⟩))),(10,.sl 9 (l.map F0)),(11,.int .i64 l.length),(12,.int .i64 (p:Int))],.box bw 134 [.val (.map (some m))] :: .kmap m (wE w)::R,54⟩:St)) (fun (p:Nat)=>p≤l.length∧Sl T V w l=Sl T V w (l.drop p)) (fun (p:Nat)=>l.length-p) (0) ?_ (GS.weaken ⟨rfl,rfl,rfl,rfl,rfl,rfl,rfl,rfl,trivial⟩ (.refl _)) ?_
 · exact ⟨Nat.zero_le _,rfl⟩
 ·
  rintro p hR
  refine Ai (Qp Ch (Ag (AW.seq (A6 (fun hc1=>?_) fun hc1=>?_))))
  ·
   obtain ⟨c,hc⟩:=B5 hc1
   have hlt:=A4 hc
   have hcm:=List.mem_of_getElem? hc
   have hck:=(hlk c hcm).1
   have hcs:=Nat.le_trans (hlk c hcm).2 (by decide:64≤1048576)
   have hdc:=A8 hc
   have hR2:=hR.2
   rw [hdc] at hR2
   refine By (AW.seq (AW.block (Ai ?_)))
   refine Qp (Af (c:=[Iq _,_,Iq _,Iq _,Iq _,Iq _,Iq _,.str _,.bool _]) Ah rfl rfl rfl rfl rfl rfl (by omega) (Bi hc)) ?_
   refine Qp (Cq [Iq _,_,Iq _,Iq _,Iq _,Iq _,Iq _,.str _,.bool _]) ?_
   refine Qe (Ak (l:=[.int .i64 0,.sl 8 [],.int .i64 0,.int .i64 0,.int .i64 0,.int .i64 0,.int .i64 0,.str [],.bool false]) (by kernel_rfl)) ?_
   rintro _ _ ⟨b9,rfl,rfl⟩
   refine Cv 0 [Iq _,_,Iq _,Iq _,Iq _,Iq _,Iq _,.str _,.bool _] (_::_::_::_) ?_
   refine AOL.ghost (GS.Aan (t:=9) 0 rfl rfl) ?_
   refine Ag (AW.seq ?_)
   refine AW.draw mixed (fun H'=>_∈H'∧_∈H') ⟨(List.mem_of_getElem? (i:=0) rfl),(List.mem_of_getElem? (i:=1) rfl)⟩ (by kernel_rfl) ?_
   refine Qn 0 rfl (Qf [.bool _]) (Qn 1 rfl gV (Qn 2 rfl B0 ?_))
   refine Qn 3 rfl (Wa Ah rfl rfl rfl rfl) ?_
   refine Qn 4 rfl B0 (Qo 5 rfl [] Qw (Cq [_,_]) (Qo 6 rfl [] Qw (Qf [Iq _,_,Iq _,Iq _,Iq _,Iq _,Iq _,.str _,.bool _]) (Qo 7 rfl [(22,_)] Qw El ?_)))
   refine Jn.pure _ _ 8 _ _ rfl (by kernel_rfl) (by kernel_rfl) rfl (.opt _ (.bool _) [(21,_),(23,_)] rfl (nC.all ⟨Ent.Aam _ _,Ent.Aam _ _,trivial⟩) (fun hG=>E3 (by kernel_rfl) rfl rfl (R4 T V c.cond hck)) rfl) ?_
   refine Qn 9 rfl F7 (Qn 10 rfl B0 (Qo 11 rfl [] Qw (Cq [_,_]) (Qo 12 rfl [] Qw (Qf [Iq _,_,Iq _,Iq _,Iq _,Iq _,Iq _,.str _,.bool _]) (Qo 13 rfl [(28,_)] Qw El ?_))))
   refine Jn.pure _ _ 14 _ _ rfl (by kernel_rfl) (by kernel_rfl) rfl (.opt _ (.bool _) [(27,_),(29,_)] rfl (nC.all ⟨Ent.Aam _ _,Ent.Aam _ _,trivial⟩) (fun hG=>E3 (by kernel_rfl) rfl rfl (R5 T V c.cond hck hcs)) rfl) ?_
   refine Qn 15 rfl F7 (Qn 16 rfl B0 ?_)
   refine Jn.pure _ _ 17 _ _ rfl (by kernel_rfl) (by kernel_rfl) rfl (.opt _ (.fn _ _ _) [] rfl (nC.all trivial) (fun hG=>Bm (v:=.fn _ _ _) rfl) rfl) ?_
   refine Jn.pure _ _ 18 _ _ rfl (by kernel_rfl) (by kernel_rfl) rfl (.opt _ (.val _) [] rfl (nC.all trivial) (fun hG=>OpP.Aaq (fun k=>Am (k:=k) (c:=.val _) Ah rfl rfl rfl rfl) (fun _ h=>h.1)) rfl) ?_
   refine Qo 19 rfl [] Qw (Qf [Iq _,_,Iq _,Iq _,Iq _,Iq _,Iq _,.str _,.bool _]) (Qo 20 rfl [(35,_)] Qw (Qf [_,Iq _,Iq _,Iq _,Iq _,Iq _,.str _,.bool _]) (Qo 21 rfl [(36,_)] Qw Dy ?_))
   refine Jn.pure _ _ 22 _ _ rfl (by kernel_rfl) (by kernel_rfl) rfl (.opt _ (.ptr _) [(37,_)] rfl (nC.all ⟨Ent.Aam _ _,trivial⟩) (fun hG=>Af (c:=[Iq _,_,Iq _,Iq _,Iq _,Iq _,Iq _,.str _]) Ah rfl rfl rfl rfl rfl rfl (by decide) (E4 (Nat.lt_of_succ_lt (Je hck (L9 (J2 (g1' hG))))))) rfl) ?_
   refine Qo 23 rfl [(38,_)] Qw El ?_
   refine Qo 24 rfl [(39,_)] Qw (Qc rfl (Pa _)) ?_
   refine Jn.pure _ _ 25 _ _ rfl (by kernel_rfl) (by kernel_rfl) rfl (.opt _ (.agg _) [(34,_),(40,_)] rfl (nC.all ⟨Ent.Aam _ _,Ent.Aam _ _,trivial⟩) (fun hG=>Rm (ho:=.kmap m (wE w)) (by kernel_rfl) rfl rfl (Rz m w hwp (Ga (Av c.cond))) (fun _ h=>h.2)) rfl) ?_
   refine Jn.pure _ _ 26 _ _ rfl (by kernel_rfl) (by kernel_rfl) rfl (.opt _ (.val _) [] rfl (nC.all trivial) (fun hG=>OpP.Aaq (fun k=>Am (k:=k) (c:=.val _) Ah rfl rfl rfl rfl) (fun _ h=>h.1)) rfl) ?_
   refine Qo 27 rfl [] Qw (Qf [Iq _,_,Iq _,Iq _,Iq _,Iq _,Iq _,.str _,.bool _]) (Qo 28 rfl [(43,_)] Qw (Qf [_,Iq _,Iq _,Iq _,Iq _,Iq _,.str _,.bool _]) (Qo 29 rfl [(44,_)] Qw Dy ?_))
   refine Jn.pure _ _ 30 _ _ rfl (by kernel_rfl) (by kernel_rfl) rfl (.opt _ (.ptr _) [(45,_)] rfl (nC.all ⟨Ent.Aam _ _,trivial⟩) (fun hG=>Af (c:=[Iq _,_,Iq _,Iq _,Iq _,Iq _,Iq _,.str _]) Ah rfl rfl rfl rfl rfl rfl (by decide) (H7 (Je hck (L9 (J2 (g1' hG)))))) rfl) ?_
   refine Qo 31 rfl [(46,_)] Qw El ?_
   refine Qo 32 rfl [(47,_)] Qw (Qc rfl (Pa _)) ?_
   refine Jn.pure _ _ 33 _ _ rfl (by kernel_rfl) (by kernel_rfl) rfl (.opt _ (.agg _) [(42,_),(48,_)] rfl (nC.all ⟨Ent.Aam _ _,Ent.Aam _ _,trivial⟩) (fun hG=>Rm (ho:=.kmap m (wE w)) (by kernel_rfl) rfl rfl (Rz m w hwp (Ga (Cc c.cond))) (fun _ h=>h.2)) rfl) ?_
   refine Jn.pure _ _ 34 _ _ rfl (by kernel_rfl) (by kernel_rfl) rfl (.opt _ (.bool _) [(41,_),(49,_),(33,_)] rfl (nC.all ⟨Ent.Aam _ _,Ent.Aam _ _,Ent.Aam _ _,trivial⟩) (fun hG=>Eg (by kernel_rfl) rfl rfl rfl (d_str3 (D4 w (Ga (Av c.cond))) (D4 w (Ga (Cc c.cond))))) rfl) ?_
   refine Qo 35 rfl [(50,_)] Qw Hc (Qn 36 rfl F7 ?_)
   refine Jn.done _ _ (by kernel_rfl) ?_
   refine Ad (A6 (fun hc2=>?_) fun hc2=>?_)
   ·
    have hfin:=hR2.trans (gW hc2)
    refine Ai (Qp Bl (Ag (AW.ret (Bb (Aj (Aj (Bb (Aj ?_))))))))
    refine ⟨.inr rfl,[.bool _],.cons (.tmp _ _ rfl) <| .nil,_,.refl _,?_⟩
    exact ⟨congrArg AV.bool hfin.symm,rfl⟩
   ·
    refine AW.skip (Bu (Ad (AW.region (Qp Ey (Qp Az (Ag ?_))))))
    refine ⟨p+1,?_,?_,GS.weaken ⟨rfl,rfl,rfl,rfl,rfl,rfl,rfl,rfl,trivial⟩ (.refl _)⟩
    · exact ⟨hlt,hR2.trans (gX hc2)⟩
    · omega
  ·
   have hde:=Dc hc1
   have hR2:=hR.2
   rw [hde] at hR2
   refine AW.exit ?_
   refine A5 (A5 (Bq (Ad (Ai (Qp Bl (Ag (AW.ret ?_)))))))
   refine ⟨.inr rfl,[.bool _],.cons (.tmp _ _ rfl) <| .nil,_,.refl _,?_⟩
   exact ⟨congrArg AV.bool hR2.symm,rfl⟩

set_option maxHeartbeats 1600000
set_option maxRecDepth 20000

theorem xN (l:Nat)(rec:Loop)(bd b1 b2 n:Nat)(bs:List Bd)(d:Ds)(hn:n≤64)(hdl:d.last.length=n)(G:Value→List Int→List HO)(hp:rec.params.size=1)(i0:Nat)(hi:∀v pre,(G v pre)[i0]? = some (.obj l (.loop rec)))(f:Int)(hc:I9 bs d f (n+1) f=true)(hY:∀v pre x,pre.length≤64→jZ Tryz.prog l rec (.box bd 156 [.val (.slice (some ⟨b1,0,none⟩) n n),.val (.slice (some ⟨b2,0,none⟩) n n)] :: .box b1 3 (bI d.sums) :: .box b2 3 (bI d.last)::G v pre) [.int .i64 x] (fun r H'=>r = .bool true∧∃v',H' = .box bd 156 [.val (.slice (some ⟨b1,0,none⟩) n n),.val (.slice (some ⟨b2,0,none⟩) n n)] :: .box b1 3 (bI d.sums) :: .box b2 3 (bI d.last)::G v' (pre ++ [x])))(v0:Value):Dk Tryz.prog 104 (.box bd 156 [.val (.slice (some ⟨b1,0,none⟩) n n),.val (.slice (some ⟨b2,0,none⟩) n n)] :: .box b1 3 (bI d.sums) :: .box b2 3 (bI d.last)::G v0 []) [.val (.func (.yield l) #[] #[]),.ptr [.int .i64 f],.ptr [.val (.pointer (some ⟨bd,0,none⟩))],.ptr (Xz (zn n bs))] (fun r H'=>r = .tuple []∧∃v',H' = .box bd 156 [.val (.slice (some ⟨b1,0,none⟩) n n),.val (.slice (some ⟨b2,0,none⟩) n n)] :: .box b1 3 (bI d.sums) :: .box b2 3 (bI d.last)::G v' (Ib bs d f (n+1) f)):=by
 refine Dk.body (n:=31) Ah Tryz.func104 rfl rfl rfl ?_
 refine Ai (Qp Bp (Qp Ap (Ag (AW.block ?_))))
 refine AW.Aao (fun (p:Int×List Int×Value)=>(⟨[(0,.val (.func (.yield l) #[] #[])),(1,.ptr [.int .i64 f]),(2,.ptr [.val (.pointer (some ⟨bd,0,none⟩))]),(3,.ptr (Xz (zn n bs))),(5,.int .i64 p.1)],.box bd 156 [.val (.slice (some ⟨b1,0,none⟩) n n),.val (.slice (some ⟨b2,0,none⟩) n n)] :: .box b1 3 (bI d.sums) :: .box b2 3 (bI d.last)::G p.2.2 p.2.1,31⟩:St)) (fun (p:Int×List Int×Value)=>p.2.1.length≤n∧I9 bs d f (n+1-p.2.1.length) p.1=true∧Ib bs d f (n+1) f=p.2.1++Ib bs d f (n+1-p.2.1.length) p.1) (fun (p:Int×List Int×Value)=>n+1-p.2.1.length) ((f,[],v0)) ?_ (GS.weaken ⟨rfl,rfl,rfl,rfl,rfl,trivial⟩ (.refl _)) ?_
 · exact ⟨Nat.zero_le _,hc,rfl⟩
 ·
  rintro p hR
  have hpl:=hR.1
  refine (V5 (tL hR.2.1)).elim fun c ok=>?_
  refine AW.seq (AW.seq ?_)
  refine AW.regionY rfl (by kernel_rfl) ?_
  refine Qp Gr (Qp Qlv ?_)
  refine Qp (Bn rfl) ?_
  refine Qp Gc ?_
  refine AOL.Aas (Am (k:=0) (c:=.val _) Ah rfl rfl rfl rfl) rfl rfl ?_
  refine Qp Az ?_
  refine Qp (Bh (o':=p.1.toNat) Ah rfl rfl rfl rfl rfl (ok.a0) (by have:=ok.al;omega) (bU _)) ?_
  refine AOL.Aas (Am (k:=2) (c:=.int .i64 (Du d.last p.1)) Ah rfl rfl rfl (Xk ok.a0 ok.al)) rfl rfl ?_
  refine AOL.nil ?_
  refine ⟨l,rec,_,⟨i0+3,hi p.2.2 p.2.1⟩,rfl,hp.symm,rfl,hY p.2.2 p.2.1 (Du d.last p.1) (by omega),?_⟩
  rintro _ _ ⟨rfl,v1,rfl⟩
  refine Ad (A6 (fun hc1=>?_) fun hc1=>?_)
  ·
   refine By (AW.block (AW.seq ?_))
   refine AW.draw mixed (fun H'=>_∈H'∧_∈H') ⟨(List.mem_of_getElem? (i:=0) rfl),(List.mem_of_getElem? (i:=2) rfl)⟩ (by kernel_rfl) ?_
   refine Qn 0 rfl (Qf [_]) (Qn 1 rfl Dy (Qn 2 rfl Qlv ?_))
   refine Qn 3 rfl (Bn rfl) ?_
   refine Qn 4 rfl Gc ?_
   refine Qn 5 rfl (OpP.Aaq (fun k=>Am (k:=k) (c:=.val _) Ah rfl rfl rfl rfl) (fun _ h=>h.1)) ?_
   refine Qn 6 rfl Az ?_
   refine Qn 7 rfl (Bh (o':=p.1.toNat) Ah rfl rfl rfl rfl rfl (ok.a0) (by have:=ok.al;omega) (bU _)) ?_
   refine Qn 8 rfl (OpP.Aaq (fun k=>Am (k:=k) (c:=.int .i64 (Du d.last p.1)) Ah rfl rfl rfl (Xk ok.a0 ok.al)) (fun _ h=>h.2)) ?_
   refine Qn 9 rfl (Af (c:=[.int .i64 c.x,.int .i64 c.y,.int .i64 c.most]) Ah rfl rfl rfl rfl rfl rfl (ok.l0) (jH ok.at_)) ?_
   refine Qn 10 rfl (Qf [Iq _,Iq _]) (Qn 11 rfl Bp (Qn 12 rfl Ap ?_))
   refine Jn.done _ _ (by kernel_rfl) ?_
   refine Ad (Ai (Qp Az (Qp Bp (Qp A9 (Ag (A6 (fun hc2=>?_) fun hc2=>?_))))))
   ·
    refine AW.ret (Bb (Aj (Bb ?_)))
    refine ⟨.inr rfl,[],.nil,_,.refl _,?_⟩
    exact ⟨rfl,v1,congrArg (fun es:List Int=>(.box bd 156 [.val (.slice (some ⟨b1,0,none⟩) n n),.val (.slice (some ⟨b2,0,none⟩) n n)] :: .box b1 3 (bI d.sums) :: .box b2 3 (bI d.last)::G v1 es:List HO)) (xA hR.2.2 hR.2.1 ok hc2)⟩
   ·
    refine AW.skip (Bu (Ad ?_))
    refine ⟨(c.y,p.2.1 ++ [Du d.last p.1],v1),?_,?_,GS.weaken ⟨rfl,rfl,rfl,rfl,rfl,trivial⟩ (.refl _)⟩
    ·
     have h9:=eX hR.2.1 ok hc2
     exact ⟨by simp only [List.length_append,List.length_singleton];omega,by simp only [List.length_append,List.length_singleton];rw [show n+1-(p.2.1.length+1)=n+1-p.2.1.length-1 by omega];exact h9.1,by simp only [List.length_append,List.length_singleton];exact cyc_on hR.2.2 hR.2.1 ok hc2⟩
    ·
     have h9:=eX hR.2.1 ok hc2
     simp only [List.length_append,List.length_singleton];omega
  ·
   cases hc1

end Go.Proofs.YtjedflcpjlgokaaGreatDoor
