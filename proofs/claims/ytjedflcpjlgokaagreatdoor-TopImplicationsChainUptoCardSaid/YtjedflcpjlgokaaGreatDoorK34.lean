/-
  Several texts in one: Y9, Y8b. No condition.
-/
import Derived.Test.YtjedflcpjlgokaaGreatDoorAz
import Derived.Test.YtjedflcpjlgokaaGreatDoorK18
import Derived.Test.YtjedflcpjlgokaaGreatDoorY7b
import Derived.KernelRfl
import Derived.Test.YtjedflcpjlgokaaGreatDoorK19
import Derived.Test.YtjedflcpjlgokaaGreatDoorK33
set_option linter.unusedVariables false
set_option linter.unusedSimpArgs false
namespace Go.Proofs.YtjedflcpjlgokaaGreatDoor
open Go Go.Aw
set_option maxHeartbeats 3200000
set_option maxRecDepth 20000

theorem N5 (e:Ex):Ax Tryz.prog 124 [.agg (cE e)] (.agg (Kr (B5 e))):=by
 refine Ax.body (n:=18) Ai Tryz.func124 rfl rfl rfl fun H=>?_
 refine Ah (Qp Nc ?_)
 refine Qe (Am (l:=[.bool false,.str [],.int .i64 0,.int .i64 0,.int .i64 0]) (by kernel_rfl)) ?_
 rintro _ _ ⟨b2,rfl,rfl⟩
 refine Ag (AW.seq (Ah (Qp K9 (Qp Bp (Qp A6 (Ag (A3 (fun hc1=>?_) fun hc1=>?_)))))))
 ·
  refine Ah (Qp J2 (Qp Qf7 (Qp Vb (Qp (Fr [.bool _,.str _,Iq _,Iq _,Iq _]) ?_))))
  refine Cz 0 [.bool _,.str _,Iq _,Iq _,Iq _] (_::_) ?_
  refine Ag (Du ?_)
  refine ⟨.inr rfl,[.agg [.bool _,.str _,Iq _,Iq _,Iq _]],.cons (.box _ _ _ 0 _ _ _ _ rfl rfl rfl rfl rfl rfl) <| .nil,.cons _ (.refl _),?_⟩
  exact Eq.trans rfl (congrArg (fun q:Wd=>AV.agg (Kr q)) (Z8 hc1)).symm
 ·
  refine By (Ah (Qp K9 (Qp Bp (Qp Xs (Qp Bp (Qp Qv (Qp Bp (Qp (Fr [Iq _,Iq _,Iq _]) (Qp (Fr [.bool _,.str _,Iq _,Iq _,Iq _]) ?_)))))))))
  refine Cz 0 [.bool _,.str _,Iq _,Iq _,Iq _] (_::_) ?_
  refine Ag (AW.ret ?_)
  refine ⟨.inr rfl,[.agg [.bool _,.str _,Iq _,Iq _,Iq _]],.cons (.box _ _ _ 0 _ _ _ _ rfl rfl rfl rfl rfl rfl) <| .nil,.cons _ (.refl _),?_⟩
  exact Eq.trans rfl (congrArg (fun q:Wd=>AV.agg (Kr q)) (bX hc1)).symm
theorem d_of (m:Nat)(w:Wm)(hw:Qt w)(x:Wd)(R:List HO):Dj Tryz.prog 123 (.kmap m (wE w)::R) [.val (.map (some m)),.agg (Kr x)] (fun r H'=>r = .agg (Kr (Cc w x))∧H' = .kmap m (wE w)::R):=by
 refine Dj.body (n:=17) Ai Tryz.func123 rfl rfl rfl ?_
 refine Ah ?_
 refine Qe (Ub (v:=.agg _) (cs:=[.bool _,.str _,Iq _,Iq _,Iq _]) rfl rfl (rfl)) ?_
 rintro _ _ ⟨b3,rfl,rfl⟩
 refine Qe (Am (l:=[.bool false,.str [],.int .i64 0,.int .i64 0,.int .i64 0]) (by kernel_rfl)) ?_
 rintro _ _ ⟨b4,rfl,rfl⟩
 refine Ag (AW.block ?_)
 refine AW.Aad (fun (p:Nat×Wd)=>(⟨[(0,.val (.map (some m))),(3,.val (.pointer (some ⟨b3,0,none⟩))),(4,.val (.pointer (some ⟨b4,0,none⟩)))],.box b4 200 [.bool false,.str [],.int .i64 0,.int .i64 0,.int .i64 0] :: .box b3 200 (Kr p.2) :: .kmap m (wE w)::R,17⟩:St)) (fun (p:Nat×Wd)=>qC w p.1 p.2∧Cc w x=Pf w p.1 p.2) (fun (p:Nat×Wd)=>p.1) ((w.length,x)) ?_ (GS.weaken ⟨rfl,rfl,rfl,trivial⟩ (.refl _)) ?_
 · exact ⟨P7 w x,rfl⟩
 ·
  rintro p hR
  refine AW.block (Ah (Qp Ho ?_))
  refine AOL.Aah (Bs (k:=1) (l:=[.bool _,.str _,Iq _,Iq _,Iq _]) Ai rfl rfl rfl rfl rfl) rfl rfl ?_
  refine AOL.Aah (sG (i:=2) (eq:=I5 p.2) Ai rfl rfl rfl rfl rfl (by kernel_rfl) rfl rfl (rfl) (wE_eq p.2 w) (look_w p.2 w) (has_w p.2 w)) rfl rfl ?_
  refine Qp Nb ?_
  refine Qp (Ci (v:=.agg [.bool _,.str _,Iq _,Iq _,Iq _]) rfl rfl) ?_
  refine Qp eR ?_
  refine Qe (Am (l:=[.bool false,.str [],.int .i64 0,.int .i64 0,.int .i64 0]) (by kernel_rfl)) ?_
  rintro _ _ ⟨b5,rfl,rfl⟩
  refine Cz 0 [.bool _,.str _,Iq _,Iq _,Iq _] (_::_::_::_::_) ?_
  refine Qp Bm ?_
  refine AOL.ghost (GS.Aac (t:=5) 0 rfl rfl) ?_
  refine Ag (AW.seq (Ah (Qp Bu (Qp Hp (Ag (A3 (fun hc1=>?_) fun hc1=>?_))))))
  ·
   have hnn:=fX hc1
   refine Ah ?_
   refine AOL.Aah (Bs (k:=1) (l:=[.bool _,.str _,Iq _,Iq _,Iq _]) Ai rfl rfl rfl rfl rfl) rfl rfl ?_
   refine Cz 0 [.bool _,.str _,Iq _,Iq _,Iq _] (_::_::_::_) ?_
   refine Ag (Du (A7 (Aj (A7 ?_))))
   refine ⟨.inr rfl,[.agg [.bool _,.str _,Iq _,Iq _,Iq _]],.cons (.box _ _ _ 0 _ _ _ _ rfl rfl rfl rfl rfl rfl) <| .nil,_,.cons _ (.cons _ (.refl _)),?_⟩
   exact ⟨congrArg (fun q:Wd=>AV.agg (Kr q)) ((hR.2.trans (Uz hnn)).symm),rfl⟩
  ·
   have hyy:=xQ (d:=wd0) hc1
   have hst:=Se hw hR.1 hyy
   refine By (AW.region (Qp (Cv [.bool _,.str _,Iq _,Iq _,Iq _]) ?_))
   refine Cz 1 [.bool _,.str _,Iq _,Iq _,Iq _] (_::_::_::_) ?_
   refine AOL.nil (Bv (Ae ?_))
   refine ⟨(p.1-1,(Fs w p.2).getD wd0),?_,?_,GS.weaken ⟨rfl,rfl,rfl,trivial⟩ (.refl _)⟩
   · exact ⟨hst.2,hR.2.trans (aQ hst.1 hyy)⟩
   · have:=hst.1;simp only;omega
theorem Q0 (m:Nat)(w:Wm)(hw:Qt w)(x:Wd):∀(H:List HO) (k:Nat),H[k]? = some (.kmap m (wE w))→Dj Tryz.prog 123 H [.val (.map (some m)),.agg (Kr x)] fun r' H'=>r' = .agg (Kr (Cc w x))∧H'=H:=
 Dj.atFront (d_of m w hw x)
theorem d_str2 (bw m:Nat)(w:Wm)(x y:Wd)(hx:Fs w x=none)(hy:Fs w y=none)(R:List HO):Dj Tryz.prog 125 (.box bw 134 [.val (.map (some m))] :: .kmap m (wE w)::R) [.agg (Kr x),.agg (Kr y),.val (.pointer (some ⟨bw,0,none⟩))] (fun r H'=>r = .bool (Mq w x y).2∧H' = .box bw 134 [.val (.map (some m))] :: .kmap m (wE (Mq w x y).1)::R):=by
 refine Dj.body (n:=25) Ai Tryz.func125 rfl rfl rfl ?_
 refine Ah ?_
 refine Qe (Ub (v:=.agg _) (cs:=[.bool _,.str _,Iq _,Iq _,Iq _]) rfl rfl (rfl)) ?_
 rintro _ _ ⟨b3,rfl,rfl⟩
 refine Qe (Ub (v:=.agg _) (cs:=[.bool _,.str _,Iq _,Iq _,Iq _]) rfl rfl (rfl)) ?_
 rintro _ _ ⟨b4,rfl,rfl⟩
 refine Qp Bm (Ag ?_)
 refine AW.cut (fun (p:Wd×Wd)=>(⟨[(2,.val (.pointer (some ⟨bw,0,none⟩))),(3,.val (.pointer (some ⟨b3,0,none⟩))),(4,.val (.pointer (some ⟨b4,0,none⟩)))],.box b4 200 (Kr p.2) :: .box b3 200 (Kr p.1) :: .box bw 134 [.val (.map (some m))] :: .kmap m (wE w)::R,25⟩:St)) (fun (p:Wd×Wd)=>Fs w p.1=none∧Mq w x y=(w ++ [p],true)) ?_ ?_
 ·
  refine AW.block (Ah ?_)
  refine AOL.Aah (Bs (k:=1) (l:=[.bool _,.str _,Iq _,Iq _,Iq _]) Ai rfl rfl rfl rfl rfl) rfl rfl ?_
  refine AOL.Aah (Bs (k:=0) (l:=[.bool _,.str _,Iq _,Iq _,Iq _]) Ai rfl rfl rfl rfl rfl) rfl rfl ?_
  refine Qp (Ow (r:=cH x y) Ai rfl rfl rfl rfl (Mm x y)) ?_
  refine Qp Bm (Ag (A3 (fun hc1=>?_) fun hc1=>?_))
  ·
   refine Ah (Qp Bm (Ag (AW.ret (A7 (Aj ?_)))))
   refine ⟨.inr rfl,[.bool _],.cons (.tmp _ _ rfl) <| .nil,_,.cons _ (.cons _ (.refl _)),?_⟩
   exact ⟨congrArg (fun q:Wm×Bool=>AV.bool q.2) (vG hc1).symm,congrArg (fun q:Wm×Bool=>(.box bw 134 [.val (.map (some m))] :: .kmap m (wE q.1)::R:List HO)) (vG hc1).symm⟩
  ·
   refine Ah (Qp H9 ?_)
   refine AOL.Aah (Ao (k:=1) (c:=.bool _) Ai rfl rfl rfl rfl) rfl rfl ?_
   refine Qp Bu (Qg [] Qw H9 ?_)
   refine AOL.gk (y:=.bool _) _ [(14,_)] rfl (oE.all ⟨Ent.Aab _ _,trivial⟩) (fun hG=>Ao (k:=0) (c:=.bool _) Ai rfl rfl rfl rfl) rfl rfl ?_
   refine Qp Gg (Qp Bm (Ag (A3 (fun hc2=>?_) fun hc2=>?_)))
   ·
    refine Ah (Qp Bm (Ag (AW.ret (A7 (Aj ?_)))))
    refine ⟨.inr rfl,[.bool _],.cons (.tmp _ _ rfl) <| .nil,_,.cons _ (.cons _ (.refl _)),?_⟩
    exact ⟨congrArg (fun q:Wm×Bool=>AV.bool q.2) (rM hc1 hc2).symm,congrArg (fun q:Wm×Bool=>(.box bw 134 [.val (.map (some m))] :: .kmap m (wE q.1)::R:List HO)) (rM hc1 hc2).symm⟩
   ·
    refine Ah (Qp H9 ?_)
    refine AOL.Aah (Ao (k:=1) (c:=.bool _) Ai rfl rfl rfl rfl) rfl rfl ?_
    refine Qp Bm (Ag (A3 (fun hc3=>?_) fun hc3=>?_))
    ·
     refine AW.region ?_
     refine AOL.Aah (Bs (k:=0) (l:=[.bool _,.str _,Iq _,Iq _,Iq _]) Ai rfl rfl rfl rfl rfl) rfl rfl ?_
     refine AOL.Aah (Bs (k:=1) (l:=[.bool _,.str _,Iq _,Iq _,Iq _]) Ai rfl rfl rfl rfl rfl) rfl rfl ?_
     refine Cz 1 [.bool _,.str _,Iq _,Iq _,Iq _] (_::_::_::_::_) ?_
     refine Cz 0 [.bool _,.str _,Iq _,Iq _,Iq _] (_::_::_::_::_) ?_
     refine AOL.nil (Bv (Ae ?_))
     refine ⟨(y,x),?_,GS.weaken ⟨rfl,rfl,rfl,trivial⟩ (.refl _)⟩
     exact ⟨hy,eqAB_3 hc1 hc2 hc3⟩
    ·
     refine AW.skip (Bv (Ae ?_))
     refine ⟨(x,y),?_,GS.weaken ⟨rfl,rfl,rfl,trivial⟩ (.refl _)⟩
     exact ⟨hx,eqAB_4 hc1 hc2 hc3⟩
 ·
  rintro p hR
  refine Ah ?_
  refine AOL.Aah (Ao (k:=2) (c:=.val _) Ai rfl rfl rfl rfl) rfl rfl ?_
  refine AOL.Aah (Bs (k:=1) (l:=[.bool _,.str _,Iq _,Iq _,Iq _]) Ai rfl rfl rfl rfl rfl) rfl rfl ?_
  refine AOL.Aah (Bs (k:=0) (l:=[.bool _,.str _,Iq _,Iq _,Iq _]) Ai rfl rfl rfl rfl rfl) rfl rfl ?_
  refine Qe (Sj (i:=3) (eq:=I5 p.1) (H2:=_::_::_::_::_) Ai rfl rfl rfl rfl rfl rfl rfl (rfl) (wE_eq p.1 w) rfl (new_w hR.1) rfl) ?_
  rintro _ _ ⟨rfl,rfl⟩
  refine Do (Qp Bm (Ag (AW.ret ?_)))
  refine ⟨.inr rfl,[.bool _],.cons (.tmp _ _ rfl) <| .nil,_,.cons _ (.cons _ (.refl _)),?_⟩
  exact ⟨congrArg (fun q:Wm×Bool=>AV.bool q.2) hR.2.symm,(congrArg (fun e=>(.box bw 134 [.val (.map (some m))] :: .kmap m e::R:List HO)) (yD w p).symm).trans (congrArg (fun q:Wm×Bool=>(.box bw 134 [.val (.map (some m))] :: .kmap m (wE q.1)::R:List HO)) hR.2.symm)⟩
theorem d_str3 (x y:Wd):Ax Tryz.prog 126 [.agg (Kr x),.agg (Kr y)] (.bool (!(cH x y))):=by
 refine Ax.body (n:=8) Ai Tryz.func126 rfl rfl rfl fun H=>?_
 refine Ah (Qp (Gd [.bool _,.str _,Iq _,Iq _,Iq _]) (Qp (Gd [.bool _,.str _,Iq _,Iq _,Iq _]) (Qp Bm (Do (Qp (Cv [.bool _,.str _,Iq _,Iq _,Iq _]) (Qp (Cv [.bool _,.str _,Iq _,Iq _,Iq _]) ?_))))))
 refine Qp (Ii (r:=cH x y) Ai rfl rfl rfl rfl (Mm x y)) ?_
 refine Qp Bm (Ag (AW.ret ?_))
 refine Qr (.bool _) ?_
 rfl
theorem yB (T:List Sc)(V:List Va)(l:List Lit)(hlk:Up T V l)(bw m:Nat)(R:List HO):Dj Tryz.prog 122 (.box bw 134 [.val (.map (some m))] :: .kmap m (wE [])::R) [.bool true,.fn (.func 125) [] [.val (.pointer (some ⟨bw,0,none⟩))],.ptr [.sl 9 (l.map H7)],.ptr (Cw T V),.val (.pointer (some ⟨bw,0,none⟩))] (fun r H'=>r = .bool (Ir T V l []).2∧H' = .box bw 134 [.val (.map (some m))] :: .kmap m (wE (Ir T V l []).1)::R):=by
 refine Dj.body (n:=54) Ai Tryz.func122 rfl rfl rfl ?_
 refine Ah (Qp Bm (Ag (AW.seq (Ah (Qp Ee ?_)))))
 refine Qp (Al (n:=l.length) Ai rfl rfl rfl (by simp)) ?_
 refine Qp A0 (Ag (AW.block ?_))
 refine AW.sllen 10 rfl fun hlen=>?_
 simp only [List.length_map,maxLen] at hlen
 refine AW.Aad (fun (p:Nat×Wm)=>(⟨[(0,.bool true),(1,.fn (.func 125) [] [.val (.pointer (some ⟨bw,0,none⟩))]),(2,.ptr [.sl 9 (l.map H7)]),(3,.ptr (Cw T V)),(4,.val (.pointer (some ⟨bw,0,none⟩))),(10,.sl 9 (l.map H7)),(11,.int .i64 l.length),(12,.int .i64 (p.1:Int))],.box bw 134 [.val (.map (some m))] :: .kmap m (wE p.2)::R,54⟩:St)) (fun (p:Nat×Wm)=>p.1≤l.length∧Ir T V l []=Ir T V (l.drop p.1) p.2∧Qt p.2) (fun (p:Nat×Wm)=>l.length-p.1) ((0,[])) ?_ (GS.weaken ⟨rfl,rfl,rfl,rfl,rfl,rfl,rfl,rfl,trivial⟩ (.refl _)) ?_
 · exact ⟨Nat.zero_le _,rfl,U0⟩
 ·
  rintro p hR
  have hwp:=hR.2.2
  refine Ah (Qp Ck (Ag (AW.seq (A3 (fun hc1=>?_) fun hc1=>?_))))
  ·
   obtain ⟨c,hc⟩:=B7 hc1
   have hlt:=Bb hc
   have hcm:=List.mem_of_getElem? hc
   have hck:=(hlk c hcm).1
   have hcs:=Nat.le_trans (hlk c hcm).2 (by decide:64≤1048576)
   have hdc:=A4 hc
   have hR2:=hR.2.1
   rw [hdc] at hR2
   refine By (AW.seq (AW.block (Ah ?_)))
   refine Qp (Af (c:=[Iq _,_,Iq _,Iq _,Iq _,Iq _,Iq _,.str _,.bool _]) Ai rfl rfl rfl rfl rfl rfl (by omega) (Bo hc)) ?_
   refine Qp (Cv [Iq _,_,Iq _,Iq _,Iq _,Iq _,Iq _,.str _,.bool _]) ?_
   refine Qe (Am (l:=[.int .i64 0,.sl 8 [],.int .i64 0,.int .i64 0,.int .i64 0,.int .i64 0,.int .i64 0,.str [],.bool false]) (by kernel_rfl)) ?_
   rintro _ _ ⟨b9,rfl,rfl⟩
   refine Cz 0 [Iq _,_,Iq _,Iq _,Iq _,Iq _,Iq _,.str _,.bool _] (_::_::_::_) ?_
   refine AOL.ghost (GS.Aac (t:=9) 0 rfl rfl) ?_
   refine Ag (AW.seq ?_)
   refine AW.drawI mixed (fun j H'=>(j==18||j==25||j==26||j==33)=true→_∈H'∧_∈H') (fun _ _=>⟨(List.mem_of_getElem? (i:=0) rfl),(List.mem_of_getElem? (i:=1) rfl)⟩) (by kernel_rfl) ?_
   refine CanonI.pure _ _ 0 _ _ rfl (by kernel_rfl) (by kernel_rfl) rfl (.run rfl (B3 (cs':=[.bool _]) Ai rfl rfl rfl rfl rfl rfl)) ?_
   refine CanonI.pure _ _ 1 _ _ rfl (by kernel_rfl) (by kernel_rfl) rfl (.run rfl (D3 (c:=.bool _) Ai rfl rfl rfl)) ?_
   refine CanonI.pure _ _ 2 _ _ rfl (by kernel_rfl) (by kernel_rfl) rfl (.run rfl (Bk (v:=.bool _) rfl)) ?_
   refine CanonI.pure _ _ 3 _ _ rfl (by kernel_rfl) (by kernel_rfl) rfl (.run rfl (Vf Ai rfl rfl rfl rfl)) ?_
   refine CanonI.pure _ _ 4 _ _ rfl (by kernel_rfl) (by kernel_rfl) rfl (.run rfl (Bk (v:=.bool _) rfl)) ?_
   refine CanonI.pure _ _ 5 _ _ rfl (by kernel_rfl) (by kernel_rfl) rfl (.opt _ (.agg _) [] rfl (oE.all trivial) (fun hG=>Ej (l:=[_,_]) Ai rfl rfl rfl rfl rfl) rfl) ?_
   refine CanonI.pure _ _ 6 _ _ rfl (by kernel_rfl) (by kernel_rfl) rfl (.opt _ (.ptr _) [] rfl (oE.all trivial) (fun hG=>B3 (cs':=[Iq _,_,Iq _,Iq _,Iq _,Iq _,Iq _,.str _,.bool _]) Ai rfl rfl rfl rfl rfl rfl) rfl) ?_
   refine CanonI.pure _ _ 7 _ _ rfl (by kernel_rfl) (by kernel_rfl) rfl (.opt _ (.agg _) [(22,_)] rfl (oE.all ⟨Ent.Aab _ _,trivial⟩) (fun hG=>Ej (l:=[Iq _,_,Iq _,Iq _,Iq _,Iq _,Iq _,.str _]) Ai rfl rfl rfl rfl rfl) rfl) ?_
   refine CanonI.pure _ _ 8 _ _ rfl (by kernel_rfl) (by kernel_rfl) rfl (.opt _ (.bool _) [(21,_),(23,_)] rfl (oE.all ⟨Ent.Aab _ _,Ent.Aab _ _,trivial⟩) (fun hG=>E6 (by kernel_rfl) rfl rfl (Q9 T V c.cond hck)) rfl) ?_
   refine CanonI.pure _ _ 9 _ _ rfl (by kernel_rfl) (by kernel_rfl) rfl (.run rfl (Mx rfl rfl rfl)) ?_
   refine CanonI.pure _ _ 10 _ _ rfl (by kernel_rfl) (by kernel_rfl) rfl (.run rfl (Bk (v:=.bool _) rfl)) ?_
   refine CanonI.pure _ _ 11 _ _ rfl (by kernel_rfl) (by kernel_rfl) rfl (.opt _ (.agg _) [] rfl (oE.all trivial) (fun hG=>Ej (l:=[_,_]) Ai rfl rfl rfl rfl rfl) rfl) ?_
   refine CanonI.pure _ _ 12 _ _ rfl (by kernel_rfl) (by kernel_rfl) rfl (.opt _ (.ptr _) [] rfl (oE.all trivial) (fun hG=>B3 (cs':=[Iq _,_,Iq _,Iq _,Iq _,Iq _,Iq _,.str _,.bool _]) Ai rfl rfl rfl rfl rfl rfl) rfl) ?_
   refine CanonI.pure _ _ 13 _ _ rfl (by kernel_rfl) (by kernel_rfl) rfl (.opt _ (.agg _) [(28,_)] rfl (oE.all ⟨Ent.Aab _ _,trivial⟩) (fun hG=>Ej (l:=[Iq _,_,Iq _,Iq _,Iq _,Iq _,Iq _,.str _]) Ai rfl rfl rfl rfl rfl) rfl) ?_
   refine CanonI.pure _ _ 14 _ _ rfl (by kernel_rfl) (by kernel_rfl) rfl (.opt _ (.bool _) [(27,_),(29,_)] rfl (oE.all ⟨Ent.Aab _ _,Ent.Aab _ _,trivial⟩) (fun hG=>E6 (by kernel_rfl) rfl rfl (Q7 T V c.cond hck hcs)) rfl) ?_
   refine CanonI.pure _ _ 15 _ _ rfl (by kernel_rfl) (by kernel_rfl) rfl (.run rfl (Mx rfl rfl rfl)) ?_
   refine CanonI.pure _ _ 16 _ _ rfl (by kernel_rfl) (by kernel_rfl) rfl (.run rfl (Bk (v:=.bool _) rfl)) ?_
   refine CanonI.pure _ _ 17 _ _ rfl (by kernel_rfl) (by kernel_rfl) rfl (.opt _ (.fn _ _ _) [] rfl (oE.all trivial) (fun hG=>Bk (v:=.fn _ _ _) rfl) rfl) ?_
   refine CanonI.pure _ _ 18 _ _ rfl (by kernel_rfl) (by kernel_rfl) rfl (.opt _ (.val _) [] rfl (oE.all trivial) (fun hG=>OpP.Aag (fun k=>Ao (k:=k) (c:=.val _) Ai rfl rfl rfl rfl) (fun _ h=>(h rfl).1)) rfl) ?_
   refine CanonI.pure _ _ 19 _ _ rfl (by kernel_rfl) (by kernel_rfl) rfl (.opt _ (.ptr _) [] rfl (oE.all trivial) (fun hG=>B3 (cs':=[Iq _,_,Iq _,Iq _,Iq _,Iq _,Iq _,.str _,.bool _]) Ai rfl rfl rfl rfl rfl rfl) rfl) ?_
   refine CanonI.pure _ _ 20 _ _ rfl (by kernel_rfl) (by kernel_rfl) rfl (.opt _ (.ptr _) [(35,_)] rfl (oE.all ⟨Ent.Aab _ _,trivial⟩) (fun hG=>B3 (cs':=[_,Iq _,Iq _,Iq _,Iq _,Iq _,.str _,.bool _]) Ai rfl rfl rfl rfl rfl rfl) rfl) ?_
   refine CanonI.pure _ _ 21 _ _ rfl (by kernel_rfl) (by kernel_rfl) rfl (.opt _ (.sl _ _) [(36,_)] rfl (oE.all ⟨Ent.Aab _ _,trivial⟩) (fun hG=>D3 (c:=.sl _ _) Ai rfl rfl rfl) rfl) ?_
   refine CanonI.pure _ _ 22 _ _ rfl (by kernel_rfl) (by kernel_rfl) rfl (.opt _ (.ptr _) [(37,_)] rfl (oE.all ⟨Ent.Aab _ _,trivial⟩) (fun hG=>Af (c:=[Iq _,_,Iq _,Iq _,Iq _,Iq _,Iq _,.str _]) Ai rfl rfl rfl rfl rfl rfl (by decide) (I3 (Nat.lt_of_succ_lt (Kd hck (Mb (Jl (g1' hG))))))) rfl) ?_
   refine CanonI.pure _ _ 23 _ _ rfl (by kernel_rfl) (by kernel_rfl) rfl (.opt _ (.agg _) [(38,_)] rfl (oE.all ⟨Ent.Aab _ _,trivial⟩) (fun hG=>Ej (l:=[Iq _,_,Iq _,Iq _,Iq _,Iq _,Iq _,.str _]) Ai rfl rfl rfl rfl rfl) rfl) ?_
   refine CanonI.pure _ _ 24 _ _ rfl (by kernel_rfl) (by kernel_rfl) rfl (.opt _ (.agg _) [(39,_)] rfl (oE.all ⟨Ent.Aab _ _,trivial⟩) (fun hG=>E6 (by kernel_rfl) rfl rfl (N5 _)) rfl) ?_
   refine CanonI.pure _ _ 25 _ _ rfl (by kernel_rfl) (by kernel_rfl) rfl (.opt _ (.agg _) [(34,_),(40,_)] rfl (oE.all ⟨Ent.Aab _ _,Ent.Aab _ _,trivial⟩) (fun hG=>Rj (ho:=.kmap m (wE p.2)) (by kernel_rfl) rfl rfl (Q0 m p.2 hwp (B5 (Ap c.cond))) (fun _ h=>(h rfl).2)) rfl) ?_
   refine CanonI.pure _ _ 26 _ _ rfl (by kernel_rfl) (by kernel_rfl) rfl (.opt _ (.val _) [] rfl (oE.all trivial) (fun hG=>OpP.Aag (fun k=>Ao (k:=k) (c:=.val _) Ai rfl rfl rfl rfl) (fun _ h=>(h rfl).1)) rfl) ?_
   refine CanonI.pure _ _ 27 _ _ rfl (by kernel_rfl) (by kernel_rfl) rfl (.opt _ (.ptr _) [] rfl (oE.all trivial) (fun hG=>B3 (cs':=[Iq _,_,Iq _,Iq _,Iq _,Iq _,Iq _,.str _,.bool _]) Ai rfl rfl rfl rfl rfl rfl) rfl) ?_
   refine CanonI.pure _ _ 28 _ _ rfl (by kernel_rfl) (by kernel_rfl) rfl (.opt _ (.ptr _) [(43,_)] rfl (oE.all ⟨Ent.Aab _ _,trivial⟩) (fun hG=>B3 (cs':=[_,Iq _,Iq _,Iq _,Iq _,Iq _,.str _,.bool _]) Ai rfl rfl rfl rfl rfl rfl) rfl) ?_
   refine CanonI.pure _ _ 29 _ _ rfl (by kernel_rfl) (by kernel_rfl) rfl (.opt _ (.sl _ _) [(44,_)] rfl (oE.all ⟨Ent.Aab _ _,trivial⟩) (fun hG=>D3 (c:=.sl _ _) Ai rfl rfl rfl) rfl) ?_
   refine CanonI.pure _ _ 30 _ _ rfl (by kernel_rfl) (by kernel_rfl) rfl (.opt _ (.ptr _) [(45,_)] rfl (oE.all ⟨Ent.Aab _ _,trivial⟩) (fun hG=>Af (c:=[Iq _,_,Iq _,Iq _,Iq _,Iq _,Iq _,.str _]) Ai rfl rfl rfl rfl rfl rfl (by decide) (Kh (Kd hck (Mb (Jl (g1' hG)))))) rfl) ?_
   refine CanonI.pure _ _ 31 _ _ rfl (by kernel_rfl) (by kernel_rfl) rfl (.opt _ (.agg _) [(46,_)] rfl (oE.all ⟨Ent.Aab _ _,trivial⟩) (fun hG=>Ej (l:=[Iq _,_,Iq _,Iq _,Iq _,Iq _,Iq _,.str _]) Ai rfl rfl rfl rfl rfl) rfl) ?_
   refine CanonI.pure _ _ 32 _ _ rfl (by kernel_rfl) (by kernel_rfl) rfl (.opt _ (.agg _) [(47,_)] rfl (oE.all ⟨Ent.Aab _ _,trivial⟩) (fun hG=>E6 (by kernel_rfl) rfl rfl (N5 _)) rfl) ?_
   refine CanonI.pure _ _ 33 _ _ rfl (by kernel_rfl) (by kernel_rfl) rfl (.opt _ (.agg _) [(42,_),(48,_)] rfl (oE.all ⟨Ent.Aab _ _,Ent.Aab _ _,trivial⟩) (fun hG=>Rj (ho:=.kmap m (wE p.2)) (by kernel_rfl) rfl rfl (Q0 m p.2 hwp (B5 (Bj c.cond))) (fun _ h=>(h rfl).2)) rfl) ?_
   refine CanonI.phaseg (fun _ _=>True) _ _ 34 _ _ [(41,_),(49,_),(33,_)] _ _ rfl (by kernel_rfl) rfl rfl (oE.all ⟨Ent.Aab _ _,Ent.Aab _ _,Ent.Aab _ _,trivial⟩) (fun hG=>Iv (by kernel_rfl) rfl rfl rfl (Dj.front2 (R:=_) 1 0 rfl rfl rfl ((d_str2 bw m p.2 (Cc p.2 (B5 (Ap c.cond))) (Cc p.2 (B5 (Bj c.cond))) (Ij hwp _) (Ij hwp _) _).mono' (fun r K h=>⟨h.1,h.2.trans (congrArg (fun w=>(.box bw 134 [.val (.map (some m))] :: .kmap m (wE w)::R:List HO)) (Ya (Zc (g1' hG))))⟩)))) (fun hG=>congrArg (fun w=>(.box bw 134 [.val (.map (some m))] :: .kmap m (wE w)::R:List HO)) (uH (qG (g1n hG))).symm) (fun j _ _ hr _ _ hj=>?_) (fun _=>trivial) ?_
   ·
    rcases (by simpa only [Bool.or_eq_true,beq_iff_eq,or_assoc] using hj:j=18∨j=25∨j=26∨j=33) with rfl | rfl | rfl | rfl
    · exact Bool.noConfusion ((show Ie _ 7 _ 18=true by kernel_rfl).symm.trans hr)
    · exact Bool.noConfusion ((show Ie _ 7 _ 25=true by kernel_rfl).symm.trans hr)
    · exact Bool.noConfusion ((show Ie _ 7 _ 26=true by kernel_rfl).symm.trans hr)
    · exact Bool.noConfusion ((show Ie _ 7 _ 33=true by kernel_rfl).symm.trans hr)
   refine CanonI.pure _ _ 35 _ _ rfl (by kernel_rfl) (by kernel_rfl) rfl (.opt _ (.bool _) [(50,_)] rfl (oE.all ⟨Ent.Aab _ _,trivial⟩) (fun hG=>zL rfl) rfl) ?_
   refine CanonI.pure _ _ 36 _ _ rfl (by kernel_rfl) (by kernel_rfl) rfl (.run rfl (Mx rfl rfl rfl)) ?_
   refine CanonI.done _ _ (by kernel_rfl) ?_
   refine Ae (A3 (fun hc2=>?_) fun hc2=>?_)
   ·
    have hs2:=Bool.and_eq_true_iff.mp hc2
    have hst:=Zc hs2.1
    have hfin:=hR2.trans (L2 hst ((Bool.not_eq_true' _).mp hs2.2))
    have hf1:(Ir T V l []).1=(Et p.2 c).1:=by rw [hfin]
    refine Ah (Qp Bm (Ag (AW.ret (A7 (Aj (Aj (A7 (Aj ?_))))))))
    refine ⟨.inr rfl,[.bool _],.cons (.tmp _ _ rfl) <| .nil,_,.refl _,?_⟩
    exact ⟨congrArg (fun q:Wm×Bool=>AV.bool q.2) hfin.symm,congrArg (fun w=>(.box bw 134 [.val (.map (some m))] :: .kmap m (wE w)::R:List HO)) ((Ya hst).symm.trans hf1.symm)⟩
   ·
    refine AW.skip (Bv (Ae (AW.region (Qp F7 (Qp A0 (Ag ?_))))))
    refine ⟨(p.1+1,Ti T V p.2 c),?_,?_,GS.weaken ⟨rfl,rfl,rfl,rfl,rfl,rfl,rfl,rfl,trivial⟩ (.refl _)⟩
    · exact ⟨hlt,hR2.trans (tN hc2),dJ hwp c⟩
    · simp only;omega
  ·
   have hde:=C8 hc1
   have hR2:=hR.2.1
   rw [hde] at hR2
   refine AW.exit ?_
   refine A5 (A5 (Bx (Ae (Ah (Qp Bm (Ag (AW.ret ?_)))))))
   refine ⟨.inr rfl,[.bool _],.cons (.tmp _ _ rfl) <| .nil,_,.refl _,?_⟩
   exact ⟨congrArg (fun q:Wm×Bool=>AV.bool q.2) hR2.symm,congrArg (fun q:Wm×Bool=>(.box bw 134 [.val (.map (some m))] :: .kmap m (wE q.1)::R:List HO)) hR2.symm⟩
theorem yS (T:List Sc)(V:List Va)(l:List Lit)(hlk:Up T V l)(bw m:Nat)(w:Wm)(hwp:Qt w)(R:List HO):Dj Tryz.prog 122 (.box bw 134 [.val (.map (some m))] :: .kmap m (wE w)::R) [.bool false,.fn (.func 126) [] [],.ptr [.sl 9 (l.map H7)],.ptr (Cw T V),.val (.pointer (some ⟨bw,0,none⟩))] (fun r H'=>r = .bool (Nh T V w l)∧H' = .box bw 134 [.val (.map (some m))] :: .kmap m (wE w)::R):=by
 refine Dj.body (n:=54) Ai Tryz.func122 rfl rfl rfl ?_
 refine Ah (Qp Bm (Ag (AW.seq (Ah (Qp Ee ?_)))))
 refine Qp (Al (n:=l.length) Ai rfl rfl rfl (by simp)) ?_
 refine Qp A0 (Ag (AW.block ?_))
 refine AW.sllen 10 rfl fun hlen=>?_
 simp only [List.length_map,maxLen] at hlen
 refine AW.Aad (fun (p:Nat)=>(⟨[(0,.bool false),(1,.fn (.func 126) [] []),(2,.ptr [.sl 9 (l.map H7)]),(3,.ptr (Cw T V)),(4,.val (.pointer (some ⟨bw,0,none⟩))),(10,.sl 9 (l.map H7)),(11,.int .i64 l.length),(12,.int .i64 (p:Int))],.box bw 134 [.val (.map (some m))] :: .kmap m (wE w)::R,54⟩:St)) (fun (p:Nat)=>p≤l.length∧Nh T V w l=Nh T V w (l.drop p)) (fun (p:Nat)=>l.length-p) (0) ?_ (GS.weaken ⟨rfl,rfl,rfl,rfl,rfl,rfl,rfl,rfl,trivial⟩ (.refl _)) ?_
 · exact ⟨Nat.zero_le _,rfl⟩
 ·
  rintro p hR
  refine Ah (Qp Ck (Ag (AW.seq (A3 (fun hc1=>?_) fun hc1=>?_))))
  ·
   obtain ⟨c,hc⟩:=B7 hc1
   have hlt:=Bb hc
   have hcm:=List.mem_of_getElem? hc
   have hck:=(hlk c hcm).1
   have hcs:=Nat.le_trans (hlk c hcm).2 (by decide:64≤1048576)
   have hdc:=A4 hc
   have hR2:=hR.2
   rw [hdc] at hR2
   refine By (AW.seq (AW.block (Ah ?_)))
   refine Qp (Af (c:=[Iq _,_,Iq _,Iq _,Iq _,Iq _,Iq _,.str _,.bool _]) Ai rfl rfl rfl rfl rfl rfl (by omega) (Bo hc)) ?_
   refine Qp (Cv [Iq _,_,Iq _,Iq _,Iq _,Iq _,Iq _,.str _,.bool _]) ?_
   refine Qe (Am (l:=[.int .i64 0,.sl 8 [],.int .i64 0,.int .i64 0,.int .i64 0,.int .i64 0,.int .i64 0,.str [],.bool false]) (by kernel_rfl)) ?_
   rintro _ _ ⟨b9,rfl,rfl⟩
   refine Cz 0 [Iq _,_,Iq _,Iq _,Iq _,Iq _,Iq _,.str _,.bool _] (_::_::_::_) ?_
   refine AOL.ghost (GS.Aac (t:=9) 0 rfl rfl) ?_
   refine Ag (AW.seq ?_)
   refine AW.draw mixed (fun H'=>_∈H'∧_∈H') ⟨(List.mem_of_getElem? (i:=0) rfl),(List.mem_of_getElem? (i:=1) rfl)⟩ (by kernel_rfl) ?_
   refine Qn 0 rfl (Qf [.bool _]) (Qn 1 rfl qQ (Qn 2 rfl Bu ?_))
   refine Qn 3 rfl (Vf Ai rfl rfl rfl rfl) ?_
   refine Qn 4 rfl Bu (Qo 5 rfl [] Qw (Cv [_,_]) (Qo 6 rfl [] Qw (Qf [Iq _,_,Iq _,Iq _,Iq _,Iq _,Iq _,.str _,.bool _]) (Qo 7 rfl [(22,_)] Qw E7 ?_)))
   refine Jb.pure _ _ 8 _ _ rfl (by kernel_rfl) (by kernel_rfl) rfl (.opt _ (.bool _) [(21,_),(23,_)] rfl (oE.all ⟨Ent.Aab _ _,Ent.Aab _ _,trivial⟩) (fun hG=>E6 (by kernel_rfl) rfl rfl (Q9 T V c.cond hck)) rfl) ?_
   refine Qn 9 rfl Gg (Qn 10 rfl Bu (Qo 11 rfl [] Qw (Cv [_,_]) (Qo 12 rfl [] Qw (Qf [Iq _,_,Iq _,Iq _,Iq _,Iq _,Iq _,.str _,.bool _]) (Qo 13 rfl [(28,_)] Qw E7 ?_))))
   refine Jb.pure _ _ 14 _ _ rfl (by kernel_rfl) (by kernel_rfl) rfl (.opt _ (.bool _) [(27,_),(29,_)] rfl (oE.all ⟨Ent.Aab _ _,Ent.Aab _ _,trivial⟩) (fun hG=>E6 (by kernel_rfl) rfl rfl (Q7 T V c.cond hck hcs)) rfl) ?_
   refine Qn 15 rfl Gg (Qn 16 rfl Bu ?_)
   refine Jb.pure _ _ 17 _ _ rfl (by kernel_rfl) (by kernel_rfl) rfl (.opt _ (.fn _ _ _) [] rfl (oE.all trivial) (fun hG=>Bk (v:=.fn _ _ _) rfl) rfl) ?_
   refine Jb.pure _ _ 18 _ _ rfl (by kernel_rfl) (by kernel_rfl) rfl (.opt _ (.val _) [] rfl (oE.all trivial) (fun hG=>OpP.Aag (fun k=>Ao (k:=k) (c:=.val _) Ai rfl rfl rfl rfl) (fun _ h=>h.1)) rfl) ?_
   refine Qo 19 rfl [] Qw (Qf [Iq _,_,Iq _,Iq _,Iq _,Iq _,Iq _,.str _,.bool _]) (Qo 20 rfl [(35,_)] Qw (Qf [_,Iq _,Iq _,Iq _,Iq _,Iq _,.str _,.bool _]) (Qo 21 rfl [(36,_)] Qw Ee ?_))
   refine Jb.pure _ _ 22 _ _ rfl (by kernel_rfl) (by kernel_rfl) rfl (.opt _ (.ptr _) [(37,_)] rfl (oE.all ⟨Ent.Aab _ _,trivial⟩) (fun hG=>Af (c:=[Iq _,_,Iq _,Iq _,Iq _,Iq _,Iq _,.str _]) Ai rfl rfl rfl rfl rfl rfl (by decide) (I3 (Nat.lt_of_succ_lt (Kd hck (Mb (Jl (g1' hG))))))) rfl) ?_
   refine Qo 23 rfl [(38,_)] Qw E7 ?_
   refine Qo 24 rfl [(39,_)] Qw (Qc rfl (N5 _)) ?_
   refine Jb.pure _ _ 25 _ _ rfl (by kernel_rfl) (by kernel_rfl) rfl (.opt _ (.agg _) [(34,_),(40,_)] rfl (oE.all ⟨Ent.Aab _ _,Ent.Aab _ _,trivial⟩) (fun hG=>Rj (ho:=.kmap m (wE w)) (by kernel_rfl) rfl rfl (Q0 m w hwp (B5 (Ap c.cond))) (fun _ h=>h.2)) rfl) ?_
   refine Jb.pure _ _ 26 _ _ rfl (by kernel_rfl) (by kernel_rfl) rfl (.opt _ (.val _) [] rfl (oE.all trivial) (fun hG=>OpP.Aag (fun k=>Ao (k:=k) (c:=.val _) Ai rfl rfl rfl rfl) (fun _ h=>h.1)) rfl) ?_
   refine Qo 27 rfl [] Qw (Qf [Iq _,_,Iq _,Iq _,Iq _,Iq _,Iq _,.str _,.bool _]) (Qo 28 rfl [(43,_)] Qw (Qf [_,Iq _,Iq _,Iq _,Iq _,Iq _,.str _,.bool _]) (Qo 29 rfl [(44,_)] Qw Ee ?_))
   refine Jb.pure _ _ 30 _ _ rfl (by kernel_rfl) (by kernel_rfl) rfl (.opt _ (.ptr _) [(45,_)] rfl (oE.all ⟨Ent.Aab _ _,trivial⟩) (fun hG=>Af (c:=[Iq _,_,Iq _,Iq _,Iq _,Iq _,Iq _,.str _]) Ai rfl rfl rfl rfl rfl rfl (by decide) (Kh (Kd hck (Mb (Jl (g1' hG)))))) rfl) ?_
   refine Qo 31 rfl [(46,_)] Qw E7 ?_
   refine Qo 32 rfl [(47,_)] Qw (Qc rfl (N5 _)) ?_
   refine Jb.pure _ _ 33 _ _ rfl (by kernel_rfl) (by kernel_rfl) rfl (.opt _ (.agg _) [(42,_),(48,_)] rfl (oE.all ⟨Ent.Aab _ _,Ent.Aab _ _,trivial⟩) (fun hG=>Rj (ho:=.kmap m (wE w)) (by kernel_rfl) rfl rfl (Q0 m w hwp (B5 (Bj c.cond))) (fun _ h=>h.2)) rfl) ?_
   refine Jb.pure _ _ 34 _ _ rfl (by kernel_rfl) (by kernel_rfl) rfl (.opt _ (.bool _) [(41,_),(49,_),(33,_)] rfl (oE.all ⟨Ent.Aab _ _,Ent.Aab _ _,Ent.Aab _ _,trivial⟩) (fun hG=>Ec (by kernel_rfl) rfl rfl rfl (d_str3 (Cc w (B5 (Ap c.cond))) (Cc w (B5 (Bj c.cond))))) rfl) ?_
   refine Qo 35 rfl [(50,_)] Qw Hp (Qn 36 rfl Gg ?_)
   refine Jb.done _ _ (by kernel_rfl) ?_
   refine Ae (A3 (fun hc2=>?_) fun hc2=>?_)
   ·
    have hfin:=hR2.trans (iG hc2)
    refine Ah (Qp Bm (Ag (AW.ret (A7 (Aj (Aj (A7 (Aj ?_))))))))
    refine ⟨.inr rfl,[.bool _],.cons (.tmp _ _ rfl) <| .nil,_,.refl _,?_⟩
    exact ⟨congrArg AV.bool hfin.symm,rfl⟩
   ·
    refine AW.skip (Bv (Ae (AW.region (Qp F7 (Qp A0 (Ag ?_))))))
    refine ⟨p+1,?_,?_,GS.weaken ⟨rfl,rfl,rfl,rfl,rfl,rfl,rfl,rfl,trivial⟩ (.refl _)⟩
    · exact ⟨hlt,hR2.trans (gY hc2)⟩
    · omega
  ·
   have hde:=C8 hc1
   have hR2:=hR.2
   rw [hde] at hR2
   refine AW.exit ?_
   refine A5 (A5 (Bx (Ae (Ah (Qp Bm (Ag (AW.ret ?_)))))))
   refine ⟨.inr rfl,[.bool _],.cons (.tmp _ _ rfl) <| .nil,_,.refl _,?_⟩
   exact ⟨congrArg AV.bool hR2.symm,rfl⟩

set_option maxHeartbeats 1600000
set_option maxRecDepth 20000

theorem yE (l:Nat)(rec:Loop)(bd b1 b2 n:Nat)(bs:List Bd)(d:Ds)(hn:n≤64)(hdl:d.last.length=n)(G:Value→List Int→List HO)(hp:rec.params.size=1)(i0:Nat)(hi:∀v pre,(G v pre)[i0]? = some (.obj l (.loop rec)))(f:Int)(hc:J8 bs d f (n+1) f=true)(hY:∀v pre x,pre.length≤64→jW Tryz.prog l rec (.box bd 156 [.val (.slice (some ⟨b1,0,none⟩) n n),.val (.slice (some ⟨b2,0,none⟩) n n)] :: .box b1 3 (bI d.sums) :: .box b2 3 (bI d.last)::G v pre) [.int .i64 x] (fun r H'=>r = .bool true∧∃v',H' = .box bd 156 [.val (.slice (some ⟨b1,0,none⟩) n n),.val (.slice (some ⟨b2,0,none⟩) n n)] :: .box b1 3 (bI d.sums) :: .box b2 3 (bI d.last)::G v' (pre ++ [x])))(v0:Value):Dj Tryz.prog 104 (.box bd 156 [.val (.slice (some ⟨b1,0,none⟩) n n),.val (.slice (some ⟨b2,0,none⟩) n n)] :: .box b1 3 (bI d.sums) :: .box b2 3 (bI d.last)::G v0 []) [.val (.func (.yield l) #[] #[]),.ptr [.int .i64 f],.ptr [.val (.pointer (some ⟨bd,0,none⟩))],.ptr (gS (zn n bs))] (fun r H'=>r = .tuple []∧∃v',H' = .box bd 156 [.val (.slice (some ⟨b1,0,none⟩) n n),.val (.slice (some ⟨b2,0,none⟩) n n)] :: .box b1 3 (bI d.sums) :: .box b2 3 (bI d.last)::G v' (Ka bs d f (n+1) f)):=by
 refine Dj.body (n:=31) Ai Tryz.func104 rfl rfl rfl ?_
 refine Ah (Qp Bp (Qp Ar (Ag (AW.block ?_))))
 refine AW.Aad (fun (p:Int×List Int×Value)=>(⟨[(0,.val (.func (.yield l) #[] #[])),(1,.ptr [.int .i64 f]),(2,.ptr [.val (.pointer (some ⟨bd,0,none⟩))]),(3,.ptr (gS (zn n bs))),(5,.int .i64 p.1)],.box bd 156 [.val (.slice (some ⟨b1,0,none⟩) n n),.val (.slice (some ⟨b2,0,none⟩) n n)] :: .box b1 3 (bI d.sums) :: .box b2 3 (bI d.last)::G p.2.2 p.2.1,31⟩:St)) (fun (p:Int×List Int×Value)=>p.2.1.length≤n∧J8 bs d f (n+1-p.2.1.length) p.1=true∧Ka bs d f (n+1) f=p.2.1++Ka bs d f (n+1-p.2.1.length) p.1) (fun (p:Int×List Int×Value)=>n+1-p.2.1.length) ((f,[],v0)) ?_ (GS.weaken ⟨rfl,rfl,rfl,rfl,rfl,trivial⟩ (.refl _)) ?_
 · exact ⟨Nat.zero_le _,hc,rfl⟩
 ·
  rintro p hR
  have hpl:=hR.1
  refine (cN (uQ hR.2.1)).elim fun c ok=>?_
  refine AW.seq (AW.seq ?_)
  refine AW.regionY rfl (by kernel_rfl) ?_
  refine Qp Ho (Qp Qlv ?_)
  refine Qp (Be rfl) ?_
  refine Qp H9 ?_
  refine AOL.Aah (Ao (k:=0) (c:=.val _) Ai rfl rfl rfl rfl) rfl rfl ?_
  refine Qp A0 ?_
  refine Qp (B6 (o':=p.1.toNat) Ai rfl rfl rfl rfl rfl (ok.a0) (by have:=ok.al;omega) (bJ _)) ?_
  refine AOL.Aah (Ao (k:=2) (c:=.int .i64 (D7 d.last p.1)) Ai rfl rfl rfl (W4 ok.a0 ok.al)) rfl rfl ?_
  refine AOL.nil ?_
  refine ⟨l,rec,_,⟨i0+3,hi p.2.2 p.2.1⟩,rfl,hp.symm,rfl,hY p.2.2 p.2.1 (D7 d.last p.1) (by omega),?_⟩
  rintro _ _ ⟨rfl,v1,rfl⟩
  refine Ae (A3 (fun hc1=>?_) fun hc1=>?_)
  ·
   refine By (AW.block (AW.seq ?_))
   refine AW.draw mixed (fun H'=>_∈H'∧_∈H') ⟨(List.mem_of_getElem? (i:=0) rfl),(List.mem_of_getElem? (i:=2) rfl)⟩ (by kernel_rfl) ?_
   refine Qn 0 rfl (Qf [_]) (Qn 1 rfl Ee (Qn 2 rfl Qlv ?_))
   refine Qn 3 rfl (Be rfl) ?_
   refine Qn 4 rfl H9 ?_
   refine Qn 5 rfl (OpP.Aag (fun k=>Ao (k:=k) (c:=.val _) Ai rfl rfl rfl rfl) (fun _ h=>h.1)) ?_
   refine Qn 6 rfl A0 ?_
   refine Qn 7 rfl (B6 (o':=p.1.toNat) Ai rfl rfl rfl rfl rfl (ok.a0) (by have:=ok.al;omega) (bJ _)) ?_
   refine Qn 8 rfl (OpP.Aag (fun k=>Ao (k:=k) (c:=.int .i64 (D7 d.last p.1)) Ai rfl rfl rfl (W4 ok.a0 ok.al)) (fun _ h=>h.2)) ?_
   refine Qn 9 rfl (Af (c:=[.int .i64 c.x,.int .i64 c.y,.int .i64 c.most]) Ai rfl rfl rfl rfl rfl rfl (ok.l0) (iH ok.at_)) ?_
   refine Qn 10 rfl (Qf [Iq _,Iq _]) (Qn 11 rfl Bp (Qn 12 rfl Ar ?_))
   refine Jb.done _ _ (by kernel_rfl) ?_
   refine Ae (Ah (Qp A0 (Qp Bp (Qp A6 (Ag (A3 (fun hc2=>?_) fun hc2=>?_))))))
   ·
    refine AW.ret (A7 (Aj (A7 ?_)))
    refine ⟨.inr rfl,[],.nil,_,.refl _,?_⟩
    exact ⟨rfl,v1,congrArg (fun es:List Int=>(.box bd 156 [.val (.slice (some ⟨b1,0,none⟩) n n),.val (.slice (some ⟨b2,0,none⟩) n n)] :: .box b1 3 (bI d.sums) :: .box b2 3 (bI d.last)::G v1 es:List HO)) (wF hR.2.2 hR.2.1 ok hc2)⟩
   ·
    refine AW.skip (Bv (Ae ?_))
    refine ⟨(c.y,p.2.1 ++ [D7 d.last p.1],v1),?_,?_,GS.weaken ⟨rfl,rfl,rfl,rfl,rfl,trivial⟩ (.refl _)⟩
    ·
     have h9:=eH hR.2.1 ok hc2
     exact ⟨by simp only [List.length_append,List.length_singleton];omega,by simp only [List.length_append,List.length_singleton];rw [show n+1-(p.2.1.length+1)=n+1-p.2.1.length-1 by omega];exact h9.1,by simp only [List.length_append,List.length_singleton];exact cyc_on hR.2.2 hR.2.1 ok hc2⟩
    ·
     have h9:=eH hR.2.1 ok hc2
     simp only [List.length_append,List.length_singleton];omega
  ·
   cases hc1

end Go.Proofs.YtjedflcpjlgokaaGreatDoor
