/-
  Several texts in one: Y9, Y8, Y8b, Y8c. No condition.
-/
import Derived.Test.YtkddpedfbicbeaaGreatDoorK01
import Derived.Test.YtkddpedfbicbeaaGreatDoorK10
import Derived.Test.YtkddpedfbicbeaaGreatDoorK15
import Derived.KernelRfl
set_option linter.unusedVariables false
set_option linter.unusedSimpArgs false
namespace Go.Proofs.YtkddpedfbicbeaaGreatDoor
open Go Go.Aw
set_option maxHeartbeats 3200000
set_option maxRecDepth 20000

theorem d_asWord (e:Ex):APure Tryz.prog 164 [.agg (cE e)] (.agg (cWd (asWd e))):=by
 refine APure.body (n:=18) tok Tryz.func164 rfl rfl rfl fun H=>?_
 refine Qsr (Qp Qbe ?_)
 refine Qe (E_alloc (l:=[.bool false,.str [],.int .i64 0,.int .i64 0,.int .i64 0]) (by kernel_rfl)) ?_
 rintro _ _ ⟨b2,rfl,rfl⟩
 refine Qnn (AW.seq (Qsr (Qp Qf0 (Qp Qli (Qp Qceq (Qnn (Qif (fun hc1=>?_) fun hc1=>?_)))))))
 ·
  refine Qsr (Qp Qf5 (Qp Qf7 (Qp Qlt (Qp (Qbd [.bool _,.str _,.int .i64 _,.int .i64 _,.int .i64 _]) ?_))))
  refine Qe (E_store (k:=0) (v:=.agg _) (cs':=[.bool _,.str _,.int .i64 _,.int .i64 _,.int .i64 _]) (H2:=_::_) tok rfl rfl rfl rfl (rfl) rfl rfl rfl rfl) ?_
  rintro _ _ ⟨rfl,rfl⟩
  refine Qnn (Qrt ?_)
  refine ⟨.inr rfl,[.agg [.bool _,.str _,.int .i64 _,.int .i64 _,.int .i64 _]],.cons (.box _ _ _ 0 _ _ _ _ rfl rfl rfl rfl rfl rfl) <| .nil,.cons _ (.refl _),?_⟩
  exact Eq.trans rfl (congrArg (fun q:Wd=>AV.agg (cWd q)) (asWd_1 hc1)).symm
 ·
  refine Qst (Qsr (Qp Qf0 (Qp Qli (Qp Qf2 (Qp Qli (Qp Qf3 (Qp Qli (Qp (Qbd [.int .i64 _,.int .i64 _,.int .i64 _]) (Qp (Qbd [.bool _,.str _,.int .i64 _,.int .i64 _,.int .i64 _]) ?_)))))))))
  refine Qe (E_store (k:=0) (v:=.agg _) (cs':=[.bool _,.str _,.int .i64 _,.int .i64 _,.int .i64 _]) (H2:=_::_) tok rfl rfl rfl rfl (rfl) rfl rfl rfl rfl) ?_
  rintro _ _ ⟨rfl,rfl⟩
  refine Qnn (AW.ret ?_)
  refine ⟨.inr rfl,[.agg [.bool _,.str _,.int .i64 _,.int .i64 _,.int .i64 _]],.cons (.box _ _ _ 0 _ _ _ _ rfl rfl rfl rfl rfl rfl) <| .nil,.cons _ (.refl _),?_⟩
  exact Eq.trans rfl (congrArg (fun q:Wd=>AV.agg (cWd q)) (asWd_2 hc1)).symm
theorem d_of (m:Nat)(w:Wm)(hw:wOK w)(x:Wd)(R:List HO):ACall Tryz.prog 163 (.kmap m (wE w)::R) [.val (.map (some m)),.agg (cWd x)] (fun r H'=>r = .agg (cWd (ofS' w x))∧H' = .kmap m (wE w)::R):=by
 refine ACall.body (n:=17) tok Tryz.func163 rfl rfl rfl ?_
 refine Qsr ?_
 refine Qe (E_box (v:=.agg _) (cs:=[.bool _,.str _,.int .i64 _,.int .i64 _,.int .i64 _]) rfl rfl (rfl)) ?_
 rintro _ _ ⟨b3,rfl,rfl⟩
 refine Qe (E_alloc (l:=[.bool false,.str [],.int .i64 0,.int .i64 0,.int .i64 0]) (by kernel_rfl)) ?_
 rintro _ _ ⟨b4,rfl,rfl⟩
 refine Qnn (AW.block ?_)
 refine AW.loopS (fun (p:Nat×Wd)=>(⟨[(0,.val (.map (some m))),(3,.val (.pointer (some ⟨b3,0,none⟩))),(4,.val (.pointer (some ⟨b4,0,none⟩)))],.box b4 214 [.bool false,.str [],.int .i64 0,.int .i64 0,.int .i64 0] :: .box b3 214 (cWd p.2) :: .kmap m (wE w)::R,17⟩:St)) (fun (p:Nat×Wd)=>wInv w p.1 p.2∧ofS' w x=ofGo w p.1 p.2) (fun (p:Nat×Wd)=>p.1) ((w.length,x)) ?_ (GS.weaken ⟨rfl,rfl,rfl,trivial⟩ (.refl _)) ?_
 · exact ⟨wInv_start w x,rfl⟩
 ·
  rintro p hR
  refine AW.block (Qsr (Qp Qmv ?_))
  refine AOL.pk (P_load_box_agg (k:=1) (l:=[.bool _,.str _,.int .i64 _,.int .i64 _,.int .i64 _]) tok rfl rfl rfl rfl rfl) rfl rfl ?_
  refine AOL.pk (P_klook2 (i:=2) (eq:=eqWd p.2) tok rfl rfl rfl rfl rfl (by kernel_rfl) rfl rfl (rfl) (wE_eq p.2 w) (look_w p.2 w) (has_w p.2 w)) rfl rfl ?_
  refine Qp Qmu ?_
  refine Qp (P_extract (v:=.agg [.bool _,.str _,.int .i64 _,.int .i64 _,.int .i64 _]) rfl rfl) ?_
  refine Qp Qxb ?_
  refine Qe (E_alloc (l:=[.bool false,.str [],.int .i64 0,.int .i64 0,.int .i64 0]) (by kernel_rfl)) ?_
  rintro _ _ ⟨b5,rfl,rfl⟩
  refine Qe (E_store (k:=0) (v:=.agg _) (cs':=[.bool _,.str _,.int .i64 _,.int .i64 _,.int .i64 _]) (H2:=_::_::_::_::_) tok rfl rfl rfl rfl (rfl) rfl rfl rfl rfl) ?_
  rintro _ _ ⟨rfl,rfl⟩
  refine Qp Qab ?_
  refine AOL.ghost (GS.freeze (t:=5) 0 rfl rfl) ?_
  refine Qnn (AW.seq (Qsr (Qp Qmb (Qp Qnt (Qnn (Qif (fun hc1=>?_) fun hc1=>?_))))))
  ·
   have hnn:=not_some hc1
   refine Qsr ?_
   refine AOL.pk (P_load_box_agg (k:=1) (l:=[.bool _,.str _,.int .i64 _,.int .i64 _,.int .i64 _]) tok rfl rfl rfl rfl rfl) rfl rfl ?_
   refine Qe (E_store (k:=0) (v:=.agg _) (cs':=[.bool _,.str _,.int .i64 _,.int .i64 _,.int .i64 _]) (H2:=_::_::_::_) tok rfl rfl rfl rfl (rfl) rfl rfl rfl rfl) ?_
   rintro _ _ ⟨rfl,rfl⟩
   refine Qnn (Qrt (blkR (thenR (blkR ?_))))
   refine ⟨.inr rfl,[.agg [.bool _,.str _,.int .i64 _,.int .i64 _,.int .i64 _]],.cons (.box _ _ _ 0 _ _ _ _ rfl rfl rfl rfl rfl rfl) <| .nil,_,.cons _ (.cons _ (.refl _)),?_⟩
   exact ⟨congrArg (fun q:Wd=>AV.agg (cWd q)) ((hR.2.trans (of_none hnn)).symm),rfl⟩
  ·
   have hyy:=is_some (d:=wd0) hc1
   have hst:=wInv_step hw hR.1 hyy
   refine Qst (AW.region (Qp (Qlg [.bool _,.str _,.int .i64 _,.int .i64 _,.int .i64 _]) ?_))
   refine Qe (E_store (k:=1) (v:=.agg _) (cs':=[.bool _,.str _,.int .i64 _,.int .i64 _,.int .i64 _]) (H2:=_::_::_::_) tok rfl rfl rfl rfl (rfl) rfl rfl rfl rfl) ?_
   rintro _ _ ⟨rfl,rfl⟩
   refine AOL.nil (blkN (thenN ?_))
   refine ⟨(p.1-1,(wget w p.2).getD wd0),?_,?_,GS.weaken ⟨rfl,rfl,rfl,trivial⟩ (.refl _)⟩
   · exact ⟨hst.2,hR.2.trans (of_some hst.1 hyy)⟩
   · have:=hst.1;simp only;omega
theorem d_of_at (m:Nat)(w:Wm)(hw:wOK w)(x:Wd):∀(H:List HO) (k:Nat),H[k]? = some (.kmap m (wE w))→ACall Tryz.prog 163 H [.val (.map (some m)),.agg (cWd x)] fun r' H'=>r' = .agg (cWd (ofS' w x))∧H'=H:=
 ACall.atFront (d_of m w hw x)
theorem d_str2 (bw m:Nat)(w:Wm)(x y:Wd)(hx:wget w x=none)(hy:wget w y=none)(R:List HO):ACall Tryz.prog 165 (.box bw 156 [.val (.map (some m))] :: .kmap m (wE w)::R) [.agg (cWd x),.agg (cWd y),.val (.pointer (some ⟨bw,0,none⟩))] (fun r H'=>r = .bool (eqAB w x y).2∧H' = .box bw 156 [.val (.map (some m))] :: .kmap m (wE (eqAB w x y).1)::R):=by
 refine ACall.body (n:=25) tok Tryz.func165 rfl rfl rfl ?_
 refine Qsr ?_
 refine Qe (E_box (v:=.agg _) (cs:=[.bool _,.str _,.int .i64 _,.int .i64 _,.int .i64 _]) rfl rfl (rfl)) ?_
 rintro _ _ ⟨b3,rfl,rfl⟩
 refine Qe (E_box (v:=.agg _) (cs:=[.bool _,.str _,.int .i64 _,.int .i64 _,.int .i64 _]) rfl rfl (rfl)) ?_
 rintro _ _ ⟨b4,rfl,rfl⟩
 refine Qp Qab (Qnn ?_)
 refine AW.cut (fun (p:Wd×Wd)=>(⟨[(2,.val (.pointer (some ⟨bw,0,none⟩))),(3,.val (.pointer (some ⟨b3,0,none⟩))),(4,.val (.pointer (some ⟨b4,0,none⟩)))],.box b4 214 (cWd p.2) :: .box b3 214 (cWd p.1) :: .box bw 156 [.val (.map (some m))] :: .kmap m (wE w)::R,25⟩:St)) (fun (p:Wd×Wd)=>wget w p.1=none∧eqAB w x y=(w ++ [p],true)) ?_ ?_
 ·
  refine AW.block (Qsr ?_)
  refine AOL.pk (P_load_box_agg (k:=1) (l:=[.bool _,.str _,.int .i64 _,.int .i64 _,.int .i64 _]) tok rfl rfl rfl rfl rfl) rfl rfl ?_
  refine AOL.pk (P_load_box_agg (k:=0) (l:=[.bool _,.str _,.int .i64 _,.int .i64 _,.int .i64 _]) tok rfl rfl rfl rfl rfl) rfl rfl ?_
  refine Qp (P_eql_agg (r:=eqW x y) tok rfl rfl rfl rfl (eqWd_is x y)) ?_
  refine Qp Qab (Qnn (Qif (fun hc1=>?_) fun hc1=>?_))
  ·
   refine Qsr (Qp Qab (Qnn (AW.ret (blkR (thenR ?_)))))
   refine ⟨.inr rfl,[.bool _],.cons (.tmp _ _ rfl) <| .nil,_,.cons _ (.cons _ (.refl _)),?_⟩
   exact ⟨congrArg (fun q:Wm×Bool=>AV.bool q.2) (eqAB_1 hc1).symm,congrArg (fun q:Wm×Bool=>(.box bw 156 [.val (.map (some m))] :: .kmap m (wE q.1)::R:List HO)) (eqAB_1 hc1).symm⟩
  ·
   refine Qsr (Qp Qfv ?_)
   refine AOL.pk (P_load_box (k:=1) (c:=.bool _) tok rfl rfl rfl rfl) rfl rfl ?_
   refine Qp Qmb (Qg [] Qw Qfv ?_)
   refine AOL.gk (y:=.bool _) _ [(14,_)] rfl (EntL.all ⟨Ent.self _ _,trivial⟩) (fun hG=>P_load_box (k:=0) (c:=.bool _) tok rfl rfl rfl rfl) rfl rfl ?_
   refine Qp Qpa (Qp Qab (Qnn (Qif (fun hc2=>?_) fun hc2=>?_)))
   ·
    refine Qsr (Qp Qab (Qnn (AW.ret (blkR (thenR ?_)))))
    refine ⟨.inr rfl,[.bool _],.cons (.tmp _ _ rfl) <| .nil,_,.cons _ (.cons _ (.refl _)),?_⟩
    exact ⟨congrArg (fun q:Wm×Bool=>AV.bool q.2) (eqAB_2 hc1 hc2).symm,congrArg (fun q:Wm×Bool=>(.box bw 156 [.val (.map (some m))] :: .kmap m (wE q.1)::R:List HO)) (eqAB_2 hc1 hc2).symm⟩
   ·
    refine Qsr (Qp Qfv ?_)
    refine AOL.pk (P_load_box (k:=1) (c:=.bool _) tok rfl rfl rfl rfl) rfl rfl ?_
    refine Qp Qab (Qnn (Qif (fun hc3=>?_) fun hc3=>?_))
    ·
     refine AW.region ?_
     refine AOL.pk (P_load_box_agg (k:=0) (l:=[.bool _,.str _,.int .i64 _,.int .i64 _,.int .i64 _]) tok rfl rfl rfl rfl rfl) rfl rfl ?_
     refine AOL.pk (P_load_box_agg (k:=1) (l:=[.bool _,.str _,.int .i64 _,.int .i64 _,.int .i64 _]) tok rfl rfl rfl rfl rfl) rfl rfl ?_
     refine Qe (E_store (k:=1) (v:=.agg _) (cs':=[.bool _,.str _,.int .i64 _,.int .i64 _,.int .i64 _]) (H2:=_::_::_::_::_) tok rfl rfl rfl rfl (rfl) rfl rfl rfl rfl) ?_
     rintro _ _ ⟨rfl,rfl⟩
     refine Qe (E_store (k:=0) (v:=.agg _) (cs':=[.bool _,.str _,.int .i64 _,.int .i64 _,.int .i64 _]) (H2:=_::_::_::_::_) tok rfl rfl rfl rfl (rfl) rfl rfl rfl rfl) ?_
     rintro _ _ ⟨rfl,rfl⟩
     refine AOL.nil (blkN (thenN ?_))
     refine ⟨(y,x),?_,GS.weaken ⟨rfl,rfl,rfl,trivial⟩ (.refl _)⟩
     exact ⟨hy,eqAB_3 hc1 hc2 hc3⟩
    ·
     refine AW.skip (blkN (thenN ?_))
     refine ⟨(x,y),?_,GS.weaken ⟨rfl,rfl,rfl,trivial⟩ (.refl _)⟩
     exact ⟨hx,eqAB_4 hc1 hc2 hc3⟩
 ·
  rintro p hR
  refine Qsr ?_
  refine AOL.pk (P_load_box (k:=2) (c:=.val _) tok rfl rfl rfl rfl) rfl rfl ?_
  refine AOL.pk (P_load_box_agg (k:=1) (l:=[.bool _,.str _,.int .i64 _,.int .i64 _,.int .i64 _]) tok rfl rfl rfl rfl rfl) rfl rfl ?_
  refine AOL.pk (P_load_box_agg (k:=0) (l:=[.bool _,.str _,.int .i64 _,.int .i64 _,.int .i64 _]) tok rfl rfl rfl rfl rfl) rfl rfl ?_
  refine Qe (E_kmapAdd (i:=3) (eq:=eqWd p.1) (H2:=_::_::_::_::_) tok rfl rfl rfl rfl rfl rfl rfl (rfl) (wE_eq p.1 w) rfl (new_w hR.1) rfl) ?_
  rintro _ _ ⟨rfl,rfl⟩
  refine Qns (Qp Qab (Qnn (AW.ret ?_)))
  refine ⟨.inr rfl,[.bool _],.cons (.tmp _ _ rfl) <| .nil,_,.cons _ (.cons _ (.refl _)),?_⟩
  exact ⟨congrArg (fun q:Wm×Bool=>AV.bool q.2) hR.2.symm,(congrArg (fun e=>(.box bw 156 [.val (.map (some m))] :: .kmap m e::R:List HO)) (wE_snoc w p).symm).trans (congrArg (fun q:Wm×Bool=>(.box bw 156 [.val (.map (some m))] :: .kmap m (wE q.1)::R:List HO)) hR.2.symm)⟩
theorem d_str3 (x y:Wd):APure Tryz.prog 166 [.agg (cWd x),.agg (cWd y)] (.bool (!(eqW x y))):=by
 refine APure.body (n:=8) tok Tryz.func166 rfl rfl rfl fun H=>?_
 refine Qsr (Qp (Qbx [.bool _,.str _,.int .i64 _,.int .i64 _,.int .i64 _]) (Qp (Qbx [.bool _,.str _,.int .i64 _,.int .i64 _,.int .i64 _]) (Qp Qab (Qns (Qp (Qlg [.bool _,.str _,.int .i64 _,.int .i64 _,.int .i64 _]) (Qp (Qlg [.bool _,.str _,.int .i64 _,.int .i64 _,.int .i64 _]) ?_))))))
 refine Qp (P_neq_agg (r:=eqW x y) tok rfl rfl rfl rfl (eqWd_is x y)) ?_
 refine Qp Qab (Qnn (AW.ret ?_))
 refine Qr (.bool _) ?_
 rfl
theorem d_eachT (T:List Sc)(V:List Va)(l:List Lit)(hlk:LOK T V l)(bw m:Nat)(R:List HO):ACall Tryz.prog 162 (.box bw 156 [.val (.map (some m))] :: .kmap m (wE [])::R) [.bool true,.fn (.func 165) [] [.val (.pointer (some ⟨bw,0,none⟩))],.ptr [.sl 9 (l.map cLit)],.ptr (cScene T V),.val (.pointer (some ⟨bw,0,none⟩))] (fun r H'=>r = .bool (eqGo T V l []).2∧H' = .box bw 156 [.val (.map (some m))] :: .kmap m (wE (eqGo T V l []).1)::R):=by
 refine ACall.body (n:=54) tok Tryz.func162 rfl rfl rfl ?_
 refine Qsr (Qp Qab (Qnn (AW.seq (Qsr (Qp Qls ?_)))))
 refine Qp (P_len_sl (n:=l.length) tok rfl rfl rfl (by simp)) ?_
 refine Qp Qmi (Qnn (AW.block ?_))
 refine AW.sllen 10 rfl fun hlen=>?_
 simp only [List.length_map,maxLen] at hlen
 refine AW.loopS (fun (p:Nat×Wm)=>(⟨[(0,.bool true),(1,.fn (.func 165) [] [.val (.pointer (some ⟨bw,0,none⟩))]),(2,.ptr [.sl 9 (l.map cLit)]),(3,.ptr (cScene T V)),(4,.val (.pointer (some ⟨bw,0,none⟩))),(10,.sl 9 (l.map cLit)),(11,.int .i64 l.length),(12,.int .i64 (p.1:Int))],.box bw 156 [.val (.map (some m))] :: .kmap m (wE p.2)::R,54⟩:St)) (fun (p:Nat×Wm)=>p.1≤l.length∧eqGo T V l []=eqGo T V (l.drop p.1) p.2∧wOK p.2) (fun (p:Nat×Wm)=>l.length-p.1) ((0,[])) ?_ (GS.weaken ⟨rfl,rfl,rfl,rfl,rfl,rfl,rfl,rfl,trivial⟩ (.refl _)) ?_
 · exact ⟨Nat.zero_le _,rfl,wOK_nil⟩
 ·
  rintro p hR
  have hwp:=hR.2.2
  refine Qsr (Qp Qclt (Qnn (AW.seq (Qif (fun hc1=>?_) fun hc1=>?_))))
  ·
   obtain ⟨c,hc⟩:=get_lt hc1
   have hlt:=get_lt' hc
   have hcm:=List.mem_of_getElem? hc
   have hck:=(hlk c hcm).1
   have hcs:=Nat.le_trans (hlk c hcm).2 (by decide:64≤1048576)
   have hdc:=drop_cons hc
   have hR2:=hR.2.1
   rw [hdc] at hR2
   refine Qst (AW.seq (AW.block (Qsr ?_)))
   refine Qp (P_indexAddr (c:=[.int .i64 _,_,.int .i64 _,.int .i64 _,.int .i64 _,.int .i64 _,.int .i64 _,.str _,.bool _]) tok rfl rfl rfl rfl rfl rfl (by omega) (map_at hc)) ?_
   refine Qp (Qlg [.int .i64 _,_,.int .i64 _,.int .i64 _,.int .i64 _,.int .i64 _,.int .i64 _,.str _,.bool _]) ?_
   refine Qe (E_alloc (l:=[.int .i64 0,.sl 8 [],.int .i64 0,.int .i64 0,.int .i64 0,.int .i64 0,.int .i64 0,.str [],.bool false]) (by kernel_rfl)) ?_
   rintro _ _ ⟨b9,rfl,rfl⟩
   refine Qe (E_store (k:=0) (v:=.agg _) (cs':=[.int .i64 _,_,.int .i64 _,.int .i64 _,.int .i64 _,.int .i64 _,.int .i64 _,.str _,.bool _]) (H2:=_::_::_::_) tok rfl rfl rfl rfl (rfl) rfl rfl rfl rfl) ?_
   rintro _ _ ⟨rfl,rfl⟩
   refine AOL.ghost (GS.freeze (t:=9) 0 rfl rfl) ?_
   refine Qnn (AW.seq ?_)
   refine AW.drawI mixed (fun j H'=>(j==18||j==25||j==26||j==33)=true→_∈H'∧_∈H') (fun _ _=>⟨(List.mem_of_getElem? (i:=0) rfl),(List.mem_of_getElem? (i:=1) rfl)⟩) (by kernel_rfl) ?_
   refine CanonI.pure _ _ 0 _ _ rfl (by kernel_rfl) (by kernel_rfl) rfl (.run rfl (P_fieldAddr_ptr (cs':=[.bool _]) tok rfl rfl rfl rfl rfl rfl)) ?_
   refine CanonI.pure _ _ 1 _ _ rfl (by kernel_rfl) (by kernel_rfl) rfl (.run rfl (P_load_ptr (c:=.bool _) tok rfl rfl rfl)) ?_
   refine CanonI.pure _ _ 2 _ _ rfl (by kernel_rfl) (by kernel_rfl) rfl (.run rfl (P_move (v:=.bool _) rfl)) ?_
   refine CanonI.pure _ _ 3 _ _ rfl (by kernel_rfl) (by kernel_rfl) rfl (.run rfl (P_neq_bool tok rfl rfl rfl rfl)) ?_
   refine CanonI.pure _ _ 4 _ _ rfl (by kernel_rfl) (by kernel_rfl) rfl (.run rfl (P_move (v:=.bool _) rfl)) ?_
   refine CanonI.pure _ _ 5 _ _ rfl (by kernel_rfl) (by kernel_rfl) rfl (.opt _ (.agg _) [] rfl (EntL.all trivial) (fun hG=>P_load_ptr_agg (l:=[_,_]) tok rfl rfl rfl rfl rfl) rfl) ?_
   refine CanonI.pure _ _ 6 _ _ rfl (by kernel_rfl) (by kernel_rfl) rfl (.opt _ (.ptr _) [] rfl (EntL.all trivial) (fun hG=>P_fieldAddr_ptr (cs':=[.int .i64 _,_,.int .i64 _,.int .i64 _,.int .i64 _,.int .i64 _,.int .i64 _,.str _,.bool _]) tok rfl rfl rfl rfl rfl rfl) rfl) ?_
   refine CanonI.pure _ _ 7 _ _ rfl (by kernel_rfl) (by kernel_rfl) rfl (.opt _ (.agg _) [(22,_)] rfl (EntL.all ⟨Ent.self _ _,trivial⟩) (fun hG=>P_load_ptr_agg (l:=[.int .i64 _,_,.int .i64 _,.int .i64 _,.int .i64 _,.int .i64 _,.int .i64 _,.str _]) tok rfl rfl rfl rfl rfl) rfl) ?_
   refine CanonI.pure _ _ 8 _ _ rfl (by kernel_rfl) (by kernel_rfl) rfl (.opt _ (.bool _) [(21,_),(23,_)] rfl (EntL.all ⟨Ent.self _ _,Ent.self _ _,trivial⟩) (fun hG=>P_callf (by kernel_rfl) rfl rfl (d_texts T V c.cond hck)) rfl) ?_
   refine CanonI.pure _ _ 9 _ _ rfl (by kernel_rfl) (by kernel_rfl) rfl (.run rfl (P_pick_and rfl rfl rfl)) ?_
   refine CanonI.pure _ _ 10 _ _ rfl (by kernel_rfl) (by kernel_rfl) rfl (.run rfl (P_move (v:=.bool _) rfl)) ?_
   refine CanonI.pure _ _ 11 _ _ rfl (by kernel_rfl) (by kernel_rfl) rfl (.opt _ (.agg _) [] rfl (EntL.all trivial) (fun hG=>P_load_ptr_agg (l:=[_,_]) tok rfl rfl rfl rfl rfl) rfl) ?_
   refine CanonI.pure _ _ 12 _ _ rfl (by kernel_rfl) (by kernel_rfl) rfl (.opt _ (.ptr _) [] rfl (EntL.all trivial) (fun hG=>P_fieldAddr_ptr (cs':=[.int .i64 _,_,.int .i64 _,.int .i64 _,.int .i64 _,.int .i64 _,.int .i64 _,.str _,.bool _]) tok rfl rfl rfl rfl rfl rfl) rfl) ?_
   refine CanonI.pure _ _ 13 _ _ rfl (by kernel_rfl) (by kernel_rfl) rfl (.opt _ (.agg _) [(28,_)] rfl (EntL.all ⟨Ent.self _ _,trivial⟩) (fun hG=>P_load_ptr_agg (l:=[.int .i64 _,_,.int .i64 _,.int .i64 _,.int .i64 _,.int .i64 _,.int .i64 _,.str _]) tok rfl rfl rfl rfl rfl) rfl) ?_
   refine CanonI.pure _ _ 14 _ _ rfl (by kernel_rfl) (by kernel_rfl) rfl (.opt _ (.bool _) [(27,_),(29,_)] rfl (EntL.all ⟨Ent.self _ _,Ent.self _ _,trivial⟩) (fun hG=>P_callf (by kernel_rfl) rfl rfl (d_simple T V c.cond hck hcs)) rfl) ?_
   refine CanonI.pure _ _ 15 _ _ rfl (by kernel_rfl) (by kernel_rfl) rfl (.run rfl (P_pick_and rfl rfl rfl)) ?_
   refine CanonI.pure _ _ 16 _ _ rfl (by kernel_rfl) (by kernel_rfl) rfl (.run rfl (P_move (v:=.bool _) rfl)) ?_
   refine CanonI.pure _ _ 17 _ _ rfl (by kernel_rfl) (by kernel_rfl) rfl (.opt _ (.fn _ _ _) [] rfl (EntL.all trivial) (fun hG=>P_move (v:=.fn _ _ _) rfl) rfl) ?_
   refine CanonI.pure _ _ 18 _ _ rfl (by kernel_rfl) (by kernel_rfl) rfl (.opt _ (.val _) [] rfl (EntL.all trivial) (fun hG=>OpP.mem (fun k=>P_load_box (k:=k) (c:=.val _) tok rfl rfl rfl rfl) (fun _ h=>(h rfl).1)) rfl) ?_
   refine CanonI.pure _ _ 19 _ _ rfl (by kernel_rfl) (by kernel_rfl) rfl (.opt _ (.ptr _) [] rfl (EntL.all trivial) (fun hG=>P_fieldAddr_ptr (cs':=[.int .i64 _,_,.int .i64 _,.int .i64 _,.int .i64 _,.int .i64 _,.int .i64 _,.str _,.bool _]) tok rfl rfl rfl rfl rfl rfl) rfl) ?_
   refine CanonI.pure _ _ 20 _ _ rfl (by kernel_rfl) (by kernel_rfl) rfl (.opt _ (.ptr _) [(35,_)] rfl (EntL.all ⟨Ent.self _ _,trivial⟩) (fun hG=>P_fieldAddr_ptr (cs':=[_,.int .i64 _,.int .i64 _,.int .i64 _,.int .i64 _,.int .i64 _,.str _,.bool _]) tok rfl rfl rfl rfl rfl rfl) rfl) ?_
   refine CanonI.pure _ _ 21 _ _ rfl (by kernel_rfl) (by kernel_rfl) rfl (.opt _ (.sl _ _) [(36,_)] rfl (EntL.all ⟨Ent.self _ _,trivial⟩) (fun hG=>P_load_ptr (c:=.sl _ _) tok rfl rfl rfl) rfl) ?_
   refine CanonI.pure _ _ 22 _ _ rfl (by kernel_rfl) (by kernel_rfl) rfl (.opt _ (.ptr _) [(37,_)] rfl (EntL.all ⟨Ent.self _ _,trivial⟩) (fun hG=>P_indexAddr (c:=[.int .i64 _,_,.int .i64 _,.int .i64 _,.int .i64 _,.int .i64 _,.int .i64 _,.str _]) tok rfl rfl rfl rfl rfl rfl (by decide) (arg0_at (Nat.lt_of_succ_lt (cmp_two hck (texts_cmp (stringy_texts (g1' hG))))))) rfl) ?_
   refine CanonI.pure _ _ 23 _ _ rfl (by kernel_rfl) (by kernel_rfl) rfl (.opt _ (.agg _) [(38,_)] rfl (EntL.all ⟨Ent.self _ _,trivial⟩) (fun hG=>P_load_ptr_agg (l:=[.int .i64 _,_,.int .i64 _,.int .i64 _,.int .i64 _,.int .i64 _,.int .i64 _,.str _]) tok rfl rfl rfl rfl rfl) rfl) ?_
   refine CanonI.pure _ _ 24 _ _ rfl (by kernel_rfl) (by kernel_rfl) rfl (.opt _ (.agg _) [(39,_)] rfl (EntL.all ⟨Ent.self _ _,trivial⟩) (fun hG=>P_callf (by kernel_rfl) rfl rfl (d_asWord _)) rfl) ?_
   refine CanonI.pure _ _ 25 _ _ rfl (by kernel_rfl) (by kernel_rfl) rfl (.opt _ (.agg _) [(34,_),(40,_)] rfl (EntL.all ⟨Ent.self _ _,Ent.self _ _,trivial⟩) (fun hG=>P_callK (ho:=.kmap m (wE p.2)) (by kernel_rfl) rfl rfl (d_of_at m p.2 hwp (asWd (arg0 c.cond))) (fun _ h=>(h rfl).2)) rfl) ?_
   refine CanonI.pure _ _ 26 _ _ rfl (by kernel_rfl) (by kernel_rfl) rfl (.opt _ (.val _) [] rfl (EntL.all trivial) (fun hG=>OpP.mem (fun k=>P_load_box (k:=k) (c:=.val _) tok rfl rfl rfl rfl) (fun _ h=>(h rfl).1)) rfl) ?_
   refine CanonI.pure _ _ 27 _ _ rfl (by kernel_rfl) (by kernel_rfl) rfl (.opt _ (.ptr _) [] rfl (EntL.all trivial) (fun hG=>P_fieldAddr_ptr (cs':=[.int .i64 _,_,.int .i64 _,.int .i64 _,.int .i64 _,.int .i64 _,.int .i64 _,.str _,.bool _]) tok rfl rfl rfl rfl rfl rfl) rfl) ?_
   refine CanonI.pure _ _ 28 _ _ rfl (by kernel_rfl) (by kernel_rfl) rfl (.opt _ (.ptr _) [(43,_)] rfl (EntL.all ⟨Ent.self _ _,trivial⟩) (fun hG=>P_fieldAddr_ptr (cs':=[_,.int .i64 _,.int .i64 _,.int .i64 _,.int .i64 _,.int .i64 _,.str _,.bool _]) tok rfl rfl rfl rfl rfl rfl) rfl) ?_
   refine CanonI.pure _ _ 29 _ _ rfl (by kernel_rfl) (by kernel_rfl) rfl (.opt _ (.sl _ _) [(44,_)] rfl (EntL.all ⟨Ent.self _ _,trivial⟩) (fun hG=>P_load_ptr (c:=.sl _ _) tok rfl rfl rfl) rfl) ?_
   refine CanonI.pure _ _ 30 _ _ rfl (by kernel_rfl) (by kernel_rfl) rfl (.opt _ (.ptr _) [(45,_)] rfl (EntL.all ⟨Ent.self _ _,trivial⟩) (fun hG=>P_indexAddr (c:=[.int .i64 _,_,.int .i64 _,.int .i64 _,.int .i64 _,.int .i64 _,.int .i64 _,.str _]) tok rfl rfl rfl rfl rfl rfl (by decide) (arg1_at (cmp_two hck (texts_cmp (stringy_texts (g1' hG)))))) rfl) ?_
   refine CanonI.pure _ _ 31 _ _ rfl (by kernel_rfl) (by kernel_rfl) rfl (.opt _ (.agg _) [(46,_)] rfl (EntL.all ⟨Ent.self _ _,trivial⟩) (fun hG=>P_load_ptr_agg (l:=[.int .i64 _,_,.int .i64 _,.int .i64 _,.int .i64 _,.int .i64 _,.int .i64 _,.str _]) tok rfl rfl rfl rfl rfl) rfl) ?_
   refine CanonI.pure _ _ 32 _ _ rfl (by kernel_rfl) (by kernel_rfl) rfl (.opt _ (.agg _) [(47,_)] rfl (EntL.all ⟨Ent.self _ _,trivial⟩) (fun hG=>P_callf (by kernel_rfl) rfl rfl (d_asWord _)) rfl) ?_
   refine CanonI.pure _ _ 33 _ _ rfl (by kernel_rfl) (by kernel_rfl) rfl (.opt _ (.agg _) [(42,_),(48,_)] rfl (EntL.all ⟨Ent.self _ _,Ent.self _ _,trivial⟩) (fun hG=>P_callK (ho:=.kmap m (wE p.2)) (by kernel_rfl) rfl rfl (d_of_at m p.2 hwp (asWd (arg1 c.cond))) (fun _ h=>(h rfl).2)) rfl) ?_
   refine CanonI.phaseg (fun _ _=>True) _ _ 34 _ _ [(41,_),(49,_),(33,_)] _ _ rfl (by kernel_rfl) rfl rfl (EntL.all ⟨Ent.self _ _,Ent.self _ _,Ent.self _ _,trivial⟩) (fun hG=>E_call (by kernel_rfl) rfl rfl rfl (ACall.front2 (R:=_) 1 0 rfl rfl rfl ((d_str2 bw m p.2 (ofS' p.2 (asWd (arg0 c.cond))) (ofS' p.2 (asWd (arg1 c.cond))) (ofS_fresh hwp _) (ofS_fresh hwp _) _).mono' (fun r K h=>⟨h.1,h.2.trans (congrArg (fun w=>(.box bw 156 [.val (.map (some m))] :: .kmap m (wE w)::R:List HO)) (wNext_yes (stringy_T (g1' hG))))⟩)))) (fun hG=>congrArg (fun w=>(.box bw 156 [.val (.map (some m))] :: .kmap m (wE w)::R:List HO)) (wNext_no (stringy_F (g1n hG))).symm) (fun j _ _ hr _ _ hj=>?_) (fun _=>trivial) ?_
   ·
    rcases (by simpa only [Bool.or_eq_true,beq_iff_eq,or_assoc] using hj:j=18∨j=25∨j=26∨j=33) with rfl | rfl | rfl | rfl
    · exact Bool.noConfusion ((show reachB _ 7 _ 18=true by kernel_rfl).symm.trans hr)
    · exact Bool.noConfusion ((show reachB _ 7 _ 25=true by kernel_rfl).symm.trans hr)
    · exact Bool.noConfusion ((show reachB _ 7 _ 26=true by kernel_rfl).symm.trans hr)
    · exact Bool.noConfusion ((show reachB _ 7 _ 33=true by kernel_rfl).symm.trans hr)
   refine CanonI.pure _ _ 35 _ _ rfl (by kernel_rfl) (by kernel_rfl) rfl (.opt _ (.bool _) [(50,_)] rfl (EntL.all ⟨Ent.self _ _,trivial⟩) (fun hG=>P_not rfl) rfl) ?_
   refine CanonI.pure _ _ 36 _ _ rfl (by kernel_rfl) (by kernel_rfl) rfl (.run rfl (P_pick_and rfl rfl rfl)) ?_
   refine CanonI.done _ _ (by kernel_rfl) ?_
   refine thenN (Qif (fun hc2=>?_) fun hc2=>?_)
   ·
    have hs2:=Bool.and_eq_true_iff.mp hc2
    have hst:=stringy_T hs2.1
    have hfin:=hR2.trans (eqGo_fail hst ((Bool.not_eq_true' _).mp hs2.2))
    have hf1:(eqGo T V l []).1=(eqStep p.2 c).1:=by rw [hfin]
    refine Qsr (Qp Qab (Qnn (AW.ret (blkR (thenR (thenR (blkR (thenR ?_))))))))
    refine ⟨.inr rfl,[.bool _],.cons (.tmp _ _ rfl) <| .nil,_,.refl _,?_⟩
    exact ⟨congrArg (fun q:Wm×Bool=>AV.bool q.2) hfin.symm,congrArg (fun w=>(.box bw 156 [.val (.map (some m))] :: .kmap m (wE w)::R:List HO)) ((wNext_yes hst).symm.trans hf1.symm)⟩
   ·
    refine AW.skip (blkN (thenN (AW.region (Qp Qad (Qp Qmi (Qnn ?_))))))
    refine ⟨(p.1+1,wNext T V p.2 c),?_,?_,GS.weaken ⟨rfl,rfl,rfl,rfl,rfl,rfl,rfl,rfl,trivial⟩ (.refl _)⟩
    · exact ⟨hlt,hR2.trans (eqGo_go2 hc2),wNext_ok hwp c⟩
    · simp only;omega
  ·
   have hde:=get_end hc1
   have hR2:=hR.2.1
   rw [hde] at hR2
   refine AW.exit ?_
   refine thenE (thenE (blkHit (thenN (Qsr (Qp Qab (Qnn (AW.ret ?_)))))))
   refine ⟨.inr rfl,[.bool _],.cons (.tmp _ _ rfl) <| .nil,_,.refl _,?_⟩
   exact ⟨congrArg (fun q:Wm×Bool=>AV.bool q.2) hR2.symm,congrArg (fun q:Wm×Bool=>(.box bw 156 [.val (.map (some m))] :: .kmap m (wE q.1)::R:List HO)) hR2.symm⟩
theorem d_eachF (T:List Sc)(V:List Va)(l:List Lit)(hlk:LOK T V l)(bw m:Nat)(w:Wm)(hwp:wOK w)(R:List HO):ACall Tryz.prog 162 (.box bw 156 [.val (.map (some m))] :: .kmap m (wE w)::R) [.bool false,.fn (.func 166) [] [],.ptr [.sl 9 (l.map cLit)],.ptr (cScene T V),.val (.pointer (some ⟨bw,0,none⟩))] (fun r H'=>r = .bool (neGo T V w l)∧H' = .box bw 156 [.val (.map (some m))] :: .kmap m (wE w)::R):=by
 refine ACall.body (n:=54) tok Tryz.func162 rfl rfl rfl ?_
 refine Qsr (Qp Qab (Qnn (AW.seq (Qsr (Qp Qls ?_)))))
 refine Qp (P_len_sl (n:=l.length) tok rfl rfl rfl (by simp)) ?_
 refine Qp Qmi (Qnn (AW.block ?_))
 refine AW.sllen 10 rfl fun hlen=>?_
 simp only [List.length_map,maxLen] at hlen
 refine AW.loopS (fun (p:Nat)=>(⟨[(0,.bool false),(1,.fn (.func 166) [] []),(2,.ptr [.sl 9 (l.map cLit)]),(3,.ptr (cScene T V)),(4,.val (.pointer (some ⟨bw,0,none⟩))),(10,.sl 9 (l.map cLit)),(11,.int .i64 l.length),(12,.int .i64 (p:Int))],.box bw 156 [.val (.map (some m))] :: .kmap m (wE w)::R,54⟩:St)) (fun (p:Nat)=>p≤l.length∧neGo T V w l=neGo T V w (l.drop p)) (fun (p:Nat)=>l.length-p) (0) ?_ (GS.weaken ⟨rfl,rfl,rfl,rfl,rfl,rfl,rfl,rfl,trivial⟩ (.refl _)) ?_
 · exact ⟨Nat.zero_le _,rfl⟩
 ·
  rintro p hR
  refine Qsr (Qp Qclt (Qnn (AW.seq (Qif (fun hc1=>?_) fun hc1=>?_))))
  ·
   obtain ⟨c,hc⟩:=get_lt hc1
   have hlt:=get_lt' hc
   have hcm:=List.mem_of_getElem? hc
   have hck:=(hlk c hcm).1
   have hcs:=Nat.le_trans (hlk c hcm).2 (by decide:64≤1048576)
   have hdc:=drop_cons hc
   have hR2:=hR.2
   rw [hdc] at hR2
   refine Qst (AW.seq (AW.block (Qsr ?_)))
   refine Qp (P_indexAddr (c:=[.int .i64 _,_,.int .i64 _,.int .i64 _,.int .i64 _,.int .i64 _,.int .i64 _,.str _,.bool _]) tok rfl rfl rfl rfl rfl rfl (by omega) (map_at hc)) ?_
   refine Qp (Qlg [.int .i64 _,_,.int .i64 _,.int .i64 _,.int .i64 _,.int .i64 _,.int .i64 _,.str _,.bool _]) ?_
   refine Qe (E_alloc (l:=[.int .i64 0,.sl 8 [],.int .i64 0,.int .i64 0,.int .i64 0,.int .i64 0,.int .i64 0,.str [],.bool false]) (by kernel_rfl)) ?_
   rintro _ _ ⟨b9,rfl,rfl⟩
   refine Qe (E_store (k:=0) (v:=.agg _) (cs':=[.int .i64 _,_,.int .i64 _,.int .i64 _,.int .i64 _,.int .i64 _,.int .i64 _,.str _,.bool _]) (H2:=_::_::_::_) tok rfl rfl rfl rfl (rfl) rfl rfl rfl rfl) ?_
   rintro _ _ ⟨rfl,rfl⟩
   refine AOL.ghost (GS.freeze (t:=9) 0 rfl rfl) ?_
   refine Qnn (AW.seq ?_)
   refine AW.draw mixed (fun H'=>_∈H'∧_∈H') ⟨(List.mem_of_getElem? (i:=0) rfl),(List.mem_of_getElem? (i:=1) rfl)⟩ (by kernel_rfl) ?_
   refine Qn 0 rfl (Qf [.bool _]) (Qn 1 rfl Qlb (Qn 2 rfl Qmb ?_))
   refine Qn 3 rfl (P_neq_bool tok rfl rfl rfl rfl) ?_
   refine Qn 4 rfl Qmb (Qo 5 rfl [] Qw (Qlg [_,_]) (Qo 6 rfl [] Qw (Qf [.int .i64 _,_,.int .i64 _,.int .i64 _,.int .i64 _,.int .i64 _,.int .i64 _,.str _,.bool _]) (Qo 7 rfl [(22,_)] Qw Qle ?_)))
   refine Canon.pure _ _ 8 _ _ rfl (by kernel_rfl) (by kernel_rfl) rfl (.opt _ (.bool _) [(21,_),(23,_)] rfl (EntL.all ⟨Ent.self _ _,Ent.self _ _,trivial⟩) (fun hG=>P_callf (by kernel_rfl) rfl rfl (d_texts T V c.cond hck)) rfl) ?_
   refine Qn 9 rfl Qpa (Qn 10 rfl Qmb (Qo 11 rfl [] Qw (Qlg [_,_]) (Qo 12 rfl [] Qw (Qf [.int .i64 _,_,.int .i64 _,.int .i64 _,.int .i64 _,.int .i64 _,.int .i64 _,.str _,.bool _]) (Qo 13 rfl [(28,_)] Qw Qle ?_))))
   refine Canon.pure _ _ 14 _ _ rfl (by kernel_rfl) (by kernel_rfl) rfl (.opt _ (.bool _) [(27,_),(29,_)] rfl (EntL.all ⟨Ent.self _ _,Ent.self _ _,trivial⟩) (fun hG=>P_callf (by kernel_rfl) rfl rfl (d_simple T V c.cond hck hcs)) rfl) ?_
   refine Qn 15 rfl Qpa (Qn 16 rfl Qmb ?_)
   refine Canon.pure _ _ 17 _ _ rfl (by kernel_rfl) (by kernel_rfl) rfl (.opt _ (.fn _ _ _) [] rfl (EntL.all trivial) (fun hG=>P_move (v:=.fn _ _ _) rfl) rfl) ?_
   refine Canon.pure _ _ 18 _ _ rfl (by kernel_rfl) (by kernel_rfl) rfl (.opt _ (.val _) [] rfl (EntL.all trivial) (fun hG=>OpP.mem (fun k=>P_load_box (k:=k) (c:=.val _) tok rfl rfl rfl rfl) (fun _ h=>h.1)) rfl) ?_
   refine Qo 19 rfl [] Qw (Qf [.int .i64 _,_,.int .i64 _,.int .i64 _,.int .i64 _,.int .i64 _,.int .i64 _,.str _,.bool _]) (Qo 20 rfl [(35,_)] Qw (Qf [_,.int .i64 _,.int .i64 _,.int .i64 _,.int .i64 _,.int .i64 _,.str _,.bool _]) (Qo 21 rfl [(36,_)] Qw Qls ?_))
   refine Canon.pure _ _ 22 _ _ rfl (by kernel_rfl) (by kernel_rfl) rfl (.opt _ (.ptr _) [(37,_)] rfl (EntL.all ⟨Ent.self _ _,trivial⟩) (fun hG=>P_indexAddr (c:=[.int .i64 _,_,.int .i64 _,.int .i64 _,.int .i64 _,.int .i64 _,.int .i64 _,.str _]) tok rfl rfl rfl rfl rfl rfl (by decide) (arg0_at (Nat.lt_of_succ_lt (cmp_two hck (texts_cmp (stringy_texts (g1' hG))))))) rfl) ?_
   refine Qo 23 rfl [(38,_)] Qw Qle ?_
   refine Qo 24 rfl [(39,_)] Qw (Qc rfl (d_asWord _)) ?_
   refine Canon.pure _ _ 25 _ _ rfl (by kernel_rfl) (by kernel_rfl) rfl (.opt _ (.agg _) [(34,_),(40,_)] rfl (EntL.all ⟨Ent.self _ _,Ent.self _ _,trivial⟩) (fun hG=>P_callK (ho:=.kmap m (wE w)) (by kernel_rfl) rfl rfl (d_of_at m w hwp (asWd (arg0 c.cond))) (fun _ h=>h.2)) rfl) ?_
   refine Canon.pure _ _ 26 _ _ rfl (by kernel_rfl) (by kernel_rfl) rfl (.opt _ (.val _) [] rfl (EntL.all trivial) (fun hG=>OpP.mem (fun k=>P_load_box (k:=k) (c:=.val _) tok rfl rfl rfl rfl) (fun _ h=>h.1)) rfl) ?_
   refine Qo 27 rfl [] Qw (Qf [.int .i64 _,_,.int .i64 _,.int .i64 _,.int .i64 _,.int .i64 _,.int .i64 _,.str _,.bool _]) (Qo 28 rfl [(43,_)] Qw (Qf [_,.int .i64 _,.int .i64 _,.int .i64 _,.int .i64 _,.int .i64 _,.str _,.bool _]) (Qo 29 rfl [(44,_)] Qw Qls ?_))
   refine Canon.pure _ _ 30 _ _ rfl (by kernel_rfl) (by kernel_rfl) rfl (.opt _ (.ptr _) [(45,_)] rfl (EntL.all ⟨Ent.self _ _,trivial⟩) (fun hG=>P_indexAddr (c:=[.int .i64 _,_,.int .i64 _,.int .i64 _,.int .i64 _,.int .i64 _,.int .i64 _,.str _]) tok rfl rfl rfl rfl rfl rfl (by decide) (arg1_at (cmp_two hck (texts_cmp (stringy_texts (g1' hG)))))) rfl) ?_
   refine Qo 31 rfl [(46,_)] Qw Qle ?_
   refine Qo 32 rfl [(47,_)] Qw (Qc rfl (d_asWord _)) ?_
   refine Canon.pure _ _ 33 _ _ rfl (by kernel_rfl) (by kernel_rfl) rfl (.opt _ (.agg _) [(42,_),(48,_)] rfl (EntL.all ⟨Ent.self _ _,Ent.self _ _,trivial⟩) (fun hG=>P_callK (ho:=.kmap m (wE w)) (by kernel_rfl) rfl rfl (d_of_at m w hwp (asWd (arg1 c.cond))) (fun _ h=>h.2)) rfl) ?_
   refine Canon.pure _ _ 34 _ _ rfl (by kernel_rfl) (by kernel_rfl) rfl (.opt _ (.bool _) [(41,_),(49,_),(33,_)] rfl (EntL.all ⟨Ent.self _ _,Ent.self _ _,Ent.self _ _,trivial⟩) (fun hG=>P_call (by kernel_rfl) rfl rfl rfl (d_str3 (ofS' w (asWd (arg0 c.cond))) (ofS' w (asWd (arg1 c.cond))))) rfl) ?_
   refine Qo 35 rfl [(50,_)] Qw Qnt (Qn 36 rfl Qpa ?_)
   refine Canon.done _ _ (by kernel_rfl) ?_
   refine thenN (Qif (fun hc2=>?_) fun hc2=>?_)
   ·
    have hfin:=hR2.trans (neGo_fail2 hc2)
    refine Qsr (Qp Qab (Qnn (AW.ret (blkR (thenR (thenR (blkR (thenR ?_))))))))
    refine ⟨.inr rfl,[.bool _],.cons (.tmp _ _ rfl) <| .nil,_,.refl _,?_⟩
    exact ⟨congrArg AV.bool hfin.symm,rfl⟩
   ·
    refine AW.skip (blkN (thenN (AW.region (Qp Qad (Qp Qmi (Qnn ?_))))))
    refine ⟨p+1,?_,?_,GS.weaken ⟨rfl,rfl,rfl,rfl,rfl,rfl,rfl,rfl,trivial⟩ (.refl _)⟩
    · exact ⟨hlt,hR2.trans (neGo_skip2 hc2)⟩
    · omega
  ·
   have hde:=get_end hc1
   have hR2:=hR.2
   rw [hde] at hR2
   refine AW.exit ?_
   refine thenE (thenE (blkHit (thenN (Qsr (Qp Qab (Qnn (AW.ret ?_)))))))
   refine ⟨.inr rfl,[.bool _],.cons (.tmp _ _ rfl) <| .nil,_,.refl _,?_⟩
   exact ⟨congrArg AV.bool hR2.symm,rfl⟩

set_option maxHeartbeats 3200000
set_option maxRecDepth 20000

theorem f_check (n:Int)(b:Bd):APure Tryz.prog 174 [.int .i64 n,.agg (cBd b)] (.int .i64 (bdE n b)):=by
 refine APure.body (n:=35) tok Tryz.func174 rfl rfl rfl fun H=>?_
 refine Qsr (Qp (Qbx [.int .i64 _,.int .i64 _,.int .i64 _]) (Qp Qai (Qnn (AW.seq (Qsr (Qp (Qf [.int .i64 _,.int .i64 _,.int .i64 _]) (Qp Qli (Qp Qclt (Qp Qmb ?_)))))))))
 refine Qg [] Qw (Qf [.int .i64 _,.int .i64 _,.int .i64 _]) (Qg [(9,_)] Qw Qli (Qg [] Qw Qmi ?_))
 refine AOL.g (y:=.bool _) _ [(10,_),(11,_)] rfl (EntL.all ⟨Ent.self _ _,Ent.self _ _,trivial⟩) (fun hG=>P_geq rfl rfl) rfl ?_
 refine Qp Qpo (Qp Qmb (Qg [] Qw (Qf [.int .i64 _,.int .i64 _]) (Qg [(15,_)] Qw Qli (Qg [(16,_)] Qw Qclt (Qp Qpo (Qp Qmb (Qg [] Qw (Qf [.int .i64 _,.int .i64 _]) (Qg [(20,_)] Qw Qli (Qg [] Qw Qmi ?_)))))))))
 refine AOL.g (y:=.bool _) _ [(21,_),(22,_)] rfl (EntL.all ⟨Ent.self _ _,Ent.self _ _,trivial⟩) (fun hG=>P_geq rfl rfl) rfl ?_
 refine Qp Qpo (Qp Qmb (Qg [] Qw (Qf [.int .i64 _]) (Qg [(26,_)] Qw Qli (Qg [(27,_)] Qw Qclt (Qp Qpo (Qp Qmb (Qg [] Qw (Qf [.int .i64 _]) (Qg [(31,_)] Qw Qli (Qg [(32,_)] Qw Qcgt ?_)))))))))
 refine Qp Qpo (Qnn (Qif (fun hc1=>?_) fun hc1=>?_))
 ·
  refine Qsr (Qp Qai (Qnn (Qrt ?_)))
  refine Qr (.int .i64 _) ?_
  exact Eq.trans rfl (congrArg (fun q:Int=>AV.int .i64 q) (if_pos hc1)).symm
 ·
  refine Qst (Qsr (Qp Qai (Qnn (AW.ret ?_))))
  refine Qr (.int .i64 _) ?_
  exact Eq.trans rfl (congrArg (fun q:Int=>AV.int .i64 q) (ifF hc1)).symm
theorem f_Check (z:Zn):APure Tryz.prog 167 [.agg (cZn z)] (.int .i64 (zoneE z)):=by
 refine APure.body (n:=35) tok Tryz.func167 rfl rfl rfl fun H=>?_
 refine Qsr (Qp (Qbx [.int .i64 _,_]) (Qp Qai (Qnn (AW.seq (AW.block (Qsr (Qp (Qf [.int .i64 _,_]) (Qp Qli (Qp Qclt ?_)))))))))
 refine Qp Qmb (Qg [] Qw (Qf [.int .i64 _,_]) (Qg [(11,_)] Qw Qli (Qg [(12,_)] Qw Qcgt (Qp Qpo (Qp Qab (Qnn (Qif (fun hc1=>?_) fun hc1=>?_)))))))
 ·
  refine Qsr (Qp Qai (Qnn (AW.ret (blkR (thenR ?_)))))
  refine Qr (.int .i64 _) ?_
  exact Eq.trans rfl (congrArg (fun q:Int=>AV.int .i64 q) (if_pos hc1)).symm
 ·
  refine Qsr (Qp (Qf [_]) (Qp Qls ?_))
  refine Qp (P_len_sl (n:=z.bs.length) tok rfl rfl rfl (by simp)) ?_
  refine Qp Qcgt (Qp Qab (Qnn (Qif (fun hc2=>?_) fun hc2=>?_)))
  ·
   refine Qsr (Qp Qai (Qnn (AW.ret (blkR (thenR ?_)))))
   refine Qr (.int .i64 _) ?_
   exact Eq.trans rfl (congrArg (fun q:Int=>AV.int .i64 q) ((ifF hc1).trans (if_pos hc2))).symm
  ·
   refine AW.skip (blkN (thenN (AW.seq (Qsr (Qp (Qf [_]) (Qp Qls ?_))))))
   refine Qp (P_len_sl (n:=z.bs.length) tok rfl rfl rfl (by simp)) ?_
   refine Qp Qmi (Qnn (AW.block ?_))
   refine AW.sllen 21 rfl fun hlen=>?_
   simp only [List.length_map,maxLen] at hlen
   refine AW.loopS (fun (k:Nat)=>(⟨[(1,.ptr (cZn z)),(21,.sl 3 (z.bs.map cBd)),(22,.int .i64 z.bs.length),(23,.int .i64 (k:Int))],H,35⟩:St)) (fun (k:Nat)=>k≤z.bs.length∧firstS (bdE z.n) (z.bs.take k)=0) (fun (k:Nat)=>z.bs.length-k) (0) ?_ (GS.weaken ⟨rfl,rfl,rfl,rfl,trivial⟩ (.refl _)) ?_
   · exact ⟨Nat.zero_le _,rfl⟩
   ·
    rintro k hR
    refine Qsr (Qp Qclt (Qnn (AW.seq (Qif (fun hc3=>?_) fun hc3=>?_))))
    ·
     obtain ⟨c,hc⟩:=get_lt hc3
     have hlt:=get_lt' hc
     refine Qst (AW.seq (AW.block (Qsr ?_)))
     refine Qp (P_indexAddr (c:=[.int .i64 _,.int .i64 _,.int .i64 _]) tok rfl rfl rfl rfl rfl rfl (by omega) (map_at hc)) ?_
     refine Qp (Qlg [.int .i64 _,.int .i64 _,.int .i64 _]) ?_
     refine Qe (E_alloc (l:=[.int .i64 0,.int .i64 0,.int .i64 0]) (by kernel_rfl)) ?_
     rintro _ _ ⟨b4,rfl,rfl⟩
     refine Qe (E_store (k:=0) (v:=.agg _) (cs':=[.int .i64 _,.int .i64 _,.int .i64 _]) (H2:=_::_) tok rfl rfl rfl rfl (rfl) rfl rfl rfl rfl) ?_
     rintro _ _ ⟨rfl,rfl⟩
     refine AOL.ghost (GS.freeze (t:=4) 0 rfl rfl) ?_
     refine Qns (Qp (Qf [.int .i64 _,_]) (Qp Qli (Qp (Qlg [.int .i64 _,.int .i64 _,.int .i64 _]) ?_)))
     refine Qp (Qc rfl (f_check z.n c)) ?_
     refine Qp Qai (Qns (Qp Qmi (Qp Qcne (Qnn (Qif (fun hc4=>?_) fun hc4=>?_)))))
     ·
      refine Qsr (Qp Qmi (Qp Qai (Qnn (AW.ret (blkR (thenR (thenR (blkR (thenR ?_)))))))))
      refine Qr (.int .i64 _) ?_
      exact Eq.trans rfl (congrArg (fun q:Int=>AV.int .i64 q) (((ifF hc1).trans (ifF hc2)).trans (first_take hR.2 hc (by simpa using hc4)))).symm
     ·
      refine AW.skip (blkN (thenN (AW.region (Qp Qad (Qp Qmi (Qnn ?_))))))
      refine ⟨k+1,?_,?_,GS.weaken ⟨rfl,rfl,rfl,rfl,trivial⟩ (.refl _)⟩
      · exact ⟨hlt,first_snoc hR.2 hc (by simpa using hc4)⟩
      · omega
    ·
     have hte:=take_end hc3
     have hall:=hR.2
     rw [hte] at hall
     refine AW.exit ?_
     refine thenE (thenE (blkHit (thenN (Qsr (Qp Qai (Qnn (AW.ret ?_)))))))
     refine Qr (.int .i64 _) ?_
     exact Eq.trans rfl (congrArg (fun q:Int=>AV.int .i64 q) (((ifF hc1).trans (ifF hc2)).trans hall)).symm
theorem s_repeat (H:List HO)(n:Nat)(h0:0<n)(hn:n≤1048576):ACall Tryz.prog 175 H [.sl 1 [[.int .i64 (-1)]],.int .i64 (n:Int)] (fun r H'=>∃b,r = .val (.slice (some ⟨b,0,none⟩) n n)∧H' = .box b 3 (bI (none1 n))::H):=by
 have hmx:1048576≤maxLen:=by decide
 refine ACall.body (n:=48) tok Tryz.func175 rfl rfl rfl ?_
 refine Qsr ?_
 refine Qp (P_assign_nil (z:=1) rfl) ?_
 refine Qnn (AW.seq (Qsr (Qp Qmi (Qp Qclt (Qnn (Qif (fun hc1=>?_) fun hc1=>?_))))))
 ·
  have:=of_decide_eq_true hc1
  omega
 ·
  refine Qst (Qsr (Qp Qms ?_))
  refine Qp (P_len_sl (n:=1) tok rfl rfl rfl (rfl)) ?_
  refine Qp (P_conv (m:=1) tok rfl rfl rfl rfl rfl (rfl)) ?_
  refine Qp Qmi ?_
  refine Qp (P_conv (m:=(n:Int)) tok rfl rfl rfl rfl rfl (u64_in hn)) ?_
  refine Qp (Qc rfl (kMul1 n hn)) ?_
  refine Qp Qmu ?_
  refine Qp (P_extract (v:=.int .u64 _) rfl rfl) ?_
  refine Qp (P_extract (v:=.int .u64 _) rfl rfl) ?_
  refine Qp (P_assign (v:=.int .u64 _) rfl) ?_
  refine Qp (P_assign (v:=.int .u64 _) rfl) ?_
  refine Qnn (AW.seq (Qsr ?_))
  refine Qp (P_move (v:=.int .u64 _) rfl) ?_
  refine Qp Qcgt (Qp Qmb ?_)
  refine AOL.g (y:=.int .u64 _) _ [] rfl (EntL.all trivial) (fun hG=>P_move (v:=.int .u64 _) rfl) rfl ?_
  refine Qg [(24,_)] Qw Qcgt (Qp Qpo (Qnn (Qif (fun hc2=>?_) fun hc2=>?_)))
  ·
   exact absurd hc2 (by simp;omega)
  ·
   refine Qst (Qsr ?_)
   refine Qp (P_move (v:=.int .u64 _) rfl) ?_
   refine Qp (P_conv (m:=(n:Int)) tok rfl rfl rfl rfl rfl (i64_in hn)) ?_
   refine Qe (E_makeSlice (n:=n) tok rfl rfl rfl rfl rfl rfl rfl (by show 8*n≤_;omega) (by omega)) ?_
   rintro _ _ ⟨b30,rfl,rfl⟩
   refine Qp Qav ?_
   refine AOL.ghost (GS.cells 0 rfl ((bI_zero n).trans (congrArg bI (show List.replicate n 0=repL n 0 by simp [repL])))) ?_
   refine Qns (Qp Qmv (Qp Qms ?_))
   refine Qe (E_copySl (k:=0) (m:=1) (cs':=bI (repL n 1)) (H2:=_::_) tok rfl rfl rfl rfl rfl rfl rfl (by simp) (sc_one rfl) (Nat.min_eq_left (by show 1≤n;omega)) (by rw [bI_len,repL_len (by omega)];omega) (repL_first h0) rfl) ?_
   rintro _ _ ⟨rfl,rfl⟩
   refine Qp Qai (Qnn (AW.seq (AW.block ?_)))
   refine AW.loopS (fun (k:Nat)=>(⟨[(7,.val (.slice (some ⟨b30,0,none⟩) n n)),(8,.int .i64 (k:Int))],.box b30 3 (bI (repL n k))::H,48⟩:St)) (fun (k:Nat)=>1≤k∧k≤n) (fun (k:Nat)=>n-k) (1) ?_ (GS.weaken ⟨rfl,rfl,trivial⟩ (.refl _)) ?_
   · exact ⟨Nat.le_refl _,h0⟩
   ·
    rintro k hR
    refine AW.seq (Qsr (Qp Qmi (Qp Qmv ?_)))
    refine Qp (P_len_val tok rfl rfl rfl) ?_
    refine Qp Qclt (Qnn (Qif (fun hc3=>?_) fun hc3=>?_))
    ·
     have hlt:k<n:=by have:=of_decide_eq_true hc3;omega
     refine Qst (AW.block ?_)
     refine AW.draw mixed (fun _=>True) trivial (by kernel_rfl) ?_
     refine Qn 0 rfl Qmi (Qn 1 rfl Qmv (Qn 2 rfl Qmi ?_))
     refine Qn 3 rfl (P_slice_val (l:=k) (h:=n) (o':=k) tok rfl rfl rfl rfl rfl (⟨_,rfl⟩) (rfl) (by omega) (by omega) (by omega) (by omega) (by simp)) ?_
     refine Qn 4 rfl Qmv (Qn 5 rfl Qmi ?_)
     refine Qn 6 rfl (P_slice_val (l:=0) (h:=k) (o':=0) tok rfl rfl rfl rfl rfl (rfl) (⟨_,rfl⟩) (by omega) (by omega) (by omega) (by omega) (rfl)) ?_
     refine Canon.eff _ _ 7 _ _ rfl (by kernel_rfl) rfl rfl (E_copyVal (k:=0) (m:=min k (n-k)) (cs':=bI (repL n (k+min k (n-k)))) (H2:=_::_) tok rfl rfl rfl rfl rfl rfl rfl (bI_sc _) (by first | rfl | (simp only [Nat.sub_zero];done) | (simp only [Nat.sub_zero];rfl)) (by rw [bI_len,repL_len hR.2];omega) (by rw [bI_len,repL_len hR.2];omega) (repL_copy (by omega) (by omega)) rfl) (fun _ _ _=>trivial) ?_
     rintro _ _ ⟨rfl,rfl⟩
     refine Qn 8 rfl Qad (Qn 9 rfl Qai ?_)
     refine Canon.done _ _ (by kernel_rfl) ?_
     refine blkN (thenN ?_)
     refine ⟨k+min k (n-k),?_,?_,GS.weaken ⟨rfl,rfl,trivial⟩ (.refl _)⟩
     · omega
     · omega
    ·
     have hkn:k=n:=by have:=of_decide_eq_false hc3;omega
     refine AW.exit ?_
     refine thenE (thenE (blkHit (thenN (Qsr (Qp Qmv (Qp Qav (Qnn (AW.ret ?_))))))))
     refine ⟨.inr rfl,[.val _],.cons (.tmp _ _ rfl) <| .nil,_,.refl _,?_⟩
     exact ⟨b30,rfl,congrArg (fun l=>HO.box b30 3 (bI l)::H) ((congrArg (repL n) hkn).trans (repL_full n))⟩
theorem f_relax (bd b1 b2 n:Nat)(bs:List Bd)(hz:znOK n bs)(C:Int)(hC:0≤C)(hC2:C≤4000000000000000000)(d:Ds)(hd:dsOK n C d)(R:List HO):ACall Tryz.prog 176 (.box bd 231 [.val (.slice (some ⟨b1,0,none⟩) n n),.val (.slice (some ⟨b2,0,none⟩) n n)] :: .box b1 3 (bI d.sums) :: .box b2 3 (bI d.last)::R) [.val (.pointer (some ⟨bd,0,none⟩)),.agg (cZn (zn n bs))] (fun r H'=>r = .int .i64 (rlxS bs d).2∧H' = .box bd 231 [.val (.slice (some ⟨b1,0,none⟩) n n),.val (.slice (some ⟨b2,0,none⟩) n n)] :: .box b1 3 (bI (rlxS bs d).1.sums) :: .box b2 3 (bI (rlxS bs d).1.last)::R):=by
 have hbl:=hz.len
 have hn64:=hz.n64
 have hbb:big=140737488355329:=rfl
 refine ACall.body (n:=58) tok Tryz.func176 rfl rfl rfl ?_
 refine Qsr (Qp (Qbx [.int .i64 _,_]) (Qp Qai (Qns (Qp Qai (Qnn (AW.seq (Qsr (Qp (Qf [_]) (Qp Qls ?_)))))))))
 refine Qp (P_len_sl (n:=bs.length) tok rfl rfl rfl (by simp [zn])) ?_
 refine Qp Qmi (Qnn (AW.block ?_))
 refine AW.loopS (fun (p:Nat×Ds×Int)=>(⟨[(0,.val (.pointer (some ⟨bd,0,none⟩))),(3,.ptr (cZn (zn n bs))),(5,.int .i64 p.2.2),(10,.sl 3 (bs.map cBd)),(11,.int .i64 bs.length),(12,.int .i64 (p.1:Int))],.box bd 231 [.val (.slice (some ⟨b1,0,none⟩) n n),.val (.slice (some ⟨b2,0,none⟩) n n)] :: .box b1 3 (bI p.2.1.sums) :: .box b2 3 (bI p.2.1.last)::R,58⟩:St)) (fun (p:Nat×Ds×Int)=>p.1≤bs.length∧rlxS bs d=rlxGo p.1 (bs.drop p.1) p.2∧dsOK n (C+(p.1:Int)*big) p.2.1) (fun (p:Nat×Ds×Int)=>bs.length-p.1) ((0,d,-1)) ?_ (GS.weaken ⟨rfl,rfl,rfl,rfl,rfl,rfl,trivial⟩ (.refl _)) ?_
 · exact ⟨Nat.zero_le _,rfl,by simpa using hd⟩
 ·
  rintro p hR
  have hd2:=hR.2.2
  have hpl:=hR.1
  have hkb:(p.1:Int)*big≤256*big:=by unfold big;omega
  have hks:((p.1+1:Nat):Int)*big=(p.1:Int)*big+big:=by push_cast;rw [Int.add_mul];omega
  refine Qsr (Qp Qclt (Qnn (AW.seq (Qif (fun hc1=>?_) fun hc1=>?_))))
  ·
   obtain ⟨c,hc⟩:=get_lt hc1
   have hlt:=get_lt' hc
   have hcm:=List.mem_of_getElem? hc
   have hb:=hz.bd c hcm
   have hm:=hz.most c hcm
   have hi1:=hd2.ix hb.2.2.1 hb.2.2.2
   refine Qst (AW.seq (AW.block (Qsr (Qp Qmi ?_))))
   refine Qp (P_indexAddr (c:=[.int .i64 c.x,.int .i64 c.y,.int .i64 c.most]) tok rfl rfl rfl rfl rfl rfl (by omega) (cBd_at hc)) ?_
   refine Qp (Qlg [.int .i64 _,.int .i64 _,.int .i64 _]) ?_
   refine Qe (E_alloc (l:=[.int .i64 0,.int .i64 0,.int .i64 0]) (by kernel_rfl)) ?_
   rintro _ _ ⟨b7,rfl,rfl⟩
   refine Qp Qai ?_
   refine Qe (E_store (k:=0) (v:=.agg _) (cs':=[.int .i64 _,.int .i64 _,.int .i64 _]) (H2:=_::_::_::_::_) tok rfl rfl rfl rfl (rfl) rfl rfl rfl rfl) ?_
   rintro _ _ ⟨rfl,rfl⟩
   refine AOL.ghost (GS.freeze (t:=7) 0 rfl rfl) ?_
   refine Qnn (AW.seq ?_)
   refine AW.draw mixed (fun H'=>_∈H'∧_∈H') ⟨(List.mem_of_getElem? (i:=0) rfl),(List.mem_of_getElem? (i:=1) rfl)⟩ (by kernel_rfl) ?_
   refine Qn 0 rfl Qmv ?_
   refine Qn 1 rfl (P_nilCheck rfl) ?_
   refine Qn 2 rfl Qfv ?_
   refine Qn 3 rfl (OpP.mem (fun k=>P_load_box (k:=k) (c:=.val _) tok rfl rfl rfl rfl) (fun _ h=>h.1)) ?_
   refine Qn 4 rfl (Qf [.int .i64 _,.int .i64 _]) (Qn 5 rfl Qli ?_)
   refine Qn 6 rfl (P_indexAddr_val (o':=c.y.toNat) tok rfl rfl rfl rfl rfl (hb.2.2.1) (by have:=hb.2.2.2;omega) (off0 _)) ?_
   refine Qn 7 rfl (OpP.mem (fun k=>P_load_box (k:=k) (c:=.int .i64 (ixI p.2.1.sums c.y)) tok rfl rfl rfl (bI_at hb.2.2.1 (by rw [hd2.s];exact hb.2.2.2))) (fun _ h=>h.2)) ?_
   refine Qn 8 rfl (Qf [.int .i64 _]) (Qn 9 rfl Qli (Qn 10 rfl Qad (Qn 11 rfl Qai ?_)))
   refine Canon.done _ _ (by kernel_rfl) ?_
   refine thenN (AW.seq ?_)
   refine AW.draw mixed (fun H'=>_∈H'∧_∈H') ⟨(List.mem_of_getElem? (i:=0) rfl),(List.mem_of_getElem? (i:=1) rfl)⟩ (by kernel_rfl) ?_
   refine Qn 0 rfl Qmi (Qn 1 rfl Qmv ?_)
   refine Qn 2 rfl (P_nilCheck rfl) ?_
   refine Qn 3 rfl Qfv ?_
   refine Qn 4 rfl (OpP.mem (fun k=>P_load_box (k:=k) (c:=.val _) tok rfl rfl rfl rfl) (fun _ h=>h.1)) ?_
   refine Qn 5 rfl (Qf [.int .i64 _,.int .i64 _,.int .i64 _]) (Qn 6 rfl Qli ?_)
   refine Qn 7 rfl (P_indexAddr_val (o':=c.x.toNat) tok rfl rfl rfl rfl rfl (hb.1) (by have:=hb.2.1;omega) (off0 _)) ?_
   refine Qn 8 rfl (OpP.mem (fun k=>P_load_box (k:=k) (c:=.int .i64 (ixI p.2.1.sums c.x)) tok rfl rfl rfl (bI_at hb.1 (by rw [hd2.s];exact hb.2.1))) (fun _ h=>h.2)) ?_
   refine Qn 9 rfl Qclt ?_
   refine Canon.done _ _ (by kernel_rfl) ?_
   refine thenN (Qif (fun hc2=>?_) fun hc2=>?_)
   ·
    refine AW.seq ?_
    refine AW.draw mixed (fun H'=>_∈H') (List.mem_of_getElem? (i:=0) rfl) (by kernel_rfl) ?_
    refine Qn 0 rfl Qmv ?_
    refine Qn 1 rfl (P_nilCheck rfl) ?_
    refine Qn 2 rfl Qfv ?_
    refine Qn 3 rfl (OpP.mem (fun k=>P_load_box (k:=k) (c:=.val _) tok rfl rfl rfl rfl) (fun _ h=>h)) ?_
    refine Qn 4 rfl (Qf [.int .i64 _,.int .i64 _,.int .i64 _]) (Qn 5 rfl Qli (Qn 6 rfl Qmv ?_))
    refine Qn 7 rfl (P_nilCheck rfl) ?_
    refine Qn 8 rfl Qfv ?_
    refine Qn 9 rfl (OpP.mem (fun k=>P_load_box (k:=k) (c:=.val _) tok rfl rfl rfl rfl) (fun _ h=>h)) ?_
    refine Qn 10 rfl (Qf [.int .i64 _,.int .i64 _,.int .i64 _]) (Qn 11 rfl Qli (Qn 12 rfl Qmi (Qn 13 rfl Qmi ?_)))
    refine Qn 14 rfl (P_indexAddr_val (o':=c.x.toNat) tok rfl rfl rfl rfl rfl (hb.1) (by have:=hb.2.1;omega) (off0 _)) ?_
    refine Canon.eff _ _ 15 _ _ rfl (by kernel_rfl) rfl rfl (E_store (k:=1) (v:=.int .i64 _) (cs':=bI (p.2.1.sums.set c.x.toNat (ixI p.2.1.sums c.y+c.most))) (H2:=_::_::_::_) tok rfl rfl rfl rfl rfl rfl (bI_fits (by rw [hd2.s];omega)) (bI_set (by rw [hd2.s];omega)) rfl) (by rintro _ _ ⟨rfl,rfl⟩;simp) ?_
    rintro _ _ ⟨rfl,rfl⟩
    refine Qn 16 rfl (P_indexAddr_val (o':=c.x.toNat) tok rfl rfl rfl rfl rfl (hb.1) (by have:=hb.2.1;omega) (off0 _)) ?_
    refine Canon.last _ _ 17 _ _ rfl (by kernel_rfl) rfl rfl (E_store (k:=2) (v:=.int .i64 _) (cs':=bI (p.2.1.last.set c.x.toNat (p.1:Int))) (H2:=_::_::_::_) tok rfl rfl rfl rfl rfl rfl (bI_fits (by rw [hd2.l];omega)) (bI_set (by rw [hd2.l];omega)) rfl) (by kernel_rfl) ?_
    rintro _ _ ⟨rfl,rfl⟩
    refine thenN (AW.region (Qp (Qf [.int .i64 _,.int .i64 _,.int .i64 _]) (Qp Qli (Qp Qai (AOL.nil (blkN (thenN (AW.region (Qp Qad ?_)))))))))
    refine Qp Qmi (Qnn ?_)
    refine ⟨(p.1+1,⟨p.2.1.sums.set c.x.toNat (ixI p.2.1.sums c.y+c.most),p.2.1.last.set c.x.toNat (p.1:Int)⟩,c.x),?_,?_,GS.weaken ⟨rfl,rfl,rfl,rfl,rfl,rfl,trivial⟩ (.refl _)⟩
    · exact ⟨hlt,hR.2.1.trans ((rlxGo_step hc).trans (congrArg _ (rlx_yes hc2))),by have:=rlx_ok (i:=p.1) hd2 hb hm;rw [rlx_yes hc2] at this;exact this.mono (by simp only [hks];omega)⟩
    · simp only;omega
   ·
    refine AW.skip (blkN (thenN (AW.region (Qp Qad (Qp Qmi (Qnn ?_))))))
    refine ⟨(p.1+1,p.2),?_,?_,GS.weaken ⟨rfl,rfl,rfl,rfl,rfl,rfl,trivial⟩ (.refl _)⟩
    · exact ⟨hlt,hR.2.1.trans ((rlxGo_step hc).trans (congrArg _ (rlx_no hc2))),hd2.mono (by simp only [hks];omega)⟩
    · simp only;omega
  ·
   have hde:=get_end hc1
   have hfin:=hR.2.1.trans (rlxGo_end hde)
   refine AW.exit ?_
   refine thenE (thenE (blkHit (thenN (Qsr (Qp Qmi (Qp Qai (Qnn (AW.ret ?_))))))))
   refine ⟨.inr rfl,[.int .i64 _],.cons (.tmp _ _ rfl) <| .nil,_,.refl _,?_⟩
   exact ⟨congrArg (fun q:Ds×Int=>AV.int .i64 q.2) hfin.symm,congrArg (fun q:Ds×Int=>(.box bd 231 [.val (.slice (some ⟨b1,0,none⟩) n n),.val (.slice (some ⟨b2,0,none⟩) n n)] :: .box b1 3 (bI q.1.sums) :: .box b2 3 (bI q.1.last)::R:List HO)) hfin.symm⟩
theorem f_back (bd n:Nat)(bs:List Bd)(f:Int):APure Tryz.prog 177 [.val (.pointer (some ⟨bd,0,none⟩)),.agg (cZn (zn n bs)),.int .i64 f] (.fn (.func 189) [] [.ptr [.int .i64 f],.ptr [.val (.pointer (some ⟨bd,0,none⟩))],.ptr (cZn (zn n bs))]):=by
 refine APure.body (n:=8) tok Tryz.func177 rfl rfl rfl fun H=>?_
 refine Qsr ?_
 refine Qp (P_box (v:=.val _) (cs:=[_]) rfl rfl rfl) ?_
 refine Qp (Qbx [.int .i64 _,_]) ?_
 refine Qp (P_box (v:=.int .i64 _) (cs:=[.int .i64 _]) rfl rfl rfl) ?_
 refine Qp Qav (Qns ?_)
 refine Qp (P_makeFunc (l:=[]) (l':=[.ptr _,.ptr _,.ptr _]) rfl rfl) ?_
 refine Qp (P_assign (v:=.fn _ _ _) rfl) ?_
 refine Qnn (AW.ret ?_)
 refine Qr (.fn _ _ _) ?_
 rfl

set_option maxHeartbeats 1600000
set_option maxRecDepth 20000

theorem f_back1 (l:Nat)(rec:Loop)(bd b1 b2 n:Nat)(bs:List Bd)(d:Ds)(hn:n≤64)(hdl:d.last.length=n)(G:Value→List Int→List HO)(hp:rec.params.size=1)(i0:Nat)(hi:∀v pre,(G v pre)[i0]? = some (.obj l (.loop rec)))(f:Int)(hc:cycOK bs d f (n+1) f=true)(hY:∀v pre x,pre.length≤64→ARound Tryz.prog l rec (.box bd 231 [.val (.slice (some ⟨b1,0,none⟩) n n),.val (.slice (some ⟨b2,0,none⟩) n n)] :: .box b1 3 (bI d.sums) :: .box b2 3 (bI d.last)::G v pre) [.int .i64 x] (fun r H'=>r = .bool true∧∃v',H' = .box bd 231 [.val (.slice (some ⟨b1,0,none⟩) n n),.val (.slice (some ⟨b2,0,none⟩) n n)] :: .box b1 3 (bI d.sums) :: .box b2 3 (bI d.last)::G v' (pre ++ [x])))(v0:Value):ACall Tryz.prog 189 (.box bd 231 [.val (.slice (some ⟨b1,0,none⟩) n n),.val (.slice (some ⟨b2,0,none⟩) n n)] :: .box b1 3 (bI d.sums) :: .box b2 3 (bI d.last)::G v0 []) [.val (.func (.yield l) #[] #[]),.ptr [.int .i64 f],.ptr [.val (.pointer (some ⟨bd,0,none⟩))],.ptr (cZn (zn n bs))] (fun r H'=>r = .tuple []∧∃v' es,es≠[]∧H' = .box bd 231 [.val (.slice (some ⟨b1,0,none⟩) n n),.val (.slice (some ⟨b2,0,none⟩) n n)] :: .box b1 3 (bI d.sums) :: .box b2 3 (bI d.last)::G v' es):=by
 refine ACall.body (n:=31) tok Tryz.func189 rfl rfl rfl ?_
 refine Qsr (Qp Qli (Qp Qai (Qnn (AW.block ?_))))
 refine AW.loopS (fun (p:Int×List Int×Value)=>(⟨[(0,.val (.func (.yield l) #[] #[])),(1,.ptr [.int .i64 f]),(2,.ptr [.val (.pointer (some ⟨bd,0,none⟩))]),(3,.ptr (cZn (zn n bs))),(5,.int .i64 p.1)],.box bd 231 [.val (.slice (some ⟨b1,0,none⟩) n n),.val (.slice (some ⟨b2,0,none⟩) n n)] :: .box b1 3 (bI d.sums) :: .box b2 3 (bI d.last)::G p.2.2 p.2.1,31⟩:St)) (fun (p:Int×List Int×Value)=>p.2.1.length≤n∧cycOK bs d f (n+1-p.2.1.length) p.1=true) (fun (p:Int×List Int×Value)=>n+1-p.2.1.length) ((f,[],v0)) ?_ (GS.weaken ⟨rfl,rfl,rfl,rfl,rfl,trivial⟩ (.refl _)) ?_
 · exact ⟨Nat.zero_le _,hc⟩
 ·
  rintro p hR
  have hpl:=hR.1
  refine (okAt_iff (cyc_head hR.2)).elim fun c ok=>?_
  refine AW.seq (AW.seq ?_)
  refine AW.regionY rfl (by kernel_rfl) ?_
  refine Qp Qmv (Qp Qlv ?_)
  refine Qp (P_nilCheck rfl) ?_
  refine Qp Qfv ?_
  refine AOL.pk (P_load_box (k:=0) (c:=.val _) tok rfl rfl rfl rfl) rfl rfl ?_
  refine Qp Qmi ?_
  refine Qp (P_indexAddr_val (o':=p.1.toNat) tok rfl rfl rfl rfl rfl (ok.a0) (by have:=ok.al;omega) (off0 _)) ?_
  refine AOL.pk (P_load_box (k:=2) (c:=.int .i64 (ixI d.last p.1)) tok rfl rfl rfl (bI_at ok.a0 ok.al)) rfl rfl ?_
  refine AOL.nil ?_
  refine ⟨l,rec,_,⟨i0+3,hi p.2.2 p.2.1⟩,rfl,hp.symm,rfl,hY p.2.2 p.2.1 (ixI d.last p.1) (by omega),?_⟩
  rintro _ _ ⟨rfl,v1,rfl⟩
  refine thenN (Qif (fun hc1=>?_) fun hc1=>?_)
  ·
   refine Qst (AW.block (AW.seq ?_))
   refine AW.draw mixed (fun H'=>_∈H'∧_∈H') ⟨(List.mem_of_getElem? (i:=0) rfl),(List.mem_of_getElem? (i:=2) rfl)⟩ (by kernel_rfl) ?_
   refine Qn 0 rfl (Qf [_]) (Qn 1 rfl Qls (Qn 2 rfl Qlv ?_))
   refine Qn 3 rfl (P_nilCheck rfl) ?_
   refine Qn 4 rfl Qfv ?_
   refine Qn 5 rfl (OpP.mem (fun k=>P_load_box (k:=k) (c:=.val _) tok rfl rfl rfl rfl) (fun _ h=>h.1)) ?_
   refine Qn 6 rfl Qmi ?_
   refine Qn 7 rfl (P_indexAddr_val (o':=p.1.toNat) tok rfl rfl rfl rfl rfl (ok.a0) (by have:=ok.al;omega) (off0 _)) ?_
   refine Qn 8 rfl (OpP.mem (fun k=>P_load_box (k:=k) (c:=.int .i64 (ixI d.last p.1)) tok rfl rfl rfl (bI_at ok.a0 ok.al)) (fun _ h=>h.2)) ?_
   refine Qn 9 rfl (P_indexAddr (c:=[.int .i64 c.x,.int .i64 c.y,.int .i64 c.most]) tok rfl rfl rfl rfl rfl rfl (ok.l0) (cBd_at ok.at_)) ?_
   refine Qn 10 rfl (Qf [.int .i64 _,.int .i64 _]) (Qn 11 rfl Qli (Qn 12 rfl Qai ?_))
   refine Canon.done _ _ (by kernel_rfl) ?_
   refine thenN (Qsr (Qp Qmi (Qp Qli (Qp Qceq (Qnn (Qif (fun hc2=>?_) fun hc2=>?_))))))
   ·
    refine AW.ret (blkR (thenR (blkR ?_)))
    refine ⟨.inr rfl,[],.nil,_,.refl _,?_⟩
    exact ⟨rfl,v1,p.2.1 ++ [ixI d.last p.1],by simp,rfl⟩
   ·
    refine AW.skip (blkN (thenN ?_))
    refine ⟨(c.y,p.2.1 ++ [ixI d.last p.1],v1),?_,?_,GS.weaken ⟨rfl,rfl,rfl,rfl,rfl,trivial⟩ (.refl _)⟩
    ·
     have h9:=cyc_next hR.2 ok hc2
     exact ⟨by simp only [List.length_append,List.length_singleton];omega,by simp only [List.length_append,List.length_singleton];rw [show n+1-(p.2.1.length+1)=n+1-p.2.1.length-1 by omega];exact h9.1⟩
    ·
     have h9:=cyc_next hR.2 ok hc2
     simp only [List.length_append,List.length_singleton];omega
  ·
   cases hc1

set_option maxHeartbeats 3200000
set_option maxRecDepth 20000

theorem f_solve (n:Nat)(bs:List Bd)(hz:znOK n bs)(hW:decide ((endS (zn n bs)).2<0)=false→walkOK n bs=true)(H:List HO):ACall Tryz.prog 168 H [.agg (cZn (zn n bs))] (fun r H'=>if decide ((endS (zn n bs)).2<0) then (∃b,r = .tuple [.val (.slice (some ⟨b,0,none⟩) n n),.val (.slice none 0 0)]∧H' = .box b 3 (bI (endS (zn n bs)).1.sums)::H) else (∃es,es≠[]∧r = .tuple [.val (.slice none 0 0),.sl 1 es]∧H'=H)):=by
 have hmx:1048576≤maxLen:=by decide
 have hn1:=hz.n1
 have hn64:=hz.n64
 have hzn:(zn n bs).n=(n:Int):=rfl
 have hbb:big=140737488355329:=rfl
 refine ACall.bodyX (n:=59) tok Tryz.func168 rfl rfl rfl ?_
 refine AWX.seq ?_
 refine AW.region (Qp (Qbx [.int .i64 _,_]) (Qp Qav (Qp Qav (Qnn ?_))))
 refine AWX.cut (fun (u:Nat×Nat×Nat)=>(⟨[(1,.ptr (cZn (zn n bs))),(4,.val (.pointer (some ⟨u.1,0,none⟩)))],.box u.1 231 [.val (.slice (some ⟨u.2.1,0,none⟩) n n),.val (.slice (some ⟨u.2.2,0,none⟩) n n)] :: .box u.2.1 3 (bI (⟨List.replicate n 0,none1 n⟩:Ds).sums) :: .box u.2.2 3 (bI (⟨List.replicate n 0,none1 n⟩:Ds).last)::H,59⟩:St)) (fun (u:Nat×Nat×Nat)=>True) ?_ ?_
 ·
  refine AW.draw mixed (fun _=>True) trivial (by kernel_rfl) ?_
  refine Qn 0 rfl (Qf [.int .i64 _,_]) (Qn 1 rfl Qli ?_)
  refine Qn 3 rfl (P_buildSlice (es:=[[.int .i64 _]]) tok rfl rfl rfl rfl rfl rfl rfl rfl rfl) ?_
  refine Qn 4 rfl (Qf [.int .i64 _,_]) (Qn 5 rfl Qli ?_)
  refine Canon.two _ _ 2 6 _ _ _ _ rfl rfl (by kernel_rfl) rfl rfl rfl rfl (E_makeSlice (n:=n) tok rfl rfl rfl rfl rfl rfl rfl (by show 8*n≤_;omega) (by omega)) (E_callf (by kernel_rfl) rfl rfl (s_repeat _ n hn1 (by omega))) (by rintro _ _ ⟨b10,rfl,rfl⟩;trivial) (by rintro _ _ ⟨b14,rfl,rfl⟩;trivial) ?_ ?_
  ·
   rintro _ _ ⟨b10,rfl,rfl⟩
   refine Canon.eff _ _ 6 _ _ rfl (by kernel_rfl) rfl rfl (E_callf (by kernel_rfl) rfl rfl (s_repeat _ n hn1 (by omega))) (fun _ _ _=>trivial) ?_
   rintro _ _ ⟨b14,rfl,rfl⟩
   refine Qn 7 rfl (Qbd [_,_]) ?_
   refine Canon.eff _ _ 8 _ _ rfl (by kernel_rfl) rfl rfl (E_box (v:=.agg _) (cs:=[_,_]) rfl rfl (rfl)) (fun _ _ _=>trivial) ?_
   rintro _ _ ⟨b16,rfl,rfl⟩
   refine Qn 9 rfl Qav ?_
   refine Canon.done _ _ (by kernel_rfl) ?_
   refine thenN ?_
   refine ⟨(b16,b10,b14),?_,GS.trans (GS.cells 2 rfl (bI_zero n)) (GS.trans (GS.perm (List.Perm.cons _ (List.Perm.swap _ _ _))) (GS.weaken ⟨rfl,rfl,trivial⟩ (.refl _)))⟩
   trivial
  ·
   rintro _ _ ⟨b14,rfl,rfl⟩
   refine Canon.eff _ _ 2 _ _ rfl (by kernel_rfl) rfl rfl (E_makeSlice (n:=n) tok rfl rfl rfl rfl rfl rfl rfl (by show 8*n≤_;omega) (by omega)) (fun _ _ _=>trivial) ?_
   rintro _ _ ⟨b10,rfl,rfl⟩
   refine Qn 7 rfl (Qbd [_,_]) ?_
   refine Canon.eff _ _ 8 _ _ rfl (by kernel_rfl) rfl rfl (E_box (v:=.agg _) (cs:=[_,_]) rfl rfl (rfl)) (fun _ _ _=>trivial) ?_
   rintro _ _ ⟨b16,rfl,rfl⟩
   refine Qn 9 rfl Qav ?_
   refine Canon.done _ _ (by kernel_rfl) ?_
   refine thenN ?_
   refine ⟨(b16,b10,b14),?_,GS.trans (GS.cells 1 rfl (bI_zero n)) (GS.trans (GS.refl _) (GS.weaken ⟨rfl,rfl,trivial⟩ (.refl _)))⟩
   trivial
 ·
  rintro u _
  refine AWX.seq ?_
  refine AW.region (Qp Qai (Qnn ?_))
  refine AWX.seq ?_
  refine Qsr (Qp (Qf [.int .i64 _,_]) (Qp Qli (Qp Qad (Qp Qmi (Qnn (AW.block ?_))))))
  refine AW.loopS (fun (p:Nat×Ds×Int)=>(⟨[(1,.ptr (cZn (zn n bs))),(4,.val (.pointer (some ⟨u.1,0,none⟩))),(5,.int .i64 p.2.2),(19,.int .i64 ((n:Int)+1)),(20,.int .i64 (p.1:Int))],.box u.1 231 [.val (.slice (some ⟨u.2.1,0,none⟩) n n),.val (.slice (some ⟨u.2.2,0,none⟩) n n)] :: .box u.2.1 3 (bI p.2.1.sums) :: .box u.2.2 3 (bI p.2.1.last)::H,59⟩:St)) (fun (p:Nat×Ds×Int)=>p.1≤n+1∧endS (zn n bs)=roundsS bs (n+1-p.1) p.2∧dsOK n ((p.1:Int)*(256*big)) p.2.1∧(0<p.1→0≤p.2.2)) (fun (p:Nat×Ds×Int)=>n+1-p.1) ((0,⟨List.replicate n 0,none1 n⟩,-1)) ?_ (GS.weaken ⟨rfl,rfl,rfl,rfl,rfl,trivial⟩ (.refl _)) ?_
  · exact ⟨Nat.zero_le _,endS_eq n bs,by simpa using start_ok n,fun h=>absurd h (by simp)⟩
  ·
   rintro p hR
   have hd2:=hR.2.2.1
   have hpl:=hR.1
   have hC0:(0:Int)≤(p.1:Int)*(256*big):=by unfold big;omega
   have hC2:(p.1:Int)*(256*big)≤4000000000000000000:=by unfold big;omega
   have hks:((p.1+1:Nat):Int)*(256*big)=(p.1:Int)*(256*big)+256*big:=by push_cast;rw [Int.add_mul];omega
   refine Qsr (Qp Qclt (Qnn (AW.seq (Qif (fun hc1=>?_) fun hc1=>?_))))
   ·
    have hlt:p.1<n+1:=by have:=of_decide_eq_true hc1;omega
    refine Qst (AW.seq (AW.block (Qsr (Qp Qmv (Qp (Qlg [.int .i64 _,_]) ?_)))))
    refine Qe (E_callf (by kernel_rfl) rfl rfl (ACall.front3 (R:=_) 2 1 0 rfl rfl rfl rfl (f_relax u.1 u.2.1 u.2.2 n bs hz _ hC0 hC2 p.2.1 hd2 _))) ?_
    rintro _ _ ⟨rfl,rfl⟩
    refine Qp Qai (Qns (Qp Qmi (Qp Qclt (Qnn (Qif (fun hc2=>?_) fun hc2=>?_)))))
    ·
     have hend:=end_stop hR.2.1 hlt hc2
     refine Qsr (Qp Qmv ?_)
     refine Qp (P_nilCheck rfl) ?_
     refine Qp Qfv ?_
     refine AOL.pk (P_load_box (k:=0) (c:=.val _) tok rfl rfl rfl rfl) rfl rfl ?_
     refine Qp Qav (Qp Qav (Qnn (AW.ret (blkR (thenR (thenR (blkR (thenR ?_))))))))
     refine ⟨.inr rfl,[.val _,.val _],.cons (.tmp _ _ rfl) <| .cons (.tmp _ _ rfl) <| .nil,_,.cons _ (.cons_cons _ (.cons _ (.refl _))),?_⟩
     exact Eq.mpr (if_pos (by rw [hend];exact hc2)) ⟨_,rfl,congrArg (fun q:Ds×Int=>(.box u.2.1 3 (bI q.1.sums)::H:List HO)) hend.symm⟩
    ·
     refine AW.skip (blkN (thenN (AW.region (Qp Qad (Qp Qmi (Qnn ?_))))))
     refine ⟨(p.1+1,rlxS bs p.2.1),?_,?_,GS.weaken ⟨rfl,rfl,rfl,rfl,rfl,trivial⟩ (.refl _)⟩
     · exact ⟨hlt,end_on hR.2.1 hlt hc2,(rlxS_ok hz hd2).mono (by simp only [hks];omega),fun _=>by simpa using hc2⟩
     · simp only;omega
   ·
    have hge1:n+1≤p.1:=by have:=of_decide_eq_false hc1;omega
    have hend:=end_all hR.2.1 hge1
    have hge:decide ((endS (zn n bs)).2<0)=false:=by rw [hend];have:=hR.2.2.2 (by omega);simpa using this
    have hws:=walk_split (hW hge) hend
    have hcy:=hws.2
    refine AW.exit ?_
    refine thenE (thenE (blkHit (thenN ?_)))
    refine AWX.seq ?_
    refine Qsr (Qp (Qf [.int .i64 _,_]) (Qp Qli (Qp Qmi (Qnn (AW.block ?_)))))
    refine AW.loopS (fun (q:Nat×Int)=>(⟨[(1,.ptr (cZn (zn n bs))),(4,.val (.pointer (some ⟨u.1,0,none⟩))),(5,.int .i64 q.2),(33,.int .i64 (n:Int)),(34,.int .i64 (q.1:Int))],.box u.1 231 [.val (.slice (some ⟨u.2.1,0,none⟩) n n),.val (.slice (some ⟨u.2.2,0,none⟩) n n)] :: .box u.2.1 3 (bI p.2.1.sums) :: .box u.2.2 3 (bI p.2.1.last)::H,59⟩:St)) (fun (q:Nat×Int)=>q.1≤n∧backN bs p.2.1 n p.2.2=backN bs p.2.1 (n-q.1) q.2∧backOK bs p.2.1 (n-q.1) q.2=true) (fun (q:Nat×Int)=>n-q.1) ((0,p.2.2)) ?_ (GS.weaken ⟨rfl,rfl,rfl,rfl,rfl,trivial⟩ (.refl _)) ?_
    · exact ⟨Nat.zero_le _,rfl,hws.1⟩
    ·
     rintro q hQ
     refine Qsr (Qp Qclt (Qnn (AW.seq (Qif (fun hc3=>?_) fun hc3=>?_))))
     ·
      have hlt3:q.1<n:=by have:=of_decide_eq_true hc3;omega
      have hb9:=back_head hQ.2.2 hlt3
      refine (okAt_iff hb9.1).elim fun c ok=>?_
      have hdl:=hd2.l
      refine Qst (AW.seq (AW.block ?_))
      refine AW.draw mixed (fun H'=>_∈H'∧_∈H') ⟨(List.mem_of_getElem? (i:=0) rfl),(List.mem_of_getElem? (i:=2) rfl)⟩ (by kernel_rfl) ?_
      refine Qn 0 rfl (Qf [_]) (Qn 1 rfl Qls (Qn 2 rfl Qmv ?_))
      refine Qn 3 rfl (P_nilCheck rfl) ?_
      refine Qn 4 rfl Qfv ?_
      refine Qn 5 rfl (OpP.mem (fun k=>P_load_box (k:=k) (c:=.val _) tok rfl rfl rfl rfl) (fun _ h=>h.1)) ?_
      refine Qn 6 rfl Qmi ?_
      refine Qn 7 rfl (P_indexAddr_val (o':=q.2.toNat) tok rfl rfl rfl rfl rfl (ok.a0) (by have:=ok.al;omega) (off0 _)) ?_
      refine Qn 8 rfl (OpP.mem (fun k=>P_load_box (k:=k) (c:=.int .i64 (ixI p.2.1.last q.2)) tok rfl rfl rfl (bI_at ok.a0 ok.al)) (fun _ h=>h.2)) ?_
      refine Qn 9 rfl (P_indexAddr (c:=[.int .i64 c.x,.int .i64 c.y,.int .i64 c.most]) tok rfl rfl rfl rfl rfl rfl (ok.l0) (cBd_at ok.at_)) ?_
      refine Qn 10 rfl (Qf [.int .i64 _,.int .i64 _]) (Qn 11 rfl Qli (Qn 12 rfl Qai ?_))
      refine Canon.done _ _ (by kernel_rfl) ?_
      refine blkN (thenN (AW.region (Qp Qad (Qp Qmi (Qnn ?_)))))
      refine ⟨(q.1+1,c.y),?_,?_,GS.weaken ⟨rfl,rfl,rfl,rfl,rfl,trivial⟩ (.refl _)⟩
      · exact ⟨hlt3,back_next hQ.2.1 hlt3 ok,by have:=hb9.2;rw [ok.pred] at this;exact this⟩
      · simp only;omega
     ·
      have hge3:n≤q.1:=by have:=of_decide_eq_false hc3;omega
      have hfr:backN bs p.2.1 n p.2.2=q.2:=hQ.2.1.trans (by rw [show n-q.1=0 by omega];rfl)
      refine AW.exit ?_
      refine thenE (thenE (blkHit (thenN ?_)))
      refine AWX.seq ?_
      refine AW.region ?_
      refine Qe (E_alloc (l:=[.val (.slice none 0 0)]) (by kernel_rfl)) ?_
      rintro _ _ ⟨b6,rfl,rfl⟩
      refine AOL.ghost (GS.cellRow 0 0 3 1 rfl rfl rfl rfl) ?_
      refine Qnn ?_
      refine AWX.assoc ?_
      refine AW.region (Qp Qmv (Qp (Qlg [.int .i64 _,_]) (Qp Qmi ?_)))
      refine Qp (Qc rfl (f_back u.1 n bs q.2)) ?_
      refine Qnn ?_
      refine AWX.rangeTail tok (fun H2=>∃v es,es≠[]∧H2 = .row v es.length 3 1 :: .box b6 154 [.row v 1 es]::(.box u.1 231 [.val (.slice (some ⟨u.2.1,0,none⟩) n n),.val (.slice (some ⟨u.2.2,0,none⟩) n n)] :: .box u.2.1 3 (bI p.2.1.sums) :: .box u.2.2 3 (bI p.2.1.last)::H)) rfl (by kernel_rfl) (fun rec D l hst hpe hps has hbo hsz htm=>?_) (fun D H2 hZ=>?_)
      ·
       have h6:=htm 6 _ rfl
       refine ACall.post (ACall.perm (List.perm_append_comm.append_right _:(([_,_,_,_] ++ [_,_,_])++H).Perm _) (f_back1 l rec u.1 u.2.1 u.2.2 n bs p.2.1 hz.n64 hd2.l (fun v pre=>.obj l (.loop rec) :: .obj D (.deferred (some [])) :: .row v ((pre.map cI)).length 3 1 :: .box b6 154 [.row v 1 ((pre.map cI))]::H) (by rw [hps];rfl) 0 (fun _ _=>rfl) q.2 (by rw [←hfr];exact hcy) (fun v pre x hpl=>?_) (.slice none 0 0))) ?_
       ·
        refine ARound.of (sl:=[(53,.int .i64 x),(6,.val (.pointer (some ⟨b6,0,none⟩)))]) hst hpe hsz (by rw [hps];exact one_params hsz rfl h6) ?_
        rw [has,hbo]
        refine AWr.region (by kernel_rfl) ?_
        refine Qp Qai (AOL.nil ?_)
        refine ⟨rfl,3,rfl,?_⟩
        refine AWr.block (AWr.region (by kernel_rfl) ?_)
        refine AOL.pk (P_load_box (k:=6) (c:=.row _ _ _) tok rfl rfl rfl rfl) rfl rfl ?_
        refine Qp Qmi ?_
        refine Qp (P_buildSlice (es:=[[.int .i64 _]]) tok rfl rfl rfl rfl rfl rfl rfl rfl rfl) ?_
        refine Qe (E_append (k:=5) tok rfl rfl rfl rfl rfl rfl rfl rfl (sc_one rfl) (sc_map fun _=>rfl) (by simp;omega) (by simp [maxLen];omega)) ?_
        rintro _ _ ⟨v57,rfl,rfl⟩
        refine Qe (E_store (k:=6) (v:=.row _ _ _) (cs':=[_]) (H2:=_::_::_::_::_::_::_::_) tok rfl rfl rfl rfl (rfl) rfl rfl rfl rfl) ?_
        rintro _ _ ⟨rfl,rfl⟩
        refine AOL.nil ?_
        exact ⟨rfl,3,rfl,rfl,v57,congrArg (fun es:List (List AV)=>(.box u.1 231 [.val (.slice (some ⟨u.2.1,0,none⟩) n n),.val (.slice (some ⟨u.2.2,0,none⟩) n n)] :: .box u.2.1 3 (bI p.2.1.sums) :: .box u.2.2 3 (bI p.2.1.last) :: .obj l (.loop rec) :: .obj D (.deferred (some [])) :: .row v57 (es).length 3 1 :: .box b6 154 [.row v57 1 (es)]::H:List HO)) (List.map_append (f:=cI) (l₁:=pre) (l₂:=[x])).symm⟩
       ·
        rintro r K ⟨rfl,v,es,hne,rfl⟩
        exact ⟨_,(List.perm_append_comm.append_right _:(([_,_,_] ++ [_,_,_,_])++H).Perm _),rec,_,rfl,by rw [hst];decide,hpe,v,es.map cI,fun h=>hne (List.map_eq_nil_iff.1 h),rfl⟩
      ·
       obtain ⟨v,es,hne,rfl⟩:=hZ
       refine ⟨_,GS.cell (H2:=_::_::_::_::_::_::_) 2 0 rfl rfl rfl rfl unrow_cell,?_⟩
       refine AWD.draw mixed (fun H'=>_∈H') (List.mem_of_getElem? (i:=2) rfl) (by kernel_rfl) ?_
       refine Qn 0 rfl (OpP.mem (fun k=>P_load_box (k:=k) (c:=.sl _ _) tok rfl rfl rfl rfl) (fun _ h=>h)) ?_
       refine Qn 1 rfl Qav (Qn 2 rfl Qas ?_)
       refine Canon.done _ _ (by kernel_rfl) ?_
       refine ⟨0,rfl,[_,_],.cons (.tmp _ _ rfl) (.cons (.tmp _ _ rfl) .nil),H,.cons _ (.cons _ (.cons _ (.cons _ (.cons _ (.cons _ (.refl _)))))),?_⟩
       exact Eq.mpr (if_neg (by rw [hge];decide)) ⟨es,hne,rfl,rfl⟩

end Go.Proofs.YtkddpedfbicbeaaGreatDoor
