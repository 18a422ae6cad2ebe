/-
  Several texts in one: Y11, Y12. No condition.
-/
import Derived.Test.YtkddpedfbicbeaaGreatDoorAz
import Derived.Test.YtkddpedfbicbeaaGreatDoorK22
import Derived.Test.YtkddpedfbicbeaaGreatDoorK37
import Derived.KernelRfl
set_option linter.unusedVariables false
set_option linter.unusedSimpArgs false
namespace Go.Proofs.YtkddpedfbicbeaaGreatDoor
open Go Go.Aw
set_option maxHeartbeats 6400000
set_option maxRecDepth 20000

theorem d_name (T:List Sc)(V:List Va)(l:List Lit)(hlk:Un T V l)(hll:l.length≤4096)(m:Nat)(w:Wm)(hw:Rq w)(bo:Nat)(v:Value)(l0:Es)(hev:evOK T V (l0.map Prod.fst))(R:List HO):Dr Tryz.prog 146 (Zb bo v l0 (.kmap m (wE w)::R)) [.agg (Cj T V),.sl 9 (l.map Gw),.val (.map (some m)),.fn (.func 147) [] [.val (.pointer (some ⟨bo,0,none⟩))]] (fun r H'=>∃l',l'.map Prod.fst=bZ T V w l (l0.map Prod.fst)∧evOK T V (l'.map Prod.fst)∧r = .tuple []∧H'=Zb bo v l' (.kmap m (wE w)::R)):=by
 refine Dr.perm (kF (pre:=[.kmap m (wE w)])).symm ?_
 refine Dr.body (n:=126) Ai Tryz.func146 rfl rfl rfl ?_
 refine AW.ghostPost ?_
 refine Ah (Qp (Fx [_,_]) (Db ?_))
 refine Qe (Rf) ?_
 rintro _ _ ⟨b22,rfl,rfl⟩
 refine Qp Oc (Db (Qp Oc ?_))
 refine AOL.ghost (GS.row (t:=9) 214 5 rfl) ?_
 refine Ag (AW.seq (Ah (Qp C5 ?_)))
 refine Qp (Ak (n:=l.length) Ai rfl rfl rfl (by simp)) ?_
 refine Qp Az (Ag (AW.block ?_))
 refine AW.Aau (fun (p:Nat×Um×List Wd×Value×List (List AV))=>(⟨[(2,.val (.map (some m))),(3,.fn (.func 147) [] [.val (.pointer (some ⟨bo,0,none⟩))]),(4,.ptr (Cj T V)),(8,.val (.map (some b22))),(9,.row p.2.2.2.1 5 p.2.2.2.2),(23,.sl 9 (l.map Gw)),(24,.int .i64 l.length),(25,.int .i64 (p.1:Int))],.row p.2.2.2.1 p.2.2.2.2.length 214 5 :: .smap b22 (sE p.2.1) :: .kmap m (wE w)::Zb bo v l0 R,126⟩:St)) (fun (p:Nat×Um×List Wd×Value×List (List AV))=>p.1≤l.length∧Hl T V (l.take p.1)=(p.2.1,p.2.2.1)∧(∀x∈p.2.2.1,wdOK T V x)∧p.2.1.length≤2*p.1∧p.2.2.1.length≤2*p.1∧p.2.2.2.2=p.2.2.1.map Ld) (fun (p:Nat×Um×List Wd×Value×List (List AV))=>l.length-p.1) ((0,[],[],.slice none 0 0,[])) ?_ (GS.weaken ⟨rfl,rfl,rfl,rfl,rfl,rfl,rfl,rfl,trivial⟩ (.refl _)) ?_
 · exact ⟨Nat.zero_le _,rfl,fun x hx=>(by cases hx),Nat.le_refl _,Nat.le_refl _,rfl⟩
 ·
  rintro p hR
  have hE:=hR.2.2.2.2.2
  refine Ah (Qp Cf (Ag (AW.seq (A2 (fun hc1=>?_) fun hc1=>?_))))
  ·
   obtain ⟨c,hc⟩:=B1 hc1
   have hlt:=A8 hc
   have hcm:=List.mem_of_getElem? hc
   have hck:=(hlk c hcm).1
   have hcs:=Nat.le_trans (hlk c hcm).2 (by decide:64≤1048576)
   refine Bv (AW.seq (AW.block (Ah ?_)))
   refine Qp (Af (c:=[Iq _,_,Iq _,Iq _,Iq _,Iq _,Iq _,.str _,.bool _]) Ai rfl rfl rfl rfl rfl rfl (by omega) (Bg hc)) ?_
   refine Qp (Cd [Iq _,_,Iq _,Iq _,Iq _,Iq _,Iq _,.str _,.bool _]) ?_
   refine Qe (Aj (l:=[.int .i64 0,.sl 8 [],.int .i64 0,.int .i64 0,.int .i64 0,.int .i64 0,.int .i64 0,.str [],.bool false]) (by kernel_rfl)) ?_
   rintro _ _ ⟨b11,rfl,rfl⟩
   refine Cq 0 [Iq _,_,Iq _,Iq _,Iq _,Iq _,Iq _,.str _,.bool _] (_::_::_::_::_::_::_) ?_
   refine AOL.ghost (GS.Aat (t:=11) 0 rfl rfl) ?_
   refine Ag (AW.seq (Ah (Qp (Cd [_,_]) (Qp (Qf [Iq _,_,Iq _,Iq _,Iq _,Iq _,Iq _,.str _,.bool _]) (Qp Dh ?_)))))
   refine Qp (Qc rfl (S8 T V c.cond hck)) ?_
   refine Qp Ge (Qp Bm (Qg [] Qw (Cd [_,_]) (Qg [] Qw (Qf [Iq _,_,Iq _,Iq _,Iq _,Iq _,Iq _,.str _,.bool _]) (Qg [(36,_)] Qw Dh ?_))))
   refine AOL.Aav (y:=.bool _) _ [(35,_),(37,_)] rfl (sB.all ⟨tO.self _ _,tO.self _ _,trivial⟩) (fun hG=>Ct (by kernel_rfl) rfl rfl (Ph T V c.cond hck hcs)) rfl ?_
   refine Qg [(38,_)] Qw Ge (Qp Ek (Ag (A2 (fun hc2=>?_) fun hc2=>?_)))
   ·
    refine AW.exit ?_
    refine A3 (Bq (Ae (AW.region (Qp Fu (Qp Az (Ag ?_))))))
    refine ⟨(p.1+1,p.2),?_,?_,GS.weaken ⟨rfl,rfl,rfl,rfl,rfl,rfl,rfl,rfl,trivial⟩ (.refl _)⟩
    · exact ⟨hlt,by unfold Hl;rw [Cm hc,List.foldl_append];exact (congrArg (fun z=>Tv T V z c) hR.2.1).trans (Sn hc2),hR.2.2.1,by have:=hR.2.2.2.1;simp only;omega,by have:=hR.2.2.2.2.1;simp only;omega,hE⟩
    · simp only;omega
   ·
    have h2a:=S9 hck hc2
    have hal:=h2a.1
    refine Bv (Ah (Qp (Qf [Iq _,_,Iq _,Iq _,Iq _,Iq _,Iq _,.str _,.bool _]) (Qp (Qf [_,Iq _,Iq _,Iq _,Iq _,Iq _,.str _,.bool _]) (Qp Dg ?_))))
    refine Qp (Ak (n:=c.cond.args.length) Ai rfl rfl rfl (by simp)) ?_
    refine Qp Az (Ag (AW.block ?_))
    refine AW.Aau (fun (q:Nat×Um×List Wd×Value×List (List AV))=>(⟨[(2,.val (.map (some m))),(3,.fn (.func 147) [] [.val (.pointer (some ⟨bo,0,none⟩))]),(4,.ptr (Cj T V)),(8,.val (.map (some b22))),(9,.row q.2.2.2.1 5 q.2.2.2.2),(23,.sl 9 (l.map Gw)),(24,.int .i64 l.length),(25,.int .i64 (p.1:Int)),(43,.sl 8 (c.cond.args.map Gs)),(44,.int .i64 c.cond.args.length),(45,.int .i64 (q.1:Int))],.row q.2.2.2.1 q.2.2.2.2.length 214 5 :: .smap b22 (sE q.2.1) :: .kmap m (wE w)::Zb bo v l0 R,126⟩:St)) (fun (q:Nat×Um×List Wd×Value×List (List AV))=>q.1≤c.cond.args.length∧c.cond.args.foldl Xb (p.2.1,p.2.2.1)=(c.cond.args.drop q.1).foldl Xb (q.2.1,q.2.2.1)∧(∀x∈q.2.2.1,wdOK T V x)∧q.2.1.length≤p.2.1.length+q.1∧q.2.2.1.length≤p.2.2.1.length+q.1∧q.2.2.2.2=q.2.2.1.map Ld) (fun (q:Nat×Um×List Wd×Value×List (List AV))=>c.cond.args.length-q.1) ((0,p.2)) ?_ (GS.weaken ⟨rfl,rfl,rfl,rfl,rfl,rfl,rfl,rfl,rfl,rfl,rfl,trivial⟩ (.refl _)) ?_
    · exact ⟨Nat.zero_le _,rfl,hR.2.2.1,Nat.le_refl _,Nat.le_refl _,hE⟩
    ·
     rintro q hQ
     have hb1:=hR.2.2.2.1
     have hb2:=hR.2.2.2.2.1
     have hb3:=hQ.2.2.2.1
     have hb4:=hQ.2.2.2.2.1
     have hF:=hQ.2.2.2.2.2
     have hsc:∀c∈q.2.2.2.2,Bf c=true:=by rw [hF];exact cWd_sc _
     have hql:q.2.2.2.2.length=q.2.2.1.length:=by rw [hF];simp
     refine Ah (Qp Cf (Ag (AW.seq (A2 (fun hc3=>?_) fun hc3=>?_))))
     ·
      obtain ⟨a,ha⟩:=B1 hc3
      have hlta:=A8 ha
      have ham:=List.mem_of_getElem? ha
      refine Bv (AW.seq (AW.block (Ah ?_)))
      refine Qp (Af (c:=[Iq _,_,Iq _,Iq _,Iq _,Iq _,Iq _,.str _]) Ai rfl rfl rfl rfl rfl rfl (by omega) (E0 ha)) ?_
      refine Qp Dh ?_
      refine Qe (Aj (l:=[.int .i64 0,.sl 8 [],.int .i64 0,.int .i64 0,.int .i64 0,.int .i64 0,.int .i64 0,.str []]) (by kernel_rfl)) ?_
      rintro _ _ ⟨b13,rfl,rfl⟩
      refine Cq 0 [Iq _,_,Iq _,Iq _,Iq _,Iq _,Iq _,.str _] (_::_::_::_::_::_::_) ?_
      refine AOL.ghost (GS.Aat (t:=13) 0 rfl rfl) ?_
      refine Db (Qp Dh ?_)
      refine Qp (Qc rfl (O1 a)) ?_
      refine Qe (Aj (l:=[.bool false,.str [],.int .i64 0,.int .i64 0,.int .i64 0]) (by kernel_rfl)) ?_
      rintro _ _ ⟨b14,rfl,rfl⟩
      refine Cq 0 [.bool _,.str _,Iq _,Iq _,Iq _] (_::_::_::_::_::_::_) ?_
      refine AOL.ghost (GS.Aat (t:=14) 0 rfl rfl) ?_
      refine Db (Qp Hw (Qp (Qf [.str _,Iq _,Iq _,Iq _]) (Qp Vn (Qp Hw (Qp (Qf [.str _,Iq _,Iq _,Iq _]) (Qp Vn ?_))))))
      refine AOL.Aay (nD (i:=1) Ai rfl rfl rfl rfl rfl rfl (by kernel_rfl) rfl rfl) rfl rfl ?_
      refine Qp Bm (Qg [] Qw (Qf [.bool _,.str _,Iq _,Iq _,Iq _]) (Qg [(59,_)] Qw jS (Qp Ek ?_)))
      refine Qe (uX (i:=1) (H2:=_::_::_::_::_::_) Ai rfl rfl rfl rfl rfl rfl rfl rfl rfl) ?_
      rintro _ _ ⟨rfl,rfl⟩
      refine Ag (AW.region ?_)
      refine Qp (Bk (v:=.row _ _ _) rfl) ?_
      refine Qp (Cd [.bool _,.str _,Iq _,Iq _,Iq _]) ?_
      refine Qp (A0 (es:=[[.bool _,.str _,Iq _,Iq _,Iq _]]) Ai rfl rfl rfl rfl rfl rfl rfl rfl rfl) ?_
      refine Qe (Dj (k:=0) Ai rfl rfl rfl rfl rfl rfl rfl rfl (G2 rfl) (hsc) (by simp;omega) (by simp [maxLen];omega)) ?_
      rintro _ _ ⟨v65,rfl,rfl⟩
      refine Qp (C8 (v:=.row _ _ _) rfl) ?_
      refine AOL.nil (Bp (Ae (AW.region (Qp Fu (Qp Az (Ag ?_))))))
      refine ⟨(q.1+1,Tt q.2.1 (B8 a).text (E8 q.2.1 (B8 a).text||(B8 a).const),q.2.2.1 ++ [B8 a],v65,q.2.2.2.2 ++ [Ld (B8 a)]),?_,?_,GS.weaken ⟨rfl,rfl,rfl,rfl,rfl,rfl,rfl,rfl,rfl,rfl,rfl,trivial⟩ (.refl _)⟩
      · exact ⟨hlta,hQ.2.1.trans (Zt ha),fun x hx=>(List.mem_append.1 hx).elim (hQ.2.2.1 x) (fun h=>by rw [List.mem_singleton.1 h];exact oX (Ax hck ham) (h2a.2 a ham)),by have:=X7 q.2.1 (B8 a).text (E8 q.2.1 (B8 a).text||(B8 a).const);simp only;omega,by simp only [List.length_append,List.length_singleton];omega,by simp only;rw [hF,List.map_append];rfl⟩
      · simp only;omega
     ·
      have hde:=Df hc3
      have hfo:=hQ.2.1
      rw [hde] at hfo
      refine AW.exit ?_
      refine A3 (A3 (Bq (Bp (Ae (AW.region (Qp Fu (Qp Az (Ag ?_))))))))
      refine ⟨(p.1+1,q.2),?_,?_,GS.weaken ⟨rfl,rfl,rfl,rfl,rfl,rfl,rfl,rfl,trivial⟩ (.refl _)⟩
      · exact ⟨hlt,by unfold Hl;rw [Cm hc,List.foldl_append];exact (congrArg (fun z=>Tv T V z c) hR.2.1).trans ((My hc2).trans hfo),hQ.2.2.1,by have:=hR.2.2.2.1;have:=hQ.2.2.2.1;have:=hQ.1;simp only;omega,by have:=hR.2.2.2.2.1;have:=hQ.2.2.2.2.1;have:=hQ.1;simp only;omega,hQ.2.2.2.2.2⟩
      · simp only;omega
  ·
   have hte:=Cv hc1
   have hcol:=hR.2.1
   rw [hte] at hcol
   have hwds:=hR.2.2.1
   have hUl:=hR.2.2.2.1
   have hAl:=hR.2.2.2.2.1
   refine AW.exit ?_
   refine A3 (A3 (Bq (Ae (Ah ?_))))
   refine Qe (Nr) ?_
   rintro _ _ ⟨b68,rfl,rfl⟩
   refine Qp Oc (Db ?_)
   refine Qp (Bk (v:=.row _ _ _) rfl) ?_
   refine Qp (Nb (n:=p.2.2.1.length) Ai rfl rfl rfl (by rw [hE];simp)) ?_
   refine Qp Az (Ag (AW.block ?_))
   refine AW.Aau (fun (o:Nat×Um×Nm×Es)=>(⟨[(2,.val (.map (some m))),(3,.fn (.func 147) [] [.val (.pointer (some ⟨bo,0,none⟩))]),(8,.val (.map (some b22))),(15,.val (.map (some b68))),(69,.row p.2.2.2.1 5 p.2.2.2.2),(70,.int .i64 p.2.2.1.length),(71,.int .i64 (o.1:Int))],.kmap b68 (nE o.2.2.1) :: .row p.2.2.2.1 p.2.2.2.2.length 214 5 :: .smap b22 (sE o.2.1) :: .kmap m (wE w)::Zb bo v o.2.2.2 R,126⟩:St)) (fun (o:Nat×Um×Nm×Es)=>o.1≤p.2.2.1.length∧p.2.2.1.foldl (Ix w) (p.2.1,[],l0.map Prod.fst)=(p.2.2.1.drop o.1).foldl (Ix w) (o.2.1,o.2.2.1,o.2.2.2.map Prod.fst)∧evOK T V (o.2.2.2.map Prod.fst)∧o.2.1.length≤p.2.1.length+o.1) (fun (o:Nat×Um×Nm×Es)=>p.2.2.1.length-o.1) ((0,p.2.1,[],l0)) ?_ (GS.weaken ⟨rfl,rfl,rfl,rfl,rfl,rfl,rfl,trivial⟩ (.refl _)) ?_
   · exact ⟨Nat.zero_le _,rfl,hev,Nat.le_refl _⟩
   ·
    rintro o hO
    refine Ah (Qp Cf (Ag (AW.seq (A2 (fun hc4=>?_) fun hc4=>?_))))
    ·
     obtain ⟨x,hx⟩:=B1 hc4
     have hltx:=A8 hx
     have hxm:=List.mem_of_getElem? hx
     have hwx:=hwds x hxm
     have hno:=hO.2.1
     rw [Zt hx] at hno
     have hevo:=hO.2.2.1
     have hUo:=hO.2.2.2
     refine Bv (AW.seq (AW.block (Ah ?_)))
     refine Qp (Kr (c:=[.bool _,.str _,Iq _,Iq _,Iq _]) Ai rfl rfl rfl rfl rfl rfl (by omega) (by rw [hE];exact Bg hx)) ?_
     refine Qp (Cd [.bool _,.str _,Iq _,Iq _,Iq _]) ?_
     refine Qe (Aj (l:=[.bool false,.str [],.int .i64 0,.int .i64 0,.int .i64 0]) (by kernel_rfl)) ?_
     rintro _ _ ⟨b17,rfl,rfl⟩
     refine Cq 0 [.bool _,.str _,Iq _,Iq _,Iq _] (_::_::_::_::_::_::_::_) ?_
     refine AOL.ghost (GS.Aat (t:=17) 0 rfl rfl) ?_
     refine Db (Qp Hw (Qp (Cd [.bool _,.str _,Iq _,Iq _,Iq _]) ?_))
     refine AOL.Aay (Sk (ho:=.kmap m (wE w)) (KK:=fun H=>H[3]? = some (.kmap m (wE w))) (by kernel_rfl) rfl rfl (Rt m w hw x) (fun _ h=>List.mem_of_getElem? h)) rfl rfl ?_
     refine Qe (Aj (l:=[.bool false,.str [],.int .i64 0,.int .i64 0,.int .i64 0]) (by kernel_rfl)) ?_
     rintro _ _ ⟨b18,rfl,rfl⟩
     refine Cq 0 [.bool _,.str _,Iq _,Iq _,Iq _] (_::_::_::_::_::_::_::_) ?_
     refine AOL.ghost (GS.Aat (t:=18) 0 rfl rfl) ?_
     refine Ag ?_
     refine AW.cut (fun (t:Um×Nm)=>(⟨[(2,.val (.map (some m))),(3,.fn (.func 147) [] [.val (.pointer (some ⟨bo,0,none⟩))]),(8,.val (.map (some b22))),(15,.val (.map (some b68))),(69,.row p.2.2.2.1 5 p.2.2.2.2),(70,.int .i64 p.2.2.1.length),(71,.int .i64 (o.1:Int)),(17,.ptr (Ld x)),(18,.ptr (Ld (Cb w x)))],.kmap b68 (nE t.2) :: .row p.2.2.2.1 p.2.2.2.2.length 214 5 :: .smap b22 (sE t.1) :: .kmap m (wE w)::Zb bo v o.2.2.2 R,126⟩:St)) (fun (t:Um×Nm)=>t=aH o.2.1 o.2.2.1 (Cb w x)) ?_ ?_
     ·
      refine Ah (Qp Hw (Qp (Cd [.bool _,.str _,Iq _,Iq _,Iq _]) ?_))
      refine AOL.Aay (P5 (i:=0) (eq:=Jo (Cb w x)) Ai rfl rfl rfl rfl rfl (by kernel_rfl) rfl rfl (rfl) (bE (Cb w x) _) (look_n (Cb w x) _) (has_n (Cb w x) _)) rfl rfl ?_
      refine Qp Lv (Qp Qxt (Qp dK (Qp Qat (Qp Bc (Db (Qp Bm (Qp Ge (Ag (A2 (fun hc5=>?_) fun hc5=>?_)))))))))
      ·
       have hnn:=fQ hc5
       refine Ah (Qp Hw (Qp (Cd [.bool _,.str _,Iq _,Iq _,Iq _]) (Qp (Qf [.str _,Iq _,Iq _,Iq _]) (Qp Vn ?_))))
       refine Qe (zP (i:=0) (H2:=_::_::_::_::_::_::_) Ai rfl rfl rfl rfl rfl rfl rfl rfl hnn rfl) ?_
       rintro _ _ ⟨rfl,rfl⟩
       refine Ag (AW.seq (Ah (Qp Ap (Ag (AW.block ?_)))))
       refine AW.Aau (fun (z:Nat×Ft)=>(⟨[(2,.val (.map (some m))),(3,.fn (.func 147) [] [.val (.pointer (some ⟨bo,0,none⟩))]),(8,.val (.map (some b22))),(15,.val (.map (some b68))),(69,.row p.2.2.2.1 5 p.2.2.2.2),(70,.int .i64 p.2.2.1.length),(71,.int .i64 (o.1:Int)),(17,.ptr (Ld x)),(18,.ptr (Ld (Cb w x))),(21,.int .i64 (z.1:Int))],.kmap b68 (nE (o.2.2.1 ++ [((Cb w x),z.2)])) :: .row p.2.2.2.1 p.2.2.2.2.length 214 5 :: .smap b22 (sE o.2.1) :: .kmap m (wE w)::Zb bo v o.2.2.2 R,126⟩:St)) (fun (z:Nat×Ft)=>nmI o.2.1 (Cb w x) z.1 z.2) (fun (z:Nat×Ft)=>o.2.1.length+2-z.1) ((0,(Cb w x).text)) ?_ (GS.weaken ⟨rfl,rfl,rfl,rfl,rfl,rfl,rfl,rfl,rfl,rfl,trivial⟩ (.refl _)) ?_
       · exact .inl ⟨rfl,rfl⟩
       ·
        rintro z hz
        refine AW.seq (Ah (Qp (Qf [.bool _,.str _,Iq _,Iq _,Iq _]) (Qp jS (Qp Ge (Qp Bm (Qg [] Qw Az (Qg [(94,_)] Qw A6 (Qg [(95,_)] Qw Bm (Qg [] Qw Hw ?_)))))))))
        refine Qg [] Qw Hw (Qg [] Qw (Cd [.bool _,.str _,Iq _,Iq _,Iq _]) ?_)
        refine AOL.gk (y:=.str _) _ [(98,_),(99,_)] rfl (sB.all ⟨tO.self _ _,tO.self _ _,trivial⟩) (fun hG=>Jk (i:=0) (eq:=Jo (Cb w x)) Ai rfl rfl rfl rfl rfl (by kernel_rfl) rfl rfl (rfl) (bE (Cb w x) _) (cR (Uf hnn))) rfl rfl ?_
        refine AOL.gk (y:=.bool _) _ [(97,_),(100,_)] rfl (sB.all ⟨tO.self _ _,tO.self _ _,trivial⟩) (fun hG=>nD (i:=2) Ai rfl rfl rfl rfl rfl rfl (by kernel_rfl) rfl rfl) rfl rfl ?_
        refine Qg [(96,_),(101,_)] Qw Ek (Qp Em (Ag (A2 (fun hc6=>?_) fun hc6=>?_)))
        ·
         have h6:=Bool.and_eq_true_iff.mp hc6
         have hrc:(Cb w x).const=false:=(Bool.not_eq_true' _).mp h6.1
         have h6b:z.1=0∨E8 o.2.1 z.2=true:=by have:=h6.2;simp at this;omega
         have hzl:=nm_len hz
         refine Bv (AW.seq (AW.block ?_))
         refine AW.draw mixed (fun _=>True) trivial (by kernel_rfl) ?_
         refine Qn 0 rfl Hw (Qn 1 rfl (Cd [.bool _,.str _,Iq _,Iq _,Iq _]) (Qn 2 rfl Az ?_))
         refine Qn 3 rfl (Qc rfl (kItoa _ (by omega) (by omega))) ?_
         refine Qn 4 rfl (pW rfl rfl rfl (by have h8:=Go.Lib.itoa_length_le (z.1:Int) (by omega) (by omega);simp only [List.length_append,List.length_cons,List.length_nil,maxLen];omega)) ?_
         refine Js.eff _ _ 5 _ _ rfl (by kernel_rfl) rfl rfl (E_nmSet (i:=0) (H2:=_::_::_::_::_::_::_) Ai rfl rfl rfl rfl rfl rfl rfl rfl hnn rfl) (fun _ _ _=>trivial) ?_
         rintro _ _ ⟨rfl,rfl⟩
         refine Js.done _ _ (by kernel_rfl) ?_
         refine Bp (Ae (AW.region (Qp Az (Qp Fu (Qp Ap (Ag ?_))))))
         refine ⟨(z.1+1,wN z.1),?_,?_,GS.weaken ⟨rfl,rfl,rfl,rfl,rfl,rfl,rfl,rfl,rfl,rfl,trivial⟩ (.refl _)⟩
         · exact zK hz hrc h6b
         · simp only;omega
        ·
         have hnm:=nm_done hz (by simpa using hc6)
         refine AW.exit ?_
         refine A3 (A3 (Bq (Ae (AW.region (Qp Hw (Qp Hw (Qp (Cd [.bool _,.str _,Iq _,Iq _,Iq _]) ?_)))))))
         refine AOL.Aay (Jk (i:=0) (eq:=Jo (Cb w x)) Ai rfl rfl rfl rfl rfl (by kernel_rfl) rfl rfl (rfl) (bE (Cb w x) _) (cR (Uf hnn))) rfl rfl ?_
         refine Qe (uX (i:=2) (H2:=_::_::_::_::_::_::_) Ai rfl rfl rfl rfl rfl rfl rfl rfl rfl) ?_
         rintro _ _ ⟨rfl,rfl⟩
         refine Ag ?_
         refine ⟨(Tt o.2.1 z.2 true,o.2.2.1 ++ [((Cb w x),z.2)]),?_,GS.weaken ⟨rfl,rfl,rfl,rfl,rfl,rfl,rfl,rfl,rfl,trivial⟩ (.refl _)⟩
         exact (by rw [dY hnn,hnm])
      ·
       refine Bv ?_
       refine ⟨(o.2.1,o.2.2.1),?_,GS.weaken ⟨rfl,rfl,rfl,rfl,rfl,rfl,rfl,rfl,rfl,trivial⟩ (.refl _)⟩
       exact (bY hc5).symm
     ·
      rintro t hT
      have hgs:Ia t.2 (Cb w x)=some (nmT o.2.1 o.2.2.1 (Cb w x)):=by rw [hT];exact dT _ _ _
      refine Ah (Qp (Qf [.bool _,.str _,Iq _,Iq _,Iq _]) (Qp jS (Qp Ge (Ag (A2 (fun hc7=>?_) fun hc7=>?_)))))
      ·
       have hxc:x.const=false:=(Bool.not_eq_true' _).mp hc7
       refine AW.draw mixed (fun H'=>_∈H') (List.mem_of_getElem? (i:=0) rfl) (by kernel_rfl) ?_
       refine Qn 0 rfl (Bk (v:=.fn _ _ _) rfl) ?_
       refine Qn 1 rfl (Qf [Iq _,Iq _,Iq _]) (Qn 2 rfl (Cd [Iq _,Iq _,Iq _]) (Qn 3 rfl Hw (Qn 4 rfl (Cd [.bool _,.str _,Iq _,Iq _,Iq _]) ?_)))
       refine Qn 5 rfl (OpP.Aax (fun k=>Jk (i:=k) (eq:=Jo (Cb w x)) Ai rfl rfl rfl rfl rfl (by kernel_rfl) rfl rfl (rfl) (bE (Cb w x) _) (cR hgs)) (fun _ h=>h)) ?_
       refine Js.last _ _ 6 _ _ rfl (by kernel_rfl) rfl rfl (Jh (by kernel_rfl) rfl rfl rfl (yE (pre:=[_,_,_,_]) (qL T V bo v o.2.2.2 hevo x.field (hwx hxc).1 (hwx hxc).2 (nmT o.2.1 o.2.2.1 (Cb w x)) _))) (by kernel_rfl) ?_
       rintro _ _ ⟨rfl,rfl⟩
       refine Bp (Ae (AW.region (Qp Fu (Qp Az (Ag ?_)))))
       refine ⟨(o.1+1,t.1,t.2,o.2.2.2.modify x.field.v.toNat fun p=>(Wi p.1 x.field.field.toNat (fun y=>{ y with text:=nmT o.2.1 o.2.2.1 (Cb w x) }),p.2)),?_,?_,GS.weaken ⟨rfl,rfl,rfl,rfl,rfl,rfl,rfl,trivial⟩ (.refl _)⟩
       · exact ⟨hltx,hno.trans (congrArg (List.foldl (Ix w) · _) (nm_f hT hxc)),by rw [eI];exact mV hevo _ _,by have:=cP o.2.1 o.2.2.1 (Cb w x);rw [←hT] at this;simp only;omega⟩
       · simp only;omega
      ·
       have hxc:x.const=true:=(Bool.not_eq_false' _).mp hc7
       refine AW.skip (Bp (Ae (AW.region (Qp Fu (Qp Az (Ag ?_))))))
       refine ⟨(o.1+1,t.1,t.2,o.2.2.2),?_,?_,GS.weaken ⟨rfl,rfl,rfl,rfl,rfl,rfl,rfl,trivial⟩ (.refl _)⟩
       · exact ⟨hltx,hno.trans (congrArg (List.foldl (Ix w) · _) (nm_c hT hxc)),hevo,by have:=cP o.2.1 o.2.2.1 (Cb w x);rw [←hT] at this;simp only;omega⟩
       · simp only;omega
    ·
     have hde:=Df hc4
     have hfin:=hO.2.1
     rw [hde] at hfin
     refine AW.exit ?_
     refine A3 (A3 (Bq ?_))
     refine ⟨_,GS.trans (GS.weaken (sl':=[]) (H':=.kmap m (wE w)::Zb bo v _ R) trivial (.cons _ (.cons _ (.cons _ (.refl _))))) (GS.perm (kF (pre:=[.kmap m (wE w)]))),.inl rfl,[],.nil,_,.refl _,?_⟩
     exact ⟨o.2.2.2,(by unfold bZ;rw [hcol,hfin];rfl),hO.2.2.1,rfl,rfl⟩

set_option maxHeartbeats 6400000
set_option maxRecDepth 20000

theorem xL (T:List Sc)(V:List Va)(hty:Ln T V)(hst:∀s∈T,I9 s)(hvl:V.length≤1048576)(l:List Lit)(hlk:Un T V l)(hll:l.length≤4096)(m:Nat)(w:Wm)(hw:Rq w)(vals:List Int)(hvs:(B6 T V l).ts.length+1≤vals.length)(H:List HO):Dr Tryz.prog 105 (.kmap m (wE w)::H) [.agg (Cj T V),.sl 9 (l.map Gw),.agg [.ptr (rO T V l),.sl 1 (vals.map cI),.val (.map (some m))]] (fun r H'=>r = .sl 5 ((yX T V w l vals).map Pm)∧H' = .kmap m (wE w)::H):=by
 have hgl:=(Kf hlk).len
 refine Dr.body (n:=102) Ai Tryz.func105 rfl rfl rfl ?_
 refine Ah (Qp (Fx [_,_]) (Qp (Fx [_,_,_]) ?_))
 refine Qp (Bz (z:=5) rfl) ?_
 refine Db ?_
 refine Qe (Aj (l:=[.val (.slice none 0 0)]) (by kernel_rfl)) ?_
 rintro _ _ ⟨b7,rfl,rfl⟩
 refine AOL.ghost (GS.buf 67 5) ?_
 refine Ag (AW.seq (Ah (Qp (Qf [_]) (Qp Dg ?_))))
 refine Qp (Ak (n:=V.length) Ai rfl rfl rfl (by simp)) ?_
 refine Qp Az (Ag (AW.block ?_))
 refine AW.Aau (fun (p:Nat×Value×Es)=>(⟨[(1,.sl 9 (l.map Gw)),(3,.ptr (Cj T V)),(5,.ptr [.ptr (rO T V l),.sl 1 (vals.map cI),.val (.map (some m))]),(7,.val (.pointer (some ⟨b7,0,none⟩))),(16,.sl 2 (V.map Ub)),(17,.int .i64 V.length),(18,.int .i64 (p.1:Int))],.buf p.2.1 (p.2.2.map Cw) 67 5 :: .box b7 58 [.val p.2.1]::(p.2.2.map F8++(.kmap m (wE w)::H)),102⟩:St)) (fun (p:Nat×Value×Es)=>p.1≤V.length∧p.2.2.map Prod.fst=Hs T 0 (V.take p.1)) (fun (p:Nat×Value×Es)=>V.length-p.1) ((0,.slice none 0 0,[])) ?_ (GS.weaken ⟨rfl,rfl,rfl,rfl,rfl,rfl,rfl,trivial⟩ (.refl _)) ?_
 · exact ⟨Nat.zero_le _,rfl⟩
 ·
  rintro ⟨k1,v1,l1⟩ hR
  have hk1:k1≤V.length:=hR.1
  have hl1:l1.length=k1:=by have:=congrArg List.length hR.2;rw [S0,List.length_take] at this;simp at this;omega
  refine Ah (Qp Cf (Ag (AW.seq (A2 (fun hc1=>?_) fun hc1=>?_))))
  ·
   obtain ⟨va,hva⟩:=B1 hc1
   have hlt:=A8 hva
   have hvm:=List.mem_of_getElem? hva
   have hvt:=hty va hvm
   refine (yA hty hvm).elim fun sc hsc=>?_
   have hfl:=(hst sc (List.mem_of_getElem? hsc)).2.1
   refine Bv (AW.seq (AW.block (Ah (Qp Az ?_))))
   refine Qp (Af (c:=[.str _,Iq _]) Ai rfl rfl rfl rfl rfl rfl (by omega) (Bg hva)) ?_
   refine Qp (Cd [.str _,Iq _]) ?_
   refine Qe (Aj (l:=[.str [],.int .i64 0]) (by kernel_rfl)) ?_
   rintro _ _ ⟨b9,rfl,rfl⟩
   refine Qp Ap ?_
   refine Cq 0 [.str _,Iq _] (_::_::_::_) ?_
   refine AOL.ghost (GS.Aat (t:=9) 0 rfl rfl) ?_
   refine Db (Qp Az (Qp (Qf [Iq _]) (Qp Br ?_)))
   refine Qp (Pa (l0:=[.int .i64 0,.int .i64 0,.int .i64 0,.int .i64 0,.val (.slice none 0 0)]) (l:=[Iq _,Iq _,Iq _,Iq _,_]) Ai rfl rfl (by kernel_rfl) rfl) ?_
   refine Qe (Aj (l:=[.int .i64 0,.int .i64 0,.int .i64 0,.int .i64 0,.val (.slice none 0 0)]) (by kernel_rfl)) ?_
   rintro _ _ ⟨b10,rfl,rfl⟩
   refine Cq 0 [Iq _,Iq _,Iq _,Iq _,_] (_::_::_::_) ?_
   refine AOL.ghost (GS.buf 28 3) ?_
   refine Ag (AW.seq (Ah (Qp (Qf [_,_]) (Qp Dg (Qp (Qf [Iq _]) (Qp Br ?_))))))
   refine Qp (Af (c:=[.str _,_]) Ai rfl rfl rfl rfl rfl rfl (hvt.1) (Bg hsc)) ?_
   refine Qp (Qf [_]) (Qp Dg ?_)
   refine Qp (Ak (n:=sc.fields.length) Ai rfl rfl rfl (by simp)) ?_
   refine Qp Az (Ag (AW.block ?_))
   refine AW.Aau (fun (q:Nat×Value×List (List AV))=>(⟨[(1,.sl 9 (l.map Gw)),(3,.ptr (Cj T V)),(5,.ptr [.ptr (rO T V l),.sl 1 (vals.map cI),.val (.map (some m))]),(7,.val (.pointer (some ⟨b7,0,none⟩))),(8,.int .i64 (k1:Int)),(10,.val (.pointer (some ⟨b10,0,none⟩))),(16,.sl 2 (V.map Ub)),(17,.int .i64 V.length),(18,.int .i64 (k1:Int)),(33,.sl 2 (sc.fields.map cFi)),(34,.int .i64 sc.fields.length),(35,.int .i64 (q.1:Int))],.buf q.2.1 q.2.2 28 3 :: .box b10 67 [.int .i64 0,.int .i64 (k1:Int),.int .i64 va.type,.int .i64 0,.val q.2.1] :: .buf v1 (l1.map Cw) 67 5 :: .box b7 58 [.val v1]::(l1.map F8++(.kmap m (wE w)::H)),102⟩:St)) (fun (q:Nat×Value×List (List AV))=>q.1≤sc.fields.length∧q.2.2=((sc.fields.take q.1).map zV).map cV) (fun (q:Nat×Value×List (List AV))=>sc.fields.length-q.1) ((0,.slice none 0 0,[])) ?_ (GS.weaken ⟨rfl,rfl,rfl,rfl,rfl,rfl,rfl,rfl,rfl,rfl,rfl,rfl,trivial⟩ (.refl _)) ?_
   · exact ⟨Nat.zero_le _,rfl⟩
   ·
    rintro q hQ
    have hql:q.2.2.length≤q.1:=by rw [hQ.2];simp;omega
    refine Ah (Qp Cf (Ag (AW.seq (A2 (fun hc2=>?_) fun hc2=>?_))))
    ·
     obtain ⟨f,hf⟩:=B1 hc2
     have hltf:=A8 hf
     refine Bv (AW.seq (AW.block (Ah ?_)))
     refine Qp (Af (c:=[.str _,Iq _]) Ai rfl rfl rfl rfl rfl rfl (by omega) (Bg hf)) ?_
     refine Qp (Cd [.str _,Iq _]) ?_
     refine Qe (Aj (l:=[.str [],.int .i64 0]) (by kernel_rfl)) ?_
     rintro _ _ ⟨b12,rfl,rfl⟩
     refine Cq 0 [.str _,Iq _] (_::_::_::_::_::_) ?_
     refine AOL.ghost (GS.Aat (t:=12) 0 rfl rfl) ?_
     refine Ag (AW.region (Qp Iu ?_))
     refine AOL.Aay (At (k:=1) (c:=.val _) Ai rfl rfl rfl rfl) rfl rfl ?_
     refine Qp (Qf [Iq _]) (Qp Br (Qp (El [Iq _,Iq _,.str _]) ?_))
     refine Qp (A0 (es:=[[Iq _,Iq _,.str _]]) Ai rfl rfl rfl rfl rfl rfl rfl rfl rfl) ?_
     refine Qe (K9.bufs (Vh (k:=0) Ai rfl rfl rfl rfl rfl rfl rfl rfl (rfl) (by simp;omega) (by simp [maxLen];omega))) ?_
     rintro _ _ ⟨⟨v45,rfl,rfl⟩,hbs45⟩
     have hu2:=hbs45 v45 _ _ _ (List.mem_of_getElem? (i:=0) rfl)
     refine Qp Iu ?_
     refine Qe (C6 (k:=1) (v:=.val _) (cs':=[Iq _,Iq _,Iq _,Iq _,_]) (H2:=_::_::_::_::_) Ai rfl rfl rfl rfl ((by simp [Da,Bf,Rh,hu2])) rfl rfl rfl rfl) ?_
     rintro _ _ ⟨rfl,rfl⟩
     refine AOL.nil (Bp (Ae (AW.region (Qp Fu (Qp Az (Ag ?_))))))
     refine ⟨(q.1+1,v45,q.2.2 ++ [cV (zV f)]),?_,?_,GS.weaken ⟨rfl,rfl,rfl,rfl,rfl,rfl,rfl,rfl,rfl,rfl,rfl,rfl,trivial⟩ (.refl _)⟩
     · exact ⟨hltf,by simp only;rw [Cm hf,List.map_append,List.map_append,hQ.2];rfl⟩
     · simp only;omega
    ·
     have htf:=Cv hc2
     have hE:=hQ.2
     rw [htf] at hE
     have hrows:q.2.2=(Zi T k1 va).values.map cV:=hE.trans (congrArg (List.map cV) (gL hsc).symm)
     refine AW.exit ?_
     refine A3 (A3 (Bq (Ae ?_)))
     refine AW.bufOne 0 rfl fun hu=>?_
     refine AW.region ?_
     refine AOL.Aay (At (k:=3) (c:=.val _) Ai rfl rfl rfl rfl) rfl rfl ?_
     refine AOL.Aay (By (k:=1) (l:=[Iq _,Iq _,Iq _,Iq _,_]) Ai rfl rfl rfl rfl rfl) rfl rfl ?_
     refine Qp (A0 (es:=[[Iq _,Iq _,Iq _,Iq _,_]]) Ai rfl rfl rfl rfl rfl rfl (lit1 rfl rfl (by simp [Bf,Rh,hu])) rfl rfl) ?_
     refine Qe (K9.bufs (Vh (k:=2) Ai rfl rfl rfl rfl rfl rfl rfl rfl ((by simp [Bf,Rh,hu])) (by simp;omega) (by simp [maxLen];omega))) ?_
     rintro _ _ ⟨⟨v51,rfl,rfl⟩,hbs51⟩
     have hu3:=hbs51 v51 _ _ _ (List.mem_of_getElem? (i:=2) rfl)
     refine Qe (C6 (k:=3) (v:=.val _) (cs':=[_]) (H2:=_::_::_::_::_) Ai rfl rfl rfl rfl ((by simp [Da,Bf,Rh,hu3])) rfl rfl rfl rfl) ?_
     rintro _ _ ⟨rfl,rfl⟩
     refine AOL.nil (Bp (Ae (AW.region (Qp Fu (Qp Az (Ag ?_))))))
     refine ⟨(k1+1,v51,l1 ++ [(Zi T k1 va,q.2.1)]),?_,?_,GS.trans (GS.perm (ev_push (e:=Zi T k1 va) hrows)) (GS.weaken ⟨rfl,rfl,rfl,rfl,rfl,rfl,rfl,trivial⟩ (.cons _ (.refl _)))⟩
     · exact ⟨hlt,by simp only;rw [Cm hva,fS,List.map_append,hR.2,List.length_take,Nat.min_eq_left hk1,Nat.zero_add];rfl⟩
     · simp only;omega
  ·
   have hte:=Cv hc1
   have hbe:=hR.2
   rw [hte] at hbe
   have hvlen:l1.length=V.length:=by have:=congrArg List.length hbe;rw [S0] at this;simpa using this
   refine AW.exit ?_
   refine A3 (A3 (Bq (Ae (AW.seq (Ah (Qp (Qf [_,_,_]) (Qp Qlp ?_)))))))
   refine Qp (Gt rfl) ?_
   refine Qp (Qf [_,_]) (Qp Dg ?_)
   refine Qp (Ak (n:=(B6 T V l).ts.length) Ai rfl rfl rfl (by simp)) ?_
   refine Qp Az (Ag (AW.block ?_))
   refine AW.Aau (fun (o:Nat×Es)=>(⟨[(1,.sl 9 (l.map Gw)),(3,.ptr (Cj T V)),(5,.ptr [.ptr (rO T V l),.sl 1 (vals.map cI),.val (.map (some m))]),(7,.val (.pointer (some ⟨b7,0,none⟩))),(57,.sl 3 ((B6 T V l).ts.map Hz)),(58,.int .i64 (B6 T V l).ts.length),(59,.int .i64 (o.1:Int))],.buf v1 (o.2.map Cw) 67 5 :: .box b7 58 [.val v1]::(o.2.map F8++(.kmap m (wE w)::H)),102⟩:St)) (fun (o:Nat×Es)=>o.1≤(B6 T V l).ts.length∧Hn vals 0 (B6 T V l).ts (Hs T 0 V)=Hn vals o.1 ((B6 T V l).ts.drop o.1) (o.2.map Prod.fst)∧evOK T V (o.2.map Prod.fst)) (fun (o:Nat×Es)=>(B6 T V l).ts.length-o.1) ((0,l1)) ?_ (GS.weaken ⟨rfl,rfl,rfl,rfl,rfl,rfl,rfl,trivial⟩ (.refl _)) ?_
   · exact ⟨Nat.zero_le _,by simp only;rw [hbe];rfl,by simp only;rw [hbe];exact lC⟩
   ·
    rintro ⟨k2,l2⟩ hO
    refine Ah (Qp Cf (Ag (AW.seq (A2 (fun hc3=>?_) fun hc3=>?_))))
    ·
     obtain ⟨t,ht⟩:=B1 hc3
     have hltt:=A8 ht
     have htm:=mF hlk t (List.mem_of_getElem? ht)
     refine Bv (AW.seq (AW.block (Ah (Qp Az ?_))))
     refine Qp (Af (c:=[Iq _,Iq _,Iq _]) Ai rfl rfl rfl rfl rfl rfl (by omega) (Bg ht)) ?_
     refine Qp (Cd [Iq _,Iq _,Iq _]) ?_
     refine Qe (Aj (l:=[.int .i64 0,.int .i64 0,.int .i64 0]) (by kernel_rfl)) ?_
     rintro _ _ ⟨b14,rfl,rfl⟩
     refine Qp Ap ?_
     refine Cq 0 [Iq _,Iq _,Iq _] (_::_::_::_) ?_
     refine AOL.ghost (GS.Aat (t:=14) 0 rfl rfl) ?_
     refine Db (Qp (Qf [Iq _,Iq _,Iq _]) (Qp Br (Qp A6 (Ag (A2 (fun hc4=>?_) fun hc4=>?_)))))
     ·
      refine (kM hO.2.2 htm).elim fun e he=>he.elim fun u hu=>?_
      have hj:=hu.1
      have hel:=hu.2.1
      have hll9:l2.length=V.length:=hu.2.2
      have hv0:=htm.v0
      have hv1:=htm.v1
      refine AW.unbuf (v:=v1) (es:=l2.map Cw) (E:=67) (z:=5) 0 rfl (Yn hj) fun bb cap J hub hcap hcm hJ hzo=>?_
      subst hub
      have hrow:(l2.map Cw)[t.v.toNat]? = some (Cw (e,u)):=by rw [List.getElem?_map,hj];rfl
      refine AW.draw mixed (fun H'=>_∈H') (List.mem_of_getElem? (i:=1) rfl) (by kernel_rfl) ?_
      refine Qn 0 rfl (OpP.Aax (fun k=>At (k:=k) (c:=.val _) Ai rfl rfl rfl rfl) (fun _ h=>h)) ?_
      refine Qn 1 rfl (Qf [Iq _,Iq _]) (Qn 2 rfl Br (Qn 3 rfl (Qf [_,_]) (Qn 4 rfl Dg (Qn 5 rfl Az (Qn 6 rfl Fu ?_)))))
      refine Qn 7 rfl (Af (c:=[Iq _]) Ai rfl rfl rfl rfl rfl rfl (by omega) (nQ (by omega))) ?_
      refine Qn 8 rfl Br ?_
      refine Qn 9 rfl (B7 (o':=t.v.toNat*5) Ai rfl rfl rfl rfl rfl (hv0) (by rw [List.length_map];omega) (Nat.zero_add _)) ?_
      refine Qn 10 rfl Iu ?_
      refine Js.last _ _ 11 _ _ rfl (by kernel_rfl) rfl rfl (C6 (k:=0) (v:=Iq _) (cs':=_) (H2:=_::_::_) Ai rfl rfl rfl rfl rfl rfl (T8 (o:=3) (Jy _) hrow (by decide)) (S7 (o:=3) (e:=Cw (e,u)) (Jy _) hrow (by decide)) rfl) (by kernel_rfl) ?_
      rintro _ _ ⟨rfl,rfl⟩
      refine Bp (Ae (AW.region (Qp Fu (Qp Az (Ag ?_)))))
      refine ⟨(k2+1,l2.modify t.v.toNat fun p=>({ p.1 with time:=Eu vals ((k2:Int)+1) },p.2)),?_,?_,GS.trans (evTime hj hcap hcm hJ) (GS.weaken ⟨rfl,rfl,rfl,rfl,rfl,rfl,rfl,trivial⟩ (.refl _))⟩
      · exact ⟨hltt,hO.2.1.trans ((X6 ht).trans (congrArg (Hn vals (k2+1) _) (aI hc4).symm)),by simp only;rw [aI hc4];exact Wn hO.2.2 t _⟩
      · simp only;omega
     ·
      refine (kM hO.2.2 htm).elim fun e he=>he.elim fun u hu=>?_
      have hj:=hu.1
      have hel:=hu.2.1
      have hll9:l2.length=V.length:=hu.2.2
      have hv0:=htm.v0
      have hv1:=htm.v1
      have ho1:t.op=1:=htm.op.resolve_right (by simpa using hc4)
      have hfr:=htm.f ho1
      refine (oF htm ho1 hel).elim fun y hy=>?_
      have hyl:=A8 hy
      refine AW.ghost (GS.perm (mD hj)) ?_
      refine AW.unbuf (v:=u) (es:=e.values.map cV) (E:=28) (z:=3) 0 rfl (Yn hy) fun bi capi Ji hui hcapi hcmi hJi hzi=>?_
      subst hui
      refine AW.unbuf (v:=v1) (es:=l2.map Cw) (E:=67) (z:=5) 1 rfl (Yn hj) fun bb cap J hub hcap hcm hJ hzo=>?_
      subst hub
      have hrow:(l2.map Cw)[t.v.toNat]? = some (Cw (e,.slice (some ⟨bi,0,none⟩) (e.values.map cV).length capi)):=by rw [List.getElem?_map,hj];rfl
      refine AW.draw mixed (fun H'=>_∈H'∧_∈H') ⟨(List.mem_of_getElem? (i:=2) rfl),(List.mem_of_getElem? (i:=1) rfl)⟩ (by kernel_rfl) ?_
      refine Qn 0 rfl (OpP.Aax (fun k=>At (k:=k) (c:=.val _) Ai rfl rfl rfl rfl) (fun _ h=>h.1)) ?_
      refine Qn 1 rfl (Qf [Iq _,Iq _]) (Qn 2 rfl Br ?_)
      refine Qn 3 rfl (B7 (o':=t.v.toNat*5) Ai rfl rfl rfl rfl rfl (hv0) (by rw [List.length_map];omega) (Nat.zero_add _)) ?_
      refine Qn 4 rfl Iu ?_
      refine Qn 5 rfl (OpP.Aax (fun k=>At (k:=k) (c:=.val (.slice (some ⟨bi,0,none⟩) (e.values.map cV).length capi)) Ai rfl rfl rfl (Xe (o:=4) (Jy l2) hrow rfl)) (fun _ h=>h.2)) ?_
      refine Qn 6 rfl (Qf [Iq _]) (Qn 7 rfl Br (Qn 8 rfl (Qf [_,_]) (Qn 9 rfl Dg (Qn 10 rfl Az (Qn 11 rfl Fu ?_)))))
      refine Qn 12 rfl (Af (c:=[Iq _]) Ai rfl rfl rfl rfl rfl rfl (by omega) (nQ (by omega))) ?_
      refine Qn 13 rfl Br ?_
      refine Qn 14 rfl (B7 (o':=t.field.toNat*3) Ai rfl rfl rfl rfl rfl (hfr.1) (by rw [List.length_map];omega) (Nat.zero_add _)) ?_
      refine Qn 15 rfl Iu ?_
      refine Js.last _ _ 16 _ _ rfl (by kernel_rfl) rfl rfl (C6 (k:=0) (v:=Iq _) (cs':=_) (H2:=_::_::_::_) Ai rfl rfl rfl rfl rfl rfl (T8 (o:=1) (O2 _) (by rw [List.getElem?_map,hy];rfl) (by decide)) (S7 (o:=1) (e:=cV y) (x:=.int .i64 (Eu vals ((k2:Int)+1))) (O2 _) (by rw [List.getElem?_map,hy];rfl) (by decide)) rfl) (by kernel_rfl) ?_
      rintro _ _ ⟨rfl,rfl⟩
      refine Bp (Ae (AW.region (Qp Fu (Qp Az (Ag ?_)))))
      refine ⟨(k2+1,l2.modify t.v.toNat fun p=>(Wi p.1 t.field.toNat (fun y=>{ y with num:=Eu vals ((k2:Int)+1) }),p.2)),?_,?_,GS.trans (wK hj hy (f:=fun y=>{ y with num:=Eu vals ((k2:Int)+1) }) rfl hcap hcm hJ hcapi hcmi hJi) (GS.weaken ⟨rfl,rfl,rfl,rfl,rfl,rfl,rfl,trivial⟩ (.refl _))⟩
      · exact ⟨hltt,hO.2.1.trans ((X6 ht).trans (congrArg (Hn vals (k2+1) _) (eV hc4).symm)),by simp only;rw [eV hc4];exact Wn hO.2.2 t _⟩
      · simp only;omega
    ·
     have hde:=Df hc3
     have hnum:=hO.2.1
     rw [hde] at hnum
     refine AW.exit ?_
     refine A3 (A3 (Bq (Ae (Ah (Qp (Cd [_,_]) (Qp C5 (Qp (Qf [_]) (Qp Qlv ?_))))))))
     refine Qp (Be (l:=[]) (l':=[.val _]) rfl rfl) ?_
     refine Qe (Fp (by kernel_rfl) rfl rfl (d_name T V l hlk hll m w hw b7 v1 l2 hO.2.2 _)) ?_
     rintro _ _ ⟨l3,hl3,hev3,rfl,rfl⟩
     refine Db ?_
     refine AOL.Aay (At (k:=1) (c:=.val _) Ai rfl rfl rfl rfl) rfl rfl ?_
     refine Qp Oc ?_
     refine AOL.ghost (GS.freezeEvs (t:=6) rfl) ?_
     refine Ag (AW.ret ?_)
     refine ⟨.inr rfl,[.sl _ _],.cons (.tmp _ _ rfl) <| .nil,_,.cons _ (.refl _),?_⟩
     exact ⟨congrArg (fun q:List Ev=>AV.sl 5 (q.map Pm)) (hl3.trans (congrArg (bZ T V w l) hnum.symm)),rfl⟩

end Go.Proofs.YtkddpedfbicbeaaGreatDoor
