/-
  Several texts in one: Y11, Y12. No condition.
-/
import Derived.Test.YtkddpedfbicbeaaGreatDoorAz
import Derived.Test.YtkddpedfbicbeaaGreatDoorK21
import Derived.Test.YtkddpedfbicbeaaGreatDoorK36
import Derived.KernelRfl
set_option linter.unusedVariables false
set_option linter.unusedSimpArgs false
namespace Go.Proofs.YtkddpedfbicbeaaGreatDoor
open Go Go.Aw
set_option maxHeartbeats 6400000
set_option maxRecDepth 20000

theorem d_name (T:List Sc)(V:List Va)(l:List Lit)(hlk:Ve T V l)(hll:l.length≤4096)(m:Nat)(w:Wm)(hw:Ru w)(bo:Nat)(v:Value)(l0:Es)(hev:evOK T V (l0.map Prod.fst))(R:List HO):Dv Tryz.prog 146 (Y4 bo v l0 (.kmap m (wE w)::R)) [.agg (Co T V),.sl 9 (l.map G3),.val (.map (some m)),.fn (.func 147) [] [.val (.pointer (some ⟨bo,0,none⟩))]] (fun r H'=>∃l',l'.map Prod.fst=bY T V w l (l0.map Prod.fst)∧evOK T V (l'.map Prod.fst)∧r = .tuple []∧H'=Y4 bo v l' (.kmap m (wE w)::R)):=by
 refine Dv.perm (kI (pre:=[.kmap m (wE w)])).symm ?_
 refine Dv.body (n:=126) Ai Tryz.func146 rfl rfl rfl ?_
 refine AW.ghostPost ?_
 refine Ah (Qp (F5 [_,_]) (Df ?_))
 refine Qe (Q6) ?_
 rintro _ _ ⟨b22,rfl,rfl⟩
 refine Qp N8 (Df (Qp N8 ?_))
 refine AOL.ghost (GS.row (t:=9) 214 5 rfl) ?_
 refine Ag (AW.seq (Ah (Qp C4 ?_)))
 refine Qp (Ak (n:=l.length) Ai rfl rfl rfl (by simp)) ?_
 refine Qp A0 (Ag (AW.block ?_))
 refine AW.Aae (fun (p:Nat×Um×List Wd×Value×List (List AV))=>(⟨[(2,.val (.map (some m))),(3,.fn (.func 147) [] [.val (.pointer (some ⟨bo,0,none⟩))]),(4,.ptr (Co T V)),(8,.val (.map (some b22))),(9,.row p.2.2.2.1 5 p.2.2.2.2),(23,.sl 9 (l.map G3)),(24,.int .i64 l.length),(25,.int .i64 (p.1:Int))],.row p.2.2.2.1 p.2.2.2.2.length 214 5 :: .smap b22 (sE p.2.1) :: .kmap m (wE w)::Y4 bo v l0 R,126⟩:St)) (fun (p:Nat×Um×List Wd×Value×List (List AV))=>p.1≤l.length∧Hf T V (l.take p.1)=(p.2.1,p.2.2.1)∧(∀x∈p.2.2.1,wdOK T V x)∧p.2.1.length≤2*p.1∧p.2.2.1.length≤2*p.1∧p.2.2.2.2=p.2.2.1.map Lb) (fun (p:Nat×Um×List Wd×Value×List (List AV))=>l.length-p.1) ((0,[],[],.slice none 0 0,[])) ?_ (GS.weaken ⟨rfl,rfl,rfl,rfl,rfl,rfl,rfl,rfl,trivial⟩ (.refl _)) ?_
 · exact ⟨Nat.zero_le _,rfl,fun x hx=>(by cases hx),Nat.le_refl _,Nat.le_refl _,rfl⟩
 ·
  rintro p hR
  have hE:=hR.2.2.2.2.2
  refine Ah (Qp Cj (Ag (AW.seq (A3 (fun hc1=>?_) fun hc1=>?_))))
  ·
   obtain ⟨c,hc⟩:=B2 hc1
   have hlt:=A9 hc
   have hcm:=List.mem_of_getElem? hc
   have hck:=(hlk c hcm).1
   have hcs:=Nat.le_trans (hlk c hcm).2 (by decide:64≤1048576)
   refine Bx (AW.seq (AW.block (Ah ?_)))
   refine Qp (Af (c:=[Iq _,_,Iq _,Iq _,Iq _,Iq _,Iq _,.str _,.bool _]) Ai rfl rfl rfl rfl rfl rfl (by omega) (Bh hc)) ?_
   refine Qp (Ck [Iq _,_,Iq _,Iq _,Iq _,Iq _,Iq _,.str _,.bool _]) ?_
   refine Qe (Al (l:=[.int .i64 0,.sl 8 [],.int .i64 0,.int .i64 0,.int .i64 0,.int .i64 0,.int .i64 0,.str [],.bool false]) (by kernel_rfl)) ?_
   rintro _ _ ⟨b11,rfl,rfl⟩
   refine Cm 0 [Iq _,_,Iq _,Iq _,Iq _,Iq _,Iq _,.str _,.bool _] (_::_::_::_::_::_::_) ?_
   refine AOL.ghost (GS.Aad (t:=11) 0 rfl rfl) ?_
   refine Ag (AW.seq (Ah (Qp (Ck [_,_]) (Qp (Qf [Iq _,_,Iq _,Iq _,Iq _,Iq _,Iq _,.str _,.bool _]) (Qp D0 ?_)))))
   refine Qp (Qc rfl (Rx T V c.cond hck)) ?_
   refine Qp Ge (Qp Bp (Qg [] Qw (Ck [_,_]) (Qg [] Qw (Qf [Iq _,_,Iq _,Iq _,Iq _,Iq _,Iq _,.str _,.bool _]) (Qg [(36,_)] Qw D0 ?_))))
   refine AOL.Aaf (y:=.bool _) _ [(35,_),(37,_)] rfl (rX.all ⟨Ent.Aac _ _,Ent.Aac _ _,trivial⟩) (fun hG=>C7 (by kernel_rfl) rfl rfl (R4 T V c.cond hck hcs)) rfl ?_
   refine Qg [(38,_)] Qw Ge (Qp E2 (Ag (A3 (fun hc2=>?_) fun hc2=>?_)))
   ·
    refine AW.exit ?_
    refine A6 (Bv (Ae (AW.region (Qp Fv (Qp A0 (Ag ?_))))))
    refine ⟨(p.1+1,p.2),?_,?_,GS.weaken ⟨rfl,rfl,rfl,rfl,rfl,rfl,rfl,rfl,trivial⟩ (.refl _)⟩
    · exact ⟨hlt,by unfold Hf;rw [Cq hc,List.foldl_append];exact (congrArg (fun z=>Tr T V z c) hR.2.1).trans (S1 hc2),hR.2.2.1,by have:=hR.2.2.2.1;simp only;omega,by have:=hR.2.2.2.2.1;simp only;omega,hE⟩
    · simp only;omega
   ·
    have h2a:=Sn hck hc2
    have hal:=h2a.1
    refine Bx (Ah (Qp (Qf [Iq _,_,Iq _,Iq _,Iq _,Iq _,Iq _,.str _,.bool _]) (Qp (Qf [_,Iq _,Iq _,Iq _,Iq _,Iq _,.str _,.bool _]) (Qp Dk ?_))))
    refine Qp (Ak (n:=c.cond.args.length) Ai rfl rfl rfl (by simp)) ?_
    refine Qp A0 (Ag (AW.block ?_))
    refine AW.Aae (fun (q:Nat×Um×List Wd×Value×List (List AV))=>(⟨[(2,.val (.map (some m))),(3,.fn (.func 147) [] [.val (.pointer (some ⟨bo,0,none⟩))]),(4,.ptr (Co T V)),(8,.val (.map (some b22))),(9,.row q.2.2.2.1 5 q.2.2.2.2),(23,.sl 9 (l.map G3)),(24,.int .i64 l.length),(25,.int .i64 (p.1:Int)),(43,.sl 8 (c.cond.args.map Fu)),(44,.int .i64 c.cond.args.length),(45,.int .i64 (q.1:Int))],.row q.2.2.2.1 q.2.2.2.2.length 214 5 :: .smap b22 (sE q.2.1) :: .kmap m (wE w)::Y4 bo v l0 R,126⟩:St)) (fun (q:Nat×Um×List Wd×Value×List (List AV))=>q.1≤c.cond.args.length∧c.cond.args.foldl Xr (p.2.1,p.2.2.1)=(c.cond.args.drop q.1).foldl Xr (q.2.1,q.2.2.1)∧(∀x∈q.2.2.1,wdOK T V x)∧q.2.1.length≤p.2.1.length+q.1∧q.2.2.1.length≤p.2.2.1.length+q.1∧q.2.2.2.2=q.2.2.1.map Lb) (fun (q:Nat×Um×List Wd×Value×List (List AV))=>c.cond.args.length-q.1) ((0,p.2)) ?_ (GS.weaken ⟨rfl,rfl,rfl,rfl,rfl,rfl,rfl,rfl,rfl,rfl,rfl,trivial⟩ (.refl _)) ?_
    · exact ⟨Nat.zero_le _,rfl,hR.2.2.1,Nat.le_refl _,Nat.le_refl _,hE⟩
    ·
     rintro q hQ
     have hb1:=hR.2.2.2.1
     have hb2:=hR.2.2.2.2.1
     have hb3:=hQ.2.2.2.1
     have hb4:=hQ.2.2.2.2.1
     have hF:=hQ.2.2.2.2.2
     have hsc:∀c∈q.2.2.2.2,Bf c=true:=by rw [hF];exact cWd_sc _
     have hql:q.2.2.2.2.length=q.2.2.1.length:=by rw [hF];simp
     refine Ah (Qp Cj (Ag (AW.seq (A3 (fun hc3=>?_) fun hc3=>?_))))
     ·
      obtain ⟨a,ha⟩:=B2 hc3
      have hlta:=A9 ha
      have ham:=List.mem_of_getElem? ha
      refine Bx (AW.seq (AW.block (Ah ?_)))
      refine Qp (Af (c:=[Iq _,_,Iq _,Iq _,Iq _,Iq _,Iq _,.str _]) Ai rfl rfl rfl rfl rfl rfl (by omega) (E9 ha)) ?_
      refine Qp D0 ?_
      refine Qe (Al (l:=[.int .i64 0,.sl 8 [],.int .i64 0,.int .i64 0,.int .i64 0,.int .i64 0,.int .i64 0,.str []]) (by kernel_rfl)) ?_
      rintro _ _ ⟨b13,rfl,rfl⟩
      refine Cm 0 [Iq _,_,Iq _,Iq _,Iq _,Iq _,Iq _,.str _] (_::_::_::_::_::_::_) ?_
      refine AOL.ghost (GS.Aad (t:=13) 0 rfl rfl) ?_
      refine Df (Qp D0 ?_)
      refine Qp (Qc rfl (On a)) ?_
      refine Qe (Al (l:=[.bool false,.str [],.int .i64 0,.int .i64 0,.int .i64 0]) (by kernel_rfl)) ?_
      rintro _ _ ⟨b14,rfl,rfl⟩
      refine Cm 0 [.bool _,.str _,Iq _,Iq _,Iq _] (_::_::_::_::_::_::_) ?_
      refine AOL.ghost (GS.Aad (t:=14) 0 rfl rfl) ?_
      refine Df (Qp H0 (Qp (Qf [.str _,Iq _,Iq _,Iq _]) (Qp Vr (Qp H0 (Qp (Qf [.str _,Iq _,Iq _,Iq _]) (Qp Vr ?_))))))
      refine AOL.Aai (nN (i:=1) Ai rfl rfl rfl rfl rfl rfl (by kernel_rfl) rfl rfl) rfl rfl ?_
      refine Qp Bp (Qg [] Qw (Qf [.bool _,.str _,Iq _,Iq _,Iq _]) (Qg [(59,_)] Qw jV (Qp E2 ?_)))
      refine Qe (zD (i:=1) (H2:=_::_::_::_::_::_) Ai rfl rfl rfl rfl rfl rfl rfl rfl rfl) ?_
      rintro _ _ ⟨rfl,rfl⟩
      refine Ag (AW.region ?_)
      refine Qp (Bj (v:=.row _ _ _) rfl) ?_
      refine Qp (Ck [.bool _,.str _,Iq _,Iq _,Iq _]) ?_
      refine Qp (Az (es:=[[.bool _,.str _,Iq _,Iq _,Iq _]]) Ai rfl rfl rfl rfl rfl rfl rfl rfl rfl) ?_
      refine Qe (Dm (k:=0) Ai rfl rfl rfl rfl rfl rfl rfl rfl (Hd rfl) (hsc) (by simp;omega) (by simp [maxLen];omega)) ?_
      rintro _ _ ⟨v65,rfl,rfl⟩
      refine Qp (C2 (v:=.row _ _ _) rfl) ?_
      refine AOL.nil (Bq (Ae (AW.region (Qp Fv (Qp A0 (Ag ?_))))))
      refine ⟨(q.1+1,T2 q.2.1 (B9 a).text (Fe q.2.1 (B9 a).text||(B9 a).const),q.2.2.1 ++ [B9 a],v65,q.2.2.2.2 ++ [Lb (B9 a)]),?_,?_,GS.weaken ⟨rfl,rfl,rfl,rfl,rfl,rfl,rfl,rfl,rfl,rfl,rfl,trivial⟩ (.refl _)⟩
      · exact ⟨hlta,hQ.2.1.trans (Zo ha),fun x hx=>(List.mem_append.1 hx).elim (hQ.2.2.1 x) (fun h=>by rw [List.mem_singleton.1 h];exact pE (A1 hck ham) (h2a.2 a ham)),by have:=Xb q.2.1 (B9 a).text (Fe q.2.1 (B9 a).text||(B9 a).const);simp only;omega,by simp only [List.length_append,List.length_singleton];omega,by simp only;rw [hF,List.map_append];rfl⟩
      · simp only;omega
     ·
      have hde:=Dh hc3
      have hfo:=hQ.2.1
      rw [hde] at hfo
      refine AW.exit ?_
      refine A6 (A6 (Bv (Bq (Ae (AW.region (Qp Fv (Qp A0 (Ag ?_))))))))
      refine ⟨(p.1+1,q.2),?_,?_,GS.weaken ⟨rfl,rfl,rfl,rfl,rfl,rfl,rfl,rfl,trivial⟩ (.refl _)⟩
      · exact ⟨hlt,by unfold Hf;rw [Cq hc,List.foldl_append];exact (congrArg (fun z=>Tr T V z c) hR.2.1).trans ((Mf hc2).trans hfo),hQ.2.2.1,by have:=hR.2.2.2.1;have:=hQ.2.2.2.1;have:=hQ.1;simp only;omega,by have:=hR.2.2.2.2.1;have:=hQ.2.2.2.2.1;have:=hQ.1;simp only;omega,hQ.2.2.2.2.2⟩
      · simp only;omega
  ·
   have hte:=C3 hc1
   have hcol:=hR.2.1
   rw [hte] at hcol
   have hwds:=hR.2.2.1
   have hUl:=hR.2.2.2.1
   have hAl:=hR.2.2.2.2.1
   refine AW.exit ?_
   refine A6 (A6 (Bv (Ae (Ah ?_))))
   refine Qe (Mz) ?_
   rintro _ _ ⟨b68,rfl,rfl⟩
   refine Qp N8 (Df ?_)
   refine Qp (Bj (v:=.row _ _ _) rfl) ?_
   refine Qp (Md (n:=p.2.2.1.length) Ai rfl rfl rfl (by rw [hE];simp)) ?_
   refine Qp A0 (Ag (AW.block ?_))
   refine AW.Aae (fun (o:Nat×Um×Nm×Es)=>(⟨[(2,.val (.map (some m))),(3,.fn (.func 147) [] [.val (.pointer (some ⟨bo,0,none⟩))]),(8,.val (.map (some b22))),(15,.val (.map (some b68))),(69,.row p.2.2.2.1 5 p.2.2.2.2),(70,.int .i64 p.2.2.1.length),(71,.int .i64 (o.1:Int))],.kmap b68 (nE o.2.2.1) :: .row p.2.2.2.1 p.2.2.2.2.length 214 5 :: .smap b22 (sE o.2.1) :: .kmap m (wE w)::Y4 bo v o.2.2.2 R,126⟩:St)) (fun (o:Nat×Um×Nm×Es)=>o.1≤p.2.2.1.length∧p.2.2.1.foldl (H8 w) (p.2.1,[],l0.map Prod.fst)=(p.2.2.1.drop o.1).foldl (H8 w) (o.2.1,o.2.2.1,o.2.2.2.map Prod.fst)∧evOK T V (o.2.2.2.map Prod.fst)∧o.2.1.length≤p.2.1.length+o.1) (fun (o:Nat×Um×Nm×Es)=>p.2.2.1.length-o.1) ((0,p.2.1,[],l0)) ?_ (GS.weaken ⟨rfl,rfl,rfl,rfl,rfl,rfl,rfl,trivial⟩ (.refl _)) ?_
   · exact ⟨Nat.zero_le _,rfl,hev,Nat.le_refl _⟩
   ·
    rintro o hO
    refine Ah (Qp Cj (Ag (AW.seq (A3 (fun hc4=>?_) fun hc4=>?_))))
    ·
     obtain ⟨x,hx⟩:=B2 hc4
     have hltx:=A9 hx
     have hxm:=List.mem_of_getElem? hx
     have hwx:=hwds x hxm
     have hno:=hO.2.1
     rw [Zo hx] at hno
     have hevo:=hO.2.2.1
     have hUo:=hO.2.2.2
     refine Bx (AW.seq (AW.block (Ah ?_)))
     refine Qp (Kn (c:=[.bool _,.str _,Iq _,Iq _,Iq _]) Ai rfl rfl rfl rfl rfl rfl (by omega) (by rw [hE];exact Bh hx)) ?_
     refine Qp (Ck [.bool _,.str _,Iq _,Iq _,Iq _]) ?_
     refine Qe (Al (l:=[.bool false,.str [],.int .i64 0,.int .i64 0,.int .i64 0]) (by kernel_rfl)) ?_
     rintro _ _ ⟨b17,rfl,rfl⟩
     refine Cm 0 [.bool _,.str _,Iq _,Iq _,Iq _] (_::_::_::_::_::_::_::_) ?_
     refine AOL.ghost (GS.Aad (t:=17) 0 rfl rfl) ?_
     refine Df (Qp H0 (Qp (Ck [.bool _,.str _,Iq _,Iq _,Iq _]) ?_))
     refine AOL.Aai (Rz (ho:=.kmap m (wE w)) (KK:=fun H=>H[3]? = some (.kmap m (wE w))) (by kernel_rfl) rfl rfl (Sf m w hw x) (fun _ h=>List.mem_of_getElem? h)) rfl rfl ?_
     refine Qe (Al (l:=[.bool false,.str [],.int .i64 0,.int .i64 0,.int .i64 0]) (by kernel_rfl)) ?_
     rintro _ _ ⟨b18,rfl,rfl⟩
     refine Cm 0 [.bool _,.str _,Iq _,Iq _,Iq _] (_::_::_::_::_::_::_::_) ?_
     refine AOL.ghost (GS.Aad (t:=18) 0 rfl rfl) ?_
     refine Ag ?_
     refine AW.cut (fun (t:Um×Nm)=>(⟨[(2,.val (.map (some m))),(3,.fn (.func 147) [] [.val (.pointer (some ⟨bo,0,none⟩))]),(8,.val (.map (some b22))),(15,.val (.map (some b68))),(69,.row p.2.2.2.1 5 p.2.2.2.2),(70,.int .i64 p.2.2.1.length),(71,.int .i64 (o.1:Int)),(17,.ptr (Lb x)),(18,.ptr (Lb (Cc w x)))],.kmap b68 (nE t.2) :: .row p.2.2.2.1 p.2.2.2.2.length 214 5 :: .smap b22 (sE t.1) :: .kmap m (wE w)::Y4 bo v o.2.2.2 R,126⟩:St)) (fun (t:Um×Nm)=>t=Zw o.2.1 o.2.2.1 (Cc w x)) ?_ ?_
     ·
      refine Ah (Qp H0 (Qp (Ck [.bool _,.str _,Iq _,Iq _,Iq _]) ?_))
      refine AOL.Aai (Pm (i:=0) (eq:=Jq (Cc w x)) Ai rfl rfl rfl rfl rfl (by kernel_rfl) rfl rfl (rfl) (Zf (Cc w x) _) (look_n (Cc w x) _) (has_n (Cc w x) _)) rfl rfl ?_
      refine Qp Mv (Qp Qxt (Qp eN (Qp Qat (Qp Be (Df (Qp Bp (Qp Ge (Ag (A3 (fun hc5=>?_) fun hc5=>?_)))))))))
      ·
       have hnn:=iF hc5
       refine Ah (Qp H0 (Qp (Ck [.bool _,.str _,Iq _,Iq _,Iq _]) (Qp (Qf [.str _,Iq _,Iq _,Iq _]) (Qp Vr ?_))))
       refine Qe (E_nmAdd (i:=0) (H2:=_::_::_::_::_::_::_) Ai rfl rfl rfl rfl rfl rfl rfl rfl hnn rfl) ?_
       rintro _ _ ⟨rfl,rfl⟩
       refine Ag (AW.seq (Ah (Qp At (Ag (AW.block ?_)))))
       refine AW.Aae (fun (z:Nat×Fr)=>(⟨[(2,.val (.map (some m))),(3,.fn (.func 147) [] [.val (.pointer (some ⟨bo,0,none⟩))]),(8,.val (.map (some b22))),(15,.val (.map (some b68))),(69,.row p.2.2.2.1 5 p.2.2.2.2),(70,.int .i64 p.2.2.1.length),(71,.int .i64 (o.1:Int)),(17,.ptr (Lb x)),(18,.ptr (Lb (Cc w x))),(21,.int .i64 (z.1:Int))],.kmap b68 (nE (o.2.2.1 ++ [((Cc w x),z.2)])) :: .row p.2.2.2.1 p.2.2.2.2.length 214 5 :: .smap b22 (sE o.2.1) :: .kmap m (wE w)::Y4 bo v o.2.2.2 R,126⟩:St)) (fun (z:Nat×Fr)=>nmI o.2.1 (Cc w x) z.1 z.2) (fun (z:Nat×Fr)=>o.2.1.length+2-z.1) ((0,(Cc w x).text)) ?_ (GS.weaken ⟨rfl,rfl,rfl,rfl,rfl,rfl,rfl,rfl,rfl,rfl,trivial⟩ (.refl _)) ?_
       · exact .inl ⟨rfl,rfl⟩
       ·
        rintro z hz
        refine AW.seq (Ah (Qp (Qf [.bool _,.str _,Iq _,Iq _,Iq _]) (Qp jV (Qp Ge (Qp Bp (Qg [] Qw A0 (Qg [(94,_)] Qw A5 (Qg [(95,_)] Qw Bp (Qg [] Qw H0 ?_)))))))))
        refine Qg [] Qw H0 (Qg [] Qw (Ck [.bool _,.str _,Iq _,Iq _,Iq _]) ?_)
        refine AOL.gk (y:=.str _) _ [(98,_),(99,_)] rfl (rX.all ⟨Ent.Aac _ _,Ent.Aac _ _,trivial⟩) (fun hG=>Ja (i:=0) (eq:=Jq (Cc w x)) Ai rfl rfl rfl rfl rfl (by kernel_rfl) rfl rfl (rfl) (Zf (Cc w x) _) (dG (Tt hnn))) rfl rfl ?_
        refine AOL.gk (y:=.bool _) _ [(97,_),(100,_)] rfl (rX.all ⟨Ent.Aac _ _,Ent.Aac _ _,trivial⟩) (fun hG=>nN (i:=2) Ai rfl rfl rfl rfl rfl rfl (by kernel_rfl) rfl rfl) rfl rfl ?_
        refine Qg [(96,_),(101,_)] Qw E2 (Qp E1 (Ag (A3 (fun hc6=>?_) fun hc6=>?_)))
        ·
         have h6:=Bool.and_eq_true_iff.mp hc6
         have hrc:(Cc w x).const=false:=(Bool.not_eq_true' _).mp h6.1
         have h6b:z.1=0∨Fe o.2.1 z.2=true:=by have:=h6.2;simp at this;omega
         have hzl:=nm_len hz
         refine Bx (AW.seq (AW.block ?_))
         refine AW.draw mixed (fun _=>True) trivial (by kernel_rfl) ?_
         refine Qn 0 rfl H0 (Qn 1 rfl (Ck [.bool _,.str _,Iq _,Iq _,Iq _]) (Qn 2 rfl A0 ?_))
         refine Qn 3 rfl (Qc rfl (kItoa _ (by omega) (by omega))) ?_
         refine Qn 4 rfl (tB rfl rfl rfl (by have h8:=Go.Lib.itoa_length_le (z.1:Int) (by omega) (by omega);simp only [List.length_append,List.length_cons,List.length_nil,maxLen];omega)) ?_
         refine Jv.eff _ _ 5 _ _ rfl (by kernel_rfl) rfl rfl (E_nmSet (i:=0) (H2:=_::_::_::_::_::_::_) Ai rfl rfl rfl rfl rfl rfl rfl rfl hnn rfl) (fun _ _ _=>trivial) ?_
         rintro _ _ ⟨rfl,rfl⟩
         refine Jv.done _ _ (by kernel_rfl) ?_
         refine Bq (Ae (AW.region (Qp A0 (Qp Fv (Qp At (Ag ?_))))))
         refine ⟨(z.1+1,wN z.1),?_,?_,GS.weaken ⟨rfl,rfl,rfl,rfl,rfl,rfl,rfl,rfl,rfl,rfl,trivial⟩ (.refl _)⟩
         · exact nm_next hz hrc h6b
         · simp only;omega
        ·
         have hnm:=nm_done hz (by simpa using hc6)
         refine AW.exit ?_
         refine A6 (A6 (Bv (Ae (AW.region (Qp H0 (Qp H0 (Qp (Ck [.bool _,.str _,Iq _,Iq _,Iq _]) ?_)))))))
         refine AOL.Aai (Ja (i:=0) (eq:=Jq (Cc w x)) Ai rfl rfl rfl rfl rfl (by kernel_rfl) rfl rfl (rfl) (Zf (Cc w x) _) (dG (Tt hnn))) rfl rfl ?_
         refine Qe (zD (i:=2) (H2:=_::_::_::_::_::_::_) Ai rfl rfl rfl rfl rfl rfl rfl rfl rfl) ?_
         rintro _ _ ⟨rfl,rfl⟩
         refine Ag ?_
         refine ⟨(T2 o.2.1 z.2 true,o.2.2.1 ++ [((Cc w x),z.2)]),?_,GS.weaken ⟨rfl,rfl,rfl,rfl,rfl,rfl,rfl,rfl,rfl,trivial⟩ (.refl _)⟩
         exact (by rw [cM hnn,hnm])
      ·
       refine Bx ?_
       refine ⟨(o.2.1,o.2.2.1),?_,GS.weaken ⟨rfl,rfl,rfl,rfl,rfl,rfl,rfl,rfl,rfl,trivial⟩ (.refl _)⟩
       exact (cR hc5).symm
     ·
      rintro t hT
      have hgs:Ig t.2 (Cc w x)=some (nmT o.2.1 o.2.2.1 (Cc w x)):=by rw [hT];exact dD _ _ _
      refine Ah (Qp (Qf [.bool _,.str _,Iq _,Iq _,Iq _]) (Qp jV (Qp Ge (Ag (A3 (fun hc7=>?_) fun hc7=>?_)))))
      ·
       have hxc:x.const=false:=(Bool.not_eq_true' _).mp hc7
       refine AW.draw mixed (fun H'=>_∈H') (List.mem_of_getElem? (i:=0) rfl) (by kernel_rfl) ?_
       refine Qn 0 rfl (Bj (v:=.fn _ _ _) rfl) ?_
       refine Qn 1 rfl (Qf [Iq _,Iq _,Iq _]) (Qn 2 rfl (Ck [Iq _,Iq _,Iq _]) (Qn 3 rfl H0 (Qn 4 rfl (Ck [.bool _,.str _,Iq _,Iq _,Iq _]) ?_)))
       refine Qn 5 rfl (OpP.Aah (fun k=>Ja (i:=k) (eq:=Jq (Cc w x)) Ai rfl rfl rfl rfl rfl (by kernel_rfl) rfl rfl (rfl) (Zf (Cc w x) _) (dG hgs)) (fun _ h=>h)) ?_
       refine Jv.last _ _ 6 _ _ rfl (by kernel_rfl) rfl rfl (Je (by kernel_rfl) rfl rfl rfl (vL (pre:=[_,_,_,_]) (pU T V bo v o.2.2.2 hevo x.field (hwx hxc).1 (hwx hxc).2 (nmT o.2.1 o.2.2.1 (Cc w x)) _))) (by kernel_rfl) ?_
       rintro _ _ ⟨rfl,rfl⟩
       refine Bq (Ae (AW.region (Qp Fv (Qp A0 (Ag ?_)))))
       refine ⟨(o.1+1,t.1,t.2,o.2.2.2.modify x.field.v.toNat fun p=>(V3 p.1 x.field.field.toNat (fun y=>{ y with text:=nmT o.2.1 o.2.2.1 (Cc w x) }),p.2)),?_,?_,GS.weaken ⟨rfl,rfl,rfl,rfl,rfl,rfl,rfl,trivial⟩ (.refl _)⟩
       · exact ⟨hltx,hno.trans (congrArg (List.foldl (H8 w) · _) (nm_f hT hxc)),by rw [iO];exact nD hevo _ _,by have:=dT o.2.1 o.2.2.1 (Cc w x);rw [←hT] at this;simp only;omega⟩
       · simp only;omega
      ·
       have hxc:x.const=true:=(Bool.not_eq_false' _).mp hc7
       refine AW.skip (Bq (Ae (AW.region (Qp Fv (Qp A0 (Ag ?_))))))
       refine ⟨(o.1+1,t.1,t.2,o.2.2.2),?_,?_,GS.weaken ⟨rfl,rfl,rfl,rfl,rfl,rfl,rfl,trivial⟩ (.refl _)⟩
       · exact ⟨hltx,hno.trans (congrArg (List.foldl (H8 w) · _) (nm_c hT hxc)),hevo,by have:=dT o.2.1 o.2.2.1 (Cc w x);rw [←hT] at this;simp only;omega⟩
       · simp only;omega
    ·
     have hde:=Dh hc4
     have hfin:=hO.2.1
     rw [hde] at hfin
     refine AW.exit ?_
     refine A6 (A6 (Bv ?_))
     refine ⟨_,GS.trans (GS.weaken (sl':=[]) (H':=.kmap m (wE w)::Y4 bo v _ R) trivial (.cons _ (.cons _ (.cons _ (.refl _))))) (GS.perm (kI (pre:=[.kmap m (wE w)]))),.inl rfl,[],.nil,_,.refl _,?_⟩
     exact ⟨o.2.2.2,(by unfold bY;rw [hcol,hfin];rfl),hO.2.2.1,rfl,rfl⟩

set_option maxHeartbeats 6400000
set_option maxRecDepth 20000

theorem xD (T:List Sc)(V:List Va)(hty:Jt T V)(hst:∀s∈T,Jk s)(hvl:V.length≤1048576)(l:List Lit)(hlk:Ve T V l)(hll:l.length≤4096)(m:Nat)(w:Wm)(hw:Ru w)(vals:List Int)(hvs:(Cg T V l).ts.length+1≤vals.length)(H:List HO):Dv Tryz.prog 105 (.kmap m (wE w)::H) [.agg (Co T V),.sl 9 (l.map G3),.agg [.ptr (rK T V l),.sl 1 (vals.map cI),.val (.map (some m))]] (fun r H'=>r = .sl 5 ((uE T V w l vals).map Ph)∧H' = .kmap m (wE w)::H):=by
 have hgl:=(Lr hlk).len
 refine Dv.body (n:=102) Ai Tryz.func105 rfl rfl rfl ?_
 refine Ah (Qp (F5 [_,_]) (Qp (F5 [_,_,_]) ?_))
 refine Qp (B0 (z:=5) rfl) ?_
 refine Df ?_
 refine Qe (Al (l:=[.val (.slice none 0 0)]) (by kernel_rfl)) ?_
 rintro _ _ ⟨b7,rfl,rfl⟩
 refine AOL.ghost (GS.buf 67 5) ?_
 refine Ag (AW.seq (Ah (Qp (Qf [_]) (Qp Dk ?_))))
 refine Qp (Ak (n:=V.length) Ai rfl rfl rfl (by simp)) ?_
 refine Qp A0 (Ag (AW.block ?_))
 refine AW.Aae (fun (p:Nat×Value×Es)=>(⟨[(1,.sl 9 (l.map G3)),(3,.ptr (Co T V)),(5,.ptr [.ptr (rK T V l),.sl 1 (vals.map cI),.val (.map (some m))]),(7,.val (.pointer (some ⟨b7,0,none⟩))),(16,.sl 2 (V.map Un)),(17,.int .i64 V.length),(18,.int .i64 (p.1:Int))],.buf p.2.1 (p.2.2.map Cv) 67 5 :: .box b7 58 [.val p.2.1]::(p.2.2.map F7++(.kmap m (wE w)::H)),102⟩:St)) (fun (p:Nat×Value×Es)=>p.1≤V.length∧p.2.2.map Prod.fst=Ht T 0 (V.take p.1)) (fun (p:Nat×Value×Es)=>V.length-p.1) ((0,.slice none 0 0,[])) ?_ (GS.weaken ⟨rfl,rfl,rfl,rfl,rfl,rfl,rfl,trivial⟩ (.refl _)) ?_
 · exact ⟨Nat.zero_le _,rfl⟩
 ·
  rintro ⟨k1,v1,l1⟩ hR
  have hk1:k1≤V.length:=hR.1
  have hl1:l1.length=k1:=by have:=congrArg List.length hR.2;rw [P5,List.length_take] at this;simp at this;omega
  refine Ah (Qp Cj (Ag (AW.seq (A3 (fun hc1=>?_) fun hc1=>?_))))
  ·
   obtain ⟨va,hva⟩:=B2 hc1
   have hlt:=A9 hva
   have hvm:=List.mem_of_getElem? hva
   have hvt:=hty va hvm
   refine (oY hty hvm).elim fun sc hsc=>?_
   have hfl:=(hst sc (List.mem_of_getElem? hsc)).2.1
   refine Bx (AW.seq (AW.block (Ah (Qp A0 ?_))))
   refine Qp (Af (c:=[.str _,Iq _]) Ai rfl rfl rfl rfl rfl rfl (by omega) (Bh hva)) ?_
   refine Qp (Ck [.str _,Iq _]) ?_
   refine Qe (Al (l:=[.str [],.int .i64 0]) (by kernel_rfl)) ?_
   rintro _ _ ⟨b9,rfl,rfl⟩
   refine Qp At ?_
   refine Cm 0 [.str _,Iq _] (_::_::_::_) ?_
   refine AOL.ghost (GS.Aad (t:=9) 0 rfl rfl) ?_
   refine Df (Qp A0 (Qp (Qf [Iq _]) (Qp Bs ?_)))
   refine Qp (O7 (l0:=[.int .i64 0,.int .i64 0,.int .i64 0,.int .i64 0,.val (.slice none 0 0)]) (l:=[Iq _,Iq _,Iq _,Iq _,_]) Ai rfl rfl (by kernel_rfl) rfl) ?_
   refine Qe (Al (l:=[.int .i64 0,.int .i64 0,.int .i64 0,.int .i64 0,.val (.slice none 0 0)]) (by kernel_rfl)) ?_
   rintro _ _ ⟨b10,rfl,rfl⟩
   refine Cm 0 [Iq _,Iq _,Iq _,Iq _,_] (_::_::_::_) ?_
   refine AOL.ghost (GS.buf 28 3) ?_
   refine Ag (AW.seq (Ah (Qp (Qf [_,_]) (Qp Dk (Qp (Qf [Iq _]) (Qp Bs ?_))))))
   refine Qp (Af (c:=[.str _,_]) Ai rfl rfl rfl rfl rfl rfl (hvt.1) (Bh hsc)) ?_
   refine Qp (Qf [_]) (Qp Dk ?_)
   refine Qp (Ak (n:=sc.fields.length) Ai rfl rfl rfl (by simp)) ?_
   refine Qp A0 (Ag (AW.block ?_))
   refine AW.Aae (fun (q:Nat×Value×List (List AV))=>(⟨[(1,.sl 9 (l.map G3)),(3,.ptr (Co T V)),(5,.ptr [.ptr (rK T V l),.sl 1 (vals.map cI),.val (.map (some m))]),(7,.val (.pointer (some ⟨b7,0,none⟩))),(8,.int .i64 (k1:Int)),(10,.val (.pointer (some ⟨b10,0,none⟩))),(16,.sl 2 (V.map Un)),(17,.int .i64 V.length),(18,.int .i64 (k1:Int)),(33,.sl 2 (sc.fields.map cFi)),(34,.int .i64 sc.fields.length),(35,.int .i64 (q.1:Int))],.buf q.2.1 q.2.2 28 3 :: .box b10 67 [.int .i64 0,.int .i64 (k1:Int),.int .i64 va.type,.int .i64 0,.val q.2.1] :: .buf v1 (l1.map Cv) 67 5 :: .box b7 58 [.val v1]::(l1.map F7++(.kmap m (wE w)::H)),102⟩:St)) (fun (q:Nat×Value×List (List AV))=>q.1≤sc.fields.length∧q.2.2=((sc.fields.take q.1).map zV).map cV) (fun (q:Nat×Value×List (List AV))=>sc.fields.length-q.1) ((0,.slice none 0 0,[])) ?_ (GS.weaken ⟨rfl,rfl,rfl,rfl,rfl,rfl,rfl,rfl,rfl,rfl,rfl,rfl,trivial⟩ (.refl _)) ?_
   · exact ⟨Nat.zero_le _,rfl⟩
   ·
    rintro q hQ
    have hql:q.2.2.length≤q.1:=by rw [hQ.2];simp;omega
    refine Ah (Qp Cj (Ag (AW.seq (A3 (fun hc2=>?_) fun hc2=>?_))))
    ·
     obtain ⟨f,hf⟩:=B2 hc2
     have hltf:=A9 hf
     refine Bx (AW.seq (AW.block (Ah ?_)))
     refine Qp (Af (c:=[.str _,Iq _]) Ai rfl rfl rfl rfl rfl rfl (by omega) (Bh hf)) ?_
     refine Qp (Ck [.str _,Iq _]) ?_
     refine Qe (Al (l:=[.str [],.int .i64 0]) (by kernel_rfl)) ?_
     rintro _ _ ⟨b12,rfl,rfl⟩
     refine Cm 0 [.str _,Iq _] (_::_::_::_::_::_) ?_
     refine AOL.ghost (GS.Aad (t:=12) 0 rfl rfl) ?_
     refine Ag (AW.region (Qp Ir ?_))
     refine AOL.Aai (Ax (k:=1) (c:=.val _) Ai rfl rfl rfl rfl) rfl rfl ?_
     refine Qp (Qf [Iq _]) (Qp Bs (Qp (Ep [Iq _,Iq _,.str _]) ?_))
     refine Qp (Az (es:=[[Iq _,Iq _,.str _]]) Ai rfl rfl rfl rfl rfl rfl rfl rfl rfl) ?_
     refine Qe (La.bufs (U1 (k:=0) Ai rfl rfl rfl rfl rfl rfl rfl rfl (rfl) (by simp;omega) (by simp [maxLen];omega))) ?_
     rintro _ _ ⟨⟨v45,rfl,rfl⟩,hbs45⟩
     have hu2:=hbs45 v45 _ _ _ (List.mem_of_getElem? (i:=0) rfl)
     refine Qp Ir ?_
     refine Qe (C6 (k:=1) (v:=.val _) (cs':=[Iq _,Iq _,Iq _,Iq _,_]) (H2:=_::_::_::_::_) Ai rfl rfl rfl rfl ((by simp [Dc,Bf,Na,hu2])) rfl rfl rfl rfl) ?_
     rintro _ _ ⟨rfl,rfl⟩
     refine AOL.nil (Bq (Ae (AW.region (Qp Fv (Qp A0 (Ag ?_))))))
     refine ⟨(q.1+1,v45,q.2.2 ++ [cV (zV f)]),?_,?_,GS.weaken ⟨rfl,rfl,rfl,rfl,rfl,rfl,rfl,rfl,rfl,rfl,rfl,rfl,trivial⟩ (.refl _)⟩
     · exact ⟨hltf,by simp only;rw [Cq hf,List.map_append,List.map_append,hQ.2];rfl⟩
     · simp only;omega
    ·
     have htf:=C3 hc2
     have hE:=hQ.2
     rw [htf] at hE
     have hrows:q.2.2=(Y1 T k1 va).values.map cV:=hE.trans (congrArg (List.map cV) (gE hsc).symm)
     refine AW.exit ?_
     refine A6 (A6 (Bv (Ae ?_)))
     refine AW.bufOne 0 rfl fun hu=>?_
     refine AW.region ?_
     refine AOL.Aai (Ax (k:=3) (c:=.val _) Ai rfl rfl rfl rfl) rfl rfl ?_
     refine AOL.Aai (Bz (k:=1) (l:=[Iq _,Iq _,Iq _,Iq _,_]) Ai rfl rfl rfl rfl rfl) rfl rfl ?_
     refine Qp (Az (es:=[[Iq _,Iq _,Iq _,Iq _,_]]) Ai rfl rfl rfl rfl rfl rfl (lit1 rfl rfl (by simp [Bf,Na,hu])) rfl rfl) ?_
     refine Qe (La.bufs (U1 (k:=2) Ai rfl rfl rfl rfl rfl rfl rfl rfl ((by simp [Bf,Na,hu])) (by simp;omega) (by simp [maxLen];omega))) ?_
     rintro _ _ ⟨⟨v51,rfl,rfl⟩,hbs51⟩
     have hu3:=hbs51 v51 _ _ _ (List.mem_of_getElem? (i:=2) rfl)
     refine Qe (C6 (k:=3) (v:=.val _) (cs':=[_]) (H2:=_::_::_::_::_) Ai rfl rfl rfl rfl ((by simp [Dc,Bf,Na,hu3])) rfl rfl rfl rfl) ?_
     rintro _ _ ⟨rfl,rfl⟩
     refine AOL.nil (Bq (Ae (AW.region (Qp Fv (Qp A0 (Ag ?_))))))
     refine ⟨(k1+1,v51,l1 ++ [(Y1 T k1 va,q.2.1)]),?_,?_,GS.trans (GS.perm (ev_push (e:=Y1 T k1 va) hrows)) (GS.weaken ⟨rfl,rfl,rfl,rfl,rfl,rfl,rfl,trivial⟩ (.cons _ (.refl _)))⟩
     · exact ⟨hlt,by simp only;rw [Cq hva,gI,List.map_append,hR.2,List.length_take,Nat.min_eq_left hk1,Nat.zero_add];rfl⟩
     · simp only;omega
  ·
   have hte:=C3 hc1
   have hbe:=hR.2
   rw [hte] at hbe
   have hvlen:l1.length=V.length:=by have:=congrArg List.length hbe;rw [P5] at this;simpa using this
   refine AW.exit ?_
   refine A6 (A6 (Bv (Ae (AW.seq (Ah (Qp (Qf [_,_,_]) (Qp Qlp ?_)))))))
   refine Qp (Gz rfl) ?_
   refine Qp (Qf [_,_]) (Qp Dk ?_)
   refine Qp (Ak (n:=(Cg T V l).ts.length) Ai rfl rfl rfl (by simp)) ?_
   refine Qp A0 (Ag (AW.block ?_))
   refine AW.Aae (fun (o:Nat×Es)=>(⟨[(1,.sl 9 (l.map G3)),(3,.ptr (Co T V)),(5,.ptr [.ptr (rK T V l),.sl 1 (vals.map cI),.val (.map (some m))]),(7,.val (.pointer (some ⟨b7,0,none⟩))),(57,.sl 3 ((Cg T V l).ts.map H9)),(58,.int .i64 (Cg T V l).ts.length),(59,.int .i64 (o.1:Int))],.buf v1 (o.2.map Cv) 67 5 :: .box b7 58 [.val v1]::(o.2.map F7++(.kmap m (wE w)::H)),102⟩:St)) (fun (o:Nat×Es)=>o.1≤(Cg T V l).ts.length∧G2 vals 0 (Cg T V l).ts (Ht T 0 V)=G2 vals o.1 ((Cg T V l).ts.drop o.1) (o.2.map Prod.fst)∧evOK T V (o.2.map Prod.fst)) (fun (o:Nat×Es)=>(Cg T V l).ts.length-o.1) ((0,l1)) ?_ (GS.weaken ⟨rfl,rfl,rfl,rfl,rfl,rfl,rfl,trivial⟩ (.refl _)) ?_
   · exact ⟨Nat.zero_le _,by simp only;rw [hbe];rfl,by simp only;rw [hbe];exact jZ⟩
   ·
    rintro ⟨k2,l2⟩ hO
    refine Ah (Qp Cj (Ag (AW.seq (A3 (fun hc3=>?_) fun hc3=>?_))))
    ·
     obtain ⟨t,ht⟩:=B2 hc3
     have hltt:=A9 ht
     have htm:=lH hlk t (List.mem_of_getElem? ht)
     refine Bx (AW.seq (AW.block (Ah (Qp A0 ?_))))
     refine Qp (Af (c:=[Iq _,Iq _,Iq _]) Ai rfl rfl rfl rfl rfl rfl (by omega) (Bh ht)) ?_
     refine Qp (Ck [Iq _,Iq _,Iq _]) ?_
     refine Qe (Al (l:=[.int .i64 0,.int .i64 0,.int .i64 0]) (by kernel_rfl)) ?_
     rintro _ _ ⟨b14,rfl,rfl⟩
     refine Qp At ?_
     refine Cm 0 [Iq _,Iq _,Iq _] (_::_::_::_) ?_
     refine AOL.ghost (GS.Aad (t:=14) 0 rfl rfl) ?_
     refine Df (Qp (Qf [Iq _,Iq _,Iq _]) (Qp Bs (Qp A5 (Ag (A3 (fun hc4=>?_) fun hc4=>?_)))))
     ·
      refine (mI hO.2.2 htm).elim fun e he=>he.elim fun u hu=>?_
      have hj:=hu.1
      have hel:=hu.2.1
      have hll9:l2.length=V.length:=hu.2.2
      have hv0:=htm.v0
      have hv1:=htm.v1
      refine AW.unbuf (v:=v1) (es:=l2.map Cv) (E:=67) (z:=5) 0 rfl (Wr hj) fun bb cap J hub hcap hcm hJ hzo=>?_
      subst hub
      have hrow:(l2.map Cv)[t.v.toNat]? = some (Cv (e,u)):=by rw [List.getElem?_map,hj];rfl
      refine AW.draw mixed (fun H'=>_∈H') (List.mem_of_getElem? (i:=1) rfl) (by kernel_rfl) ?_
      refine Qn 0 rfl (OpP.Aah (fun k=>Ax (k:=k) (c:=.val _) Ai rfl rfl rfl rfl) (fun _ h=>h)) ?_
      refine Qn 1 rfl (Qf [Iq _,Iq _]) (Qn 2 rfl Bs (Qn 3 rfl (Qf [_,_]) (Qn 4 rfl Dk (Qn 5 rfl A0 (Qn 6 rfl Fv ?_)))))
      refine Qn 7 rfl (Af (c:=[Iq _]) Ai rfl rfl rfl rfl rfl rfl (by omega) (pF (by omega))) ?_
      refine Qn 8 rfl Bs ?_
      refine Qn 9 rfl (B8 (o':=t.v.toNat*5) Ai rfl rfl rfl rfl rfl (hv0) (by rw [List.length_map];omega) (Nat.zero_add _)) ?_
      refine Qn 10 rfl Ir ?_
      refine Jv.last _ _ 11 _ _ rfl (by kernel_rfl) rfl rfl (C6 (k:=0) (v:=Iq _) (cs':=_) (H2:=_::_::_) Ai rfl rfl rfl rfl rfl rfl (Tx (o:=3) (J2 _) hrow (by decide)) (R9 (o:=3) (e:=Cv (e,u)) (J2 _) hrow (by decide)) rfl) (by kernel_rfl) ?_
      rintro _ _ ⟨rfl,rfl⟩
      refine Bq (Ae (AW.region (Qp Fv (Qp A0 (Ag ?_)))))
      refine ⟨(k2+1,l2.modify t.v.toNat fun p=>({ p.1 with time:=E0 vals ((k2:Int)+1) },p.2)),?_,?_,GS.trans (evTime hj hcap hcm hJ) (GS.weaken ⟨rfl,rfl,rfl,rfl,rfl,rfl,rfl,trivial⟩ (.refl _))⟩
      · exact ⟨hltt,hO.2.1.trans ((Xp ht).trans (congrArg (G2 vals (k2+1) _) (Zq hc4).symm)),by simp only;rw [Zq hc4];exact Vz hO.2.2 t _⟩
      · simp only;omega
     ·
      refine (mI hO.2.2 htm).elim fun e he=>he.elim fun u hu=>?_
      have hj:=hu.1
      have hel:=hu.2.1
      have hll9:l2.length=V.length:=hu.2.2
      have hv0:=htm.v0
      have hv1:=htm.v1
      have ho1:t.op=1:=htm.op.resolve_right (by simpa using hc4)
      have hfr:=htm.f ho1
      refine (oB htm ho1 hel).elim fun y hy=>?_
      have hyl:=A9 hy
      refine AW.ghost (GS.perm (lF hj)) ?_
      refine AW.unbuf (v:=u) (es:=e.values.map cV) (E:=28) (z:=3) 0 rfl (Wr hy) fun bi capi Ji hui hcapi hcmi hJi hzi=>?_
      subst hui
      refine AW.unbuf (v:=v1) (es:=l2.map Cv) (E:=67) (z:=5) 1 rfl (Wr hj) fun bb cap J hub hcap hcm hJ hzo=>?_
      subst hub
      have hrow:(l2.map Cv)[t.v.toNat]? = some (Cv (e,.slice (some ⟨bi,0,none⟩) (e.values.map cV).length capi)):=by rw [List.getElem?_map,hj];rfl
      refine AW.draw mixed (fun H'=>_∈H'∧_∈H') ⟨(List.mem_of_getElem? (i:=2) rfl),(List.mem_of_getElem? (i:=1) rfl)⟩ (by kernel_rfl) ?_
      refine Qn 0 rfl (OpP.Aah (fun k=>Ax (k:=k) (c:=.val _) Ai rfl rfl rfl rfl) (fun _ h=>h.1)) ?_
      refine Qn 1 rfl (Qf [Iq _,Iq _]) (Qn 2 rfl Bs ?_)
      refine Qn 3 rfl (B8 (o':=t.v.toNat*5) Ai rfl rfl rfl rfl rfl (hv0) (by rw [List.length_map];omega) (Nat.zero_add _)) ?_
      refine Qn 4 rfl Ir ?_
      refine Qn 5 rfl (OpP.Aah (fun k=>Ax (k:=k) (c:=.val (.slice (some ⟨bi,0,none⟩) (e.values.map cV).length capi)) Ai rfl rfl rfl (Xj (o:=4) (J2 l2) hrow rfl)) (fun _ h=>h.2)) ?_
      refine Qn 6 rfl (Qf [Iq _]) (Qn 7 rfl Bs (Qn 8 rfl (Qf [_,_]) (Qn 9 rfl Dk (Qn 10 rfl A0 (Qn 11 rfl Fv ?_)))))
      refine Qn 12 rfl (Af (c:=[Iq _]) Ai rfl rfl rfl rfl rfl rfl (by omega) (pF (by omega))) ?_
      refine Qn 13 rfl Bs ?_
      refine Qn 14 rfl (B8 (o':=t.field.toNat*3) Ai rfl rfl rfl rfl rfl (hfr.1) (by rw [List.length_map];omega) (Nat.zero_add _)) ?_
      refine Qn 15 rfl Ir ?_
      refine Jv.last _ _ 16 _ _ rfl (by kernel_rfl) rfl rfl (C6 (k:=0) (v:=Iq _) (cs':=_) (H2:=_::_::_::_) Ai rfl rfl rfl rfl rfl rfl (Tx (o:=1) (Pg _) (by rw [List.getElem?_map,hy];rfl) (by decide)) (R9 (o:=1) (e:=cV y) (x:=.int .i64 (E0 vals ((k2:Int)+1))) (Pg _) (by rw [List.getElem?_map,hy];rfl) (by decide)) rfl) (by kernel_rfl) ?_
      rintro _ _ ⟨rfl,rfl⟩
      refine Bq (Ae (AW.region (Qp Fv (Qp A0 (Ag ?_)))))
      refine ⟨(k2+1,l2.modify t.v.toNat fun p=>(V3 p.1 t.field.toNat (fun y=>{ y with num:=E0 vals ((k2:Int)+1) }),p.2)),?_,?_,GS.trans (uT hj hy (f:=fun y=>{ y with num:=E0 vals ((k2:Int)+1) }) rfl hcap hcm hJ hcapi hcmi hJi) (GS.weaken ⟨rfl,rfl,rfl,rfl,rfl,rfl,rfl,trivial⟩ (.refl _))⟩
      · exact ⟨hltt,hO.2.1.trans ((Xp ht).trans (congrArg (G2 vals (k2+1) _) (fW hc4).symm)),by simp only;rw [fW hc4];exact Vz hO.2.2 t _⟩
      · simp only;omega
    ·
     have hde:=Dh hc3
     have hnum:=hO.2.1
     rw [hde] at hnum
     refine AW.exit ?_
     refine A6 (A6 (Bv (Ae (Ah (Qp (Ck [_,_]) (Qp C4 (Qp (Qf [_]) (Qp Qlv ?_))))))))
     refine Qp (Bc (l:=[]) (l':=[.val _]) rfl rfl) ?_
     refine Qe (Fo (by kernel_rfl) rfl rfl (d_name T V l hlk hll m w hw b7 v1 l2 hO.2.2 _)) ?_
     rintro _ _ ⟨l3,hl3,hev3,rfl,rfl⟩
     refine Df ?_
     refine AOL.Aai (Ax (k:=1) (c:=.val _) Ai rfl rfl rfl rfl) rfl rfl ?_
     refine Qp N8 ?_
     refine AOL.ghost (GS.freezeEvs (t:=6) rfl) ?_
     refine Ag (AW.ret ?_)
     refine ⟨.inr rfl,[.sl _ _],.cons (.tmp _ _ rfl) <| .nil,_,.cons _ (.refl _),?_⟩
     exact ⟨congrArg (fun q:List Ev=>AV.sl 5 (q.map Ph)) (hl3.trans (congrArg (bY T V w l) hnum.symm)),rfl⟩

end Go.Proofs.YtkddpedfbicbeaaGreatDoor
