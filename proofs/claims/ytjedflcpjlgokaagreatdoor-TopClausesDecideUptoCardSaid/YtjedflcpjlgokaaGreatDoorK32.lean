/-
  Several texts in one: Y11, Y12. No condition.
-/
import Derived.Test.YtjedflcpjlgokaaGreatDoorAz
import Derived.Test.YtjedflcpjlgokaaGreatDoorK17
import Derived.Test.YtjedflcpjlgokaaGreatDoorK31
import Derived.KernelRfl
set_option linter.unusedVariables false
set_option linter.unusedSimpArgs false
namespace Go.Proofs.YtjedflcpjlgokaaGreatDoor
open Go Go.Aw
set_option maxHeartbeats 6400000
set_option maxRecDepth 20000

theorem zD (T:List Sc)(V:List Va)(l:List Lit)(hlk:Q9 T V l)(hll:l.length≤4096)(m:Nat)(w:Wm)(hw:Wp w)(bo:Nat)(v:Value)(l0:Es)(hev:evOK T V (l0.map Prod.fst))(R:List HO):C7 Tryz.prog 95 (Wn bo v l0 (.kmap m (wE w)::R)) [.agg (B9 T V),.sl 9 (l.map Fy),.val (.map (some m)),.fn (.func 96) [] [.val (.pointer (some ⟨bo,0,none⟩))]] (fun r H'=>∃l',l'.map Prod.fst=Zp T V w l (l0.map Prod.fst)∧evOK T V (l'.map Prod.fst)∧r = .tuple []∧H'=Wn bo v l' (.kmap m (wE w)::R)):=by
 refine C7.perm (fQ (pre:=[.kmap m (wE w)])).symm ?_
 refine C7.body (n:=126) Aj Tryz.func95 rfl rfl rfl ?_
 refine AW.ghostPost ?_
 refine Ah (Qp (It [_,_]) (Dv ?_))
 refine Qe (Pp) ?_
 rintro _ _ ⟨b22,rfl,rfl⟩
 refine Qp O5 (Dv (Qp O5 ?_))
 refine AOL.ghost (GS.row (t:=9) 200 5 rfl) ?_
 refine Ag (AW.seq (Ah (Qp Dm ?_)))
 refine Qp (Al (n:=l.length) Aj rfl rfl rfl (by simp)) ?_
 refine Qp Az (Ag (AW.block ?_))
 refine AW.Aa3 (fun (p:Nat×Um×List Wd×Value×List (List AV))=>(⟨[(2,.val (.map (some m))),(3,.fn (.func 96) [] [.val (.pointer (some ⟨bo,0,none⟩))]),(4,.ptr (B9 T V)),(8,.val (.map (some b22))),(9,.row p.2.2.2.1 5 p.2.2.2.2),(23,.sl 9 (l.map Fy)),(24,.int .i64 l.length),(25,.int .i64 (p.1:Int))],.row p.2.2.2.1 p.2.2.2.2.length 200 5 :: .smap b22 (sE p.2.1) :: .kmap m (wE w)::Wn bo v l0 R,126⟩:St)) (fun (p:Nat×Um×List Wd×Value×List (List AV))=>p.1≤l.length∧Wf T V (l.take p.1)=(p.2.1,p.2.2.1)∧(∀x∈p.2.2.1,wdOK T V x)∧p.2.1.length≤2*p.1∧p.2.2.1.length≤2*p.1∧p.2.2.2.2=p.2.2.1.map Jz) (fun (p:Nat×Um×List Wd×Value×List (List AV))=>l.length-p.1) ((0,[],[],.slice none 0 0,[])) ?_ (GS.weaken ⟨rfl,rfl,rfl,rfl,rfl,rfl,rfl,rfl,trivial⟩ (.refl _)) ?_
 · exact ⟨Nat.zero_le _,rfl,fun x hx=>(by cases hx),Nat.le_refl _,Nat.le_refl _,rfl⟩
 ·
  rintro p hR
  have hE:=hR.2.2.2.2.2
  refine Ah (Qp Co (Ag (AW.seq (A4 (fun hc1=>?_) fun hc1=>?_))))
  ·
   obtain ⟨c,hc⟩:=B5 hc1
   have hlt:=Bh hc
   have hcm:=List.mem_of_getElem? hc
   have hck:=(hlk c hcm).1
   have hcs:=Nat.le_trans (hlk c hcm).2 (by decide:64≤1048576)
   refine Bx (AW.seq (AW.block (Ah ?_)))
   refine Qp (Af (c:=[Iq _,_,Iq _,Iq _,Iq _,Iq _,Iq _,.str _,.bool _]) Aj rfl rfl rfl rfl rfl rfl (by omega) (B1 hc)) ?_
   refine Qp (C8 [Iq _,_,Iq _,Iq _,Iq _,Iq _,Iq _,.str _,.bool _]) ?_
   refine Qe (A0 (l:=[.int .i64 0,.sl 8 [],.int .i64 0,.int .i64 0,.int .i64 0,.int .i64 0,.int .i64 0,.str [],.bool false]) (by kernel_rfl)) ?_
   rintro _ _ ⟨b11,rfl,rfl⟩
   refine Eu 0 [Iq _,_,Iq _,Iq _,Iq _,Iq _,Iq _,.str _,.bool _] (_::_::_::_::_::_::_) ?_
   refine AOL.ghost (GS.Aa2 (t:=11) 0 rfl rfl) ?_
   refine Ag (AW.seq (Ah (Qp (C8 [_,_]) (Qp (Qf [Iq _,_,Iq _,Iq _,Iq _,Iq _,Iq _,.str _,.bool _]) (Qp E2 ?_)))))
   refine Qp (Qc rfl (P2 T V c.cond hck)) ?_
   refine Qp Gj (Qp Bt (Qg [] Qw (C8 [_,_]) (Qg [] Qw (Qf [Iq _,_,Iq _,Iq _,Iq _,Iq _,Iq _,.str _,.bool _]) (Qg [(36,_)] Qw E2 ?_))))
   refine AOL.Aa5 (y:=.bool _) _ [(35,_),(37,_)] rfl (nI.all ⟨Ent.Aa1 _ _,Ent.Aa1 _ _,trivial⟩) (fun hG=>Fk (by kernel_rfl) rfl rfl (Nx T V c.cond hck hcs)) rfl ?_
   refine Qg [(38,_)] Qw Gj (Qp Ew (Ag (A4 (fun hc2=>?_) fun hc2=>?_)))
   ·
    refine AW.exit ?_
    refine A2 (Bo (Ad (AW.region (Qp Fb (Qp Az (Ag ?_))))))
    refine ⟨(p.1+1,p.2),?_,?_,GS.weaken ⟨rfl,rfl,rfl,rfl,rfl,rfl,rfl,rfl,trivial⟩ (.refl _)⟩
    · exact ⟨hlt,by unfold Wf;rw [Cx hc,List.foldl_append];exact (congrArg (fun z=>qB T V z c) hR.2.1).trans (wQ hc2),hR.2.2.1,by have:=hR.2.2.2.1;simp only;omega,by have:=hR.2.2.2.2.1;simp only;omega,hE⟩
    · simp only;omega
   ·
    have h2a:=rY hck hc2
    have hal:=h2a.1
    refine Bx (Ah (Qp (Qf [Iq _,_,Iq _,Iq _,Iq _,Iq _,Iq _,.str _,.bool _]) (Qp (Qf [_,Iq _,Iq _,Iq _,Iq _,Iq _,.str _,.bool _]) (Qp D1 ?_))))
    refine Qp (Al (n:=c.cond.args.length) Aj rfl rfl rfl (by simp)) ?_
    refine Qp Az (Ag (AW.block ?_))
    refine AW.Aa3 (fun (q:Nat×Um×List Wd×Value×List (List AV))=>(⟨[(2,.val (.map (some m))),(3,.fn (.func 96) [] [.val (.pointer (some ⟨bo,0,none⟩))]),(4,.ptr (B9 T V)),(8,.val (.map (some b22))),(9,.row q.2.2.2.1 5 q.2.2.2.2),(23,.sl 9 (l.map Fy)),(24,.int .i64 l.length),(25,.int .i64 (p.1:Int)),(43,.sl 8 (c.cond.args.map Gq)),(44,.int .i64 c.cond.args.length),(45,.int .i64 (q.1:Int))],.row q.2.2.2.1 q.2.2.2.2.length 200 5 :: .smap b22 (sE q.2.1) :: .kmap m (wE w)::Wn bo v l0 R,126⟩:St)) (fun (q:Nat×Um×List Wd×Value×List (List AV))=>q.1≤c.cond.args.length∧c.cond.args.foldl vH (p.2.1,p.2.2.1)=(c.cond.args.drop q.1).foldl vH (q.2.1,q.2.2.1)∧(∀x∈q.2.2.1,wdOK T V x)∧q.2.1.length≤p.2.1.length+q.1∧q.2.2.1.length≤p.2.2.1.length+q.1∧q.2.2.2.2=q.2.2.1.map Jz) (fun (q:Nat×Um×List Wd×Value×List (List AV))=>c.cond.args.length-q.1) ((0,p.2)) ?_ (GS.weaken ⟨rfl,rfl,rfl,rfl,rfl,rfl,rfl,rfl,rfl,rfl,rfl,trivial⟩ (.refl _)) ?_
    · exact ⟨Nat.zero_le _,rfl,hR.2.2.1,Nat.le_refl _,Nat.le_refl _,hE⟩
    ·
     rintro q hQ
     have hb1:=hR.2.2.2.1
     have hb2:=hR.2.2.2.2.1
     have hb3:=hQ.2.2.2.1
     have hb4:=hQ.2.2.2.2.1
     have hF:=hQ.2.2.2.2.2
     have hsc:∀c∈q.2.2.2.2,Bg c=true:=by rw [hF];exact Aai _
     have hql:q.2.2.2.2.length=q.2.2.1.length:=by rw [hF];simp
     refine Ah (Qp Co (Ag (AW.seq (A4 (fun hc3=>?_) fun hc3=>?_))))
     ·
      obtain ⟨a,ha⟩:=B5 hc3
      have hlta:=Bh ha
      have ham:=List.mem_of_getElem? ha
      refine Bx (AW.seq (AW.block (Ah ?_)))
      refine Qp (Af (c:=[Iq _,_,Iq _,Iq _,Iq _,Iq _,Iq _,.str _]) Aj rfl rfl rfl rfl rfl rfl (by omega) (Fg ha)) ?_
      refine Qp E2 ?_
      refine Qe (A0 (l:=[.int .i64 0,.sl 8 [],.int .i64 0,.int .i64 0,.int .i64 0,.int .i64 0,.int .i64 0,.str []]) (by kernel_rfl)) ?_
      rintro _ _ ⟨b13,rfl,rfl⟩
      refine Eu 0 [Iq _,_,Iq _,Iq _,Iq _,Iq _,Iq _,.str _] (_::_::_::_::_::_::_) ?_
      refine AOL.ghost (GS.Aa2 (t:=13) 0 rfl rfl) ?_
      refine Dv (Qp E2 ?_)
      refine Qp (Qc rfl (Nv a)) ?_
      refine Qe (A0 (l:=[.bool false,.str [],.int .i64 0,.int .i64 0,.int .i64 0]) (by kernel_rfl)) ?_
      rintro _ _ ⟨b14,rfl,rfl⟩
      refine Eu 0 [.bool _,.str _,Iq _,Iq _,Iq _] (_::_::_::_::_::_::_) ?_
      refine AOL.ghost (GS.Aa2 (t:=14) 0 rfl rfl) ?_
      refine Dv (Qp Gn (Qp (Qf [.str _,Iq _,Iq _,Iq _]) (Qp Uj (Qp Gn (Qp (Qf [.str _,Iq _,Iq _,Iq _]) (Qp Uj ?_))))))
      refine AOL.Aa7 (iR (i:=1) Aj rfl rfl rfl rfl rfl rfl (by kernel_rfl) rfl rfl) rfl rfl ?_
      refine Qp Bt (Qg [] Qw (Qf [.bool _,.str _,Iq _,Iq _,Iq _]) (Qg [(59,_)] Qw kM (Qp Ew ?_)))
      refine Qe (sH (i:=1) (H2:=_::_::_::_::_::_) Aj rfl rfl rfl rfl rfl rfl rfl rfl rfl) ?_
      rintro _ _ ⟨rfl,rfl⟩
      refine Ag (AW.region ?_)
      refine Qp (Bk (v:=.row _ _ _) rfl) ?_
      refine Qp (C8 [.bool _,.str _,Iq _,Iq _,Iq _]) ?_
      refine Qp (A3 (es:=[[.bool _,.str _,Iq _,Iq _,Iq _]]) Aj rfl rfl rfl rfl rfl rfl rfl rfl rfl) ?_
      refine Qe (Dr (k:=0) Aj rfl rfl rfl rfl rfl rfl rfl rfl (Hw rfl) (hsc) (by simp;omega) (by simp [maxLen];omega)) ?_
      rintro _ _ ⟨v65,rfl,rfl⟩
      refine Qp (Di (v:=.row _ _ _) rfl) ?_
      refine AOL.nil (Bn (Ad (AW.region (Qp Fb (Qp Az (Ag ?_))))))
      refine ⟨(q.1+1,Wx q.2.1 (Ff a).text (Jr q.2.1 (Ff a).text||(Ff a).const),q.2.2.1 ++ [Ff a],v65,q.2.2.2.2 ++ [Jz (Ff a)]),?_,?_,GS.weaken ⟨rfl,rfl,rfl,rfl,rfl,rfl,rfl,rfl,rfl,rfl,rfl,trivial⟩ (.refl _)⟩
      · exact ⟨hlta,hQ.2.1.trans (Xs ha),fun x hx=>(List.mem_append.1 hx).elim (hQ.2.2.1 x) (fun h=>by rw [List.mem_singleton.1 h];exact tV (An hck ham) (h2a.2 a ham)),by have:=dW q.2.1 (Ff a).text (Jr q.2.1 (Ff a).text||(Ff a).const);simp only;omega,by simp only [List.length_append,List.length_singleton];omega,by simp only;rw [hF,List.map_append];rfl⟩
      · simp only;omega
     ·
      have hde:=Dq hc3
      have hfo:=hQ.2.1
      rw [hde] at hfo
      refine AW.exit ?_
      refine A2 (A2 (Bo (Bn (Ad (AW.region (Qp Fb (Qp Az (Ag ?_))))))))
      refine ⟨(p.1+1,q.2),?_,?_,GS.weaken ⟨rfl,rfl,rfl,rfl,rfl,rfl,rfl,rfl,trivial⟩ (.refl _)⟩
      · exact ⟨hlt,by unfold Wf;rw [Cx hc,List.foldl_append];exact (congrArg (fun z=>qB T V z c) hR.2.1).trans ((qW hc2).trans hfo),hQ.2.2.1,by have:=hR.2.2.2.1;have:=hQ.2.2.2.1;have:=hQ.1;simp only;omega,by have:=hR.2.2.2.2.1;have:=hQ.2.2.2.2.1;have:=hQ.1;simp only;omega,hQ.2.2.2.2.2⟩
      · simp only;omega
  ·
   have hte:=Cg hc1
   have hcol:=hR.2.1
   rw [hte] at hcol
   have hwds:=hR.2.2.1
   have hUl:=hR.2.2.2.1
   have hAl:=hR.2.2.2.2.1
   refine AW.exit ?_
   refine A2 (A2 (Bo (Ad (Ah ?_))))
   refine Qe (Mi) ?_
   rintro _ _ ⟨b68,rfl,rfl⟩
   refine Qp O5 (Dv ?_)
   refine Qp (Bk (v:=.row _ _ _) rfl) ?_
   refine Qp (Le (n:=p.2.2.1.length) Aj rfl rfl rfl (by rw [hE];simp)) ?_
   refine Qp Az (Ag (AW.block ?_))
   refine AW.Aa3 (fun (o:Nat×Um×Nm×Es)=>(⟨[(2,.val (.map (some m))),(3,.fn (.func 96) [] [.val (.pointer (some ⟨bo,0,none⟩))]),(8,.val (.map (some b22))),(15,.val (.map (some b68))),(69,.row p.2.2.2.1 5 p.2.2.2.2),(70,.int .i64 p.2.2.1.length),(71,.int .i64 (o.1:Int))],.kmap b68 (nE o.2.2.1) :: .row p.2.2.2.1 p.2.2.2.2.length 200 5 :: .smap b22 (sE o.2.1) :: .kmap m (wE w)::Wn bo v o.2.2.2 R,126⟩:St)) (fun (o:Nat×Um×Nm×Es)=>o.1≤p.2.2.1.length∧p.2.2.1.foldl (Kc w) (p.2.1,[],l0.map Prod.fst)=(p.2.2.1.drop o.1).foldl (Kc w) (o.2.1,o.2.2.1,o.2.2.2.map Prod.fst)∧evOK T V (o.2.2.2.map Prod.fst)∧o.2.1.length≤p.2.1.length+o.1) (fun (o:Nat×Um×Nm×Es)=>p.2.2.1.length-o.1) ((0,p.2.1,[],l0)) ?_ (GS.weaken ⟨rfl,rfl,rfl,rfl,rfl,rfl,rfl,trivial⟩ (.refl _)) ?_
   · exact ⟨Nat.zero_le _,rfl,hev,Nat.le_refl _⟩
   ·
    rintro o hO
    refine Ah (Qp Co (Ag (AW.seq (A4 (fun hc4=>?_) fun hc4=>?_))))
    ·
     obtain ⟨x,hx⟩:=B5 hc4
     have hltx:=Bh hx
     have hxm:=List.mem_of_getElem? hx
     have hwx:=hwds x hxm
     have hno:=hO.2.1
     rw [Xs hx] at hno
     have hevo:=hO.2.2.1
     have hUo:=hO.2.2.2
     refine Bx (AW.seq (AW.block (Ah ?_)))
     refine Qp (Jm (c:=[.bool _,.str _,Iq _,Iq _,Iq _]) Aj rfl rfl rfl rfl rfl rfl (by omega) (by rw [hE];exact B1 hx)) ?_
     refine Qp (C8 [.bool _,.str _,Iq _,Iq _,Iq _]) ?_
     refine Qe (A0 (l:=[.bool false,.str [],.int .i64 0,.int .i64 0,.int .i64 0]) (by kernel_rfl)) ?_
     rintro _ _ ⟨b17,rfl,rfl⟩
     refine Eu 0 [.bool _,.str _,Iq _,Iq _,Iq _] (_::_::_::_::_::_::_::_) ?_
     refine AOL.ghost (GS.Aa2 (t:=17) 0 rfl rfl) ?_
     refine Dv (Qp Gn (Qp (C8 [.bool _,.str _,Iq _,Iq _,Iq _]) ?_))
     refine AOL.Aa7 (Pt (ho:=.kmap m (wE w)) (KK:=fun H=>H[3]? = some (.kmap m (wE w))) (by kernel_rfl) rfl rfl (P0 m w hw x) (fun _ h=>List.mem_of_getElem? h)) rfl rfl ?_
     refine Qe (A0 (l:=[.bool false,.str [],.int .i64 0,.int .i64 0,.int .i64 0]) (by kernel_rfl)) ?_
     rintro _ _ ⟨b18,rfl,rfl⟩
     refine Eu 0 [.bool _,.str _,Iq _,Iq _,Iq _] (_::_::_::_::_::_::_::_) ?_
     refine AOL.ghost (GS.Aa2 (t:=18) 0 rfl rfl) ?_
     refine Ag ?_
     refine AW.cut (fun (t:Um×Nm)=>(⟨[(2,.val (.map (some m))),(3,.fn (.func 96) [] [.val (.pointer (some ⟨bo,0,none⟩))]),(8,.val (.map (some b22))),(15,.val (.map (some b68))),(69,.row p.2.2.2.1 5 p.2.2.2.2),(70,.int .i64 p.2.2.1.length),(71,.int .i64 (o.1:Int)),(17,.ptr (Jz x)),(18,.ptr (Jz (Df w x)))],.kmap b68 (nE t.2) :: .row p.2.2.2.1 p.2.2.2.2.length 200 5 :: .smap b22 (sE t.1) :: .kmap m (wE w)::Wn bo v o.2.2.2 R,126⟩:St)) (fun (t:Um×Nm)=>t=fJ o.2.1 o.2.2.1 (Df w x)) ?_ ?_
     ·
      refine Ah (Qp Gn (Qp (C8 [.bool _,.str _,Iq _,Iq _,Iq _]) ?_))
      refine AOL.Aa7 (N4 (i:=0) (eq:=Ir (Df w x)) Aj rfl rfl rfl rfl rfl (by kernel_rfl) rfl rfl (rfl) (Xz (Df w x) _) (Aav (Df w x) _) (has_n (Df w x) _)) rfl rfl ?_
      refine Qp Om (Qp Qxt (Qp X9 (Qp Qat (Qp Bb (Dv (Qp Bt (Qp Gj (Ag (A4 (fun hc5=>?_) fun hc5=>?_)))))))))
      ·
       have hnn:=bO hc5
       refine Ah (Qp Gn (Qp (C8 [.bool _,.str _,Iq _,Iq _,Iq _]) (Qp (Qf [.str _,Iq _,Iq _,Iq _]) (Qp Uj ?_))))
       refine Qe (vU (i:=0) (H2:=_::_::_::_::_::_::_) Aj rfl rfl rfl rfl rfl rfl rfl rfl hnn rfl) ?_
       rintro _ _ ⟨rfl,rfl⟩
       refine Ag (AW.seq (Ah (Qp Aq (Ag (AW.block ?_)))))
       refine AW.Aa3 (fun (z:Nat×Gk)=>(⟨[(2,.val (.map (some m))),(3,.fn (.func 96) [] [.val (.pointer (some ⟨bo,0,none⟩))]),(8,.val (.map (some b22))),(15,.val (.map (some b68))),(69,.row p.2.2.2.1 5 p.2.2.2.2),(70,.int .i64 p.2.2.1.length),(71,.int .i64 (o.1:Int)),(17,.ptr (Jz x)),(18,.ptr (Jz (Df w x))),(21,.int .i64 (z.1:Int))],.kmap b68 (nE (o.2.2.1 ++ [((Df w x),z.2)])) :: .row p.2.2.2.1 p.2.2.2.2.length 200 5 :: .smap b22 (sE o.2.1) :: .kmap m (wE w)::Wn bo v o.2.2.2 R,126⟩:St)) (fun (z:Nat×Gk)=>nmI o.2.1 (Df w x) z.1 z.2) (fun (z:Nat×Gk)=>o.2.1.length+2-z.1) ((0,(Df w x).text)) ?_ (GS.weaken ⟨rfl,rfl,rfl,rfl,rfl,rfl,rfl,rfl,rfl,rfl,trivial⟩ (.refl _)) ?_
       · exact .inl ⟨rfl,rfl⟩
       ·
        rintro z hz
        refine AW.seq (Ah (Qp (Qf [.bool _,.str _,Iq _,Iq _,Iq _]) (Qp kM (Qp Gj (Qp Bt (Qg [] Qw Az (Qg [(94,_)] Qw Ba (Qg [(95,_)] Qw Bt (Qg [] Qw Gn ?_)))))))))
        refine Qg [] Qw Gn (Qg [] Qw (C8 [.bool _,.str _,Iq _,Iq _,Iq _]) ?_)
        refine AOL.gk (y:=.str _) _ [(98,_),(99,_)] rfl (nI.all ⟨Ent.Aa1 _ _,Ent.Aa1 _ _,trivial⟩) (fun hG=>Ii (i:=0) (eq:=Ir (Df w x)) Aj rfl rfl rfl rfl rfl (by kernel_rfl) rfl rfl (rfl) (Xz (Df w x) _) (aB (Rg hnn))) rfl rfl ?_
        refine AOL.gk (y:=.bool _) _ [(97,_),(100,_)] rfl (nI.all ⟨Ent.Aa1 _ _,Ent.Aa1 _ _,trivial⟩) (fun hG=>iR (i:=2) Aj rfl rfl rfl rfl rfl rfl (by kernel_rfl) rfl rfl) rfl rfl ?_
        refine Qg [(96,_),(101,_)] Qw Ew (Qp G1 (Ag (A4 (fun hc6=>?_) fun hc6=>?_)))
        ·
         have h6:=Bool.and_eq_true_iff.mp hc6
         have hrc:(Df w x).const=false:=(Bool.not_eq_true' _).mp h6.1
         have h6b:z.1=0∨Jr o.2.1 z.2=true:=by have:=h6.2;simp at this;omega
         have hzl:=Aaa hz
         refine Bx (AW.seq (AW.block ?_))
         refine AW.draw mixed (fun _=>True) trivial (by kernel_rfl) ?_
         refine Qn 0 rfl Gn (Qn 1 rfl (C8 [.bool _,.str _,Iq _,Iq _,Iq _]) (Qn 2 rfl Az ?_))
         refine Qn 3 rfl (Qc rfl (kItoa _ (by omega) (by omega))) ?_
         refine Qn 4 rfl (oC rfl rfl rfl (by have h8:=Go.Lib.itoa_length_le (z.1:Int) (by omega) (by omega);simp only [List.length_append,List.length_cons,List.length_nil,maxLen];omega)) ?_
         refine Iu.eff _ _ 5 _ _ rfl (by kernel_rfl) rfl rfl (uG (i:=0) (H2:=_::_::_::_::_::_::_) Aj rfl rfl rfl rfl rfl rfl rfl rfl hnn rfl) (fun _ _ _=>trivial) ?_
         rintro _ _ ⟨rfl,rfl⟩
         refine Iu.done _ _ (by kernel_rfl) ?_
         refine Bn (Ad (AW.region (Qp Az (Qp Fb (Qp Aq (Ag ?_))))))
         refine ⟨(z.1+1,wN z.1),?_,?_,GS.weaken ⟨rfl,rfl,rfl,rfl,rfl,rfl,rfl,rfl,rfl,rfl,trivial⟩ (.refl _)⟩
         · exact vC hz hrc h6b
         · simp only;omega
        ·
         have hnm:=wM hz (by simpa using hc6)
         refine AW.exit ?_
         refine A2 (A2 (Bo (Ad (AW.region (Qp Gn (Qp Gn (Qp (C8 [.bool _,.str _,Iq _,Iq _,Iq _]) ?_)))))))
         refine AOL.Aa7 (Ii (i:=0) (eq:=Ir (Df w x)) Aj rfl rfl rfl rfl rfl (by kernel_rfl) rfl rfl (rfl) (Xz (Df w x) _) (aB (Rg hnn))) rfl rfl ?_
         refine Qe (sH (i:=2) (H2:=_::_::_::_::_::_::_) Aj rfl rfl rfl rfl rfl rfl rfl rfl rfl) ?_
         rintro _ _ ⟨rfl,rfl⟩
         refine Ag ?_
         refine ⟨(Wx o.2.1 z.2 true,o.2.2.1 ++ [((Df w x),z.2)]),?_,GS.weaken ⟨rfl,rfl,rfl,rfl,rfl,rfl,rfl,rfl,rfl,trivial⟩ (.refl _)⟩
         exact (by rw [wY hnn,hnm])
      ·
       refine Bx ?_
       refine ⟨(o.2.1,o.2.2.1),?_,GS.weaken ⟨rfl,rfl,rfl,rfl,rfl,rfl,rfl,rfl,rfl,trivial⟩ (.refl _)⟩
       exact (uL hc5).symm
     ·
      rintro t hT
      have hgs:Jp t.2 (Df w x)=some (yB o.2.1 o.2.2.1 (Df w x)):=by rw [hT];exact vE _ _ _
      refine Ah (Qp (Qf [.bool _,.str _,Iq _,Iq _,Iq _]) (Qp kM (Qp Gj (Ag (A4 (fun hc7=>?_) fun hc7=>?_)))))
      ·
       have hxc:x.const=false:=(Bool.not_eq_true' _).mp hc7
       refine AW.draw mixed (fun H'=>_∈H') (List.mem_of_getElem? (i:=0) rfl) (by kernel_rfl) ?_
       refine Qn 0 rfl (Bk (v:=.fn _ _ _) rfl) ?_
       refine Qn 1 rfl (Qf [Iq _,Iq _,Iq _]) (Qn 2 rfl (C8 [Iq _,Iq _,Iq _]) (Qn 3 rfl Gn (Qn 4 rfl (C8 [.bool _,.str _,Iq _,Iq _,Iq _]) ?_)))
       refine Qn 5 rfl (OpP.Aa4 (fun k=>Ii (i:=k) (eq:=Ir (Df w x)) Aj rfl rfl rfl rfl rfl (by kernel_rfl) rfl rfl (rfl) (Xz (Df w x) _) (aB hgs)) (fun _ h=>h)) ?_
       refine Iu.last _ _ 6 _ _ rfl (by kernel_rfl) rfl rfl (Ib (by kernel_rfl) rfl rfl rfl (oY (pre:=[_,_,_,_]) (lG T V bo v o.2.2.2 hevo x.field (hwx hxc).1 (hwx hxc).2 (yB o.2.1 o.2.2.1 (Df w x)) _))) (by kernel_rfl) ?_
       rintro _ _ ⟨rfl,rfl⟩
       refine Bn (Ad (AW.region (Qp Fb (Qp Az (Ag ?_)))))
       refine ⟨(o.1+1,t.1,t.2,o.2.2.2.modify x.field.v.toNat fun p=>(S8 p.1 x.field.field.toNat (fun y=>{ y with text:=yB o.2.1 o.2.2.1 (Df w x) }),p.2)),?_,?_,GS.weaken ⟨rfl,rfl,rfl,rfl,rfl,rfl,rfl,trivial⟩ (.refl _)⟩
       · exact ⟨hltx,hno.trans (congrArg (List.foldl (Kc w) · _) (nm_f hT hxc)),by rw [dG];exact wR hevo _ _,by have:=jN o.2.1 o.2.2.1 (Df w x);rw [←hT] at this;simp only;omega⟩
       · simp only;omega
      ·
       have hxc:x.const=true:=(Bool.not_eq_false' _).mp hc7
       refine AW.skip (Bn (Ad (AW.region (Qp Fb (Qp Az (Ag ?_))))))
       refine ⟨(o.1+1,t.1,t.2,o.2.2.2),?_,?_,GS.weaken ⟨rfl,rfl,rfl,rfl,rfl,rfl,rfl,trivial⟩ (.refl _)⟩
       · exact ⟨hltx,hno.trans (congrArg (List.foldl (Kc w) · _) (nm_c hT hxc)),hevo,by have:=jN o.2.1 o.2.2.1 (Df w x);rw [←hT] at this;simp only;omega⟩
       · simp only;omega
    ·
     have hde:=Dq hc4
     have hfin:=hO.2.1
     rw [hde] at hfin
     refine AW.exit ?_
     refine A2 (A2 (Bo ?_))
     refine ⟨_,GS.trans (GS.weaken (sl':=[]) (H':=.kmap m (wE w)::Wn bo v _ R) trivial (.cons _ (.cons _ (.cons _ (.refl _))))) (GS.perm (fQ (pre:=[.kmap m (wE w)]))),.inl rfl,[],.nil,_,.refl _,?_⟩
     exact ⟨o.2.2.2,(by unfold Zp;rw [hcol,hfin];rfl),hO.2.2.1,rfl,rfl⟩

set_option maxHeartbeats 6400000
set_option maxRecDepth 20000

theorem rG (T:List Sc)(V:List Va)(hty:Kl T V)(hst:∀s∈T,Is s)(hvl:V.length≤1048576)(l:List Lit)(hlk:Q9 T V l)(hll:l.length≤4096)(m:Nat)(w:Wm)(hw:Wp w)(vals:List Int)(hvs:(Bz T V l).ts.length+1≤vals.length)(H:List HO):C7 Tryz.prog 67 (.kmap m (wE w)::H) [.agg (B9 T V),.sl 9 (l.map Fy),.agg [.ptr (oF T V l),.sl 1 (vals.map cI),.val (.map (some m))]] (fun r H'=>r = .sl 5 ((tJ T V w l vals).map aZ)∧H' = .kmap m (wE w)::H):=by
 have hgl:=(J7 hlk).len
 refine C7.body (n:=102) Aj Tryz.func67 rfl rfl rfl ?_
 refine Ah (Qp (It [_,_]) (Qp (It [_,_,_]) ?_))
 refine Qp (Br (z:=5) rfl) ?_
 refine Dv ?_
 refine Qe (A0 (l:=[.val (.slice none 0 0)]) (by kernel_rfl)) ?_
 rintro _ _ ⟨b7,rfl,rfl⟩
 refine AOL.ghost (GS.buf 66 5) ?_
 refine Ag (AW.seq (Ah (Qp (Qf [_]) (Qp D1 ?_))))
 refine Qp (Al (n:=V.length) Aj rfl rfl rfl (by simp)) ?_
 refine Qp Az (Ag (AW.block ?_))
 refine AW.Aa3 (fun (p:Nat×Value×Es)=>(⟨[(1,.sl 9 (l.map Fy)),(3,.ptr (B9 T V)),(5,.ptr [.ptr (oF T V l),.sl 1 (vals.map cI),.val (.map (some m))]),(7,.val (.pointer (some ⟨b7,0,none⟩))),(16,.sl 2 (V.map Tp)),(17,.int .i64 V.length),(18,.int .i64 (p.1:Int))],.buf p.2.1 (p.2.2.map Ck) 66 5 :: .box b7 39 [.val p.2.1]::(p.2.2.map Fc++(.kmap m (wE w)::H)),102⟩:St)) (fun (p:Nat×Value×Es)=>p.1≤V.length∧p.2.2.map Prod.fst=Gs T 0 (V.take p.1)) (fun (p:Nat×Value×Es)=>V.length-p.1) ((0,.slice none 0 0,[])) ?_ (GS.weaken ⟨rfl,rfl,rfl,rfl,rfl,rfl,rfl,trivial⟩ (.refl _)) ?_
 · exact ⟨Nat.zero_le _,rfl⟩
 ·
  rintro ⟨k1,v1,l1⟩ hR
  have hk1:k1≤V.length:=hR.1
  have hl1:l1.length=k1:=by have:=congrArg List.length hR.2;rw [Q3,List.length_take] at this;simp at this;omega
  refine Ah (Qp Co (Ag (AW.seq (A4 (fun hc1=>?_) fun hc1=>?_))))
  ·
   obtain ⟨va,hva⟩:=B5 hc1
   have hlt:=Bh hva
   have hvm:=List.mem_of_getElem? hva
   have hvt:=hty va hvm
   refine (pJ hty hvm).elim fun sc hsc=>?_
   have hfl:=(hst sc (List.mem_of_getElem? hsc)).2.1
   refine Bx (AW.seq (AW.block (Ah (Qp Az ?_))))
   refine Qp (Af (c:=[.str _,Iq _]) Aj rfl rfl rfl rfl rfl rfl (by omega) (B1 hva)) ?_
   refine Qp (C8 [.str _,Iq _]) ?_
   refine Qe (A0 (l:=[.str [],.int .i64 0]) (by kernel_rfl)) ?_
   rintro _ _ ⟨b9,rfl,rfl⟩
   refine Qp Aq ?_
   refine Eu 0 [.str _,Iq _] (_::_::_::_) ?_
   refine AOL.ghost (GS.Aa2 (t:=9) 0 rfl rfl) ?_
   refine Dv (Qp Az (Qp (Qf [Iq _]) (Qp B2 ?_)))
   refine Qp (Nr (l0:=[.int .i64 0,.int .i64 0,.int .i64 0,.int .i64 0,.val (.slice none 0 0)]) (l:=[Iq _,Iq _,Iq _,Iq _,_]) Aj rfl rfl (by kernel_rfl) rfl) ?_
   refine Qe (A0 (l:=[.int .i64 0,.int .i64 0,.int .i64 0,.int .i64 0,.val (.slice none 0 0)]) (by kernel_rfl)) ?_
   rintro _ _ ⟨b10,rfl,rfl⟩
   refine Eu 0 [Iq _,Iq _,Iq _,Iq _,_] (_::_::_::_) ?_
   refine AOL.ghost (GS.buf 28 3) ?_
   refine Ag (AW.seq (Ah (Qp (Qf [_,_]) (Qp D1 (Qp (Qf [Iq _]) (Qp B2 ?_))))))
   refine Qp (Af (c:=[.str _,_]) Aj rfl rfl rfl rfl rfl rfl (hvt.1) (B1 hsc)) ?_
   refine Qp (Qf [_]) (Qp D1 ?_)
   refine Qp (Al (n:=sc.fields.length) Aj rfl rfl rfl (by simp)) ?_
   refine Qp Az (Ag (AW.block ?_))
   refine AW.Aa3 (fun (q:Nat×Value×List (List AV))=>(⟨[(1,.sl 9 (l.map Fy)),(3,.ptr (B9 T V)),(5,.ptr [.ptr (oF T V l),.sl 1 (vals.map cI),.val (.map (some m))]),(7,.val (.pointer (some ⟨b7,0,none⟩))),(8,.int .i64 (k1:Int)),(10,.val (.pointer (some ⟨b10,0,none⟩))),(16,.sl 2 (V.map Tp)),(17,.int .i64 V.length),(18,.int .i64 (k1:Int)),(33,.sl 2 (sc.fields.map cFi)),(34,.int .i64 sc.fields.length),(35,.int .i64 (q.1:Int))],.buf q.2.1 q.2.2 28 3 :: .box b10 66 [.int .i64 0,.int .i64 (k1:Int),.int .i64 va.type,.int .i64 0,.val q.2.1] :: .buf v1 (l1.map Ck) 66 5 :: .box b7 39 [.val v1]::(l1.map Fc++(.kmap m (wE w)::H)),102⟩:St)) (fun (q:Nat×Value×List (List AV))=>q.1≤sc.fields.length∧q.2.2=((sc.fields.take q.1).map zV).map cV) (fun (q:Nat×Value×List (List AV))=>sc.fields.length-q.1) ((0,.slice none 0 0,[])) ?_ (GS.weaken ⟨rfl,rfl,rfl,rfl,rfl,rfl,rfl,rfl,rfl,rfl,rfl,rfl,trivial⟩ (.refl _)) ?_
   · exact ⟨Nat.zero_le _,rfl⟩
   ·
    rintro q hQ
    have hql:q.2.2.length≤q.1:=by rw [hQ.2];simp;omega
    refine Ah (Qp Co (Ag (AW.seq (A4 (fun hc2=>?_) fun hc2=>?_))))
    ·
     obtain ⟨f,hf⟩:=B5 hc2
     have hltf:=Bh hf
     refine Bx (AW.seq (AW.block (Ah ?_)))
     refine Qp (Af (c:=[.str _,Iq _]) Aj rfl rfl rfl rfl rfl rfl (by omega) (B1 hf)) ?_
     refine Qp (C8 [.str _,Iq _]) ?_
     refine Qe (A0 (l:=[.str [],.int .i64 0]) (by kernel_rfl)) ?_
     rintro _ _ ⟨b12,rfl,rfl⟩
     refine Eu 0 [.str _,Iq _] (_::_::_::_::_::_) ?_
     refine AOL.ghost (GS.Aa2 (t:=12) 0 rfl rfl) ?_
     refine Ag (AW.region (Qp Ia ?_))
     refine AOL.Aa7 (Am (k:=1) (c:=.val _) Aj rfl rfl rfl rfl) rfl rfl ?_
     refine Qp (Qf [Iq _]) (Qp B2 (Qp (Ij [Iq _,Iq _,.str _]) ?_))
     refine Qp (A3 (es:=[[Iq _,Iq _,.str _]]) Aj rfl rfl rfl rfl rfl rfl rfl rfl rfl) ?_
     refine Qe (Km.bufs (Sm (k:=0) Aj rfl rfl rfl rfl rfl rfl rfl rfl (rfl) (by simp;omega) (by simp [maxLen];omega))) ?_
     rintro _ _ ⟨⟨v45,rfl,rfl⟩,hbs45⟩
     have hu2:=hbs45 v45 _ _ _ (List.mem_of_getElem? (i:=0) rfl)
     refine Qp Ia ?_
     refine Qe (Dc (k:=1) (v:=.val _) (cs':=[Iq _,Iq _,Iq _,Iq _,_]) (H2:=_::_::_::_::_) Aj rfl rfl rfl rfl ((by simp [Ct,Bg,Pj,hu2])) rfl rfl rfl rfl) ?_
     rintro _ _ ⟨rfl,rfl⟩
     refine AOL.nil (Bn (Ad (AW.region (Qp Fb (Qp Az (Ag ?_))))))
     refine ⟨(q.1+1,v45,q.2.2 ++ [cV (zV f)]),?_,?_,GS.weaken ⟨rfl,rfl,rfl,rfl,rfl,rfl,rfl,rfl,rfl,rfl,rfl,rfl,trivial⟩ (.refl _)⟩
     · exact ⟨hltf,by simp only;rw [Cx hf,List.map_append,List.map_append,hQ.2];rfl⟩
     · simp only;omega
    ·
     have htf:=Cg hc2
     have hE:=hQ.2
     rw [htf] at hE
     have hrows:q.2.2=(Wo T k1 va).values.map cV:=hE.trans (congrArg (List.map cV) (dM hsc).symm)
     refine AW.exit ?_
     refine A2 (A2 (Bo (Ad ?_)))
     refine AW.bufOne 0 rfl fun hu=>?_
     refine AW.region ?_
     refine AOL.Aa7 (Am (k:=3) (c:=.val _) Aj rfl rfl rfl rfl) rfl rfl ?_
     refine AOL.Aa7 (Cb (k:=1) (l:=[Iq _,Iq _,Iq _,Iq _,_]) Aj rfl rfl rfl rfl rfl) rfl rfl ?_
     refine Qp (A3 (es:=[[Iq _,Iq _,Iq _,Iq _,_]]) Aj rfl rfl rfl rfl rfl rfl (lit1 rfl rfl (by simp [Bg,Pj,hu])) rfl rfl) ?_
     refine Qe (Km.bufs (Sm (k:=2) Aj rfl rfl rfl rfl rfl rfl rfl rfl ((by simp [Bg,Pj,hu])) (by simp;omega) (by simp [maxLen];omega))) ?_
     rintro _ _ ⟨⟨v51,rfl,rfl⟩,hbs51⟩
     have hu3:=hbs51 v51 _ _ _ (List.mem_of_getElem? (i:=2) rfl)
     refine Qe (Dc (k:=3) (v:=.val _) (cs':=[_]) (H2:=_::_::_::_::_) Aj rfl rfl rfl rfl ((by simp [Ct,Bg,Pj,hu3])) rfl rfl rfl rfl) ?_
     rintro _ _ ⟨rfl,rfl⟩
     refine AOL.nil (Bn (Ad (AW.region (Qp Fb (Qp Az (Ag ?_))))))
     refine ⟨(k1+1,v51,l1 ++ [(Wo T k1 va,q.2.1)]),?_,?_,GS.trans (GS.perm (wA (e:=Wo T k1 va) hrows)) (GS.weaken ⟨rfl,rfl,rfl,rfl,rfl,rfl,rfl,trivial⟩ (.cons _ (.refl _)))⟩
     · exact ⟨hlt,by simp only;rw [Cx hva,bE,List.map_append,hR.2,List.length_take,Nat.min_eq_left hk1,Nat.zero_add];rfl⟩
     · simp only;omega
  ·
   have hte:=Cg hc1
   have hbe:=hR.2
   rw [hte] at hbe
   have hvlen:l1.length=V.length:=by have:=congrArg List.length hbe;rw [Q3] at this;simpa using this
   refine AW.exit ?_
   refine A2 (A2 (Bo (Ad (AW.seq (Ah (Qp (Qf [_,_,_]) (Qp Qlp ?_)))))))
   refine Qp (Fs rfl) ?_
   refine Qp (Qf [_,_]) (Qp D1 ?_)
   refine Qp (Al (n:=(Bz T V l).ts.length) Aj rfl rfl rfl (by simp)) ?_
   refine Qp Az (Ag (AW.block ?_))
   refine AW.Aa3 (fun (o:Nat×Es)=>(⟨[(1,.sl 9 (l.map Fy)),(3,.ptr (B9 T V)),(5,.ptr [.ptr (oF T V l),.sl 1 (vals.map cI),.val (.map (some m))]),(7,.val (.pointer (some ⟨b7,0,none⟩))),(57,.sl 3 ((Bz T V l).ts.map G2)),(58,.int .i64 (Bz T V l).ts.length),(59,.int .i64 (o.1:Int))],.buf v1 (o.2.map Ck) 66 5 :: .box b7 39 [.val v1]::(o.2.map Fc++(.kmap m (wE w)::H)),102⟩:St)) (fun (o:Nat×Es)=>o.1≤(Bz T V l).ts.length∧Hk vals 0 (Bz T V l).ts (Gs T 0 V)=Hk vals o.1 ((Bz T V l).ts.drop o.1) (o.2.map Prod.fst)∧evOK T V (o.2.map Prod.fst)) (fun (o:Nat×Es)=>(Bz T V l).ts.length-o.1) ((0,l1)) ?_ (GS.weaken ⟨rfl,rfl,rfl,rfl,rfl,rfl,rfl,trivial⟩ (.refl _)) ?_
   · exact ⟨Nat.zero_le _,by simp only;rw [hbe];rfl,by simp only;rw [hbe];exact rN⟩
   ·
    rintro ⟨k2,l2⟩ hO
    refine Ah (Qp Co (Ag (AW.seq (A4 (fun hc3=>?_) fun hc3=>?_))))
    ·
     obtain ⟨t,ht⟩:=B5 hc3
     have hltt:=Bh ht
     have htm:=tN hlk t (List.mem_of_getElem? ht)
     refine Bx (AW.seq (AW.block (Ah (Qp Az ?_))))
     refine Qp (Af (c:=[Iq _,Iq _,Iq _]) Aj rfl rfl rfl rfl rfl rfl (by omega) (B1 ht)) ?_
     refine Qp (C8 [Iq _,Iq _,Iq _]) ?_
     refine Qe (A0 (l:=[.int .i64 0,.int .i64 0,.int .i64 0]) (by kernel_rfl)) ?_
     rintro _ _ ⟨b14,rfl,rfl⟩
     refine Qp Aq ?_
     refine Eu 0 [Iq _,Iq _,Iq _] (_::_::_::_) ?_
     refine AOL.ghost (GS.Aa2 (t:=14) 0 rfl rfl) ?_
     refine Dv (Qp (Qf [Iq _,Iq _,Iq _]) (Qp B2 (Qp Ba (Ag (A4 (fun hc4=>?_) fun hc4=>?_)))))
     ·
      refine (fP hO.2.2 htm).elim fun e he=>he.elim fun u hu=>?_
      have hj:=hu.1
      have hel:=hu.2.1
      have hll9:l2.length=V.length:=hu.2.2
      have hv0:=htm.v0
      have hv1:=htm.v1
      refine AW.unbuf (v:=v1) (es:=l2.map Ck) (E:=66) (z:=5) 0 rfl (Vg hj) fun bb cap J hub hcap hcm hJ hzo=>?_
      subst hub
      have hrow:(l2.map Ck)[t.v.toNat]? = some (Ck (e,u)):=by rw [List.getElem?_map,hj];rfl
      refine AW.draw mixed (fun H'=>_∈H') (List.mem_of_getElem? (i:=1) rfl) (by kernel_rfl) ?_
      refine Qn 0 rfl (OpP.Aa4 (fun k=>Am (k:=k) (c:=.val _) Aj rfl rfl rfl rfl) (fun _ h=>h)) ?_
      refine Qn 1 rfl (Qf [Iq _,Iq _]) (Qn 2 rfl B2 (Qn 3 rfl (Qf [_,_]) (Qn 4 rfl D1 (Qn 5 rfl Az (Qn 6 rfl Fb ?_)))))
      refine Qn 7 rfl (Af (c:=[Iq _]) Aj rfl rfl rfl rfl rfl rfl (by omega) (lA (by omega))) ?_
      refine Qn 8 rfl B2 ?_
      refine Qn 9 rfl (B4 (o':=t.v.toNat*5) Aj rfl rfl rfl rfl rfl (hv0) (by rw [List.length_map];omega) (Nat.zero_add _)) ?_
      refine Qn 10 rfl Ia ?_
      refine Iu.last _ _ 11 _ _ rfl (by kernel_rfl) rfl rfl (Dc (k:=0) (v:=Iq _) (cs':=_) (H2:=_::_::_) Aj rfl rfl rfl rfl rfl rfl (Rb (o:=3) (Ix _) hrow (by decide)) (Q1 (o:=3) (e:=Ck (e,u)) (Ix _) hrow (by decide)) rfl) (by kernel_rfl) ?_
      rintro _ _ ⟨rfl,rfl⟩
      refine Bn (Ad (AW.region (Qp Fb (Qp Az (Ag ?_)))))
      refine ⟨(k2+1,l2.modify t.v.toNat fun p=>({ p.1 with time:=C5 vals ((k2:Int)+1) },p.2)),?_,?_,GS.trans (zQ hj hcap hcm hJ) (GS.weaken ⟨rfl,rfl,rfl,rfl,rfl,rfl,rfl,trivial⟩ (.refl _))⟩
      · exact ⟨hltt,hO.2.1.trans ((Un ht).trans (congrArg (Hk vals (k2+1) _) (Yh hc4).symm)),by simp only;rw [Yh hc4];exact aG hO.2.2 t _⟩
      · simp only;omega
     ·
      refine (fP hO.2.2 htm).elim fun e he=>he.elim fun u hu=>?_
      have hj:=hu.1
      have hel:=hu.2.1
      have hll9:l2.length=V.length:=hu.2.2
      have hv0:=htm.v0
      have hv1:=htm.v1
      have ho1:t.op=1:=htm.op.resolve_right (by simpa using hc4)
      have hfr:=htm.f ho1
      refine (jY htm ho1 hel).elim fun y hy=>?_
      have hyl:=Bh hy
      refine AW.ghost (GS.perm (iG hj)) ?_
      refine AW.unbuf (v:=u) (es:=e.values.map cV) (E:=28) (z:=3) 0 rfl (Vg hy) fun bi capi Ji hui hcapi hcmi hJi hzi=>?_
      subst hui
      refine AW.unbuf (v:=v1) (es:=l2.map Ck) (E:=66) (z:=5) 1 rfl (Vg hj) fun bb cap J hub hcap hcm hJ hzo=>?_
      subst hub
      have hrow:(l2.map Ck)[t.v.toNat]? = some (Ck (e,.slice (some ⟨bi,0,none⟩) (e.values.map cV).length capi)):=by rw [List.getElem?_map,hj];rfl
      refine AW.draw mixed (fun H'=>_∈H'∧_∈H') ⟨(List.mem_of_getElem? (i:=2) rfl),(List.mem_of_getElem? (i:=1) rfl)⟩ (by kernel_rfl) ?_
      refine Qn 0 rfl (OpP.Aa4 (fun k=>Am (k:=k) (c:=.val _) Aj rfl rfl rfl rfl) (fun _ h=>h.1)) ?_
      refine Qn 1 rfl (Qf [Iq _,Iq _]) (Qn 2 rfl B2 ?_)
      refine Qn 3 rfl (B4 (o':=t.v.toNat*5) Aj rfl rfl rfl rfl rfl (hv0) (by rw [List.length_map];omega) (Nat.zero_add _)) ?_
      refine Qn 4 rfl Ia ?_
      refine Qn 5 rfl (OpP.Aa4 (fun k=>Am (k:=k) (c:=.val (.slice (some ⟨bi,0,none⟩) (e.values.map cV).length capi)) Aj rfl rfl rfl (Ul (o:=4) (Ix l2) hrow rfl)) (fun _ h=>h.2)) ?_
      refine Qn 6 rfl (Qf [Iq _]) (Qn 7 rfl B2 (Qn 8 rfl (Qf [_,_]) (Qn 9 rfl D1 (Qn 10 rfl Az (Qn 11 rfl Fb ?_)))))
      refine Qn 12 rfl (Af (c:=[Iq _]) Aj rfl rfl rfl rfl rfl rfl (by omega) (lA (by omega))) ?_
      refine Qn 13 rfl B2 ?_
      refine Qn 14 rfl (B4 (o':=t.field.toNat*3) Aj rfl rfl rfl rfl rfl (hfr.1) (by rw [List.length_map];omega) (Nat.zero_add _)) ?_
      refine Qn 15 rfl Ia ?_
      refine Iu.last _ _ 16 _ _ rfl (by kernel_rfl) rfl rfl (Dc (k:=0) (v:=Iq _) (cs':=_) (H2:=_::_::_::_) Aj rfl rfl rfl rfl rfl rfl (Rb (o:=1) (Nu _) (by rw [List.getElem?_map,hy];rfl) (by decide)) (Q1 (o:=1) (e:=cV y) (x:=.int .i64 (C5 vals ((k2:Int)+1))) (Nu _) (by rw [List.getElem?_map,hy];rfl) (by decide)) rfl) (by kernel_rfl) ?_
      rintro _ _ ⟨rfl,rfl⟩
      refine Bn (Ad (AW.region (Qp Fb (Qp Az (Ag ?_)))))
      refine ⟨(k2+1,l2.modify t.v.toNat fun p=>(S8 p.1 t.field.toNat (fun y=>{ y with num:=C5 vals ((k2:Int)+1) }),p.2)),?_,?_,GS.trans (pI hj hy (f:=fun y=>{ y with num:=C5 vals ((k2:Int)+1) }) rfl hcap hcm hJ hcapi hcmi hJi) (GS.weaken ⟨rfl,rfl,rfl,rfl,rfl,rfl,rfl,trivial⟩ (.refl _))⟩
      · exact ⟨hltt,hO.2.1.trans ((Un ht).trans (congrArg (Hk vals (k2+1) _) (dZ hc4).symm)),by simp only;rw [dZ hc4];exact aG hO.2.2 t _⟩
      · simp only;omega
    ·
     have hde:=Dq hc3
     have hnum:=hO.2.1
     rw [hde] at hnum
     refine AW.exit ?_
     refine A2 (A2 (Bo (Ad (Ah (Qp (C8 [_,_]) (Qp Dm (Qp (Qf [_]) (Qp Qlv ?_))))))))
     refine Qp (Gr (l:=[]) (l':=[.val _]) rfl rfl) ?_
     refine Qe (Ey (by kernel_rfl) rfl rfl (zD T V l hlk hll m w hw b7 v1 l2 hO.2.2 _)) ?_
     rintro _ _ ⟨l3,hl3,hev3,rfl,rfl⟩
     refine Dv ?_
     refine AOL.Aa7 (Am (k:=1) (c:=.val _) Aj rfl rfl rfl rfl) rfl rfl ?_
     refine Qp O5 ?_
     refine AOL.ghost (GS.freezeEvs (t:=6) rfl) ?_
     refine Ag (AW.ret ?_)
     refine ⟨.inr rfl,[.sl _ _],.cons (.tmp _ _ rfl) <| .nil,_,.cons _ (.refl _),?_⟩
     exact ⟨congrArg (fun q:List Ev=>AV.sl 5 (q.map aZ)) (hl3.trans (congrArg (Zp T V w l) hnum.symm)),rfl⟩

end Go.Proofs.YtjedflcpjlgokaaGreatDoor
