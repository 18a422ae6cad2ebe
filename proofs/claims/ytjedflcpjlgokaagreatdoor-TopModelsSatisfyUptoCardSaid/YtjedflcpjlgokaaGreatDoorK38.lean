/-
  Several texts in one: Y11, Y12. No condition.
-/
import Derived.Test.YtjedflcpjlgokaaGreatDoorAz
import Derived.Test.YtjedflcpjlgokaaGreatDoorK22
import Derived.Test.YtjedflcpjlgokaaGreatDoorK37
import Derived.KernelRfl
set_option linter.unusedVariables false
set_option linter.unusedSimpArgs false
namespace Go.Proofs.YtjedflcpjlgokaaGreatDoor
open Go Go.Aw
set_option maxHeartbeats 6400000
set_option maxRecDepth 20000

theorem d_name (T:List Sc)(V:List Va)(l:List Lit)(hlk:Sq T V l)(hll:l.length≤4096)(m:Nat)(w:Wm)(hw:X4 w)(bo:Nat)(v:Value)(l0:Es)(hev:evOK T V (l0.map Prod.fst))(R:List HO):Dk Tryz.prog 95 (Xv bo v l0 (.kmap m (wE w)::R)) [.agg (Cf T V),.sl 9 (l.map F0),.val (.map (some m)),.fn (.func 96) [] [.val (.pointer (some ⟨bo,0,none⟩))]] (fun r H'=>∃l',l'.map Prod.fst=bR T V w l (l0.map Prod.fst)∧evOK T V (l'.map Prod.fst)∧r = .tuple []∧H'=Xv bo v l' (.kmap m (wE w)::R)):=by
 refine Dk.perm (jG (pre:=[.kmap m (wE w)])).symm ?_
 refine Dk.body (n:=126) Ah Tryz.func95 rfl rfl rfl ?_
 refine AW.ghostPost ?_
 refine Ai (Qp (Gd [_,_]) (Dm ?_))
 refine Qe (Q0) ?_
 rintro _ _ ⟨b22,rfl,rfl⟩
 refine Qp N4 (Dm (Qp N4 ?_))
 refine AOL.ghost (GS.row (t:=9) 200 5 rfl) ?_
 refine Ag (AW.seq (Ai (Qp Dx ?_)))
 refine Qp (Al (n:=l.length) Ah rfl rfl rfl (by simp)) ?_
 refine Qp Az (Ag (AW.block ?_))
 refine AW.Aao (fun (p:Nat×Um×List Wd×Value×List (List AV))=>(⟨[(2,.val (.map (some m))),(3,.fn (.func 96) [] [.val (.pointer (some ⟨bo,0,none⟩))]),(4,.ptr (Cf T V)),(8,.val (.map (some b22))),(9,.row p.2.2.2.1 5 p.2.2.2.2),(23,.sl 9 (l.map F0)),(24,.int .i64 l.length),(25,.int .i64 (p.1:Int))],.row p.2.2.2.1 p.2.2.2.2.length 200 5 :: .smap b22 (sE p.2.1) :: .kmap m (wE w)::Xv bo v l0 R,126⟩:St)) (fun (p:Nat×Um×List Wd×Value×List (List AV))=>p.1≤l.length∧Vq T V (l.take p.1)=(p.2.1,p.2.2.1)∧(∀x∈p.2.2.1,wdOK T V x)∧p.2.1.length≤2*p.1∧p.2.2.1.length≤2*p.1∧p.2.2.2.2=p.2.2.1.map K8) (fun (p:Nat×Um×List Wd×Value×List (List AV))=>l.length-p.1) ((0,[],[],.slice none 0 0,[])) ?_ (GS.weaken ⟨rfl,rfl,rfl,rfl,rfl,rfl,rfl,rfl,trivial⟩ (.refl _)) ?_
 · exact ⟨Nat.zero_le _,rfl,fun x hx=>(by cases hx),Nat.le_refl _,Nat.le_refl _,rfl⟩
 ·
  rintro p hR
  have hE:=hR.2.2.2.2.2
  refine Ai (Qp Ch (Ag (AW.seq (A6 (fun hc1=>?_) fun hc1=>?_))))
  ·
   obtain ⟨c,hc⟩:=B5 hc1
   have hlt:=A4 hc
   have hcm:=List.mem_of_getElem? hc
   have hck:=(hlk c hcm).1
   have hcs:=Nat.le_trans (hlk c hcm).2 (by decide:64≤1048576)
   refine By (AW.seq (AW.block (Ai ?_)))
   refine Qp (Af (c:=[Iq _,_,Iq _,Iq _,Iq _,Iq _,Iq _,.str _,.bool _]) Ah rfl rfl rfl rfl rfl rfl (by omega) (Bi hc)) ?_
   refine Qp (Cq [Iq _,_,Iq _,Iq _,Iq _,Iq _,Iq _,.str _,.bool _]) ?_
   refine Qe (Ak (l:=[.int .i64 0,.sl 8 [],.int .i64 0,.int .i64 0,.int .i64 0,.int .i64 0,.int .i64 0,.str [],.bool false]) (by kernel_rfl)) ?_
   rintro _ _ ⟨b11,rfl,rfl⟩
   refine Cv 0 [Iq _,_,Iq _,Iq _,Iq _,Iq _,Iq _,.str _,.bool _] (_::_::_::_::_::_::_) ?_
   refine AOL.ghost (GS.Aan (t:=11) 0 rfl rfl) ?_
   refine Ag (AW.seq (Ai (Qp (Cq [_,_]) (Qp (Qf [Iq _,_,Iq _,Iq _,Iq _,Iq _,Iq _,.str _,.bool _]) (Qp El ?_)))))
   refine Qp (Qc rfl (R4 T V c.cond hck)) ?_
   refine Qp Hc (Qp B0 (Qg [] Qw (Cq [_,_]) (Qg [] Qw (Qf [Iq _,_,Iq _,Iq _,Iq _,Iq _,Iq _,.str _,.bool _]) (Qg [(36,_)] Qw El ?_))))
   refine AOL.Aar (y:=.bool _) _ [(35,_),(37,_)] rfl (nC.all ⟨Ent.Aam _ _,Ent.Aam _ _,trivial⟩) (fun hG=>E3 (by kernel_rfl) rfl rfl (R5 T V c.cond hck hcs)) rfl ?_
   refine Qg [(38,_)] Qw Hc (Qp E1 (Ag (A6 (fun hc2=>?_) fun hc2=>?_)))
   ·
    refine AW.exit ?_
    refine A5 (Bq (Ad (AW.region (Qp Ey (Qp Az (Ag ?_))))))
    refine ⟨(p.1+1,p.2),?_,?_,GS.weaken ⟨rfl,rfl,rfl,rfl,rfl,rfl,rfl,rfl,trivial⟩ (.refl _)⟩
    · exact ⟨hlt,by unfold Vq;rw [C4 hc,List.foldl_append];exact (congrArg (fun z=>qQ T V z c) hR.2.1).trans (xI hc2),hR.2.2.1,by have:=hR.2.2.2.1;simp only;omega,by have:=hR.2.2.2.2.1;simp only;omega,hE⟩
    · simp only;omega
   ·
    have h2a:=tZ hck hc2
    have hal:=h2a.1
    refine By (Ai (Qp (Qf [Iq _,_,Iq _,Iq _,Iq _,Iq _,Iq _,.str _,.bool _]) (Qp (Qf [_,Iq _,Iq _,Iq _,Iq _,Iq _,.str _,.bool _]) (Qp Dy ?_))))
    refine Qp (Al (n:=c.cond.args.length) Ah rfl rfl rfl (by simp)) ?_
    refine Qp Az (Ag (AW.block ?_))
    refine AW.Aao (fun (q:Nat×Um×List Wd×Value×List (List AV))=>(⟨[(2,.val (.map (some m))),(3,.fn (.func 96) [] [.val (.pointer (some ⟨bo,0,none⟩))]),(4,.ptr (Cf T V)),(8,.val (.map (some b22))),(9,.row q.2.2.2.1 5 q.2.2.2.2),(23,.sl 9 (l.map F0)),(24,.int .i64 l.length),(25,.int .i64 (p.1:Int)),(43,.sl 8 (c.cond.args.map G8)),(44,.int .i64 c.cond.args.length),(45,.int .i64 (q.1:Int))],.row q.2.2.2.1 q.2.2.2.2.length 200 5 :: .smap b22 (sE q.2.1) :: .kmap m (wE w)::Xv bo v l0 R,126⟩:St)) (fun (q:Nat×Um×List Wd×Value×List (List AV))=>q.1≤c.cond.args.length∧c.cond.args.foldl wV (p.2.1,p.2.2.1)=(c.cond.args.drop q.1).foldl wV (q.2.1,q.2.2.1)∧(∀x∈q.2.2.1,wdOK T V x)∧q.2.1.length≤p.2.1.length+q.1∧q.2.2.1.length≤p.2.2.1.length+q.1∧q.2.2.2.2=q.2.2.1.map K8) (fun (q:Nat×Um×List Wd×Value×List (List AV))=>c.cond.args.length-q.1) ((0,p.2)) ?_ (GS.weaken ⟨rfl,rfl,rfl,rfl,rfl,rfl,rfl,rfl,rfl,rfl,rfl,trivial⟩ (.refl _)) ?_
    · exact ⟨Nat.zero_le _,rfl,hR.2.2.1,Nat.le_refl _,Nat.le_refl _,hE⟩
    ·
     rintro q hQ
     have hb1:=hR.2.2.2.1
     have hb2:=hR.2.2.2.2.1
     have hb3:=hQ.2.2.2.1
     have hb4:=hQ.2.2.2.2.1
     have hF:=hQ.2.2.2.2.2
     have hsc:∀c∈q.2.2.2.2,Be c=true:=by rw [hF];exact cWd_sc _
     have hql:q.2.2.2.2.length=q.2.2.1.length:=by rw [hF];simp
     refine Ai (Qp Ch (Ag (AW.seq (A6 (fun hc3=>?_) fun hc3=>?_))))
     ·
      obtain ⟨a,ha⟩:=B5 hc3
      have hlta:=A4 ha
      have ham:=List.mem_of_getElem? ha
      refine By (AW.seq (AW.block (Ai ?_)))
      refine Qp (Af (c:=[Iq _,_,Iq _,Iq _,Iq _,Iq _,Iq _,.str _]) Ah rfl rfl rfl rfl rfl rfl (by omega) (Fo ha)) ?_
      refine Qp El ?_
      refine Qe (Ak (l:=[.int .i64 0,.sl 8 [],.int .i64 0,.int .i64 0,.int .i64 0,.int .i64 0,.int .i64 0,.str []]) (by kernel_rfl)) ?_
      rintro _ _ ⟨b13,rfl,rfl⟩
      refine Cv 0 [Iq _,_,Iq _,Iq _,Iq _,Iq _,Iq _,.str _] (_::_::_::_::_::_::_) ?_
      refine AOL.ghost (GS.Aan (t:=13) 0 rfl rfl) ?_
      refine Dm (Qp El ?_)
      refine Qp (Qc rfl (Pa a)) ?_
      refine Qe (Ak (l:=[.bool false,.str [],.int .i64 0,.int .i64 0,.int .i64 0]) (by kernel_rfl)) ?_
      rintro _ _ ⟨b14,rfl,rfl⟩
      refine Cv 0 [.bool _,.str _,Iq _,Iq _,Iq _] (_::_::_::_::_::_::_) ?_
      refine AOL.ghost (GS.Aan (t:=14) 0 rfl rfl) ?_
      refine Dm (Qp Gr (Qp (Qf [.str _,Iq _,Iq _,Iq _]) (Qp Us (Qp Gr (Qp (Qf [.str _,Iq _,Iq _,Iq _]) (Qp Us ?_))))))
      refine AOL.Aas (lW (i:=1) Ah rfl rfl rfl rfl rfl rfl (by kernel_rfl) rfl rfl) rfl rfl ?_
      refine Qp B0 (Qg [] Qw (Qf [.bool _,.str _,Iq _,Iq _,Iq _]) (Qg [(59,_)] Qw gV (Qp E1 ?_)))
      refine Qe (qY (i:=1) (H2:=_::_::_::_::_::_) Ah rfl rfl rfl rfl rfl rfl rfl rfl rfl) ?_
      rintro _ _ ⟨rfl,rfl⟩
      refine Ag (AW.region ?_)
      refine Qp (Bm (v:=.row _ _ _) rfl) ?_
      refine Qp (Cq [.bool _,.str _,Iq _,Iq _,Iq _]) ?_
      refine Qp (A1 (es:=[[.bool _,.str _,Iq _,Iq _,Iq _]]) Ah rfl rfl rfl rfl rfl rfl rfl rfl rfl) ?_
      refine Qe (C3 (k:=0) Ah rfl rfl rfl rfl rfl rfl rfl rfl (Ff rfl) (hsc) (by simp;omega) (by simp [maxLen];omega)) ?_
      rintro _ _ ⟨v65,rfl,rfl⟩
      refine Qp (Dg (v:=.row _ _ _) rfl) ?_
      refine AOL.nil (Bu (Ad (AW.region (Qp Ey (Qp Az (Ag ?_))))))
      refine ⟨(q.1+1,X0 q.2.1 (Ga a).text (Kv q.2.1 (Ga a).text||(Ga a).const),q.2.2.1 ++ [Ga a],v65,q.2.2.2.2 ++ [K8 (Ga a)]),?_,?_,GS.weaken ⟨rfl,rfl,rfl,rfl,rfl,rfl,rfl,rfl,rfl,rfl,rfl,trivial⟩ (.refl _)⟩
      · exact ⟨hlta,hQ.2.1.trans (aD ha),fun x hx=>(List.mem_append.1 hx).elim (hQ.2.2.1 x) (fun h=>by rw [List.mem_singleton.1 h];exact xQ (A2 hck ham) (h2a.2 a ham)),by have:=fH q.2.1 (Ga a).text (Kv q.2.1 (Ga a).text||(Ga a).const);simp only;omega,by simp only [List.length_append,List.length_singleton];omega,by simp only;rw [hF,List.map_append];rfl⟩
      · simp only;omega
     ·
      have hde:=Dc hc3
      have hfo:=hQ.2.1
      rw [hde] at hfo
      refine AW.exit ?_
      refine A5 (A5 (Bq (Bu (Ad (AW.region (Qp Ey (Qp Az (Ag ?_))))))))
      refine ⟨(p.1+1,q.2),?_,?_,GS.weaken ⟨rfl,rfl,rfl,rfl,rfl,rfl,rfl,rfl,trivial⟩ (.refl _)⟩
      · exact ⟨hlt,by unfold Vq;rw [C4 hc,List.foldl_append];exact (congrArg (fun z=>qQ T V z c) hR.2.1).trans ((tR hc2).trans hfo),hQ.2.2.1,by have:=hR.2.2.2.1;have:=hQ.2.2.2.1;have:=hQ.1;simp only;omega,by have:=hR.2.2.2.2.1;have:=hQ.2.2.2.2.1;have:=hQ.1;simp only;omega,hQ.2.2.2.2.2⟩
      · simp only;omega
  ·
   have hte:=Cu hc1
   have hcol:=hR.2.1
   rw [hte] at hcol
   have hwds:=hR.2.2.1
   have hUl:=hR.2.2.2.1
   have hAl:=hR.2.2.2.2.1
   refine AW.exit ?_
   refine A5 (A5 (Bq (Ad (Ai ?_))))
   refine Qe (Ni) ?_
   rintro _ _ ⟨b68,rfl,rfl⟩
   refine Qp N4 (Dm ?_)
   refine Qp (Bm (v:=.row _ _ _) rfl) ?_
   refine Qp (K6 (n:=p.2.2.1.length) Ah rfl rfl rfl (by rw [hE];simp)) ?_
   refine Qp Az (Ag (AW.block ?_))
   refine AW.Aao (fun (o:Nat×Um×Nm×Es)=>(⟨[(2,.val (.map (some m))),(3,.fn (.func 96) [] [.val (.pointer (some ⟨bo,0,none⟩))]),(8,.val (.map (some b22))),(15,.val (.map (some b68))),(69,.row p.2.2.2.1 5 p.2.2.2.2),(70,.int .i64 p.2.2.1.length),(71,.int .i64 (o.1:Int))],.kmap b68 (nE o.2.2.1) :: .row p.2.2.2.1 p.2.2.2.2.length 200 5 :: .smap b22 (sE o.2.1) :: .kmap m (wE w)::Xv bo v o.2.2.2 R,126⟩:St)) (fun (o:Nat×Um×Nm×Es)=>o.1≤p.2.2.1.length∧p.2.2.1.foldl (Lc w) (p.2.1,[],l0.map Prod.fst)=(p.2.2.1.drop o.1).foldl (Lc w) (o.2.1,o.2.2.1,o.2.2.2.map Prod.fst)∧evOK T V (o.2.2.2.map Prod.fst)∧o.2.1.length≤p.2.1.length+o.1) (fun (o:Nat×Um×Nm×Es)=>p.2.2.1.length-o.1) ((0,p.2.1,[],l0)) ?_ (GS.weaken ⟨rfl,rfl,rfl,rfl,rfl,rfl,rfl,trivial⟩ (.refl _)) ?_
   · exact ⟨Nat.zero_le _,rfl,hev,Nat.le_refl _⟩
   ·
    rintro o hO
    refine Ai (Qp Ch (Ag (AW.seq (A6 (fun hc4=>?_) fun hc4=>?_))))
    ·
     obtain ⟨x,hx⟩:=B5 hc4
     have hltx:=A4 hx
     have hxm:=List.mem_of_getElem? hx
     have hwx:=hwds x hxm
     have hno:=hO.2.1
     rw [aD hx] at hno
     have hevo:=hO.2.2.1
     have hUo:=hO.2.2.2
     refine By (AW.seq (AW.block (Ai ?_)))
     refine Qp (Ip (c:=[.bool _,.str _,Iq _,Iq _,Iq _]) Ah rfl rfl rfl rfl rfl rfl (by omega) (by rw [hE];exact Bi hx)) ?_
     refine Qp (Cq [.bool _,.str _,Iq _,Iq _,Iq _]) ?_
     refine Qe (Ak (l:=[.bool false,.str [],.int .i64 0,.int .i64 0,.int .i64 0]) (by kernel_rfl)) ?_
     rintro _ _ ⟨b17,rfl,rfl⟩
     refine Cv 0 [.bool _,.str _,Iq _,Iq _,Iq _] (_::_::_::_::_::_::_::_) ?_
     refine AOL.ghost (GS.Aan (t:=17) 0 rfl rfl) ?_
     refine Dm (Qp Gr (Qp (Cq [.bool _,.str _,Iq _,Iq _,Iq _]) ?_))
     refine AOL.Aas (Rm (ho:=.kmap m (wE w)) (KK:=fun H=>H[3]? = some (.kmap m (wE w))) (by kernel_rfl) rfl rfl (Rz m w hw x) (fun _ h=>List.mem_of_getElem? h)) rfl rfl ?_
     refine Qe (Ak (l:=[.bool false,.str [],.int .i64 0,.int .i64 0,.int .i64 0]) (by kernel_rfl)) ?_
     rintro _ _ ⟨b18,rfl,rfl⟩
     refine Cv 0 [.bool _,.str _,Iq _,Iq _,Iq _] (_::_::_::_::_::_::_::_) ?_
     refine AOL.ghost (GS.Aan (t:=18) 0 rfl rfl) ?_
     refine Ag ?_
     refine AW.cut (fun (t:Um×Nm)=>(⟨[(2,.val (.map (some m))),(3,.fn (.func 96) [] [.val (.pointer (some ⟨bo,0,none⟩))]),(8,.val (.map (some b22))),(15,.val (.map (some b68))),(69,.row p.2.2.2.1 5 p.2.2.2.2),(70,.int .i64 p.2.2.1.length),(71,.int .i64 (o.1:Int)),(17,.ptr (K8 x)),(18,.ptr (K8 (D4 w x)))],.kmap b68 (nE t.2) :: .row p.2.2.2.1 p.2.2.2.2.length 200 5 :: .smap b22 (sE t.1) :: .kmap m (wE w)::Xv bo v o.2.2.2 R,126⟩:St)) (fun (t:Um×Nm)=>t=gT o.2.1 o.2.2.1 (D4 w x)) ?_ ?_
     ·
      refine Ai (Qp Gr (Qp (Cq [.bool _,.str _,Iq _,Iq _,Iq _]) ?_))
      refine AOL.Aas (Pt (i:=0) (eq:=Jm (D4 w x)) Ah rfl rfl rfl rfl rfl (by kernel_rfl) rfl rfl (rfl) (Zt (D4 w x) _) (look_n (D4 w x) _) (has_n (D4 w x) _)) rfl rfl ?_
      refine Qp N6 (Qp Qxt (Qp bB (Qp Qat (Qp Bl (Dm (Qp B0 (Qp Hc (Ag (A6 (fun hc5=>?_) fun hc5=>?_)))))))))
      ·
       have hnn:=eY hc5
       refine Ai (Qp Gr (Qp (Cq [.bool _,.str _,Iq _,Iq _,Iq _]) (Qp (Qf [.str _,Iq _,Iq _,Iq _]) (Qp Us ?_))))
       refine Qe (wQ (i:=0) (H2:=_::_::_::_::_::_::_) Ah rfl rfl rfl rfl rfl rfl rfl rfl hnn rfl) ?_
       rintro _ _ ⟨rfl,rfl⟩
       refine Ag (AW.seq (Ai (Qp Ap (Ag (AW.block ?_)))))
       refine AW.Aao (fun (z:Nat×Hn)=>(⟨[(2,.val (.map (some m))),(3,.fn (.func 96) [] [.val (.pointer (some ⟨bo,0,none⟩))]),(8,.val (.map (some b22))),(15,.val (.map (some b68))),(69,.row p.2.2.2.1 5 p.2.2.2.2),(70,.int .i64 p.2.2.1.length),(71,.int .i64 (o.1:Int)),(17,.ptr (K8 x)),(18,.ptr (K8 (D4 w x))),(21,.int .i64 (z.1:Int))],.kmap b68 (nE (o.2.2.1 ++ [((D4 w x),z.2)])) :: .row p.2.2.2.1 p.2.2.2.2.length 200 5 :: .smap b22 (sE o.2.1) :: .kmap m (wE w)::Xv bo v o.2.2.2 R,126⟩:St)) (fun (z:Nat×Hn)=>nmI o.2.1 (D4 w x) z.1 z.2) (fun (z:Nat×Hn)=>o.2.1.length+2-z.1) ((0,(D4 w x).text)) ?_ (GS.weaken ⟨rfl,rfl,rfl,rfl,rfl,rfl,rfl,rfl,rfl,rfl,trivial⟩ (.refl _)) ?_
       · exact .inl ⟨rfl,rfl⟩
       ·
        rintro z hz
        refine AW.seq (Ai (Qp (Qf [.bool _,.str _,Iq _,Iq _,Iq _]) (Qp gV (Qp Hc (Qp B0 (Qg [] Qw Az (Qg [(94,_)] Qw A9 (Qg [(95,_)] Qw B0 (Qg [] Qw Gr ?_)))))))))
        refine Qg [] Qw Gr (Qg [] Qw (Cq [.bool _,.str _,Iq _,Iq _,Iq _]) ?_)
        refine AOL.gk (y:=.str _) _ [(98,_),(99,_)] rfl (nC.all ⟨Ent.Aam _ _,Ent.Aam _ _,trivial⟩) (fun hG=>I7 (i:=0) (eq:=Jm (D4 w x)) Ah rfl rfl rfl rfl rfl (by kernel_rfl) rfl rfl (rfl) (Zt (D4 w x) _) (cM (S9 hnn))) rfl rfl ?_
        refine AOL.gk (y:=.bool _) _ [(97,_),(100,_)] rfl (nC.all ⟨Ent.Aam _ _,Ent.Aam _ _,trivial⟩) (fun hG=>lW (i:=2) Ah rfl rfl rfl rfl rfl rfl (by kernel_rfl) rfl rfl) rfl rfl ?_
        refine Qg [(96,_),(101,_)] Qw E1 (Qp F7 (Ag (A6 (fun hc6=>?_) fun hc6=>?_)))
        ·
         have h6:=Bool.and_eq_true_iff.mp hc6
         have hrc:(D4 w x).const=false:=(Bool.not_eq_true' _).mp h6.1
         have h6b:z.1=0∨Kv o.2.1 z.2=true:=by have:=h6.2;simp at this;omega
         have hzl:=nm_len hz
         refine By (AW.seq (AW.block ?_))
         refine AW.draw mixed (fun _=>True) trivial (by kernel_rfl) ?_
         refine Qn 0 rfl Gr (Qn 1 rfl (Cq [.bool _,.str _,Iq _,Iq _,Iq _]) (Qn 2 rfl Az ?_))
         refine Qn 3 rfl (Qc rfl (kItoa _ (by omega) (by omega))) ?_
         refine Qn 4 rfl (oM rfl rfl rfl (by have h8:=Go.Lib.itoa_length_le (z.1:Int) (by omega) (by omega);simp only [List.length_append,List.length_cons,List.length_nil,maxLen];omega)) ?_
         refine Jn.eff _ _ 5 _ _ rfl (by kernel_rfl) rfl rfl (xD (i:=0) (H2:=_::_::_::_::_::_::_) Ah rfl rfl rfl rfl rfl rfl rfl rfl hnn rfl) (fun _ _ _=>trivial) ?_
         rintro _ _ ⟨rfl,rfl⟩
         refine Jn.done _ _ (by kernel_rfl) ?_
         refine Bu (Ad (AW.region (Qp Az (Qp Ey (Qp Ap (Ag ?_))))))
         refine ⟨(z.1+1,wN z.1),?_,?_,GS.weaken ⟨rfl,rfl,rfl,rfl,rfl,rfl,rfl,rfl,rfl,rfl,trivial⟩ (.refl _)⟩
         · exact Aab hz hrc h6b
         · simp only;omega
        ·
         have hnm:=yN hz (by simpa using hc6)
         refine AW.exit ?_
         refine A5 (A5 (Bq (Ad (AW.region (Qp Gr (Qp Gr (Qp (Cq [.bool _,.str _,Iq _,Iq _,Iq _]) ?_)))))))
         refine AOL.Aas (I7 (i:=0) (eq:=Jm (D4 w x)) Ah rfl rfl rfl rfl rfl (by kernel_rfl) rfl rfl (rfl) (Zt (D4 w x) _) (cM (S9 hnn))) rfl rfl ?_
         refine Qe (qY (i:=2) (H2:=_::_::_::_::_::_::_) Ah rfl rfl rfl rfl rfl rfl rfl rfl rfl) ?_
         rintro _ _ ⟨rfl,rfl⟩
         refine Ag ?_
         refine ⟨(X0 o.2.1 z.2 true,o.2.2.1 ++ [((D4 w x),z.2)]),?_,GS.weaken ⟨rfl,rfl,rfl,rfl,rfl,rfl,rfl,rfl,rfl,trivial⟩ (.refl _)⟩
         exact (by rw [xP hnn,hnm])
      ·
       refine By ?_
       refine ⟨(o.2.1,o.2.2.1),?_,GS.weaken ⟨rfl,rfl,rfl,rfl,rfl,rfl,rfl,rfl,rfl,trivial⟩ (.refl _)⟩
       exact (yR hc5).symm
     ·
      rintro t hT
      have hgs:K3 t.2 (D4 w x)=some (nmT o.2.1 o.2.2.1 (D4 w x)):=by rw [hT];exact xB _ _ _
      refine Ai (Qp (Qf [.bool _,.str _,Iq _,Iq _,Iq _]) (Qp gV (Qp Hc (Ag (A6 (fun hc7=>?_) fun hc7=>?_)))))
      ·
       have hxc:x.const=false:=(Bool.not_eq_true' _).mp hc7
       refine AW.draw mixed (fun H'=>_∈H') (List.mem_of_getElem? (i:=0) rfl) (by kernel_rfl) ?_
       refine Qn 0 rfl (Bm (v:=.fn _ _ _) rfl) ?_
       refine Qn 1 rfl (Qf [Iq _,Iq _,Iq _]) (Qn 2 rfl (Cq [Iq _,Iq _,Iq _]) (Qn 3 rfl Gr (Qn 4 rfl (Cq [.bool _,.str _,Iq _,Iq _,Iq _]) ?_)))
       refine Qn 5 rfl (OpP.Aaq (fun k=>I7 (i:=k) (eq:=Jm (D4 w x)) Ah rfl rfl rfl rfl rfl (by kernel_rfl) rfl rfl (rfl) (Zt (D4 w x) _) (cM hgs)) (fun _ h=>h)) ?_
       refine Jn.last _ _ 6 _ _ rfl (by kernel_rfl) rfl rfl (Jd (by kernel_rfl) rfl rfl rfl (tN (pre:=[_,_,_,_]) (nG T V bo v o.2.2.2 hevo x.field (hwx hxc).1 (hwx hxc).2 (nmT o.2.1 o.2.2.1 (D4 w x)) _))) (by kernel_rfl) ?_
       rintro _ _ ⟨rfl,rfl⟩
       refine Bu (Ad (AW.region (Qp Ey (Qp Az (Ag ?_)))))
       refine ⟨(o.1+1,t.1,t.2,o.2.2.2.modify x.field.v.toNat fun p=>(Uo p.1 x.field.field.toNat (fun y=>{ y with text:=nmT o.2.1 o.2.2.1 (D4 w x) }),p.2)),?_,?_,GS.weaken ⟨rfl,rfl,rfl,rfl,rfl,rfl,rfl,trivial⟩ (.refl _)⟩
       · exact ⟨hltx,hno.trans (congrArg (List.foldl (Lc w) · _) (nm_f hT hxc)),by rw [fI];exact yA hevo _ _,by have:=lG o.2.1 o.2.2.1 (D4 w x);rw [←hT] at this;simp only;omega⟩
       · simp only;omega
      ·
       have hxc:x.const=true:=(Bool.not_eq_false' _).mp hc7
       refine AW.skip (Bu (Ad (AW.region (Qp Ey (Qp Az (Ag ?_))))))
       refine ⟨(o.1+1,t.1,t.2,o.2.2.2),?_,?_,GS.weaken ⟨rfl,rfl,rfl,rfl,rfl,rfl,rfl,trivial⟩ (.refl _)⟩
       · exact ⟨hltx,hno.trans (congrArg (List.foldl (Lc w) · _) (nm_c hT hxc)),hevo,by have:=lG o.2.1 o.2.2.1 (D4 w x);rw [←hT] at this;simp only;omega⟩
       · simp only;omega
    ·
     have hde:=Dc hc4
     have hfin:=hO.2.1
     rw [hde] at hfin
     refine AW.exit ?_
     refine A5 (A5 (Bq ?_))
     refine ⟨_,GS.trans (GS.weaken (sl':=[]) (H':=.kmap m (wE w)::Xv bo v _ R) trivial (.cons _ (.cons _ (.cons _ (.refl _))))) (GS.perm (jG (pre:=[.kmap m (wE w)]))),.inl rfl,[],.nil,_,.refl _,?_⟩
     exact ⟨o.2.2.2,(by unfold bR;rw [hcol,hfin];rfl),hO.2.2.1,rfl,rfl⟩

set_option maxHeartbeats 6400000
set_option maxRecDepth 20000

theorem uN (T:List Sc)(V:List Va)(hty:Ki T V)(hst:∀s∈T,Ig s)(hvl:V.length≤1048576)(l:List Lit)(hlk:Sq T V l)(hll:l.length≤4096)(m:Nat)(w:Wm)(hw:X4 w)(vals:List Int)(hvs:(B1 T V l).ts.length+1≤vals.length)(H:List HO):Dk Tryz.prog 67 (.kmap m (wE w)::H) [.agg (Cf T V),.sl 9 (l.map F0),.agg [.ptr (oA T V l),.sl 1 (vals.map cI),.val (.map (some m))]] (fun r H'=>r = .sl 5 ((uI T V w l vals).map Lo)∧H' = .kmap m (wE w)::H):=by
 have hgl:=(J8 hlk).len
 refine Dk.body (n:=102) Ah Tryz.func67 rfl rfl rfl ?_
 refine Ai (Qp (Gd [_,_]) (Qp (Gd [_,_,_]) ?_))
 refine Qp (Bz (z:=5) rfl) ?_
 refine Dm ?_
 refine Qe (Ak (l:=[.val (.slice none 0 0)]) (by kernel_rfl)) ?_
 rintro _ _ ⟨b7,rfl,rfl⟩
 refine AOL.ghost (GS.buf 66 5) ?_
 refine Ag (AW.seq (Ai (Qp (Qf [_]) (Qp Dy ?_))))
 refine Qp (Al (n:=V.length) Ah rfl rfl rfl (by simp)) ?_
 refine Qp Az (Ag (AW.block ?_))
 refine AW.Aao (fun (p:Nat×Value×Es)=>(⟨[(1,.sl 9 (l.map F0)),(3,.ptr (Cf T V)),(5,.ptr [.ptr (oA T V l),.sl 1 (vals.map cI),.val (.map (some m))]),(7,.val (.pointer (some ⟨b7,0,none⟩))),(16,.sl 2 (V.map S4)),(17,.int .i64 V.length),(18,.int .i64 (p.1:Int))],.buf p.2.1 (p.2.2.map Cy) 66 5 :: .box b7 39 [.val p.2.1]::(p.2.2.map F8++(.kmap m (wE w)::H)),102⟩:St)) (fun (p:Nat×Value×Es)=>p.1≤V.length∧p.2.2.map Prod.fst=Fh T 0 (V.take p.1)) (fun (p:Nat×Value×Es)=>V.length-p.1) ((0,.slice none 0 0,[])) ?_ (GS.weaken ⟨rfl,rfl,rfl,rfl,rfl,rfl,rfl,trivial⟩ (.refl _)) ?_
 · exact ⟨Nat.zero_le _,rfl⟩
 ·
  rintro ⟨k1,v1,l1⟩ hR
  have hk1:k1≤V.length:=hR.1
  have hl1:l1.length=k1:=by have:=congrArg List.length hR.2;rw [Nq,List.length_take] at this;simp at this;omega
  refine Ai (Qp Ch (Ag (AW.seq (A6 (fun hc1=>?_) fun hc1=>?_))))
  ·
   obtain ⟨va,hva⟩:=B5 hc1
   have hlt:=A4 hva
   have hvm:=List.mem_of_getElem? hva
   have hvt:=hty va hvm
   refine (fJ hty hvm).elim fun sc hsc=>?_
   have hfl:=(hst sc (List.mem_of_getElem? hsc)).2.1
   refine By (AW.seq (AW.block (Ai (Qp Az ?_))))
   refine Qp (Af (c:=[.str _,Iq _]) Ah rfl rfl rfl rfl rfl rfl (by omega) (Bi hva)) ?_
   refine Qp (Cq [.str _,Iq _]) ?_
   refine Qe (Ak (l:=[.str [],.int .i64 0]) (by kernel_rfl)) ?_
   rintro _ _ ⟨b9,rfl,rfl⟩
   refine Qp Ap ?_
   refine Cv 0 [.str _,Iq _] (_::_::_::_) ?_
   refine AOL.ghost (GS.Aan (t:=9) 0 rfl rfl) ?_
   refine Dm (Qp Az (Qp (Qf [Iq _]) (Qp Bp ?_)))
   refine Qp (Lk (l0:=[.int .i64 0,.int .i64 0,.int .i64 0,.int .i64 0,.val (.slice none 0 0)]) (l:=[Iq _,Iq _,Iq _,Iq _,_]) Ah rfl rfl (by kernel_rfl) rfl) ?_
   refine Qe (Ak (l:=[.int .i64 0,.int .i64 0,.int .i64 0,.int .i64 0,.val (.slice none 0 0)]) (by kernel_rfl)) ?_
   rintro _ _ ⟨b10,rfl,rfl⟩
   refine Cv 0 [Iq _,Iq _,Iq _,Iq _,_] (_::_::_::_) ?_
   refine AOL.ghost (GS.buf 28 3) ?_
   refine Ag (AW.seq (Ai (Qp (Qf [_,_]) (Qp Dy (Qp (Qf [Iq _]) (Qp Bp ?_))))))
   refine Qp (Af (c:=[.str _,_]) Ah rfl rfl rfl rfl rfl rfl (hvt.1) (Bi hsc)) ?_
   refine Qp (Qf [_]) (Qp Dy ?_)
   refine Qp (Al (n:=sc.fields.length) Ah rfl rfl rfl (by simp)) ?_
   refine Qp Az (Ag (AW.block ?_))
   refine AW.Aao (fun (q:Nat×Value×List (List AV))=>(⟨[(1,.sl 9 (l.map F0)),(3,.ptr (Cf T V)),(5,.ptr [.ptr (oA T V l),.sl 1 (vals.map cI),.val (.map (some m))]),(7,.val (.pointer (some ⟨b7,0,none⟩))),(8,.int .i64 (k1:Int)),(10,.val (.pointer (some ⟨b10,0,none⟩))),(16,.sl 2 (V.map S4)),(17,.int .i64 V.length),(18,.int .i64 (k1:Int)),(33,.sl 2 (sc.fields.map cFi)),(34,.int .i64 sc.fields.length),(35,.int .i64 (q.1:Int))],.buf q.2.1 q.2.2 28 3 :: .box b10 66 [.int .i64 0,.int .i64 (k1:Int),.int .i64 va.type,.int .i64 0,.val q.2.1] :: .buf v1 (l1.map Cy) 66 5 :: .box b7 39 [.val v1]::(l1.map F8++(.kmap m (wE w)::H)),102⟩:St)) (fun (q:Nat×Value×List (List AV))=>q.1≤sc.fields.length∧q.2.2=((sc.fields.take q.1).map zV).map cV) (fun (q:Nat×Value×List (List AV))=>sc.fields.length-q.1) ((0,.slice none 0 0,[])) ?_ (GS.weaken ⟨rfl,rfl,rfl,rfl,rfl,rfl,rfl,rfl,rfl,rfl,rfl,rfl,trivial⟩ (.refl _)) ?_
   · exact ⟨Nat.zero_le _,rfl⟩
   ·
    rintro q hQ
    have hql:q.2.2.length≤q.1:=by rw [hQ.2];simp;omega
    refine Ai (Qp Ch (Ag (AW.seq (A6 (fun hc2=>?_) fun hc2=>?_))))
    ·
     obtain ⟨f,hf⟩:=B5 hc2
     have hltf:=A4 hf
     refine By (AW.seq (AW.block (Ai ?_)))
     refine Qp (Af (c:=[.str _,Iq _]) Ah rfl rfl rfl rfl rfl rfl (by omega) (Bi hf)) ?_
     refine Qp (Cq [.str _,Iq _]) ?_
     refine Qe (Ak (l:=[.str [],.int .i64 0]) (by kernel_rfl)) ?_
     rintro _ _ ⟨b12,rfl,rfl⟩
     refine Cv 0 [.str _,Iq _] (_::_::_::_::_::_) ?_
     refine AOL.ghost (GS.Aan (t:=12) 0 rfl rfl) ?_
     refine Ag (AW.region (Qp Gc ?_))
     refine AOL.Aas (Am (k:=1) (c:=.val _) Ah rfl rfl rfl rfl) rfl rfl ?_
     refine Qp (Qf [Iq _]) (Qp Bp (Qp (Fz [Iq _,Iq _,.str _]) ?_))
     refine Qp (A1 (es:=[[Iq _,Iq _,.str _]]) Ah rfl rfl rfl rfl rfl rfl rfl rfl rfl) ?_
     refine Qe (Km.bufs (O5 (k:=0) Ah rfl rfl rfl rfl rfl rfl rfl rfl (rfl) (by simp;omega) (by simp [maxLen];omega))) ?_
     rintro _ _ ⟨⟨v45,rfl,rfl⟩,hbs45⟩
     have hu2:=hbs45 v45 _ _ _ (List.mem_of_getElem? (i:=0) rfl)
     refine Qp Gc ?_
     refine Qe (B2 (k:=1) (v:=.val _) (cs':=[Iq _,Iq _,Iq _,Iq _,_]) (H2:=_::_::_::_::_) Ah rfl rfl rfl rfl ((by simp [Dd,Be,Nc,hu2])) rfl rfl rfl rfl) ?_
     rintro _ _ ⟨rfl,rfl⟩
     refine AOL.nil (Bu (Ad (AW.region (Qp Ey (Qp Az (Ag ?_))))))
     refine ⟨(q.1+1,v45,q.2.2 ++ [cV (zV f)]),?_,?_,GS.weaken ⟨rfl,rfl,rfl,rfl,rfl,rfl,rfl,rfl,rfl,rfl,rfl,rfl,trivial⟩ (.refl _)⟩
     · exact ⟨hltf,by simp only;rw [C4 hf,List.map_append,List.map_append,hQ.2];rfl⟩
     · simp only;omega
    ·
     have htf:=Cu hc2
     have hE:=hQ.2
     rw [htf] at hE
     have hrows:q.2.2=(Uq T k1 va).values.map cV:=hE.trans (congrArg (List.map cV) (Xb hsc).symm)
     refine AW.exit ?_
     refine A5 (A5 (Bq (Ad ?_)))
     refine AW.bufOne 0 rfl fun hu=>?_
     refine AW.region ?_
     refine AOL.Aas (Am (k:=3) (c:=.val _) Ah rfl rfl rfl rfl) rfl rfl ?_
     refine AOL.Aas (A7 (k:=1) (l:=[Iq _,Iq _,Iq _,Iq _,_]) Ah rfl rfl rfl rfl rfl) rfl rfl ?_
     refine Qp (A1 (es:=[[Iq _,Iq _,Iq _,Iq _,_]]) Ah rfl rfl rfl rfl rfl rfl (lit1 rfl rfl (by simp [Be,Nc,hu])) rfl rfl) ?_
     refine Qe (Km.bufs (O5 (k:=2) Ah rfl rfl rfl rfl rfl rfl rfl rfl ((by simp [Be,Nc,hu])) (by simp;omega) (by simp [maxLen];omega))) ?_
     rintro _ _ ⟨⟨v51,rfl,rfl⟩,hbs51⟩
     have hu3:=hbs51 v51 _ _ _ (List.mem_of_getElem? (i:=2) rfl)
     refine Qe (B2 (k:=3) (v:=.val _) (cs':=[_]) (H2:=_::_::_::_::_) Ah rfl rfl rfl rfl ((by simp [Dd,Be,Nc,hu3])) rfl rfl rfl rfl) ?_
     rintro _ _ ⟨rfl,rfl⟩
     refine AOL.nil (Bu (Ad (AW.region (Qp Ey (Qp Az (Ag ?_))))))
     refine ⟨(k1+1,v51,l1 ++ [(Uq T k1 va,q.2.1)]),?_,?_,GS.trans (GS.perm (zL (e:=Uq T k1 va) hrows)) (GS.weaken ⟨rfl,rfl,rfl,rfl,rfl,rfl,rfl,trivial⟩ (.cons _ (.refl _)))⟩
     · exact ⟨hlt,by simp only;rw [C4 hva,Vs,List.map_append,hR.2,List.length_take,Nat.min_eq_left hk1,Nat.zero_add];rfl⟩
     · simp only;omega
  ·
   have hte:=Cu hc1
   have hbe:=hR.2
   rw [hte] at hbe
   have hvlen:l1.length=V.length:=by have:=congrArg List.length hbe;rw [Nq] at this;simpa using this
   refine AW.exit ?_
   refine A5 (A5 (Bq (Ad (AW.seq (Ai (Qp (Qf [_,_,_]) (Qp Qlp ?_)))))))
   refine Qp (Gk rfl) ?_
   refine Qp (Qf [_,_]) (Qp Dy ?_)
   refine Qp (Al (n:=(B1 T V l).ts.length) Ah rfl rfl rfl (by simp)) ?_
   refine Qp Az (Ag (AW.block ?_))
   refine AW.Aao (fun (o:Nat×Es)=>(⟨[(1,.sl 9 (l.map F0)),(3,.ptr (Cf T V)),(5,.ptr [.ptr (oA T V l),.sl 1 (vals.map cI),.val (.map (some m))]),(7,.val (.pointer (some ⟨b7,0,none⟩))),(57,.sl 3 ((B1 T V l).ts.map Hw)),(58,.int .i64 (B1 T V l).ts.length),(59,.int .i64 (o.1:Int))],.buf v1 (o.2.map Cy) 66 5 :: .box b7 39 [.val v1]::(o.2.map F8++(.kmap m (wE w)::H)),102⟩:St)) (fun (o:Nat×Es)=>o.1≤(B1 T V l).ts.length∧Gv vals 0 (B1 T V l).ts (Fh T 0 V)=Gv vals o.1 ((B1 T V l).ts.drop o.1) (o.2.map Prod.fst)∧evOK T V (o.2.map Prod.fst)) (fun (o:Nat×Es)=>(B1 T V l).ts.length-o.1) ((0,l1)) ?_ (GS.weaken ⟨rfl,rfl,rfl,rfl,rfl,rfl,rfl,trivial⟩ (.refl _)) ?_
   · exact ⟨Nat.zero_le _,by simp only;rw [hbe];rfl,by simp only;rw [hbe];exact iJ⟩
   ·
    rintro ⟨k2,l2⟩ hO
    refine Ai (Qp Ch (Ag (AW.seq (A6 (fun hc3=>?_) fun hc3=>?_))))
    ·
     obtain ⟨t,ht⟩:=B5 hc3
     have hltt:=A4 ht
     have htm:=iF hlk t (List.mem_of_getElem? ht)
     refine By (AW.seq (AW.block (Ai (Qp Az ?_))))
     refine Qp (Af (c:=[Iq _,Iq _,Iq _]) Ah rfl rfl rfl rfl rfl rfl (by omega) (Bi ht)) ?_
     refine Qp (Cq [Iq _,Iq _,Iq _]) ?_
     refine Qe (Ak (l:=[.int .i64 0,.int .i64 0,.int .i64 0]) (by kernel_rfl)) ?_
     rintro _ _ ⟨b14,rfl,rfl⟩
     refine Qp Ap ?_
     refine Cv 0 [Iq _,Iq _,Iq _] (_::_::_::_) ?_
     refine AOL.ghost (GS.Aan (t:=14) 0 rfl rfl) ?_
     refine Dm (Qp (Qf [Iq _,Iq _,Iq _]) (Qp Bp (Qp A9 (Ag (A6 (fun hc4=>?_) fun hc4=>?_)))))
     ·
      refine (jV hO.2.2 htm).elim fun e he=>he.elim fun u hu=>?_
      have hj:=hu.1
      have hel:=hu.2.1
      have hll9:l2.length=V.length:=hu.2.2
      have hv0:=htm.v0
      have hv1:=htm.v1
      refine AW.unbuf (v:=v1) (es:=l2.map Cy) (E:=66) (z:=5) 0 rfl (S7 hj) fun bb cap J hub hcap hcm hJ hzo=>?_
      subst hub
      have hrow:(l2.map Cy)[t.v.toNat]? = some (Cy (e,u)):=by rw [List.getElem?_map,hj];rfl
      refine AW.draw mixed (fun H'=>_∈H') (List.mem_of_getElem? (i:=1) rfl) (by kernel_rfl) ?_
      refine Qn 0 rfl (OpP.Aaq (fun k=>Am (k:=k) (c:=.val _) Ah rfl rfl rfl rfl) (fun _ h=>h)) ?_
      refine Qn 1 rfl (Qf [Iq _,Iq _]) (Qn 2 rfl Bp (Qn 3 rfl (Qf [_,_]) (Qn 4 rfl Dy (Qn 5 rfl Az (Qn 6 rfl Ey ?_)))))
      refine Qn 7 rfl (Af (c:=[Iq _]) Ah rfl rfl rfl rfl rfl rfl (by omega) (bA (by omega))) ?_
      refine Qn 8 rfl Bp ?_
      refine Qn 9 rfl (Bh (o':=t.v.toNat*5) Ah rfl rfl rfl rfl rfl (hv0) (by rw [List.length_map];omega) (Nat.zero_add _)) ?_
      refine Qn 10 rfl Gc ?_
      refine Jn.last _ _ 11 _ _ rfl (by kernel_rfl) rfl rfl (B2 (k:=0) (v:=Iq _) (cs':=_) (H2:=_::_::_) Ah rfl rfl rfl rfl rfl rfl (Mf (o:=3) (Ju _) hrow (by decide)) (Mq (o:=3) (e:=Cy (e,u)) (Ju _) hrow (by decide)) rfl) (by kernel_rfl) ?_
      rintro _ _ ⟨rfl,rfl⟩
      refine Bu (Ad (AW.region (Qp Ey (Qp Az (Ag ?_)))))
      refine ⟨(k2+1,l2.modify t.v.toNat fun p=>({ p.1 with time:=Du vals ((k2:Int)+1) },p.2)),?_,?_,GS.trans (evTime hj hcap hcm hJ) (GS.weaken ⟨rfl,rfl,rfl,rfl,rfl,rfl,rfl,trivial⟩ (.refl _))⟩
      · exact ⟨hltt,hO.2.1.trans ((Q2 ht).trans (congrArg (Gv vals (k2+1) _) (Y4 hc4).symm)),by simp only;rw [Y4 hc4];exact U1 hO.2.2 t _⟩
      · simp only;omega
     ·
      refine (jV hO.2.2 htm).elim fun e he=>he.elim fun u hu=>?_
      have hj:=hu.1
      have hel:=hu.2.1
      have hll9:l2.length=V.length:=hu.2.2
      have hv0:=htm.v0
      have hv1:=htm.v1
      have ho1:t.op=1:=htm.op.resolve_right (by simpa using hc4)
      have hfr:=htm.f ho1
      refine (lA htm ho1 hel).elim fun y hy=>?_
      have hyl:=A4 hy
      refine AW.ghost (GS.perm (iQ hj)) ?_
      refine AW.unbuf (v:=u) (es:=e.values.map cV) (E:=28) (z:=3) 0 rfl (S7 hy) fun bi capi Ji hui hcapi hcmi hJi hzi=>?_
      subst hui
      refine AW.unbuf (v:=v1) (es:=l2.map Cy) (E:=66) (z:=5) 1 rfl (S7 hj) fun bb cap J hub hcap hcm hJ hzo=>?_
      subst hub
      have hrow:(l2.map Cy)[t.v.toNat]? = some (Cy (e,.slice (some ⟨bi,0,none⟩) (e.values.map cV).length capi)):=by rw [List.getElem?_map,hj];rfl
      refine AW.draw mixed (fun H'=>_∈H'∧_∈H') ⟨(List.mem_of_getElem? (i:=2) rfl),(List.mem_of_getElem? (i:=1) rfl)⟩ (by kernel_rfl) ?_
      refine Qn 0 rfl (OpP.Aaq (fun k=>Am (k:=k) (c:=.val _) Ah rfl rfl rfl rfl) (fun _ h=>h.1)) ?_
      refine Qn 1 rfl (Qf [Iq _,Iq _]) (Qn 2 rfl Bp ?_)
      refine Qn 3 rfl (Bh (o':=t.v.toNat*5) Ah rfl rfl rfl rfl rfl (hv0) (by rw [List.length_map];omega) (Nat.zero_add _)) ?_
      refine Qn 4 rfl Gc ?_
      refine Qn 5 rfl (OpP.Aaq (fun k=>Am (k:=k) (c:=.val (.slice (some ⟨bi,0,none⟩) (e.values.map cV).length capi)) Ah rfl rfl rfl (R3 (o:=4) (Ju l2) hrow rfl)) (fun _ h=>h.2)) ?_
      refine Qn 6 rfl (Qf [Iq _]) (Qn 7 rfl Bp (Qn 8 rfl (Qf [_,_]) (Qn 9 rfl Dy (Qn 10 rfl Az (Qn 11 rfl Ey ?_)))))
      refine Qn 12 rfl (Af (c:=[Iq _]) Ah rfl rfl rfl rfl rfl rfl (by omega) (bA (by omega))) ?_
      refine Qn 13 rfl Bp ?_
      refine Qn 14 rfl (Bh (o':=t.field.toNat*3) Ah rfl rfl rfl rfl rfl (hfr.1) (by rw [List.length_map];omega) (Nat.zero_add _)) ?_
      refine Qn 15 rfl Gc ?_
      refine Jn.last _ _ 16 _ _ rfl (by kernel_rfl) rfl rfl (B2 (k:=0) (v:=Iq _) (cs':=_) (H2:=_::_::_::_) Ah rfl rfl rfl rfl rfl rfl (Mf (o:=1) (Kj _) (by rw [List.getElem?_map,hy];rfl) (by decide)) (Mq (o:=1) (e:=cV y) (x:=.int .i64 (Du vals ((k2:Int)+1))) (Kj _) (by rw [List.getElem?_map,hy];rfl) (by decide)) rfl) (by kernel_rfl) ?_
      rintro _ _ ⟨rfl,rfl⟩
      refine Bu (Ad (AW.region (Qp Ey (Qp Az (Ag ?_)))))
      refine ⟨(k2+1,l2.modify t.v.toNat fun p=>(Uo p.1 t.field.toNat (fun y=>{ y with num:=Du vals ((k2:Int)+1) }),p.2)),?_,?_,GS.trans (sO hj hy (f:=fun y=>{ y with num:=Du vals ((k2:Int)+1) }) rfl hcap hcm hJ hcapi hcmi hJi) (GS.weaken ⟨rfl,rfl,rfl,rfl,rfl,rfl,rfl,trivial⟩ (.refl _))⟩
      · exact ⟨hltt,hO.2.1.trans ((Q2 ht).trans (congrArg (Gv vals (k2+1) _) (dQ hc4).symm)),by simp only;rw [dQ hc4];exact U1 hO.2.2 t _⟩
      · simp only;omega
    ·
     have hde:=Dc hc3
     have hnum:=hO.2.1
     rw [hde] at hnum
     refine AW.exit ?_
     refine A5 (A5 (Bq (Ad (Ai (Qp (Cq [_,_]) (Qp Dx (Qp (Qf [_]) (Qp Qlv ?_))))))))
     refine Qp (Bj (l:=[]) (l':=[.val _]) rfl rfl) ?_
     refine Qe (Dj (by kernel_rfl) rfl rfl (d_name T V l hlk hll m w hw b7 v1 l2 hO.2.2 _)) ?_
     rintro _ _ ⟨l3,hl3,hev3,rfl,rfl⟩
     refine Dm ?_
     refine AOL.Aas (Am (k:=1) (c:=.val _) Ah rfl rfl rfl rfl) rfl rfl ?_
     refine Qp N4 ?_
     refine AOL.ghost (GS.freezeEvs (t:=6) rfl) ?_
     refine Ag (AW.ret ?_)
     refine ⟨.inr rfl,[.sl _ _],.cons (.tmp _ _ rfl) <| .nil,_,.cons _ (.refl _),?_⟩
     exact ⟨congrArg (fun q:List Ev=>AV.sl 5 (q.map Lo)) (hl3.trans (congrArg (bR T V w l) hnum.symm)),rfl⟩

end Go.Proofs.YtjedflcpjlgokaaGreatDoor
