/-
  Several texts in one: Y11, Y12. No condition.
-/
import Derived.Test.YtjedflcpjlgokaaGreatDoorAz
import Derived.Test.YtjedflcpjlgokaaGreatDoorK21
import Derived.Test.YtjedflcpjlgokaaGreatDoorK35
import Derived.KernelRfl
set_option linter.unusedVariables false
set_option linter.unusedSimpArgs false
namespace Go.Proofs.YtjedflcpjlgokaaGreatDoor
open Go Go.Aw
set_option maxHeartbeats 6400000
set_option maxRecDepth 20000

theorem d_name (T:List Sc)(V:List Va)(l:List Lit)(hlk:Up T V l)(hll:l.length≤4096)(m:Nat)(w:Wm)(hw:Qt w)(bo:Nat)(v:Value)(l0:Es)(hev:evOK T V (l0.map Prod.fst))(R:List HO):Dj Tryz.prog 95 (Xt bo v l0 (.kmap m (wE w)::R)) [.agg (Cw T V),.sl 9 (l.map H7),.val (.map (some m)),.fn (.func 96) [] [.val (.pointer (some ⟨bo,0,none⟩))]] (fun r H'=>∃l',l'.map Prod.fst=aT T V w l (l0.map Prod.fst)∧evOK T V (l'.map Prod.fst)∧r = .tuple []∧H'=Xt bo v l' (.kmap m (wE w)::R)):=by
 refine Dj.perm (jZ (pre:=[.kmap m (wE w)])).symm ?_
 refine Dj.body (n:=126) Ai Tryz.func95 rfl rfl rfl ?_
 refine AW.ghostPost ?_
 refine Ah (Qp (Gd [_,_]) (Do ?_))
 refine Qe (Pz) ?_
 rintro _ _ ⟨b22,rfl,rfl⟩
 refine Qp N2 (Do (Qp N2 ?_))
 refine AOL.ghost (GS.row (t:=9) 200 5 rfl) ?_
 refine Ag (AW.seq (Ah (Qp Dt ?_)))
 refine Qp (Al (n:=l.length) Ai rfl rfl rfl (by simp)) ?_
 refine Qp A0 (Ag (AW.block ?_))
 refine AW.Aad (fun (p:Nat×Um×List Wd×Value×List (List AV))=>(⟨[(2,.val (.map (some m))),(3,.fn (.func 96) [] [.val (.pointer (some ⟨bo,0,none⟩))]),(4,.ptr (Cw T V)),(8,.val (.map (some b22))),(9,.row p.2.2.2.1 5 p.2.2.2.2),(23,.sl 9 (l.map H7)),(24,.int .i64 l.length),(25,.int .i64 (p.1:Int))],.row p.2.2.2.1 p.2.2.2.2.length 200 5 :: .smap b22 (sE p.2.1) :: .kmap m (wE w)::Xt bo v l0 R,126⟩:St)) (fun (p:Nat×Um×List Wd×Value×List (List AV))=>p.1≤l.length∧Gs T V (l.take p.1)=(p.2.1,p.2.2.1)∧(∀x∈p.2.2.1,wdOK T V x)∧p.2.1.length≤2*p.1∧p.2.2.1.length≤2*p.1∧p.2.2.2.2=p.2.2.1.map Kr) (fun (p:Nat×Um×List Wd×Value×List (List AV))=>l.length-p.1) ((0,[],[],.slice none 0 0,[])) ?_ (GS.weaken ⟨rfl,rfl,rfl,rfl,rfl,rfl,rfl,rfl,trivial⟩ (.refl _)) ?_
 · exact ⟨Nat.zero_le _,rfl,fun x hx=>(by cases hx),Nat.le_refl _,Nat.le_refl _,rfl⟩
 ·
  rintro p hR
  have hE:=hR.2.2.2.2.2
  refine Ah (Qp Ck (Ag (AW.seq (A3 (fun hc1=>?_) fun hc1=>?_))))
  ·
   obtain ⟨c,hc⟩:=B7 hc1
   have hlt:=Bb hc
   have hcm:=List.mem_of_getElem? hc
   have hck:=(hlk c hcm).1
   have hcs:=Nat.le_trans (hlk c hcm).2 (by decide:64≤1048576)
   refine By (AW.seq (AW.block (Ah ?_)))
   refine Qp (Af (c:=[Iq _,_,Iq _,Iq _,Iq _,Iq _,Iq _,.str _,.bool _]) Ai rfl rfl rfl rfl rfl rfl (by omega) (Bo hc)) ?_
   refine Qp (Cv [Iq _,_,Iq _,Iq _,Iq _,Iq _,Iq _,.str _,.bool _]) ?_
   refine Qe (Am (l:=[.int .i64 0,.sl 8 [],.int .i64 0,.int .i64 0,.int .i64 0,.int .i64 0,.int .i64 0,.str [],.bool false]) (by kernel_rfl)) ?_
   rintro _ _ ⟨b11,rfl,rfl⟩
   refine Cz 0 [Iq _,_,Iq _,Iq _,Iq _,Iq _,Iq _,.str _,.bool _] (_::_::_::_::_::_::_) ?_
   refine AOL.ghost (GS.Aac (t:=11) 0 rfl rfl) ?_
   refine Ag (AW.seq (Ah (Qp (Cv [_,_]) (Qp (Qf [Iq _,_,Iq _,Iq _,Iq _,Iq _,Iq _,.str _,.bool _]) (Qp E7 ?_)))))
   refine Qp (Qc rfl (Q9 T V c.cond hck)) ?_
   refine Qp Hp (Qp Bu (Qg [] Qw (Cv [_,_]) (Qg [] Qw (Qf [Iq _,_,Iq _,Iq _,Iq _,Iq _,Iq _,.str _,.bool _]) (Qg [(36,_)] Qw E7 ?_))))
   refine AOL.Aaf (y:=.bool _) _ [(35,_),(37,_)] rfl (oE.all ⟨Ent.Aab _ _,Ent.Aab _ _,trivial⟩) (fun hG=>E6 (by kernel_rfl) rfl rfl (Q7 T V c.cond hck hcs)) rfl ?_
   refine Qg [(38,_)] Qw Hp (Qp E2 (Ag (A3 (fun hc2=>?_) fun hc2=>?_)))
   ·
    refine AW.exit ?_
    refine A5 (Bx (Ae (AW.region (Qp F7 (Qp A0 (Ag ?_))))))
    refine ⟨(p.1+1,p.2),?_,?_,GS.weaken ⟨rfl,rfl,rfl,rfl,rfl,rfl,rfl,rfl,trivial⟩ (.refl _)⟩
    · exact ⟨hlt,by unfold Gs;rw [C9 hc,List.foldl_append];exact (congrArg (fun z=>Sd T V z c) hR.2.1).trans (Ro hc2),hR.2.2.1,by have:=hR.2.2.2.1;simp only;omega,by have:=hR.2.2.2.2.1;simp only;omega,hE⟩
    · simp only;omega
   ·
    have h2a:=R5 hck hc2
    have hal:=h2a.1
    refine By (Ah (Qp (Qf [Iq _,_,Iq _,Iq _,Iq _,Iq _,Iq _,.str _,.bool _]) (Qp (Qf [_,Iq _,Iq _,Iq _,Iq _,Iq _,.str _,.bool _]) (Qp Ee ?_))))
    refine Qp (Al (n:=c.cond.args.length) Ai rfl rfl rfl (by simp)) ?_
    refine Qp A0 (Ag (AW.block ?_))
    refine AW.Aad (fun (q:Nat×Um×List Wd×Value×List (List AV))=>(⟨[(2,.val (.map (some m))),(3,.fn (.func 96) [] [.val (.pointer (some ⟨bo,0,none⟩))]),(4,.ptr (Cw T V)),(8,.val (.map (some b22))),(9,.row q.2.2.2.1 5 q.2.2.2.2),(23,.sl 9 (l.map H7)),(24,.int .i64 l.length),(25,.int .i64 (p.1:Int)),(43,.sl 8 (c.cond.args.map G7)),(44,.int .i64 c.cond.args.length),(45,.int .i64 (q.1:Int))],.row q.2.2.2.1 q.2.2.2.2.length 200 5 :: .smap b22 (sE q.2.1) :: .kmap m (wE w)::Xt bo v l0 R,126⟩:St)) (fun (q:Nat×Um×List Wd×Value×List (List AV))=>q.1≤c.cond.args.length∧c.cond.args.foldl V2 (p.2.1,p.2.2.1)=(c.cond.args.drop q.1).foldl V2 (q.2.1,q.2.2.1)∧(∀x∈q.2.2.1,wdOK T V x)∧q.2.1.length≤p.2.1.length+q.1∧q.2.2.1.length≤p.2.2.1.length+q.1∧q.2.2.2.2=q.2.2.1.map Kr) (fun (q:Nat×Um×List Wd×Value×List (List AV))=>c.cond.args.length-q.1) ((0,p.2)) ?_ (GS.weaken ⟨rfl,rfl,rfl,rfl,rfl,rfl,rfl,rfl,rfl,rfl,rfl,trivial⟩ (.refl _)) ?_
    · exact ⟨Nat.zero_le _,rfl,hR.2.2.1,Nat.le_refl _,Nat.le_refl _,hE⟩
    ·
     rintro q hQ
     have hb1:=hR.2.2.2.1
     have hb2:=hR.2.2.2.2.1
     have hb3:=hQ.2.2.2.1
     have hb4:=hQ.2.2.2.2.1
     have hF:=hQ.2.2.2.2.2
     have hsc:∀c∈q.2.2.2.2,Bc c=true:=by rw [hF];exact cWd_sc _
     have hql:q.2.2.2.2.length=q.2.2.1.length:=by rw [hF];simp
     refine Ah (Qp Ck (Ag (AW.seq (A3 (fun hc3=>?_) fun hc3=>?_))))
     ·
      obtain ⟨a,ha⟩:=B7 hc3
      have hlta:=Bb ha
      have ham:=List.mem_of_getElem? ha
      refine By (AW.seq (AW.block (Ah ?_)))
      refine Qp (Af (c:=[Iq _,_,Iq _,Iq _,Iq _,Iq _,Iq _,.str _]) Ai rfl rfl rfl rfl rfl rfl (by omega) (F2 ha)) ?_
      refine Qp E7 ?_
      refine Qe (Am (l:=[.int .i64 0,.sl 8 [],.int .i64 0,.int .i64 0,.int .i64 0,.int .i64 0,.int .i64 0,.str []]) (by kernel_rfl)) ?_
      rintro _ _ ⟨b13,rfl,rfl⟩
      refine Cz 0 [Iq _,_,Iq _,Iq _,Iq _,Iq _,Iq _,.str _] (_::_::_::_::_::_::_) ?_
      refine AOL.ghost (GS.Aac (t:=13) 0 rfl rfl) ?_
      refine Do (Qp E7 ?_)
      refine Qp (Qc rfl (N5 a)) ?_
      refine Qe (Am (l:=[.bool false,.str [],.int .i64 0,.int .i64 0,.int .i64 0]) (by kernel_rfl)) ?_
      rintro _ _ ⟨b14,rfl,rfl⟩
      refine Cz 0 [.bool _,.str _,Iq _,Iq _,Iq _] (_::_::_::_::_::_::_) ?_
      refine AOL.ghost (GS.Aac (t:=14) 0 rfl rfl) ?_
      refine Do (Qp Ho (Qp (Qf [.str _,Iq _,Iq _,Iq _]) (Qp Vb (Qp Ho (Qp (Qf [.str _,Iq _,Iq _,Iq _]) (Qp Vb ?_))))))
      refine AOL.Aah (lU (i:=1) Ai rfl rfl rfl rfl rfl rfl (by kernel_rfl) rfl rfl) rfl rfl ?_
      refine Qp Bu (Qg [] Qw (Qf [.bool _,.str _,Iq _,Iq _,Iq _]) (Qg [(59,_)] Qw qQ (Qp E2 ?_)))
      refine Qe (vO (i:=1) (H2:=_::_::_::_::_::_) Ai rfl rfl rfl rfl rfl rfl rfl rfl rfl) ?_
      rintro _ _ ⟨rfl,rfl⟩
      refine Ag (AW.region ?_)
      refine Qp (Bk (v:=.row _ _ _) rfl) ?_
      refine Qp (Cv [.bool _,.str _,Iq _,Iq _,Iq _]) ?_
      refine Qp (A2 (es:=[[.bool _,.str _,Iq _,Iq _,Iq _]]) Ai rfl rfl rfl rfl rfl rfl rfl rfl rfl) ?_
      refine Qe (Dh (k:=0) Ai rfl rfl rfl rfl rfl rfl rfl rfl (G5 rfl) (hsc) (by simp;omega) (by simp [maxLen];omega)) ?_
      rintro _ _ ⟨v65,rfl,rfl⟩
      refine Qp (Da (v:=.row _ _ _) rfl) ?_
      refine AOL.nil (Bv (Ae (AW.region (Qp F7 (Qp A0 (Ag ?_))))))
      refine ⟨(q.1+1,Sr q.2.1 (B5 a).text (E1 q.2.1 (B5 a).text||(B5 a).const),q.2.2.1 ++ [B5 a],v65,q.2.2.2.2 ++ [Kr (B5 a)]),?_,?_,GS.weaken ⟨rfl,rfl,rfl,rfl,rfl,rfl,rfl,rfl,rfl,rfl,rfl,trivial⟩ (.refl _)⟩
      · exact ⟨hlta,hQ.2.1.trans (Yq ha),fun x hx=>(List.mem_append.1 hx).elim (hQ.2.2.1 x) (fun h=>by rw [List.mem_singleton.1 h];exact lZ (Az hck ham) (h2a.2 a ham)),by have:=Xe q.2.1 (B5 a).text (E1 q.2.1 (B5 a).text||(B5 a).const);simp only;omega,by simp only [List.length_append,List.length_singleton];omega,by simp only;rw [hF,List.map_append];rfl⟩
      · simp only;omega
     ·
      have hde:=C8 hc3
      have hfo:=hQ.2.1
      rw [hde] at hfo
      refine AW.exit ?_
      refine A5 (A5 (Bx (Bv (Ae (AW.region (Qp F7 (Qp A0 (Ag ?_))))))))
      refine ⟨(p.1+1,q.2),?_,?_,GS.weaken ⟨rfl,rfl,rfl,rfl,rfl,rfl,rfl,rfl,trivial⟩ (.refl _)⟩
      · exact ⟨hlt,by unfold Gs;rw [C9 hc,List.foldl_append];exact (congrArg (fun z=>Sd T V z c) hR.2.1).trans ((L6 hc2).trans hfo),hQ.2.2.1,by have:=hR.2.2.2.1;have:=hQ.2.2.2.1;have:=hQ.1;simp only;omega,by have:=hR.2.2.2.2.1;have:=hQ.2.2.2.2.1;have:=hQ.1;simp only;omega,hQ.2.2.2.2.2⟩
      · simp only;omega
  ·
   have hte:=C5 hc1
   have hcol:=hR.2.1
   rw [hte] at hcol
   have hwds:=hR.2.2.1
   have hUl:=hR.2.2.2.1
   have hAl:=hR.2.2.2.2.1
   refine AW.exit ?_
   refine A5 (A5 (Bx (Ae (Ah ?_))))
   refine Qe (Mt) ?_
   rintro _ _ ⟨b68,rfl,rfl⟩
   refine Qp N2 (Do ?_)
   refine Qp (Bk (v:=.row _ _ _) rfl) ?_
   refine Qp (Lw (n:=p.2.2.1.length) Ai rfl rfl rfl (by rw [hE];simp)) ?_
   refine Qp A0 (Ag (AW.block ?_))
   refine AW.Aad (fun (o:Nat×Um×Nm×Es)=>(⟨[(2,.val (.map (some m))),(3,.fn (.func 96) [] [.val (.pointer (some ⟨bo,0,none⟩))]),(8,.val (.map (some b22))),(15,.val (.map (some b68))),(69,.row p.2.2.2.1 5 p.2.2.2.2),(70,.int .i64 p.2.2.1.length),(71,.int .i64 (o.1:Int))],.kmap b68 (nE o.2.2.1) :: .row p.2.2.2.1 p.2.2.2.2.length 200 5 :: .smap b22 (sE o.2.1) :: .kmap m (wE w)::Xt bo v o.2.2.2 R,126⟩:St)) (fun (o:Nat×Um×Nm×Es)=>o.1≤p.2.2.1.length∧p.2.2.1.foldl (Hg w) (p.2.1,[],l0.map Prod.fst)=(p.2.2.1.drop o.1).foldl (Hg w) (o.2.1,o.2.2.1,o.2.2.2.map Prod.fst)∧evOK T V (o.2.2.2.map Prod.fst)∧o.2.1.length≤p.2.1.length+o.1) (fun (o:Nat×Um×Nm×Es)=>p.2.2.1.length-o.1) ((0,p.2.1,[],l0)) ?_ (GS.weaken ⟨rfl,rfl,rfl,rfl,rfl,rfl,rfl,trivial⟩ (.refl _)) ?_
   · exact ⟨Nat.zero_le _,rfl,hev,Nat.le_refl _⟩
   ·
    rintro o hO
    refine Ah (Qp Ck (Ag (AW.seq (A3 (fun hc4=>?_) fun hc4=>?_))))
    ·
     obtain ⟨x,hx⟩:=B7 hc4
     have hltx:=Bb hx
     have hxm:=List.mem_of_getElem? hx
     have hwx:=hwds x hxm
     have hno:=hO.2.1
     rw [Yq hx] at hno
     have hevo:=hO.2.2.1
     have hUo:=hO.2.2.2
     refine By (AW.seq (AW.block (Ah ?_)))
     refine Qp (J6 (c:=[.bool _,.str _,Iq _,Iq _,Iq _]) Ai rfl rfl rfl rfl rfl rfl (by omega) (by rw [hE];exact Bo hx)) ?_
     refine Qp (Cv [.bool _,.str _,Iq _,Iq _,Iq _]) ?_
     refine Qe (Am (l:=[.bool false,.str [],.int .i64 0,.int .i64 0,.int .i64 0]) (by kernel_rfl)) ?_
     rintro _ _ ⟨b17,rfl,rfl⟩
     refine Cz 0 [.bool _,.str _,Iq _,Iq _,Iq _] (_::_::_::_::_::_::_::_) ?_
     refine AOL.ghost (GS.Aac (t:=17) 0 rfl rfl) ?_
     refine Do (Qp Ho (Qp (Cv [.bool _,.str _,Iq _,Iq _,Iq _]) ?_))
     refine AOL.Aah (Rj (ho:=.kmap m (wE w)) (KK:=fun H=>H[3]? = some (.kmap m (wE w))) (by kernel_rfl) rfl rfl (Q0 m w hw x) (fun _ h=>List.mem_of_getElem? h)) rfl rfl ?_
     refine Qe (Am (l:=[.bool false,.str [],.int .i64 0,.int .i64 0,.int .i64 0]) (by kernel_rfl)) ?_
     rintro _ _ ⟨b18,rfl,rfl⟩
     refine Cz 0 [.bool _,.str _,Iq _,Iq _,Iq _] (_::_::_::_::_::_::_::_) ?_
     refine AOL.ghost (GS.Aac (t:=18) 0 rfl rfl) ?_
     refine Ag ?_
     refine AW.cut (fun (t:Um×Nm)=>(⟨[(2,.val (.map (some m))),(3,.fn (.func 96) [] [.val (.pointer (some ⟨bo,0,none⟩))]),(8,.val (.map (some b22))),(15,.val (.map (some b68))),(69,.row p.2.2.2.1 5 p.2.2.2.2),(70,.int .i64 p.2.2.1.length),(71,.int .i64 (o.1:Int)),(17,.ptr (Kr x)),(18,.ptr (Kr (Cc w x)))],.kmap b68 (nE t.2) :: .row p.2.2.2.1 p.2.2.2.2.length 200 5 :: .smap b22 (sE t.1) :: .kmap m (wE w)::Xt bo v o.2.2.2 R,126⟩:St)) (fun (t:Um×Nm)=>t=X8 o.2.1 o.2.2.1 (Cc w x)) ?_ ?_
     ·
      refine Ah (Qp Ho (Qp (Cv [.bool _,.str _,Iq _,Iq _,Iq _]) ?_))
      refine AOL.Aah (Ox (i:=0) (eq:=I5 (Cc w x)) Ai rfl rfl rfl rfl rfl (by kernel_rfl) rfl rfl (rfl) (Zg (Cc w x) _) (look_n (Cc w x) _) (has_n (Cc w x) _)) rfl rfl ?_
      refine Qp Nb (Qp Qxt (Qp eR (Qp Qat (Qp Bm (Do (Qp Bu (Qp Hp (Ag (A3 (fun hc5=>?_) fun hc5=>?_)))))))))
      ·
       have hnn:=fX hc5
       refine Ah (Qp Ho (Qp (Cv [.bool _,.str _,Iq _,Iq _,Iq _]) (Qp (Qf [.str _,Iq _,Iq _,Iq _]) (Qp Vb ?_))))
       refine Qe (wY (i:=0) (H2:=_::_::_::_::_::_::_) Ai rfl rfl rfl rfl rfl rfl rfl rfl hnn rfl) ?_
       rintro _ _ ⟨rfl,rfl⟩
       refine Ag (AW.seq (Ah (Qp Ar (Ag (AW.block ?_)))))
       refine AW.Aad (fun (z:Nat×E9)=>(⟨[(2,.val (.map (some m))),(3,.fn (.func 96) [] [.val (.pointer (some ⟨bo,0,none⟩))]),(8,.val (.map (some b22))),(15,.val (.map (some b68))),(69,.row p.2.2.2.1 5 p.2.2.2.2),(70,.int .i64 p.2.2.1.length),(71,.int .i64 (o.1:Int)),(17,.ptr (Kr x)),(18,.ptr (Kr (Cc w x))),(21,.int .i64 (z.1:Int))],.kmap b68 (nE (o.2.2.1 ++ [((Cc w x),z.2)])) :: .row p.2.2.2.1 p.2.2.2.2.length 200 5 :: .smap b22 (sE o.2.1) :: .kmap m (wE w)::Xt bo v o.2.2.2 R,126⟩:St)) (fun (z:Nat×E9)=>nmI o.2.1 (Cc w x) z.1 z.2) (fun (z:Nat×E9)=>o.2.1.length+2-z.1) ((0,(Cc w x).text)) ?_ (GS.weaken ⟨rfl,rfl,rfl,rfl,rfl,rfl,rfl,rfl,rfl,rfl,trivial⟩ (.refl _)) ?_
       · exact .inl ⟨rfl,rfl⟩
       ·
        rintro z hz
        refine AW.seq (Ah (Qp (Qf [.bool _,.str _,Iq _,Iq _,Iq _]) (Qp qQ (Qp Hp (Qp Bu (Qg [] Qw A0 (Qg [(94,_)] Qw A6 (Qg [(95,_)] Qw Bu (Qg [] Qw Ho ?_)))))))))
        refine Qg [] Qw Ho (Qg [] Qw (Cv [.bool _,.str _,Iq _,Iq _,Iq _]) ?_)
        refine AOL.gk (y:=.str _) _ [(98,_),(99,_)] rfl (oE.all ⟨Ent.Aab _ _,Ent.Aab _ _,trivial⟩) (fun hG=>I0 (i:=0) (eq:=I5 (Cc w x)) Ai rfl rfl rfl rfl rfl (by kernel_rfl) rfl rfl (rfl) (Zg (Cc w x) _) (bP (S4 hnn))) rfl rfl ?_
        refine AOL.gk (y:=.bool _) _ [(97,_),(100,_)] rfl (oE.all ⟨Ent.Aab _ _,Ent.Aab _ _,trivial⟩) (fun hG=>lU (i:=2) Ai rfl rfl rfl rfl rfl rfl (by kernel_rfl) rfl rfl) rfl rfl ?_
        refine Qg [(96,_),(101,_)] Qw E2 (Qp Gg (Ag (A3 (fun hc6=>?_) fun hc6=>?_)))
        ·
         have h6:=Bool.and_eq_true_iff.mp hc6
         have hrc:(Cc w x).const=false:=(Bool.not_eq_true' _).mp h6.1
         have h6b:z.1=0∨E1 o.2.1 z.2=true:=by have:=h6.2;simp at this;omega
         have hzl:=nm_len hz
         refine By (AW.seq (AW.block ?_))
         refine AW.draw mixed (fun _=>True) trivial (by kernel_rfl) ?_
         refine Qn 0 rfl Ho (Qn 1 rfl (Cv [.bool _,.str _,Iq _,Iq _,Iq _]) (Qn 2 rfl A0 ?_))
         refine Qn 3 rfl (Qc rfl (kItoa _ (by omega) (by omega))) ?_
         refine Qn 4 rfl (oZ rfl rfl rfl (by have h8:=Go.Lib.itoa_length_le (z.1:Int) (by omega) (by omega);simp only [List.length_append,List.length_cons,List.length_nil,maxLen];omega)) ?_
         refine Jb.eff _ _ 5 _ _ rfl (by kernel_rfl) rfl rfl (xL (i:=0) (H2:=_::_::_::_::_::_::_) Ai rfl rfl rfl rfl rfl rfl rfl rfl hnn rfl) (fun _ _ _=>trivial) ?_
         rintro _ _ ⟨rfl,rfl⟩
         refine Jb.done _ _ (by kernel_rfl) ?_
         refine Bv (Ae (AW.region (Qp A0 (Qp F7 (Qp Ar (Ag ?_))))))
         refine ⟨(z.1+1,wN z.1),?_,?_,GS.weaken ⟨rfl,rfl,rfl,rfl,rfl,rfl,rfl,rfl,rfl,rfl,trivial⟩ (.refl _)⟩
         · exact wQ hz hrc h6b
         · simp only;omega
        ·
         have hnm:=wW hz (by simpa using hc6)
         refine AW.exit ?_
         refine A5 (A5 (Bx (Ae (AW.region (Qp Ho (Qp Ho (Qp (Cv [.bool _,.str _,Iq _,Iq _,Iq _]) ?_)))))))
         refine AOL.Aah (I0 (i:=0) (eq:=I5 (Cc w x)) Ai rfl rfl rfl rfl rfl (by kernel_rfl) rfl rfl (rfl) (Zg (Cc w x) _) (bP (S4 hnn))) rfl rfl ?_
         refine Qe (vO (i:=2) (H2:=_::_::_::_::_::_::_) Ai rfl rfl rfl rfl rfl rfl rfl rfl rfl) ?_
         rintro _ _ ⟨rfl,rfl⟩
         refine Ag ?_
         refine ⟨(Sr o.2.1 z.2 true,o.2.2.1 ++ [((Cc w x),z.2)]),?_,GS.weaken ⟨rfl,rfl,rfl,rfl,rfl,rfl,rfl,rfl,rfl,trivial⟩ (.refl _)⟩
         exact (by rw [bH hnn,hnm])
      ·
       refine By ?_
       refine ⟨(o.2.1,o.2.2.1),?_,GS.weaken ⟨rfl,rfl,rfl,rfl,rfl,rfl,rfl,rfl,rfl,trivial⟩ (.refl _)⟩
       exact (Zy hc5).symm
     ·
      rintro t hT
      have hgs:H0 t.2 (Cc w x)=some (wI o.2.1 o.2.2.1 (Cc w x)):=by rw [hT];exact aJ _ _ _
      refine Ah (Qp (Qf [.bool _,.str _,Iq _,Iq _,Iq _]) (Qp qQ (Qp Hp (Ag (A3 (fun hc7=>?_) fun hc7=>?_)))))
      ·
       have hxc:x.const=false:=(Bool.not_eq_true' _).mp hc7
       refine AW.draw mixed (fun H'=>_∈H') (List.mem_of_getElem? (i:=0) rfl) (by kernel_rfl) ?_
       refine Qn 0 rfl (Bk (v:=.fn _ _ _) rfl) ?_
       refine Qn 1 rfl (Qf [Iq _,Iq _,Iq _]) (Qn 2 rfl (Cv [Iq _,Iq _,Iq _]) (Qn 3 rfl Ho (Qn 4 rfl (Cv [.bool _,.str _,Iq _,Iq _,Iq _]) ?_)))
       refine Qn 5 rfl (OpP.Aag (fun k=>I0 (i:=k) (eq:=I5 (Cc w x)) Ai rfl rfl rfl rfl rfl (by kernel_rfl) rfl rfl (rfl) (Zg (Cc w x) _) (bP hgs)) (fun _ h=>h)) ?_
       refine Jb.last _ _ 6 _ _ rfl (by kernel_rfl) rfl rfl (Iv (by kernel_rfl) rfl rfl rfl (rB (pre:=[_,_,_,_]) (nX T V bo v o.2.2.2 hevo x.field (hwx hxc).1 (hwx hxc).2 (wI o.2.1 o.2.2.1 (Cc w x)) _))) (by kernel_rfl) ?_
       rintro _ _ ⟨rfl,rfl⟩
       refine Bv (Ae (AW.region (Qp F7 (Qp A0 (Ag ?_)))))
       refine ⟨(o.1+1,t.1,t.2,o.2.2.2.modify x.field.v.toNat fun p=>(Uh p.1 x.field.field.toNat (fun y=>{ y with text:=wI o.2.1 o.2.2.1 (Cc w x) }),p.2)),?_,?_,GS.weaken ⟨rfl,rfl,rfl,rfl,rfl,rfl,rfl,trivial⟩ (.refl _)⟩
       · exact ⟨hltx,hno.trans (congrArg (List.foldl (Hg w) · _) (nm_f hT hxc)),by rw [fT];exact lQ hevo _ _,by have:=aS o.2.1 o.2.2.1 (Cc w x);rw [←hT] at this;simp only;omega⟩
       · simp only;omega
      ·
       have hxc:x.const=true:=(Bool.not_eq_false' _).mp hc7
       refine AW.skip (Bv (Ae (AW.region (Qp F7 (Qp A0 (Ag ?_))))))
       refine ⟨(o.1+1,t.1,t.2,o.2.2.2),?_,?_,GS.weaken ⟨rfl,rfl,rfl,rfl,rfl,rfl,rfl,trivial⟩ (.refl _)⟩
       · exact ⟨hltx,hno.trans (congrArg (List.foldl (Hg w) · _) (nm_c hT hxc)),hevo,by have:=aS o.2.1 o.2.2.1 (Cc w x);rw [←hT] at this;simp only;omega⟩
       · simp only;omega
    ·
     have hde:=C8 hc4
     have hfin:=hO.2.1
     rw [hde] at hfin
     refine AW.exit ?_
     refine A5 (A5 (Bx ?_))
     refine ⟨_,GS.trans (GS.weaken (sl':=[]) (H':=.kmap m (wE w)::Xt bo v _ R) trivial (.cons _ (.cons _ (.cons _ (.refl _))))) (GS.perm (jZ (pre:=[.kmap m (wE w)]))),.inl rfl,[],.nil,_,.refl _,?_⟩
     exact ⟨o.2.2.2,(by unfold aT;rw [hcol,hfin];rfl),hO.2.2.1,rfl,rfl⟩

set_option maxHeartbeats 6400000
set_option maxRecDepth 20000

theorem tY (T:List Sc)(V:List Va)(hty:Ju T V)(hst:∀s∈T,J4 s)(hvl:V.length≤1048576)(l:List Lit)(hlk:Up T V l)(hll:l.length≤4096)(m:Nat)(w:Wm)(hw:Qt w)(vals:List Int)(hvs:(Cp T V l).ts.length+1≤vals.length)(H:List HO):Dj Tryz.prog 67 (.kmap m (wE w)::H) [.agg (Cw T V),.sl 9 (l.map H7),.agg [.ptr (qP T V l),.sl 1 (vals.map cI),.val (.map (some m))]] (fun r H'=>r = .sl 5 ((uA T V w l vals).map Rz)∧H' = .kmap m (wE w)::H):=by
 have hgl:=(Lt hlk).len
 refine Dj.body (n:=102) Ai Tryz.func67 rfl rfl rfl ?_
 refine Ah (Qp (Gd [_,_]) (Qp (Gd [_,_,_]) ?_))
 refine Qp (Ca (z:=5) rfl) ?_
 refine Do ?_
 refine Qe (Am (l:=[.val (.slice none 0 0)]) (by kernel_rfl)) ?_
 rintro _ _ ⟨b7,rfl,rfl⟩
 refine AOL.ghost (GS.buf 66 5) ?_
 refine Ag (AW.seq (Ah (Qp (Qf [_]) (Qp Ee ?_))))
 refine Qp (Al (n:=V.length) Ai rfl rfl rfl (by simp)) ?_
 refine Qp A0 (Ag (AW.block ?_))
 refine AW.Aad (fun (p:Nat×Value×Es)=>(⟨[(1,.sl 9 (l.map H7)),(3,.ptr (Cw T V)),(5,.ptr [.ptr (qP T V l),.sl 1 (vals.map cI),.val (.map (some m))]),(7,.val (.pointer (some ⟨b7,0,none⟩))),(16,.sl 2 (V.map Xr)),(17,.int .i64 V.length),(18,.int .i64 (p.1:Int))],.buf p.2.1 (p.2.2.map Cn) 66 5 :: .box b7 39 [.val p.2.1]::(p.2.2.map Fp++(.kmap m (wE w)::H)),102⟩:St)) (fun (p:Nat×Value×Es)=>p.1≤V.length∧p.2.2.map Prod.fst=Ha T 0 (V.take p.1)) (fun (p:Nat×Value×Es)=>V.length-p.1) ((0,.slice none 0 0,[])) ?_ (GS.weaken ⟨rfl,rfl,rfl,rfl,rfl,rfl,rfl,trivial⟩ (.refl _)) ?_
 · exact ⟨Nat.zero_le _,rfl⟩
 ·
  rintro ⟨k1,v1,l1⟩ hR
  have hk1:k1≤V.length:=hR.1
  have hl1:l1.length=k1:=by have:=congrArg List.length hR.2;rw [Oo,List.length_take] at this;simp at this;omega
  refine Ah (Qp Ck (Ag (AW.seq (A3 (fun hc1=>?_) fun hc1=>?_))))
  ·
   obtain ⟨va,hva⟩:=B7 hc1
   have hlt:=Bb hva
   have hvm:=List.mem_of_getElem? hva
   have hvt:=hty va hvm
   refine (lG hty hvm).elim fun sc hsc=>?_
   have hfl:=(hst sc (List.mem_of_getElem? hsc)).2.1
   refine By (AW.seq (AW.block (Ah (Qp A0 ?_))))
   refine Qp (Af (c:=[.str _,Iq _]) Ai rfl rfl rfl rfl rfl rfl (by omega) (Bo hva)) ?_
   refine Qp (Cv [.str _,Iq _]) ?_
   refine Qe (Am (l:=[.str [],.int .i64 0]) (by kernel_rfl)) ?_
   rintro _ _ ⟨b9,rfl,rfl⟩
   refine Qp Ar ?_
   refine Cz 0 [.str _,Iq _] (_::_::_::_) ?_
   refine AOL.ghost (GS.Aac (t:=9) 0 rfl rfl) ?_
   refine Do (Qp A0 (Qp (Qf [Iq _]) (Qp Bp ?_)))
   refine Qp (Nr (l0:=[.int .i64 0,.int .i64 0,.int .i64 0,.int .i64 0,.val (.slice none 0 0)]) (l:=[Iq _,Iq _,Iq _,Iq _,_]) Ai rfl rfl (by kernel_rfl) rfl) ?_
   refine Qe (Am (l:=[.int .i64 0,.int .i64 0,.int .i64 0,.int .i64 0,.val (.slice none 0 0)]) (by kernel_rfl)) ?_
   rintro _ _ ⟨b10,rfl,rfl⟩
   refine Cz 0 [Iq _,Iq _,Iq _,Iq _,_] (_::_::_::_) ?_
   refine AOL.ghost (GS.buf 28 3) ?_
   refine Ag (AW.seq (Ah (Qp (Qf [_,_]) (Qp Ee (Qp (Qf [Iq _]) (Qp Bp ?_))))))
   refine Qp (Af (c:=[.str _,_]) Ai rfl rfl rfl rfl rfl rfl (hvt.1) (Bo hsc)) ?_
   refine Qp (Qf [_]) (Qp Ee ?_)
   refine Qp (Al (n:=sc.fields.length) Ai rfl rfl rfl (by simp)) ?_
   refine Qp A0 (Ag (AW.block ?_))
   refine AW.Aad (fun (q:Nat×Value×List (List AV))=>(⟨[(1,.sl 9 (l.map H7)),(3,.ptr (Cw T V)),(5,.ptr [.ptr (qP T V l),.sl 1 (vals.map cI),.val (.map (some m))]),(7,.val (.pointer (some ⟨b7,0,none⟩))),(8,.int .i64 (k1:Int)),(10,.val (.pointer (some ⟨b10,0,none⟩))),(16,.sl 2 (V.map Xr)),(17,.int .i64 V.length),(18,.int .i64 (k1:Int)),(33,.sl 2 (sc.fields.map cFi)),(34,.int .i64 sc.fields.length),(35,.int .i64 (q.1:Int))],.buf q.2.1 q.2.2 28 3 :: .box b10 66 [.int .i64 0,.int .i64 (k1:Int),.int .i64 va.type,.int .i64 0,.val q.2.1] :: .buf v1 (l1.map Cn) 66 5 :: .box b7 39 [.val v1]::(l1.map Fp++(.kmap m (wE w)::H)),102⟩:St)) (fun (q:Nat×Value×List (List AV))=>q.1≤sc.fields.length∧q.2.2=((sc.fields.take q.1).map zV).map cV) (fun (q:Nat×Value×List (List AV))=>sc.fields.length-q.1) ((0,.slice none 0 0,[])) ?_ (GS.weaken ⟨rfl,rfl,rfl,rfl,rfl,rfl,rfl,rfl,rfl,rfl,rfl,rfl,trivial⟩ (.refl _)) ?_
   · exact ⟨Nat.zero_le _,rfl⟩
   ·
    rintro q hQ
    have hql:q.2.2.length≤q.1:=by rw [hQ.2];simp;omega
    refine Ah (Qp Ck (Ag (AW.seq (A3 (fun hc2=>?_) fun hc2=>?_))))
    ·
     obtain ⟨f,hf⟩:=B7 hc2
     have hltf:=Bb hf
     refine By (AW.seq (AW.block (Ah ?_)))
     refine Qp (Af (c:=[.str _,Iq _]) Ai rfl rfl rfl rfl rfl rfl (by omega) (Bo hf)) ?_
     refine Qp (Cv [.str _,Iq _]) ?_
     refine Qe (Am (l:=[.str [],.int .i64 0]) (by kernel_rfl)) ?_
     rintro _ _ ⟨b12,rfl,rfl⟩
     refine Cz 0 [.str _,Iq _] (_::_::_::_::_::_) ?_
     refine AOL.ghost (GS.Aac (t:=12) 0 rfl rfl) ?_
     refine Ag (AW.region (Qp H9 ?_))
     refine AOL.Aah (Ao (k:=1) (c:=.val _) Ai rfl rfl rfl rfl) rfl rfl ?_
     refine Qp (Qf [Iq _]) (Qp Bp (Qp (Fr [Iq _,Iq _,.str _]) ?_))
     refine Qp (A2 (es:=[[Iq _,Iq _,.str _]]) Ai rfl rfl rfl rfl rfl rfl rfl rfl rfl) ?_
     refine Qe (Ks.bufs (Ty (k:=0) Ai rfl rfl rfl rfl rfl rfl rfl rfl (rfl) (by simp;omega) (by simp [maxLen];omega))) ?_
     rintro _ _ ⟨⟨v45,rfl,rfl⟩,hbs45⟩
     have hu2:=hbs45 v45 _ _ _ (List.mem_of_getElem? (i:=0) rfl)
     refine Qp H9 ?_
     refine Qe (Df (k:=1) (v:=.val _) (cs':=[Iq _,Iq _,Iq _,Iq _,_]) (H2:=_::_::_::_::_) Ai rfl rfl rfl rfl ((by simp [C0,Bc,Qj,hu2])) rfl rfl rfl rfl) ?_
     rintro _ _ ⟨rfl,rfl⟩
     refine AOL.nil (Bv (Ae (AW.region (Qp F7 (Qp A0 (Ag ?_))))))
     refine ⟨(q.1+1,v45,q.2.2 ++ [cV (zV f)]),?_,?_,GS.weaken ⟨rfl,rfl,rfl,rfl,rfl,rfl,rfl,rfl,rfl,rfl,rfl,rfl,trivial⟩ (.refl _)⟩
     · exact ⟨hltf,by simp only;rw [C9 hf,List.map_append,List.map_append,hQ.2];rfl⟩
     · simp only;omega
    ·
     have htf:=C5 hc2
     have hE:=hQ.2
     rw [htf] at hE
     have hrows:q.2.2=(Xv T k1 va).values.map cV:=hE.trans (congrArg (List.map cV) (fJ hsc).symm)
     refine AW.exit ?_
     refine A5 (A5 (Bx (Ae ?_)))
     refine AW.bufOne 0 rfl fun hu=>?_
     refine AW.region ?_
     refine AOL.Aah (Ao (k:=3) (c:=.val _) Ai rfl rfl rfl rfl) rfl rfl ?_
     refine AOL.Aah (Bs (k:=1) (l:=[Iq _,Iq _,Iq _,Iq _,_]) Ai rfl rfl rfl rfl rfl) rfl rfl ?_
     refine Qp (A2 (es:=[[Iq _,Iq _,Iq _,Iq _,_]]) Ai rfl rfl rfl rfl rfl rfl (lit1 rfl rfl (by simp [Bc,Qj,hu])) rfl rfl) ?_
     refine Qe (Ks.bufs (Ty (k:=2) Ai rfl rfl rfl rfl rfl rfl rfl rfl ((by simp [Bc,Qj,hu])) (by simp;omega) (by simp [maxLen];omega))) ?_
     rintro _ _ ⟨⟨v51,rfl,rfl⟩,hbs51⟩
     have hu3:=hbs51 v51 _ _ _ (List.mem_of_getElem? (i:=2) rfl)
     refine Qe (Df (k:=3) (v:=.val _) (cs':=[_]) (H2:=_::_::_::_::_) Ai rfl rfl rfl rfl ((by simp [C0,Bc,Qj,hu3])) rfl rfl rfl rfl) ?_
     rintro _ _ ⟨rfl,rfl⟩
     refine AOL.nil (Bv (Ae (AW.region (Qp F7 (Qp A0 (Ag ?_))))))
     refine ⟨(k1+1,v51,l1 ++ [(Xv T k1 va,q.2.1)]),?_,?_,GS.trans (GS.perm (wG (e:=Xv T k1 va) hrows)) (GS.weaken ⟨rfl,rfl,rfl,rfl,rfl,rfl,rfl,trivial⟩ (.cons _ (.refl _)))⟩
     · exact ⟨hlt,by simp only;rw [C9 hva,eP,List.map_append,hR.2,List.length_take,Nat.min_eq_left hk1,Nat.zero_add];rfl⟩
     · simp only;omega
  ·
   have hte:=C5 hc1
   have hbe:=hR.2
   rw [hte] at hbe
   have hvlen:l1.length=V.length:=by have:=congrArg List.length hbe;rw [Oo] at this;simpa using this
   refine AW.exit ?_
   refine A5 (A5 (Bx (Ae (AW.seq (Ah (Qp (Qf [_,_,_]) (Qp Qlp ?_)))))))
   refine Qp (Iz rfl) ?_
   refine Qp (Qf [_,_]) (Qp Ee ?_)
   refine Qp (Al (n:=(Cp T V l).ts.length) Ai rfl rfl rfl (by simp)) ?_
   refine Qp A0 (Ag (AW.block ?_))
   refine AW.Aad (fun (o:Nat×Es)=>(⟨[(1,.sl 9 (l.map H7)),(3,.ptr (Cw T V)),(5,.ptr [.ptr (qP T V l),.sl 1 (vals.map cI),.val (.map (some m))]),(7,.val (.pointer (some ⟨b7,0,none⟩))),(57,.sl 3 ((Cp T V l).ts.map Hz)),(58,.int .i64 (Cp T V l).ts.length),(59,.int .i64 (o.1:Int))],.buf v1 (o.2.map Cn) 66 5 :: .box b7 39 [.val v1]::(o.2.map Fp++(.kmap m (wE w)::H)),102⟩:St)) (fun (o:Nat×Es)=>o.1≤(Cp T V l).ts.length∧Gf vals 0 (Cp T V l).ts (Ha T 0 V)=Gf vals o.1 ((Cp T V l).ts.drop o.1) (o.2.map Prod.fst)∧evOK T V (o.2.map Prod.fst)) (fun (o:Nat×Es)=>(Cp T V l).ts.length-o.1) ((0,l1)) ?_ (GS.weaken ⟨rfl,rfl,rfl,rfl,rfl,rfl,rfl,trivial⟩ (.refl _)) ?_
   · exact ⟨Nat.zero_le _,by simp only;rw [hbe];rfl,by simp only;rw [hbe];exact iI⟩
   ·
    rintro ⟨k2,l2⟩ hO
    refine Ah (Qp Ck (Ag (AW.seq (A3 (fun hc3=>?_) fun hc3=>?_))))
    ·
     obtain ⟨t,ht⟩:=B7 hc3
     have hltt:=Bb ht
     have htm:=iZ hlk t (List.mem_of_getElem? ht)
     refine By (AW.seq (AW.block (Ah (Qp A0 ?_))))
     refine Qp (Af (c:=[Iq _,Iq _,Iq _]) Ai rfl rfl rfl rfl rfl rfl (by omega) (Bo ht)) ?_
     refine Qp (Cv [Iq _,Iq _,Iq _]) ?_
     refine Qe (Am (l:=[.int .i64 0,.int .i64 0,.int .i64 0]) (by kernel_rfl)) ?_
     rintro _ _ ⟨b14,rfl,rfl⟩
     refine Qp Ar ?_
     refine Cz 0 [Iq _,Iq _,Iq _] (_::_::_::_) ?_
     refine AOL.ghost (GS.Aac (t:=14) 0 rfl rfl) ?_
     refine Do (Qp (Qf [Iq _,Iq _,Iq _]) (Qp Bp (Qp A6 (Ag (A3 (fun hc4=>?_) fun hc4=>?_)))))
     ·
      refine (iQ hO.2.2 htm).elim fun e he=>he.elim fun u hu=>?_
      have hj:=hu.1
      have hel:=hu.2.1
      have hll9:l2.length=V.length:=hu.2.2
      have hv0:=htm.v0
      have hv1:=htm.v1
      refine AW.unbuf (v:=v1) (es:=l2.map Cn) (E:=66) (z:=5) 0 rfl (Wl hj) fun bb cap J hub hcap hcm hJ hzo=>?_
      subst hub
      have hrow:(l2.map Cn)[t.v.toNat]? = some (Cn (e,u)):=by rw [List.getElem?_map,hj];rfl
      refine AW.draw mixed (fun H'=>_∈H') (List.mem_of_getElem? (i:=1) rfl) (by kernel_rfl) ?_
      refine Qn 0 rfl (OpP.Aag (fun k=>Ao (k:=k) (c:=.val _) Ai rfl rfl rfl rfl) (fun _ h=>h)) ?_
      refine Qn 1 rfl (Qf [Iq _,Iq _]) (Qn 2 rfl Bp (Qn 3 rfl (Qf [_,_]) (Qn 4 rfl Ee (Qn 5 rfl A0 (Qn 6 rfl F7 ?_)))))
      refine Qn 7 rfl (Af (c:=[Iq _]) Ai rfl rfl rfl rfl rfl rfl (by omega) (kY (by omega))) ?_
      refine Qn 8 rfl Bp ?_
      refine Qn 9 rfl (B6 (o':=t.v.toNat*5) Ai rfl rfl rfl rfl rfl (hv0) (by rw [List.length_map];omega) (Nat.zero_add _)) ?_
      refine Qn 10 rfl H9 ?_
      refine Jb.last _ _ 11 _ _ rfl (by kernel_rfl) rfl rfl (Df (k:=0) (v:=Iq _) (cs':=_) (H2:=_::_::_) Ai rfl rfl rfl rfl rfl rfl (S7 (o:=3) (Jf _) hrow (by decide)) (Rl (o:=3) (e:=Cn (e,u)) (Jf _) hrow (by decide)) rfl) (by kernel_rfl) ?_
      rintro _ _ ⟨rfl,rfl⟩
      refine Bv (Ae (AW.region (Qp F7 (Qp A0 (Ag ?_)))))
      refine ⟨(k2+1,l2.modify t.v.toNat fun p=>({ p.1 with time:=D7 vals ((k2:Int)+1) },p.2)),?_,?_,GS.trans (evTime hj hcap hcm hJ) (GS.weaken ⟨rfl,rfl,rfl,rfl,rfl,rfl,rfl,trivial⟩ (.refl _))⟩
      · exact ⟨hltt,hO.2.1.trans ((Vn ht).trans (congrArg (Gf vals (k2+1) _) (Zl hc4).symm)),by simp only;rw [Zl hc4];exact Ur hO.2.2 t _⟩
      · simp only;omega
     ·
      refine (iQ hO.2.2 htm).elim fun e he=>he.elim fun u hu=>?_
      have hj:=hu.1
      have hel:=hu.2.1
      have hll9:l2.length=V.length:=hu.2.2
      have hv0:=htm.v0
      have hv1:=htm.v1
      have ho1:t.op=1:=htm.op.resolve_right (by simpa using hc4)
      have hfr:=htm.f ho1
      refine (mD htm ho1 hel).elim fun y hy=>?_
      have hyl:=Bb hy
      refine AW.ghost (GS.perm (kA hj)) ?_
      refine AW.unbuf (v:=u) (es:=e.values.map cV) (E:=28) (z:=3) 0 rfl (Wl hy) fun bi capi Ji hui hcapi hcmi hJi hzi=>?_
      subst hui
      refine AW.unbuf (v:=v1) (es:=l2.map Cn) (E:=66) (z:=5) 1 rfl (Wl hj) fun bb cap J hub hcap hcm hJ hzo=>?_
      subst hub
      have hrow:(l2.map Cn)[t.v.toNat]? = some (Cn (e,.slice (some ⟨bi,0,none⟩) (e.values.map cV).length capi)):=by rw [List.getElem?_map,hj];rfl
      refine AW.draw mixed (fun H'=>_∈H'∧_∈H') ⟨(List.mem_of_getElem? (i:=2) rfl),(List.mem_of_getElem? (i:=1) rfl)⟩ (by kernel_rfl) ?_
      refine Qn 0 rfl (OpP.Aag (fun k=>Ao (k:=k) (c:=.val _) Ai rfl rfl rfl rfl) (fun _ h=>h.1)) ?_
      refine Qn 1 rfl (Qf [Iq _,Iq _]) (Qn 2 rfl Bp ?_)
      refine Qn 3 rfl (B6 (o':=t.v.toNat*5) Ai rfl rfl rfl rfl rfl (hv0) (by rw [List.length_map];omega) (Nat.zero_add _)) ?_
      refine Qn 4 rfl H9 ?_
      refine Qn 5 rfl (OpP.Aag (fun k=>Ao (k:=k) (c:=.val (.slice (some ⟨bi,0,none⟩) (e.values.map cV).length capi)) Ai rfl rfl rfl (Vw (o:=4) (Jf l2) hrow rfl)) (fun _ h=>h.2)) ?_
      refine Qn 6 rfl (Qf [Iq _]) (Qn 7 rfl Bp (Qn 8 rfl (Qf [_,_]) (Qn 9 rfl Ee (Qn 10 rfl A0 (Qn 11 rfl F7 ?_)))))
      refine Qn 12 rfl (Af (c:=[Iq _]) Ai rfl rfl rfl rfl rfl rfl (by omega) (kY (by omega))) ?_
      refine Qn 13 rfl Bp ?_
      refine Qn 14 rfl (B6 (o':=t.field.toNat*3) Ai rfl rfl rfl rfl rfl (hfr.1) (by rw [List.length_map];omega) (Nat.zero_add _)) ?_
      refine Qn 15 rfl H9 ?_
      refine Jb.last _ _ 16 _ _ rfl (by kernel_rfl) rfl rfl (Df (k:=0) (v:=Iq _) (cs':=_) (H2:=_::_::_::_) Ai rfl rfl rfl rfl rfl rfl (S7 (o:=1) (Nu _) (by rw [List.getElem?_map,hy];rfl) (by decide)) (Rl (o:=1) (e:=cV y) (x:=.int .i64 (D7 vals ((k2:Int)+1))) (Nu _) (by rw [List.getElem?_map,hy];rfl) (by decide)) rfl) (by kernel_rfl) ?_
      rintro _ _ ⟨rfl,rfl⟩
      refine Bv (Ae (AW.region (Qp F7 (Qp A0 (Ag ?_)))))
      refine ⟨(k2+1,l2.modify t.v.toNat fun p=>(Uh p.1 t.field.toNat (fun y=>{ y with num:=D7 vals ((k2:Int)+1) }),p.2)),?_,?_,GS.trans (vD hj hy (f:=fun y=>{ y with num:=D7 vals ((k2:Int)+1) }) rfl hcap hcm hJ hcapi hcmi hJi) (GS.weaken ⟨rfl,rfl,rfl,rfl,rfl,rfl,rfl,trivial⟩ (.refl _))⟩
      · exact ⟨hltt,hO.2.1.trans ((Vn ht).trans (congrArg (Gf vals (k2+1) _) (dE hc4).symm)),by simp only;rw [dE hc4];exact Ur hO.2.2 t _⟩
      · simp only;omega
    ·
     have hde:=C8 hc3
     have hnum:=hO.2.1
     rw [hde] at hnum
     refine AW.exit ?_
     refine A5 (A5 (Bx (Ae (Ah (Qp (Cv [_,_]) (Qp Dt (Qp (Qf [_]) (Qp Qlv ?_))))))))
     refine Qp (A9 (l:=[]) (l':=[.val _]) rfl rfl) ?_
     refine Qe (E5 (by kernel_rfl) rfl rfl (d_name T V l hlk hll m w hw b7 v1 l2 hO.2.2 _)) ?_
     rintro _ _ ⟨l3,hl3,hev3,rfl,rfl⟩
     refine Do ?_
     refine AOL.Aah (Ao (k:=1) (c:=.val _) Ai rfl rfl rfl rfl) rfl rfl ?_
     refine Qp N2 ?_
     refine AOL.ghost (GS.freezeEvs (t:=6) rfl) ?_
     refine Ag (AW.ret ?_)
     refine ⟨.inr rfl,[.sl _ _],.cons (.tmp _ _ rfl) <| .nil,_,.cons _ (.refl _),?_⟩
     exact ⟨congrArg (fun q:List Ev=>AV.sl 5 (q.map Rz)) (hl3.trans (congrArg (aT T V w l) hnum.symm)),rfl⟩

end Go.Proofs.YtjedflcpjlgokaaGreatDoor
