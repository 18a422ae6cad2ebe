/-
  Several texts in one: W6, W8. No condition.
-/
import Derived.Test.YtkddpedfbicbeaaGreatDoorAz
import Derived.Test.YtkddpedfbicbeaaGreatDoorK10
import Derived.KernelRfl
set_option linter.unusedVariables false
set_option linter.unusedSimpArgs false
namespace Go.Proofs.YtkddpedfbicbeaaGreatDoor
open Go Go.Aw
set_option maxHeartbeats 400000
set_option maxRecDepth 20000

theorem c98 (op:Int):Ar Tryz.prog 151 [.int .i64 op] (.int .i64 (Gb op)):=by
  refine Ar.body (n:=13) Ai Tryz.func151 rfl rfl rfl fun H=>?_
  refine AW.seq (AW.region (Qp Ap (AOL.nil (Ae (AW.seq (AW.seq (AW.region (Qp Az (AOL.nil ?_)))))))))
  refine Ae (AW.block ?_)
  refine AW.cut (fun (_:Unit)=>(⟨[(0,.int .i64 op),(3,.int .i64 op),(4,.bool (op==5||op==6||op==7||op==8))],H,13⟩:St)) (fun (_:Unit)=>True) ?_ ?_
  · skip
    refine AW.seq (AW.region (Qp A6 (Qp Bc (AOL.nil (Ae (A2 (fun hc1=>?_) fun hc1=>?_))))))
    · skip
      refine Bv ?_
      refine ⟨(),?_,GS.weaken ⟨rfl,rfl,congrArg AV.bool (by simp [N6, *]),trivial⟩ (.refl _)⟩
      trivial
    · skip
      refine AW.seq (AW.region (Qp A6 (Qp Bc (AOL.nil (Ae (A2 (fun hc2=>?_) fun hc2=>?_))))))
      · skip
        refine Bv ?_
        refine ⟨(),?_,GS.weaken ⟨rfl,rfl,congrArg AV.bool (by simp [N6, *]),trivial⟩ (.refl _)⟩
        trivial
      · skip
        refine AW.seq (AW.region (Qp A6 (Qp Bc (AOL.nil (Ae (A2 (fun hc3=>?_) fun hc3=>?_))))))
        · skip
          refine Bv ?_
          refine ⟨(),?_,GS.weaken ⟨rfl,rfl,congrArg AV.bool (by simp [N6, *]),trivial⟩ (.refl _)⟩
          trivial
        · skip
          refine AW.region (Qp A6 (Qp Bc (AOL.nil (Ae ?_))))
          refine ⟨(),?_,GS.weaken ⟨rfl,rfl,congrArg AV.bool (by simp [N6, *]),trivial⟩ (.refl _)⟩
          trivial
  · rintro _ _
    refine A2 (fun hc4=>?_) fun hc4=>?_
    · skip
      refine AW.seq (AW.region (Qp Ap (AOL.nil (Ae (AW.ret (A9 (Al ?_)))))))
      refine Qr (Iq _) ?_
      try simp only [Cx,Bool.and_true] at *
      first
        | (simp only [Ad,Gb];(first | rw [if_pos hc4] | skip);first | done | rfl)
        | (try simp only [Bool.not_eq_true',Bool.not_eq_false'] at *
           first
           | (simp only [Ad,Gb, *,Bool.false_eq_true,↓reduceIte,Bool.true_or,Bool.or_true,Bool.false_or,Bool.or_false,Bool.true_and,Bool.and_true,Bool.false_and,Bool.and_false,Bool.not_true,Bool.not_false];done)
           | (simp [Ad,Gb, *];done)
           | (simp_all [Ad,Gb];done))
        | skip
    · skip
      refine AW.cut (fun (_:Unit)=>(⟨[(0,.int .i64 op),(3,.int .i64 op),(9,.bool (op==10||op==11||op==12))],H,13⟩:St)) (fun (_:Unit)=>True) ?_ ?_
      · skip
        refine AW.seq (AW.region (Qp A6 (Qp Bc (AOL.nil (Ae (A2 (fun hc5=>?_) fun hc5=>?_))))))
        · skip
          refine Bv ?_
          refine ⟨(),?_,GS.weaken ⟨rfl,rfl,congrArg AV.bool (by simp [N6, *]),trivial⟩ (.refl _)⟩
          trivial
        · skip
          refine AW.seq (AW.region (Qp A6 (Qp Bc (AOL.nil (Ae (A2 (fun hc6=>?_) fun hc6=>?_))))))
          · skip
            refine Bv ?_
            refine ⟨(),?_,GS.weaken ⟨rfl,rfl,congrArg AV.bool (by simp [N6, *]),trivial⟩ (.refl _)⟩
            trivial
          · skip
            refine AW.region (Qp A6 (Qp Bc (AOL.nil (Ae ?_))))
            refine ⟨(),?_,GS.weaken ⟨rfl,rfl,congrArg AV.bool (by simp [N6, *]),trivial⟩ (.refl _)⟩
            trivial
      · rintro _ _
        refine A2 (fun hc7=>?_) fun hc7=>?_
        · skip
          refine AW.seq (AW.region (Qp Ap (AOL.nil (Ae (AW.ret (A9 (Al ?_)))))))
          refine Qr (Iq _) ?_
          try simp only [Cx,Bool.and_true] at *
          first
            | (simp only [Ad,Gb];(first | rw [iN hc4] | skip);(first | rw [if_pos hc7] | skip);first | done | rfl)
            | (try simp only [Bool.not_eq_true',Bool.not_eq_false'] at *
               first
               | (simp only [Ad,Gb, *,Bool.false_eq_true,↓reduceIte,Bool.true_or,Bool.or_true,Bool.false_or,Bool.or_false,Bool.true_and,Bool.and_true,Bool.false_and,Bool.and_false,Bool.not_true,Bool.not_false];done)
               | (simp [Ad,Gb, *];done)
               | (simp_all [Ad,Gb];done))
            | skip
        · skip
          refine AW.skip (Bp (Ae (AW.seq (AW.region (Qp Ap (AOL.nil (Ae (AW.ret ?_))))))))
          refine Qr (Iq _) ?_
          try simp only [Cx,Bool.and_true] at *
          first
            | (simp only [Ad,Gb];(first | rw [iN hc4] | skip);(first | rw [iN hc7] | skip);first | done | rfl)
            | (try simp only [Bool.not_eq_true',Bool.not_eq_false'] at *
               first
               | (simp only [Ad,Gb, *,Bool.false_eq_true,↓reduceIte,Bool.true_or,Bool.or_true,Bool.false_or,Bool.or_false,Bool.true_and,Bool.and_true,Bool.false_and,Bool.and_false,Bool.not_true,Bool.not_false];done)
               | (simp [Ad,Gb, *];done)
               | (simp_all [Ad,Gb];done))
            | skip
theorem c73 (op:Int)(ks:List Int):Ar Tryz.prog 116 [.int .i64 op,.sl 1 (ks.map fun k=>[.int .i64 k])] (.int .i64 (Dp op ks)):=by
 refine Ar.body (n:=39) Ai Tryz.func116 rfl rfl rfl fun H=>?_
 refine Ah (Qp Ap (Ag (AW.seq (Ah (Qp Ap (Ag (AW.block ?_)))))))
 refine AW.sllen 1 rfl fun hlen=>?_
 simp only [List.length_map,maxLen] at hlen
 refine AW.Aau (fun (p:Nat)=>(⟨[(0,.int .i64 op),(1,.sl 1 (ks.map fun k=>[.int .i64 k])),(5,.int .i64 (p:Int))],H,39⟩:St)) (fun (p:Nat)=>p≤ks.length∧Dp op ks=Aq (fun k=>if N6 op k (ks.headD 0) then 0 else 9) (ks.drop p)) (fun (p:Nat)=>ks.length-p) (0) ?_ (GS.weaken ⟨rfl,rfl,rfl,trivial⟩ (.refl _)) ?_
 · exact ⟨Nat.zero_le _,rfl⟩
 ·
  rintro p hR
  refine AW.seq (Ah (Qp Az (Qp C5 ?_)))
  refine Qp (Ak (n:=ks.length) Ai rfl rfl rfl (by simp)) ?_
  refine Qp Cf (Ag (A2 (fun hc1=>?_) fun hc1=>?_))
  ·
   obtain ⟨a,ha⟩:=B1 hc1
   have hlt:=A8 ha
   have hm:=List.mem_of_getElem? ha
   obtain ⟨a0,ha0⟩:∃a0,ks[0]? = some a0:=⟨_,List.getElem?_eq_getElem (by omega)⟩
   have hhd:ks.headD 0=a0:=by cases ks <;> simp_all
   refine Bv (AW.seq (AW.block (Ah (Qp Az ?_))))
   refine Qp (Qc rfl (c98 op)) ?_
   refine Qp Ap (Ag (AW.seq ?_))
   refine AW.draw mixed (fun _=>True) trivial (by kernel_rfl) ?_
   refine Qn 0 rfl Az (Qn 1 rfl Ob (Qn 2 rfl Bm (Qo 3 rfl [] Qw C5 (Qo 4 rfl [] Qw Az ?_))))
   refine Js.pure _ _ 5 _ _ rfl (by kernel_rfl) (by kernel_rfl) rfl (.opt _ (.ptr _) [(18,_),(19,_)] rfl (sB.all ⟨tO.self _ _,tO.self _ _,trivial⟩) (fun hG=>Af (c:=[Iq _]) Ai rfl rfl rfl rfl rfl rfl (by omega) (Bg (f:=fun k=>[AV.int .i64 k]) ha)) rfl) ?_
   refine Qo 6 rfl [(20,_)] Qw Br (Qo 7 rfl [] Qw Az ?_)
   refine Js.pure _ _ 8 _ _ rfl (by kernel_rfl) (by kernel_rfl) rfl (.opt _ (.bool _) [(21,_),(22,_)] rfl (sB.all ⟨tO.self _ _,tO.self _ _,trivial⟩) (fun hG=>O5 rfl rfl) rfl) ?_
   refine Qn 9 rfl Em (Qn 10 rfl Bm (Qo 11 rfl [] Qw Az (Qo 12 rfl [(26,_)] Qw A6 (Qo 13 rfl [(27,_)] Qw Bm (Qo 14 rfl [] Qw C5 (Qo 15 rfl [] Qw Az ?_))))))
   refine Js.pure _ _ 16 _ _ rfl (by kernel_rfl) (by kernel_rfl) rfl (.opt _ (.ptr _) [(29,_),(30,_)] rfl (sB.all ⟨tO.self _ _,tO.self _ _,trivial⟩) (fun hG=>Af (c:=[Iq _]) Ai rfl rfl rfl rfl rfl rfl (by omega) (Bg (f:=fun k=>[AV.int .i64 k]) ha)) rfl) ?_
   refine Qo 17 rfl [(31,_)] Qw Br (Qo 18 rfl [] Qw C5 ?_)
   refine Js.pure _ _ 19 _ _ rfl (by kernel_rfl) (by kernel_rfl) rfl (.opt _ (.ptr _) [(33,_)] rfl (sB.all ⟨tO.self _ _,trivial⟩) (fun hG=>Af (c:=[Iq _]) Ai rfl rfl rfl rfl rfl rfl (by omega) (Bg (f:=fun k=>[AV.int .i64 k]) ha0)) rfl) ?_
   refine Qo 20 rfl [(34,_)] Qw Br ?_
   refine Js.pure _ _ 21 _ _ rfl (by kernel_rfl) (by kernel_rfl) rfl (.opt _ (.bool _) [(32,_),(35,_)] rfl (sB.all ⟨tO.self _ _,tO.self _ _,trivial⟩) (fun hG=>O5 rfl rfl) rfl) ?_
   refine Qo 22 rfl [(28,_),(36,_)] Qw Em (Qn 23 rfl Ek ?_)
   refine Js.done _ _ (by kernel_rfl) ?_
   refine Ae (A2 (fun hc2=>?_) fun hc2=>?_)
   ·
    rw [aW] at hc2
    have hok:N6 op a a0=false:=by simpa using hc2
    refine Ah (Qp Ap (Ag (AW.ret (A9 (Al (Al (A9 (Al ?_))))))))
    refine Qr (Iq _) ?_
    simp only [Ad,AV.int.injEq,true_and]
    rw [hR.2,A5 ha,Aq,hhd];simp [hok]
   ·
    rw [aW] at hc2
    have hok:N6 op a a0=true:=by simpa using hc2
    refine AW.skip (Bp (Ae (AW.region (Qp Az (Qp Fu (Qp Ap (Ag ?_)))))))
    refine ⟨p+1,?_,?_,GS.weaken ⟨rfl,rfl,rfl,trivial⟩ (.refl _)⟩
    · exact ⟨hlt,by rw [hR.2,A5 ha,Aq,hhd];simp [hok]⟩
    · first | omega | (simp only;omega)
  ·
   have hd:=Df hc1
   refine AW.exit ?_
   refine A3 (A3 (Bq (Ae (Ah (Qp Ap (Ag (AW.ret ?_)))))))
   refine Qr (Iq _) ?_
   simp only [Ad,AV.int.injEq,true_and]
   rw [hR.2,hd];rfl
theorem c65 (a b:Int):Ar Tryz.prog 121 [.int .i64 a,.int .i64 b] (.agg (cV (Gv 7 a b))):=by
 refine Ar.body (n:=9) Ai Tryz.func121 rfl rfl rfl fun H=>?_
 refine Ah ?_
 refine Qe (Aj (l:=[.int .i64 0,.int .i64 0,.str []]) (by kernel_rfl)) ?_
 rintro _ _ ⟨b4,rfl,rfl⟩
 refine Db (Qp Az (Qp Az (Qp Cf ?_)))
 refine Qp (Qc rfl (c42 _)) ?_
 refine Cq 0 [Iq _,Iq _,.str _] (_::_) ?_
 refine Ag (AW.ret ?_)
 refine ⟨.inr rfl,[.agg [Iq _,Iq _,.str _]],.cons (.box _ _ _ 0 _ _ _ _ rfl rfl rfl rfl rfl rfl) <| .nil,.cons _ (.refl _),?_⟩
 rfl
theorem c66 (a b:Int):Ar Tryz.prog 122 [.int .i64 a,.int .i64 b] (.agg (cV (Gv 8 a b))):=by
 refine Ar.body (n:=9) Ai Tryz.func122 rfl rfl rfl fun H=>?_
 refine Ah ?_
 refine Qe (Aj (l:=[.int .i64 0,.int .i64 0,.str []]) (by kernel_rfl)) ?_
 rintro _ _ ⟨b4,rfl,rfl⟩
 refine Db (Qp Az (Qp Az (Qp Mt ?_)))
 refine Qp (Qc rfl (c42 _)) ?_
 refine Cq 0 [Iq _,Iq _,.str _] (_::_) ?_
 refine Ag (AW.ret ?_)
 refine ⟨.inr rfl,[.agg [Iq _,Iq _,.str _]],.cons (.box _ _ _ 0 _ _ _ _ rfl rfl rfl rfl rfl rfl) <| .nil,.cons _ (.refl _),?_⟩
 rfl
theorem c67 (a b:Int):Ar Tryz.prog 123 [.int .i64 a,.int .i64 b] (.agg (cV (Gv 10 a b))):=by
 refine Ar.body (n:=12) Ai Tryz.func123 rfl rfl rfl fun H=>?_
 refine Ah ?_
 refine Qe (Aj (l:=[.int .i64 0,.int .i64 0,.str []]) (by kernel_rfl)) ?_
 rintro _ _ ⟨b4,rfl,rfl⟩
 refine Db (Qp Az (Qp A6 (Qp Bm (Qg [] Qw Az (Qg [(8,_)] Qw A6 (Qp Em ?_))))))
 refine Qp (Qc rfl (c42 _)) ?_
 refine Cq 0 [Iq _,Iq _,.str _] (_::_) ?_
 refine Ag (AW.ret ?_)
 refine ⟨.inr rfl,[.agg [Iq _,Iq _,.str _]],.cons (.box _ _ _ 0 _ _ _ _ rfl rfl rfl rfl rfl rfl) <| .nil,.cons _ (.refl _),?_⟩
 rfl
theorem c68 (a b:Int):Ar Tryz.prog 124 [.int .i64 a,.int .i64 b] (.agg (cV (Gv 11 a b))):=by
 refine Ar.body (n:=12) Ai Tryz.func124 rfl rfl rfl fun H=>?_
 refine Ah ?_
 refine Qe (Aj (l:=[.int .i64 0,.int .i64 0,.str []]) (by kernel_rfl)) ?_
 rintro _ _ ⟨b4,rfl,rfl⟩
 refine Db (Qp Az (Qp A6 (Qp Bm (Qg [] Qw Az (Qg [(8,_)] Qw A6 (Qp Ek ?_))))))
 refine Qp (Qc rfl (c42 _)) ?_
 refine Cq 0 [Iq _,Iq _,.str _] (_::_) ?_
 refine Ag (AW.ret ?_)
 refine ⟨.inr rfl,[.agg [Iq _,Iq _,.str _]],.cons (.box _ _ _ 0 _ _ _ _ rfl rfl rfl rfl rfl rfl) <| .nil,.cons _ (.refl _),?_⟩
 rfl
theorem c69 (a b:Int):Ar Tryz.prog 125 [.int .i64 a,.int .i64 b] (.agg (cV (Gv 12 a b))):=by
 refine Ar.body (n:=8) Ai Tryz.func125 rfl rfl rfl fun H=>?_
 refine Ah ?_
 refine Qe (Aj (l:=[.int .i64 0,.int .i64 0,.str []]) (by kernel_rfl)) ?_
 rintro _ _ ⟨b4,rfl,rfl⟩
 refine Db (Qp Az (Qp Ci ?_))
 refine Qp (Qc rfl (c42 _)) ?_
 refine Cq 0 [Iq _,Iq _,.str _] (_::_) ?_
 refine Ag (AW.ret ?_)
 refine ⟨.inr rfl,[.agg [Iq _,Iq _,.str _]],.cons (.box _ _ _ 0 _ _ _ _ rfl rfl rfl rfl rfl rfl) <| .nil,.cons _ (.refl _),?_⟩
 rfl
theorem c62 (n:Int):Ar Tryz.prog 118 [.int .i64 n] (.agg (cV ⟨0,n,[]⟩)):=by
 refine Ar.body (n:=5) Ai Tryz.func118 rfl rfl rfl fun H=>?_
 refine Ah ?_
 refine Qe (Aj (l:=[.int .i64 0,.int .i64 0,.str []]) (by kernel_rfl)) ?_
 rintro _ _ ⟨b2,rfl,rfl⟩
 refine Db (Qp Az (Qp (El [Iq _,Iq _,.str _]) ?_))
 refine Cq 0 [Iq _,Iq _,.str _] (_::_) ?_
 refine Ag (AW.ret ?_)
 refine ⟨.inr rfl,[.agg [Iq _,Iq _,.str _]],.cons (.box _ _ _ 0 _ _ _ _ rfl rfl rfl rfl rfl rfl) <| .nil,.cons _ (.refl _),?_⟩
 rfl
theorem c63 (a b:Int):Ar Tryz.prog 119 [.int .i64 a,.int .i64 b,.ptr [.fn (.func 118) [] []]] (.agg (cV (Gv 5 a b))):=by
 refine Ar.body (n:=11) Ai Tryz.func119 rfl rfl rfl fun H=>?_
 refine Ah ?_
 refine Qe (Aj (l:=[.int .i64 0,.int .i64 0,.str []]) (by kernel_rfl)) ?_
 rintro _ _ ⟨b5,rfl,rfl⟩
 refine Db ?_
 refine Qp (D9 (c:=.fn _ _ _) Ai rfl rfl rfl) ?_
 refine Qp Az (Qp Az ?_)
 refine Qp (cF rfl rfl) ?_
 refine Qp (D4 (by kernel_rfl) rfl rfl rfl (c62 _)) ?_
 refine Cq 0 [Iq _,Iq _,.str _] (_::_) ?_
 refine Ag (AW.ret ?_)
 refine ⟨.inr rfl,[.agg [Iq _,Iq _,.str _]],.cons (.box _ _ _ 0 _ _ _ _ rfl rfl rfl rfl rfl rfl) <| .nil,.cons _ (.refl _),?_⟩
 rfl
theorem c64 (a b:Int):Ar Tryz.prog 120 [.int .i64 a,.int .i64 b,.ptr [.fn (.func 118) [] []]] (.agg (cV (Gv 6 a b))):=by
 refine Ar.body (n:=11) Ai Tryz.func120 rfl rfl rfl fun H=>?_
 refine Ah ?_
 refine Qe (Aj (l:=[.int .i64 0,.int .i64 0,.str []]) (by kernel_rfl)) ?_
 rintro _ _ ⟨b5,rfl,rfl⟩
 refine Db ?_
 refine Qp (D9 (c:=.fn _ _ _) Ai rfl rfl rfl) ?_
 refine Qp Az (Qp Az ?_)
 refine Qp (vP rfl rfl) ?_
 refine Qp (D4 (by kernel_rfl) rfl rfl rfl (c62 _)) ?_
 refine Cq 0 [Iq _,Iq _,.str _] (_::_) ?_
 refine Ag (AW.ret ?_)
 refine ⟨.inr rfl,[.agg [Iq _,Iq _,.str _]],.cons (.box _ _ _ 0 _ _ _ _ rfl rfl rfl rfl rfl rfl) <| .nil,.cons _ (.refl _),?_⟩
 rfl
theorem c39  : Ar Tryz.prog 76 [] (.mapv OPS):=by
 refine Ar.body (n:=6) Ai Tryz.func76 rfl rfl rfl fun H=>?_
 refine Ah (Qp Oc (Db ?_))
 refine Qe (Aj (l:=[.val .nilFunc]) (by kernel_rfl)) ?_
 rintro _ _ ⟨b1,rfl,rfl⟩
 refine Cq 0 [_] (_::_) ?_
 refine AOL.ghost (GS.Aat (t:=1) 0 rfl rfl) ?_
 refine Db ?_
 refine Qe (tE) ?_
 rintro _ _ ⟨b2,rfl,rfl⟩
 refine Qp (Be (l:=[]) (l':=[.ptr _]) rfl rfl) ?_
 refine Qe (Lf (i:=0) (x:=.fn _ _ _) (H2:=_::_) Ai rfl rfl rfl rfl rfl rfl rfl rfl rfl rfl) ?_
 rintro _ _ ⟨rfl,rfl⟩
 refine Qp (Be (l:=[]) (l':=[.ptr _]) rfl rfl) ?_
 refine Qe (Lf (i:=0) (x:=.fn _ _ _) (H2:=_::_) Ai rfl rfl rfl rfl rfl rfl rfl rfl rfl rfl) ?_
 rintro _ _ ⟨rfl,rfl⟩
 refine Qe (Lf (i:=0) (x:=.fn _ _ _) (H2:=_::_) Ai rfl rfl rfl rfl rfl rfl rfl rfl rfl rfl) ?_
 rintro _ _ ⟨rfl,rfl⟩
 refine Qe (Lf (i:=0) (x:=.fn _ _ _) (H2:=_::_) Ai rfl rfl rfl rfl rfl rfl rfl rfl rfl rfl) ?_
 rintro _ _ ⟨rfl,rfl⟩
 refine Qe (Lf (i:=0) (x:=.fn _ _ _) (H2:=_::_) Ai rfl rfl rfl rfl rfl rfl rfl rfl rfl rfl) ?_
 rintro _ _ ⟨rfl,rfl⟩
 refine Qe (Lf (i:=0) (x:=.fn _ _ _) (H2:=_::_) Ai rfl rfl rfl rfl rfl rfl rfl rfl rfl rfl) ?_
 rintro _ _ ⟨rfl,rfl⟩
 refine Qe (Lf (i:=0) (x:=.fn _ _ _) (H2:=_::_) Ai rfl rfl rfl rfl rfl rfl rfl rfl rfl rfl) ?_
 rintro _ _ ⟨rfl,rfl⟩
 refine AOL.ghost (GS.freezeMap (t:=2) 0 rfl rfl) ?_
 refine Qp (Bk (v:=.mapv _) rfl) ?_
 refine Qp (C8 (v:=.mapv _) rfl) ?_
 refine Ag (AW.ret ?_)
 refine Qr (.mapv _) ?_
 rfl

set_option maxHeartbeats 800000
set_option maxRecDepth 20000

theorem c70 (x:Evr)(hx:x.ok)(e:Ex)(hk:0≤e.field):Ar Tryz.prog 126 [.agg (cX x),.agg (cE e)] (.tuple [.agg (cV (E6 x e).1),.int .i64 (E6 x e).2]):=by
 refine Ar.body (n:=71) Ai Tryz.func126 rfl rfl rfl fun H=>?_
 refine Ah (Qp (Fx [_,Iq _,Iq _,Iq _,Iq _,Iq _,_,_]) (Qp K3 ?_))
 refine Qe (Aj (l:=[.int .i64 0,.int .i64 0,.str []]) (by kernel_rfl)) ?_
 rintro _ _ ⟨b4,rfl,rfl⟩
 refine Qp Ap (Db (Qp (Cd [_,Iq _,Iq _,Iq _,Iq _,Iq _,_,_]) (Qp Ym (Qp Br ?_))))
 refine Qp (Qc rfl (c91 x e.var)) ?_
 refine Qp Xa (Ag (AW.seq (Ah (Qp Kw (Qp Br (Ag (AW.block (Ah (Qp A6 ?_)))))))))
 refine Qp Bc (Ag (A2 (fun hc1=>?_) fun hc1=>?_))
 ·
  refine Ah (Qp J2 (Qp (Cd [Iq _,Iq _,.str _]) ?_))
  refine Cq 0 [Iq _,Iq _,.str _] (_::_) ?_
  refine Qp Ap (Ag (AW.ret (A9 (Al ?_))))
  refine ⟨.inr rfl,[.agg [Iq _,Iq _,.str _],Iq _],.cons (.box _ _ _ 0 _ _ _ _ rfl rfl rfl rfl rfl rfl) <| .cons (.tmp _ _ rfl) <| .nil,.cons _ (.refl _),?_⟩
  simp only [Ad,E6,Gy]
  try simp only [hgd]
  (first | rw [if_pos hc1] | skip)
  first | done | rfl | (exfalso;simp_all;done) | skip
 ·
  refine Ah (Qp A6 (Qp Bc (Ag (A2 (fun hc2=>?_) fun hc2=>?_))))
  ·
   refine Ah (Qp C5 ?_)
   refine Qp (Ak (n:=(Bu x.vars e.var).length) Ai rfl rfl rfl (by simp)) ?_
   refine Qp (El [Iq _,Iq _,.str _]) ?_
   refine Cq 0 [Iq _,Iq _,.str _] (_::_) ?_
   refine Qp Ap (Ag (AW.ret (A9 (Al ?_))))
   refine ⟨.inr rfl,[.agg [Iq _,Iq _,.str _],Iq _],.cons (.box _ _ _ 0 _ _ _ _ rfl rfl rfl rfl rfl rfl) <| .cons (.tmp _ _ rfl) <| .nil,.cons _ (.refl _),?_⟩
   simp only [Ad,E6,Gy]
   try simp only [hgd]
   (first | rw [iN hc1] | skip);(first | rw [if_pos hc2] | skip)
   first | done | rfl | (exfalso;simp_all;done) | skip
  ·
   refine Ah (Qp A6 (Qp Bc (Ag (A2 (fun hc3=>?_) fun hc3=>?_))))
   ·
    refine Ah (Qp (Cd [_,Iq _,Iq _,Iq _,Iq _,Iq _,_,_]) (Qp Dh ?_))
    refine Qp (Qc rfl (c92 x hx e hk)) ?_
    refine Qp (Ch (v:=.agg [Iq _,Iq _,.str _]) rfl rfl) ?_
    refine Qp Ih ?_
    refine Cq 0 [Iq _,Iq _,.str _] (_::_) ?_
    refine Qp Ap (Ag (AW.ret (A9 (Al ?_))))
    refine ⟨.inr rfl,[.agg [Iq _,Iq _,.str _],Iq _],.cons (.box _ _ _ 0 _ _ _ _ rfl rfl rfl rfl rfl rfl) <| .cons (.tmp _ _ rfl) <| .nil,.cons _ (.refl _),?_⟩
    simp only [Ad,E6,Gy]
    try simp only [hgd]
    (first | rw [iN hc1] | skip);(first | rw [iN hc2] | skip);(first | rw [if_pos hc3] | skip)
    first | done | rfl | (exfalso;simp_all;done) | skip
   ·
    refine AW.skip (Bp (Ae (Ah (Qp (Qf [Iq _,Iq _,Iq _,Iq _,_,_]) (Qp (Cd [Iq _,Iq _,Iq _,Iq _,_]) ?_)))))
    refine Qe (Aj (l:=[.int .i64 0,.int .i64 0,.int .i64 0,.int .i64 0,.sl 3 []]) (by kernel_rfl)) ?_
    rintro _ _ ⟨b7,rfl,rfl⟩
    refine Cq 0 [Iq _,Iq _,Iq _,Iq _,_] (_::_::_) ?_
    refine Ag (AW.seq (Ah (Qp Ym (Qp Br (Qp (Qf [Iq _,Iq _,Iq _,Iq _,Iq _,_,_]) (Qp Br (Qp Ci (Ag (A2 (fun hc4=>?_) fun hc4=>?_)))))))))
    ·
     refine AW.seq (Ah (Qp C5 ?_))
     refine Qp (Ak (n:=(Bu x.vars e.var).length) Ai rfl rfl rfl (by simp)) ?_
     refine Qp A6 (Ag (A2 (fun hc5=>?_) fun hc5=>?_))
     ·
      refine Ah (Qp (El [Iq _,Iq _,.str _]) ?_)
      refine Cq 1 [Iq _,Iq _,.str _] (_::_::_) ?_
      refine Qp Ap (Ag (Dq (Al ?_)))
      refine ⟨.inr rfl,[.agg [Iq _,Iq _,.str _],Iq _],.cons (.box _ _ _ 1 _ _ _ _ rfl rfl rfl rfl rfl rfl) <| .cons (.tmp _ _ rfl) <| .nil,.cons _ (.cons _ (.refl _)),?_⟩
      simp only [Ad,E6,Gy]
      try simp only [hgd]
      (first | rw [iN hc1] | skip);(first | rw [iN hc2] | skip);(first | rw [iN hc3] | skip);(first | rw [if_pos hc4] | skip);(first | rw [if_pos hc5] | skip)
      first | done | rfl | (exfalso;simp_all;done) | skip
     ·
      have hlg:=zC hc5
      have hle:=Zx hx e.var
      have hne:(Bu x.vars e.var).length≠0:=by simpa using hc5
      refine hlg.elim fun a hal=>?_
      have ha:=hal.1
      have hl:=hal.2
      have hgd:(Bu x.vars e.var).getLast?.getD Kn=a:=by rw [hl];rfl
      refine Bv (AW.region (Qp C5 (Qp C5 ?_)))
      refine Qp (Ak (n:=(Bu x.vars e.var).length) Ai rfl rfl rfl (by simp)) ?_
      refine Qp (Z9 rfl rfl rfl (by constructor <;> omega)) ?_
      refine Qp (Af (c:=[Iq _,Iq _,Iq _,Iq _,_]) Ai rfl rfl rfl rfl rfl rfl (by omega) (Bg ha)) ?_
      refine Qp (Cd [Iq _,Iq _,Iq _,Iq _,_]) ?_
      refine Cq 0 [Iq _,Iq _,Iq _,Iq _,_] (_::_::_) ?_
      refine Ag (AW.seq (Ah (Qp Kw (Qp Br (Qp A6 (Ag (A2 (fun hc6=>?_) fun hc6=>?_)))))))
      ·
       refine Ah (Qp Iu ?_)
       refine AOL.Aay (At (k:=0) (c:=Iq _) Ai rfl rfl rfl rfl) rfl rfl ?_
       refine Qp (El [Iq _,Iq _,.str _]) ?_
       refine Cq 1 [Iq _,Iq _,.str _] (_::_::_) ?_
       refine Qp Ap (Ag (Dq ?_))
       refine ⟨.inr rfl,[.agg [Iq _,Iq _,.str _],Iq _],.cons (.box _ _ _ 1 _ _ _ _ rfl rfl rfl rfl rfl rfl) <| .cons (.tmp _ _ rfl) <| .nil,.cons _ (.cons _ (.refl _)),?_⟩
       simp only [Ad,E6,Gy]
       try simp only [hgd]
       (first | rw [iN hc1] | skip);(first | rw [iN hc2] | skip);(first | rw [iN hc3] | skip);(first | rw [if_pos hc4] | skip);(first | rw [iN hc5] | skip);(first | rw [if_pos hc6] | skip)
       first | done | rfl | (exfalso;simp_all;done) | skip
      ·
       refine Bv (Ah ?_)
       refine AOL.Aay (By (k:=0) (l:=[Iq _,Iq _,Iq _,Iq _,_]) Ai rfl rfl rfl rfl rfl) rfl rfl ?_
       refine Qp Qv (Qp Br ?_)
       refine Qp (Qc rfl (c93 _ e.field hk)) ?_
       refine Qp Lv ?_
       refine Qp (Ch (v:=.agg [Iq _,Iq _,.str _]) rfl rfl) ?_
       refine Qp Ih ?_
       refine Qe (Aj (l:=[.int .i64 0,.int .i64 0,.str []]) (by kernel_rfl)) ?_
       rintro _ _ ⟨b8,rfl,rfl⟩
       refine Cq 0 [Iq _,Iq _,.str _] (_::_::_::_) ?_
       refine Qp Ap ?_
       refine AOL.ghost (GS.Aat (t:=8) 0 rfl rfl) ?_
       refine Ag (AW.seq (Ah (Qp Az (Qp A6 (Ag (A2 (fun hc7=>?_) fun hc7=>?_))))))
       ·
        refine AW.region (Qp (Cd [Iq _,Iq _,.str _]) ?_)
        refine Qp (Qc rfl (c94 _)) ?_
        refine Qp Ap (Ag (AW.seq (Ah (Qp Az (Qp Ci (Ag (A2 (fun hc8=>?_) fun hc8=>?_)))))))
        ·
         refine Ah (Qp (El [Iq _,Iq _,.str _]) (Qp Az ?_))
         refine Cq 1 [Iq _,Iq _,.str _] (_::_::_) ?_
         refine Qp Ap (Ag (Dq ?_))
         refine ⟨.inr rfl,[.agg [Iq _,Iq _,.str _],Iq _],.cons (.box _ _ _ 1 _ _ _ _ rfl rfl rfl rfl rfl rfl) <| .cons (.tmp _ _ rfl) <| .nil,.cons _ (.cons _ (.refl _)),?_⟩
         simp only [Ad,E6,Gy]
         try simp only [hgd]
         (first | rw [iN hc1] | skip);(first | rw [iN hc2] | skip);(first | rw [iN hc3] | skip);(first | rw [if_pos hc4] | skip);(first | rw [iN hc5] | skip);(first | rw [iN hc6] | skip);(first | rw [if_pos hc7] | skip);(first | rw [if_pos hc8] | skip)
         first | done | rfl | (exfalso;simp_all;done) | skip
        ·
         refine Bv (Ah (Qp (Cd [Iq _,Iq _,.str _]) ?_))
         refine Cq 1 [Iq _,Iq _,.str _] (_::_::_) ?_
         refine Qp Ap (Ag (AW.ret ?_))
         refine ⟨.inr rfl,[.agg [Iq _,Iq _,.str _],Iq _],.cons (.box _ _ _ 1 _ _ _ _ rfl rfl rfl rfl rfl rfl) <| .cons (.tmp _ _ rfl) <| .nil,.cons _ (.cons _ (.refl _)),?_⟩
         simp only [Ad,E6,Gy]
         try simp only [hgd]
         (first | rw [iN hc1] | skip);(first | rw [iN hc2] | skip);(first | rw [iN hc3] | skip);(first | rw [if_pos hc4] | skip);(first | rw [iN hc5] | skip);(first | rw [iN hc6] | skip);(first | rw [if_pos hc7] | skip);(first | rw [iN hc8] | skip)
         first | done | rfl | (exfalso;simp_all;done) | skip
       ·
        refine Bv (AW.seq (Ah (Qp Az (Qp Ci (Ag (A2 (fun hc9=>?_) fun hc9=>?_))))))
        ·
         refine Ah (Qp (El [Iq _,Iq _,.str _]) (Qp Az ?_))
         refine Cq 1 [Iq _,Iq _,.str _] (_::_::_) ?_
         refine Qp Ap (Ag (Dq ?_))
         refine ⟨.inr rfl,[.agg [Iq _,Iq _,.str _],Iq _],.cons (.box _ _ _ 1 _ _ _ _ rfl rfl rfl rfl rfl rfl) <| .cons (.tmp _ _ rfl) <| .nil,.cons _ (.cons _ (.refl _)),?_⟩
         simp only [Ad,E6,Gy]
         try simp only [hgd]
         (first | rw [iN hc1] | skip);(first | rw [iN hc2] | skip);(first | rw [iN hc3] | skip);(first | rw [if_pos hc4] | skip);(first | rw [iN hc5] | skip);(first | rw [iN hc6] | skip);(first | rw [iN hc7] | skip);(first | rw [if_pos hc9] | skip)
         first | done | rfl | (exfalso;simp_all;done) | skip
        ·
         refine Bv (Ah (Qp (Cd [Iq _,Iq _,.str _]) ?_))
         refine Cq 1 [Iq _,Iq _,.str _] (_::_::_) ?_
         refine Qp Ap (Ag (AW.ret ?_))
         refine ⟨.inr rfl,[.agg [Iq _,Iq _,.str _],Iq _],.cons (.box _ _ _ 1 _ _ _ _ rfl rfl rfl rfl rfl rfl) <| .cons (.tmp _ _ rfl) <| .nil,.cons _ (.cons _ (.refl _)),?_⟩
         simp only [Ad,E6,Gy]
         try simp only [hgd]
         (first | rw [iN hc1] | skip);(first | rw [iN hc2] | skip);(first | rw [iN hc3] | skip);(first | rw [if_pos hc4] | skip);(first | rw [iN hc5] | skip);(first | rw [iN hc6] | skip);(first | rw [iN hc7] | skip);(first | rw [iN hc9] | skip)
         first | done | rfl | (exfalso;simp_all;done) | skip
    ·
     refine Bv (AW.seq (Ah (Qp Kw (Qp Br (Qp A6 (Ag (A2 (fun hc10=>?_) fun hc10=>?_)))))))
     ·
      refine Ah (Qp Iu ?_)
      refine AOL.Aay (At (k:=0) (c:=Iq _) Ai rfl rfl rfl rfl) rfl rfl ?_
      refine Qp (El [Iq _,Iq _,.str _]) ?_
      refine Cq 1 [Iq _,Iq _,.str _] (_::_::_) ?_
      refine Qp Ap (Ag (Dq ?_))
      refine ⟨.inr rfl,[.agg [Iq _,Iq _,.str _],Iq _],.cons (.box _ _ _ 1 _ _ _ _ rfl rfl rfl rfl rfl rfl) <| .cons (.tmp _ _ rfl) <| .nil,.cons _ (.cons _ (.refl _)),?_⟩
      simp only [Ad,E6,Gy]
      try simp only [hgd]
      (first | rw [iN hc1] | skip);(first | rw [iN hc2] | skip);(first | rw [iN hc3] | skip);(first | rw [iN hc4] | skip);(first | rw [if_pos hc10] | skip)
      first | done | rfl | (exfalso;simp_all;done) | skip
     ·
      refine Bv (Ah ?_)
      refine AOL.Aay (By (k:=0) (l:=[Iq _,Iq _,Iq _,Iq _,_]) Ai rfl rfl rfl rfl rfl) rfl rfl ?_
      refine Qp Qv (Qp Br ?_)
      refine Qp (Qc rfl (c93 _ e.field hk)) ?_
      refine Qp Lv ?_
      refine Qp (Ch (v:=.agg [Iq _,Iq _,.str _]) rfl rfl) ?_
      refine Qp Ih ?_
      refine Qe (Aj (l:=[.int .i64 0,.int .i64 0,.str []]) (by kernel_rfl)) ?_
      rintro _ _ ⟨b8,rfl,rfl⟩
      refine Cq 0 [Iq _,Iq _,.str _] (_::_::_::_) ?_
      refine Qp Ap ?_
      refine AOL.ghost (GS.Aat (t:=8) 0 rfl rfl) ?_
      refine Ag (AW.seq (Ah (Qp Az (Qp A6 (Ag (A2 (fun hc11=>?_) fun hc11=>?_))))))
      ·
       refine AW.region (Qp (Cd [Iq _,Iq _,.str _]) ?_)
       refine Qp (Qc rfl (c94 _)) ?_
       refine Qp Ap (Ag (AW.seq (Ah (Qp Az (Qp Ci (Ag (A2 (fun hc12=>?_) fun hc12=>?_)))))))
       ·
        refine Ah (Qp (El [Iq _,Iq _,.str _]) (Qp Az ?_))
        refine Cq 1 [Iq _,Iq _,.str _] (_::_::_) ?_
        refine Qp Ap (Ag (Dq ?_))
        refine ⟨.inr rfl,[.agg [Iq _,Iq _,.str _],Iq _],.cons (.box _ _ _ 1 _ _ _ _ rfl rfl rfl rfl rfl rfl) <| .cons (.tmp _ _ rfl) <| .nil,.cons _ (.cons _ (.refl _)),?_⟩
        simp only [Ad,E6,Gy]
        try simp only [hgd]
        (first | rw [iN hc1] | skip);(first | rw [iN hc2] | skip);(first | rw [iN hc3] | skip);(first | rw [iN hc4] | skip);(first | rw [iN hc10] | skip);(first | rw [if_pos hc11] | skip);(first | rw [if_pos hc12] | skip)
        first | done | rfl | (exfalso;simp_all;done) | skip
       ·
        refine Bv (Ah (Qp (Cd [Iq _,Iq _,.str _]) ?_))
        refine Cq 1 [Iq _,Iq _,.str _] (_::_::_) ?_
        refine Qp Ap (Ag (AW.ret ?_))
        refine ⟨.inr rfl,[.agg [Iq _,Iq _,.str _],Iq _],.cons (.box _ _ _ 1 _ _ _ _ rfl rfl rfl rfl rfl rfl) <| .cons (.tmp _ _ rfl) <| .nil,.cons _ (.cons _ (.refl _)),?_⟩
        simp only [Ad,E6,Gy]
        try simp only [hgd]
        (first | rw [iN hc1] | skip);(first | rw [iN hc2] | skip);(first | rw [iN hc3] | skip);(first | rw [iN hc4] | skip);(first | rw [iN hc10] | skip);(first | rw [if_pos hc11] | skip);(first | rw [iN hc12] | skip)
        first | done | rfl | (exfalso;simp_all;done) | skip
      ·
       refine Bv (AW.seq (Ah (Qp Az (Qp Ci (Ag (A2 (fun hc13=>?_) fun hc13=>?_))))))
       ·
        refine Ah (Qp (El [Iq _,Iq _,.str _]) (Qp Az ?_))
        refine Cq 1 [Iq _,Iq _,.str _] (_::_::_) ?_
        refine Qp Ap (Ag (Dq ?_))
        refine ⟨.inr rfl,[.agg [Iq _,Iq _,.str _],Iq _],.cons (.box _ _ _ 1 _ _ _ _ rfl rfl rfl rfl rfl rfl) <| .cons (.tmp _ _ rfl) <| .nil,.cons _ (.cons _ (.refl _)),?_⟩
        simp only [Ad,E6,Gy]
        try simp only [hgd]
        (first | rw [iN hc1] | skip);(first | rw [iN hc2] | skip);(first | rw [iN hc3] | skip);(first | rw [iN hc4] | skip);(first | rw [iN hc10] | skip);(first | rw [iN hc11] | skip);(first | rw [if_pos hc13] | skip)
        first | done | rfl | (exfalso;simp_all;done) | skip
       ·
        refine Bv (Ah (Qp (Cd [Iq _,Iq _,.str _]) ?_))
        refine Cq 1 [Iq _,Iq _,.str _] (_::_::_) ?_
        refine Qp Ap (Ag (AW.ret ?_))
        refine ⟨.inr rfl,[.agg [Iq _,Iq _,.str _],Iq _],.cons (.box _ _ _ 1 _ _ _ _ rfl rfl rfl rfl rfl rfl) <| .cons (.tmp _ _ rfl) <| .nil,.cons _ (.cons _ (.refl _)),?_⟩
        simp only [Ad,E6,Gy]
        try simp only [hgd]
        (first | rw [iN hc1] | skip);(first | rw [iN hc2] | skip);(first | rw [iN hc3] | skip);(first | rw [iN hc4] | skip);(first | rw [iN hc10] | skip);(first | rw [iN hc11] | skip);(first | rw [iN hc13] | skip)
        first | done | rfl | (exfalso;simp_all;done) | skip

end Go.Proofs.YtkddpedfbicbeaaGreatDoor
