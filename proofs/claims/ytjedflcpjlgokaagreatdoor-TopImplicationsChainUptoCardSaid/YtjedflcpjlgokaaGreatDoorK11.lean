/-
  Several texts in one: W6, W8. No condition.
-/
import Derived.Test.YtjedflcpjlgokaaGreatDoorAz
import Derived.Test.YtjedflcpjlgokaaGreatDoorK10
import Derived.KernelRfl
set_option linter.unusedVariables false
set_option linter.unusedSimpArgs false
namespace Go.Proofs.YtjedflcpjlgokaaGreatDoor
open Go Go.Aw
set_option maxHeartbeats 400000
set_option maxRecDepth 20000

theorem c98 (op:Int):Ax Tryz.prog 145 [.int .i64 op] (.int .i64 (Fu op)):=by
  refine Ax.body (n:=13) Ai Tryz.func145 rfl rfl rfl fun H=>?_
  refine AW.seq (AW.region (Qp Ar (AOL.nil (Ae (AW.seq (AW.seq (AW.region (Qp A0 (AOL.nil ?_)))))))))
  refine Ae (AW.block ?_)
  refine AW.cut (fun (_:Unit)=>(⟨[(0,.int .i64 op),(3,.int .i64 op),(4,.bool (op==5||op==6||op==7||op==8))],H,13⟩:St)) (fun (_:Unit)=>True) ?_ ?_
  · skip
    refine AW.seq (AW.region (Qp A6 (Qp Bm (AOL.nil (Ae (A3 (fun hc1=>?_) fun hc1=>?_))))))
    · skip
      refine By ?_
      refine ⟨(),?_,GS.weaken ⟨rfl,rfl,congrArg AV.bool (by simp [Na, *]),trivial⟩ (.refl _)⟩
      trivial
    · skip
      refine AW.seq (AW.region (Qp A6 (Qp Bm (AOL.nil (Ae (A3 (fun hc2=>?_) fun hc2=>?_))))))
      · skip
        refine By ?_
        refine ⟨(),?_,GS.weaken ⟨rfl,rfl,congrArg AV.bool (by simp [Na, *]),trivial⟩ (.refl _)⟩
        trivial
      · skip
        refine AW.seq (AW.region (Qp A6 (Qp Bm (AOL.nil (Ae (A3 (fun hc3=>?_) fun hc3=>?_))))))
        · skip
          refine By ?_
          refine ⟨(),?_,GS.weaken ⟨rfl,rfl,congrArg AV.bool (by simp [Na, *]),trivial⟩ (.refl _)⟩
          trivial
        · skip
          refine AW.region (Qp A6 (Qp Bm (AOL.nil (Ae ?_))))
          refine ⟨(),?_,GS.weaken ⟨rfl,rfl,congrArg AV.bool (by simp [Na, *]),trivial⟩ (.refl _)⟩
          trivial
  · rintro _ _
    refine A3 (fun hc4=>?_) fun hc4=>?_
    · skip
      refine AW.seq (AW.region (Qp Ar (AOL.nil (Ae (AW.ret (A7 (Aj ?_)))))))
      refine Qr (Iq _) ?_
      try simp only [Co,Bool.and_true] at *
      first
        | (simp only [Ad,Fu];(first | rw [if_pos hc4] | skip);first | done | rfl)
        | (try simp only [Bool.not_eq_true',Bool.not_eq_false'] at *
           first
           | (simp only [Ad,Fu, *,Bool.false_eq_true,↓reduceIte,Bool.true_or,Bool.or_true,Bool.false_or,Bool.or_false,Bool.true_and,Bool.and_true,Bool.false_and,Bool.and_false,Bool.not_true,Bool.not_false];done)
           | (simp [Ad,Fu, *];done)
           | (simp_all [Ad,Fu];done))
        | skip
    · skip
      refine AW.cut (fun (_:Unit)=>(⟨[(0,.int .i64 op),(3,.int .i64 op),(9,.bool (op==10||op==11||op==12))],H,13⟩:St)) (fun (_:Unit)=>True) ?_ ?_
      · skip
        refine AW.seq (AW.region (Qp A6 (Qp Bm (AOL.nil (Ae (A3 (fun hc5=>?_) fun hc5=>?_))))))
        · skip
          refine By ?_
          refine ⟨(),?_,GS.weaken ⟨rfl,rfl,congrArg AV.bool (by simp [Na, *]),trivial⟩ (.refl _)⟩
          trivial
        · skip
          refine AW.seq (AW.region (Qp A6 (Qp Bm (AOL.nil (Ae (A3 (fun hc6=>?_) fun hc6=>?_))))))
          · skip
            refine By ?_
            refine ⟨(),?_,GS.weaken ⟨rfl,rfl,congrArg AV.bool (by simp [Na, *]),trivial⟩ (.refl _)⟩
            trivial
          · skip
            refine AW.region (Qp A6 (Qp Bm (AOL.nil (Ae ?_))))
            refine ⟨(),?_,GS.weaken ⟨rfl,rfl,congrArg AV.bool (by simp [Na, *]),trivial⟩ (.refl _)⟩
            trivial
      · rintro _ _
        refine A3 (fun hc7=>?_) fun hc7=>?_
        · skip
          refine AW.seq (AW.region (Qp Ar (AOL.nil (Ae (AW.ret (A7 (Aj ?_)))))))
          refine Qr (Iq _) ?_
          try simp only [Co,Bool.and_true] at *
          first
            | (simp only [Ad,Fu];(first | rw [iN hc4] | skip);(first | rw [if_pos hc7] | skip);first | done | rfl)
            | (try simp only [Bool.not_eq_true',Bool.not_eq_false'] at *
               first
               | (simp only [Ad,Fu, *,Bool.false_eq_true,↓reduceIte,Bool.true_or,Bool.or_true,Bool.false_or,Bool.or_false,Bool.true_and,Bool.and_true,Bool.false_and,Bool.and_false,Bool.not_true,Bool.not_false];done)
               | (simp [Ad,Fu, *];done)
               | (simp_all [Ad,Fu];done))
            | skip
        · skip
          refine AW.skip (Bv (Ae (AW.seq (AW.region (Qp Ar (AOL.nil (Ae (AW.ret ?_))))))))
          refine Qr (Iq _) ?_
          try simp only [Co,Bool.and_true] at *
          first
            | (simp only [Ad,Fu];(first | rw [iN hc4] | skip);(first | rw [iN hc7] | skip);first | done | rfl)
            | (try simp only [Bool.not_eq_true',Bool.not_eq_false'] at *
               first
               | (simp only [Ad,Fu, *,Bool.false_eq_true,↓reduceIte,Bool.true_or,Bool.or_true,Bool.false_or,Bool.or_false,Bool.true_and,Bool.and_true,Bool.false_and,Bool.and_false,Bool.not_true,Bool.not_false];done)
               | (simp [Ad,Fu, *];done)
               | (simp_all [Ad,Fu];done))
            | skip
theorem c73 (op:Int)(ks:List Int):Ax Tryz.prog 119 [.int .i64 op,.sl 1 (ks.map fun k=>[.int .i64 k])] (.int .i64 (Dm op ks)):=by
 refine Ax.body (n:=39) Ai Tryz.func119 rfl rfl rfl fun H=>?_
 refine Ah (Qp Ar (Ag (AW.seq (Ah (Qp Ar (Ag (AW.block ?_)))))))
 refine AW.sllen 1 rfl fun hlen=>?_
 simp only [List.length_map,maxLen] at hlen
 refine AW.Aad (fun (p:Nat)=>(⟨[(0,.int .i64 op),(1,.sl 1 (ks.map fun k=>[.int .i64 k])),(5,.int .i64 (p:Int))],H,39⟩:St)) (fun (p:Nat)=>p≤ks.length∧Dm op ks=Aq (fun k=>if Na op k (ks.headD 0) then 0 else 9) (ks.drop p)) (fun (p:Nat)=>ks.length-p) (0) ?_ (GS.weaken ⟨rfl,rfl,rfl,trivial⟩ (.refl _)) ?_
 · exact ⟨Nat.zero_le _,rfl⟩
 ·
  rintro p hR
  refine AW.seq (Ah (Qp A0 (Qp Dt ?_)))
  refine Qp (Al (n:=ks.length) Ai rfl rfl rfl (by simp)) ?_
  refine Qp Ck (Ag (A3 (fun hc1=>?_) fun hc1=>?_))
  ·
   obtain ⟨a,ha⟩:=B7 hc1
   have hlt:=Bb ha
   have hm:=List.mem_of_getElem? ha
   obtain ⟨a0,ha0⟩:∃a0,ks[0]? = some a0:=⟨_,List.getElem?_eq_getElem (by omega)⟩
   have hhd:ks.headD 0=a0:=by cases ks <;> simp_all
   refine By (AW.seq (AW.block (Ah (Qp A0 ?_))))
   refine Qp (Qc rfl (c98 op)) ?_
   refine Qp Ar (Ag (AW.seq ?_))
   refine AW.draw mixed (fun _=>True) trivial (by kernel_rfl) ?_
   refine Qn 0 rfl A0 (Qn 1 rfl Nj (Qn 2 rfl Bu (Qo 3 rfl [] Qw Dt (Qo 4 rfl [] Qw A0 ?_))))
   refine Jb.pure _ _ 5 _ _ rfl (by kernel_rfl) (by kernel_rfl) rfl (.opt _ (.ptr _) [(18,_),(19,_)] rfl (oE.all ⟨Ent.Aab _ _,Ent.Aab _ _,trivial⟩) (fun hG=>Af (c:=[Iq _]) Ai rfl rfl rfl rfl rfl rfl (by omega) (Bo (f:=fun k=>[AV.int .i64 k]) ha)) rfl) ?_
   refine Qo 6 rfl [(20,_)] Qw Bp (Qo 7 rfl [] Qw A0 ?_)
   refine Jb.pure _ _ 8 _ _ rfl (by kernel_rfl) (by kernel_rfl) rfl (.opt _ (.bool _) [(21,_),(22,_)] rfl (oE.all ⟨Ent.Aab _ _,Ent.Aab _ _,trivial⟩) (fun hG=>Wb rfl rfl) rfl) ?_
   refine Qn 9 rfl Gg (Qn 10 rfl Bu (Qo 11 rfl [] Qw A0 (Qo 12 rfl [(26,_)] Qw A6 (Qo 13 rfl [(27,_)] Qw Bu (Qo 14 rfl [] Qw Dt (Qo 15 rfl [] Qw A0 ?_))))))
   refine Jb.pure _ _ 16 _ _ rfl (by kernel_rfl) (by kernel_rfl) rfl (.opt _ (.ptr _) [(29,_),(30,_)] rfl (oE.all ⟨Ent.Aab _ _,Ent.Aab _ _,trivial⟩) (fun hG=>Af (c:=[Iq _]) Ai rfl rfl rfl rfl rfl rfl (by omega) (Bo (f:=fun k=>[AV.int .i64 k]) ha)) rfl) ?_
   refine Qo 17 rfl [(31,_)] Qw Bp (Qo 18 rfl [] Qw Dt ?_)
   refine Jb.pure _ _ 19 _ _ rfl (by kernel_rfl) (by kernel_rfl) rfl (.opt _ (.ptr _) [(33,_)] rfl (oE.all ⟨Ent.Aab _ _,trivial⟩) (fun hG=>Af (c:=[Iq _]) Ai rfl rfl rfl rfl rfl rfl (by omega) (Bo (f:=fun k=>[AV.int .i64 k]) ha0)) rfl) ?_
   refine Qo 20 rfl [(34,_)] Qw Bp ?_
   refine Jb.pure _ _ 21 _ _ rfl (by kernel_rfl) (by kernel_rfl) rfl (.opt _ (.bool _) [(32,_),(35,_)] rfl (oE.all ⟨Ent.Aab _ _,Ent.Aab _ _,trivial⟩) (fun hG=>Wb rfl rfl) rfl) ?_
   refine Qo 22 rfl [(28,_),(36,_)] Qw Gg (Qn 23 rfl E2 ?_)
   refine Jb.done _ _ (by kernel_rfl) ?_
   refine Ae (A3 (fun hc2=>?_) fun hc2=>?_)
   ·
    rw [Yc] at hc2
    have hok:Na op a a0=false:=by simpa using hc2
    refine Ah (Qp Ar (Ag (AW.ret (A7 (Aj (Aj (A7 (Aj ?_))))))))
    refine Qr (Iq _) ?_
    simp only [Ad,AV.int.injEq,true_and]
    rw [hR.2,A4 ha,Aq,hhd];simp [hok]
   ·
    rw [Yc] at hc2
    have hok:Na op a a0=true:=by simpa using hc2
    refine AW.skip (Bv (Ae (AW.region (Qp A0 (Qp F7 (Qp Ar (Ag ?_)))))))
    refine ⟨p+1,?_,?_,GS.weaken ⟨rfl,rfl,rfl,trivial⟩ (.refl _)⟩
    · exact ⟨hlt,by rw [hR.2,A4 ha,Aq,hhd];simp [hok]⟩
    · first | omega | (simp only;omega)
  ·
   have hd:=C8 hc1
   refine AW.exit ?_
   refine A5 (A5 (Bx (Ae (Ah (Qp Ar (Ag (AW.ret ?_)))))))
   refine Qr (Iq _) ?_
   simp only [Ad,AV.int.injEq,true_and]
   rw [hR.2,hd];rfl
theorem c65 (a b:Int):Ax Tryz.prog 110 [.int .i64 a,.int .i64 b] (.agg (cV (Gb 7 a b))):=by
 refine Ax.body (n:=9) Ai Tryz.func110 rfl rfl rfl fun H=>?_
 refine Ah ?_
 refine Qe (Am (l:=[.int .i64 0,.int .i64 0,.str []]) (by kernel_rfl)) ?_
 rintro _ _ ⟨b4,rfl,rfl⟩
 refine Do (Qp A0 (Qp A0 (Qp Ck ?_)))
 refine Qp (Qc rfl (c42 _)) ?_
 refine Cz 0 [Iq _,Iq _,.str _] (_::_) ?_
 refine Ag (AW.ret ?_)
 refine ⟨.inr rfl,[.agg [Iq _,Iq _,.str _]],.cons (.box _ _ _ 0 _ _ _ _ rfl rfl rfl rfl rfl rfl) <| .nil,.cons _ (.refl _),?_⟩
 rfl
theorem c66 (a b:Int):Ax Tryz.prog 111 [.int .i64 a,.int .i64 b] (.agg (cV (Gb 8 a b))):=by
 refine Ax.body (n:=9) Ai Tryz.func111 rfl rfl rfl fun H=>?_
 refine Ah ?_
 refine Qe (Am (l:=[.int .i64 0,.int .i64 0,.str []]) (by kernel_rfl)) ?_
 rintro _ _ ⟨b4,rfl,rfl⟩
 refine Do (Qp A0 (Qp A0 (Qp Ph ?_)))
 refine Qp (Qc rfl (c42 _)) ?_
 refine Cz 0 [Iq _,Iq _,.str _] (_::_) ?_
 refine Ag (AW.ret ?_)
 refine ⟨.inr rfl,[.agg [Iq _,Iq _,.str _]],.cons (.box _ _ _ 0 _ _ _ _ rfl rfl rfl rfl rfl rfl) <| .nil,.cons _ (.refl _),?_⟩
 rfl
theorem c67 (a b:Int):Ax Tryz.prog 112 [.int .i64 a,.int .i64 b] (.agg (cV (Gb 10 a b))):=by
 refine Ax.body (n:=12) Ai Tryz.func112 rfl rfl rfl fun H=>?_
 refine Ah ?_
 refine Qe (Am (l:=[.int .i64 0,.int .i64 0,.str []]) (by kernel_rfl)) ?_
 rintro _ _ ⟨b4,rfl,rfl⟩
 refine Do (Qp A0 (Qp A6 (Qp Bu (Qg [] Qw A0 (Qg [(8,_)] Qw A6 (Qp Gg ?_))))))
 refine Qp (Qc rfl (c42 _)) ?_
 refine Cz 0 [Iq _,Iq _,.str _] (_::_) ?_
 refine Ag (AW.ret ?_)
 refine ⟨.inr rfl,[.agg [Iq _,Iq _,.str _]],.cons (.box _ _ _ 0 _ _ _ _ rfl rfl rfl rfl rfl rfl) <| .nil,.cons _ (.refl _),?_⟩
 rfl
theorem c68 (a b:Int):Ax Tryz.prog 113 [.int .i64 a,.int .i64 b] (.agg (cV (Gb 11 a b))):=by
 refine Ax.body (n:=12) Ai Tryz.func113 rfl rfl rfl fun H=>?_
 refine Ah ?_
 refine Qe (Am (l:=[.int .i64 0,.int .i64 0,.str []]) (by kernel_rfl)) ?_
 rintro _ _ ⟨b4,rfl,rfl⟩
 refine Do (Qp A0 (Qp A6 (Qp Bu (Qg [] Qw A0 (Qg [(8,_)] Qw A6 (Qp E2 ?_))))))
 refine Qp (Qc rfl (c42 _)) ?_
 refine Cz 0 [Iq _,Iq _,.str _] (_::_) ?_
 refine Ag (AW.ret ?_)
 refine ⟨.inr rfl,[.agg [Iq _,Iq _,.str _]],.cons (.box _ _ _ 0 _ _ _ _ rfl rfl rfl rfl rfl rfl) <| .nil,.cons _ (.refl _),?_⟩
 rfl
theorem c69 (a b:Int):Ax Tryz.prog 114 [.int .i64 a,.int .i64 b] (.agg (cV (Gb 12 a b))):=by
 refine Ax.body (n:=8) Ai Tryz.func114 rfl rfl rfl fun H=>?_
 refine Ah ?_
 refine Qe (Am (l:=[.int .i64 0,.int .i64 0,.str []]) (by kernel_rfl)) ?_
 rintro _ _ ⟨b4,rfl,rfl⟩
 refine Do (Qp A0 (Qp Cr ?_))
 refine Qp (Qc rfl (c42 _)) ?_
 refine Cz 0 [Iq _,Iq _,.str _] (_::_) ?_
 refine Ag (AW.ret ?_)
 refine ⟨.inr rfl,[.agg [Iq _,Iq _,.str _]],.cons (.box _ _ _ 0 _ _ _ _ rfl rfl rfl rfl rfl rfl) <| .nil,.cons _ (.refl _),?_⟩
 rfl
theorem c62 (n:Int):Ax Tryz.prog 107 [.int .i64 n] (.agg (cV ⟨0,n,[]⟩)):=by
 refine Ax.body (n:=5) Ai Tryz.func107 rfl rfl rfl fun H=>?_
 refine Ah ?_
 refine Qe (Am (l:=[.int .i64 0,.int .i64 0,.str []]) (by kernel_rfl)) ?_
 rintro _ _ ⟨b2,rfl,rfl⟩
 refine Do (Qp A0 (Qp (Fr [Iq _,Iq _,.str _]) ?_))
 refine Cz 0 [Iq _,Iq _,.str _] (_::_) ?_
 refine Ag (AW.ret ?_)
 refine ⟨.inr rfl,[.agg [Iq _,Iq _,.str _]],.cons (.box _ _ _ 0 _ _ _ _ rfl rfl rfl rfl rfl rfl) <| .nil,.cons _ (.refl _),?_⟩
 rfl
theorem c63 (a b:Int):Ax Tryz.prog 108 [.int .i64 a,.int .i64 b,.ptr [.fn (.func 107) [] []]] (.agg (cV (Gb 5 a b))):=by
 refine Ax.body (n:=11) Ai Tryz.func108 rfl rfl rfl fun H=>?_
 refine Ah ?_
 refine Qe (Am (l:=[.int .i64 0,.int .i64 0,.str []]) (by kernel_rfl)) ?_
 rintro _ _ ⟨b5,rfl,rfl⟩
 refine Do ?_
 refine Qp (D3 (c:=.fn _ _ _) Ai rfl rfl rfl) ?_
 refine Qp A0 (Qp A0 ?_)
 refine Qp (bA rfl rfl) ?_
 refine Qp (Ec (by kernel_rfl) rfl rfl rfl (c62 _)) ?_
 refine Cz 0 [Iq _,Iq _,.str _] (_::_) ?_
 refine Ag (AW.ret ?_)
 refine ⟨.inr rfl,[.agg [Iq _,Iq _,.str _]],.cons (.box _ _ _ 0 _ _ _ _ rfl rfl rfl rfl rfl rfl) <| .nil,.cons _ (.refl _),?_⟩
 rfl
theorem c64 (a b:Int):Ax Tryz.prog 109 [.int .i64 a,.int .i64 b,.ptr [.fn (.func 107) [] []]] (.agg (cV (Gb 6 a b))):=by
 refine Ax.body (n:=11) Ai Tryz.func109 rfl rfl rfl fun H=>?_
 refine Ah ?_
 refine Qe (Am (l:=[.int .i64 0,.int .i64 0,.str []]) (by kernel_rfl)) ?_
 rintro _ _ ⟨b5,rfl,rfl⟩
 refine Do ?_
 refine Qp (D3 (c:=.fn _ _ _) Ai rfl rfl rfl) ?_
 refine Qp A0 (Qp A0 ?_)
 refine Qp (vR rfl rfl) ?_
 refine Qp (Ec (by kernel_rfl) rfl rfl rfl (c62 _)) ?_
 refine Cz 0 [Iq _,Iq _,.str _] (_::_) ?_
 refine Ag (AW.ret ?_)
 refine ⟨.inr rfl,[.agg [Iq _,Iq _,.str _]],.cons (.box _ _ _ 0 _ _ _ _ rfl rfl rfl rfl rfl rfl) <| .nil,.cons _ (.refl _),?_⟩
 rfl
theorem c39  : Ax Tryz.prog 82 [] (.mapv OPS):=by
 refine Ax.body (n:=6) Ai Tryz.func82 rfl rfl rfl fun H=>?_
 refine Ah (Qp N2 (Do ?_))
 refine Qe (Am (l:=[.val .nilFunc]) (by kernel_rfl)) ?_
 rintro _ _ ⟨b1,rfl,rfl⟩
 refine Cz 0 [_] (_::_) ?_
 refine AOL.ghost (GS.Aac (t:=1) 0 rfl rfl) ?_
 refine Do ?_
 refine Qe (pQ) ?_
 rintro _ _ ⟨b2,rfl,rfl⟩
 refine Qp (A9 (l:=[]) (l':=[.ptr _]) rfl rfl) ?_
 refine Qe (Kw (i:=0) (x:=.fn _ _ _) (H2:=_::_) Ai rfl rfl rfl rfl rfl rfl rfl rfl rfl rfl) ?_
 rintro _ _ ⟨rfl,rfl⟩
 refine Qp (A9 (l:=[]) (l':=[.ptr _]) rfl rfl) ?_
 refine Qe (Kw (i:=0) (x:=.fn _ _ _) (H2:=_::_) Ai rfl rfl rfl rfl rfl rfl rfl rfl rfl rfl) ?_
 rintro _ _ ⟨rfl,rfl⟩
 refine Qe (Kw (i:=0) (x:=.fn _ _ _) (H2:=_::_) Ai rfl rfl rfl rfl rfl rfl rfl rfl rfl rfl) ?_
 rintro _ _ ⟨rfl,rfl⟩
 refine Qe (Kw (i:=0) (x:=.fn _ _ _) (H2:=_::_) Ai rfl rfl rfl rfl rfl rfl rfl rfl rfl rfl) ?_
 rintro _ _ ⟨rfl,rfl⟩
 refine Qe (Kw (i:=0) (x:=.fn _ _ _) (H2:=_::_) Ai rfl rfl rfl rfl rfl rfl rfl rfl rfl rfl) ?_
 rintro _ _ ⟨rfl,rfl⟩
 refine Qe (Kw (i:=0) (x:=.fn _ _ _) (H2:=_::_) Ai rfl rfl rfl rfl rfl rfl rfl rfl rfl rfl) ?_
 rintro _ _ ⟨rfl,rfl⟩
 refine Qe (Kw (i:=0) (x:=.fn _ _ _) (H2:=_::_) Ai rfl rfl rfl rfl rfl rfl rfl rfl rfl rfl) ?_
 rintro _ _ ⟨rfl,rfl⟩
 refine AOL.ghost (GS.freezeMap (t:=2) 0 rfl rfl) ?_
 refine Qp (Bk (v:=.mapv _) rfl) ?_
 refine Qp (Da (v:=.mapv _) rfl) ?_
 refine Ag (AW.ret ?_)
 refine Qr (.mapv _) ?_
 rfl

set_option maxHeartbeats 800000
set_option maxRecDepth 20000

theorem c70 (x:Evr)(hx:x.ok)(e:Ex)(hk:0≤e.field):Ax Tryz.prog 115 [.agg (cX x),.agg (cE e)] (.tuple [.agg (cV (Ey x e).1),.int .i64 (Ey x e).2]):=by
 refine Ax.body (n:=71) Ai Tryz.func115 rfl rfl rfl fun H=>?_
 refine Ah (Qp (Gd [_,Iq _,Iq _,Iq _,Iq _,Iq _,_,_]) (Qp Nc ?_))
 refine Qe (Am (l:=[.int .i64 0,.int .i64 0,.str []]) (by kernel_rfl)) ?_
 rintro _ _ ⟨b4,rfl,rfl⟩
 refine Qp Ar (Do (Qp (Cv [_,Iq _,Iq _,Iq _,Iq _,Iq _,_,_]) (Qp Xs (Qp Bp ?_))))
 refine Qp (Qc rfl (c91 x e.var)) ?_
 refine Qp Un (Ag (AW.seq (Ah (Qp K9 (Qp Bp (Ag (AW.block (Ah (Qp A6 ?_)))))))))
 refine Qp Bm (Ag (A3 (fun hc1=>?_) fun hc1=>?_))
 ·
  refine Ah (Qp J2 (Qp (Cv [Iq _,Iq _,.str _]) ?_))
  refine Cz 0 [Iq _,Iq _,.str _] (_::_) ?_
  refine Qp Ar (Ag (AW.ret (A7 (Aj ?_))))
  refine ⟨.inr rfl,[.agg [Iq _,Iq _,.str _],Iq _],.cons (.box _ _ _ 0 _ _ _ _ rfl rfl rfl rfl rfl rfl) <| .cons (.tmp _ _ rfl) <| .nil,.cons _ (.refl _),?_⟩
  simp only [Ad,Ey,Gk]
  try simp only [hgd]
  (first | rw [if_pos hc1] | skip)
  first | done | rfl | (exfalso;simp_all;done) | skip
 ·
  refine Ah (Qp A6 (Qp Bm (Ag (A3 (fun hc2=>?_) fun hc2=>?_))))
  ·
   refine Ah (Qp Dt ?_)
   refine Qp (Al (n:=(Bn x.vars e.var).length) Ai rfl rfl rfl (by simp)) ?_
   refine Qp (Fr [Iq _,Iq _,.str _]) ?_
   refine Cz 0 [Iq _,Iq _,.str _] (_::_) ?_
   refine Qp Ar (Ag (AW.ret (A7 (Aj ?_))))
   refine ⟨.inr rfl,[.agg [Iq _,Iq _,.str _],Iq _],.cons (.box _ _ _ 0 _ _ _ _ rfl rfl rfl rfl rfl rfl) <| .cons (.tmp _ _ rfl) <| .nil,.cons _ (.refl _),?_⟩
   simp only [Ad,Ey,Gk]
   try simp only [hgd]
   (first | rw [iN hc1] | skip);(first | rw [if_pos hc2] | skip)
   first | done | rfl | (exfalso;simp_all;done) | skip
  ·
   refine Ah (Qp A6 (Qp Bm (Ag (A3 (fun hc3=>?_) fun hc3=>?_))))
   ·
    refine Ah (Qp (Cv [_,Iq _,Iq _,Iq _,Iq _,Iq _,_,_]) (Qp E7 ?_))
    refine Qp (Qc rfl (c92 x hx e hk)) ?_
    refine Qp (Ci (v:=.agg [Iq _,Iq _,.str _]) rfl rfl) ?_
    refine Qp I6 ?_
    refine Cz 0 [Iq _,Iq _,.str _] (_::_) ?_
    refine Qp Ar (Ag (AW.ret (A7 (Aj ?_))))
    refine ⟨.inr rfl,[.agg [Iq _,Iq _,.str _],Iq _],.cons (.box _ _ _ 0 _ _ _ _ rfl rfl rfl rfl rfl rfl) <| .cons (.tmp _ _ rfl) <| .nil,.cons _ (.refl _),?_⟩
    simp only [Ad,Ey,Gk]
    try simp only [hgd]
    (first | rw [iN hc1] | skip);(first | rw [iN hc2] | skip);(first | rw [if_pos hc3] | skip)
    first | done | rfl | (exfalso;simp_all;done) | skip
   ·
    refine AW.skip (Bv (Ae (Ah (Qp (Qf [Iq _,Iq _,Iq _,Iq _,_,_]) (Qp (Cv [Iq _,Iq _,Iq _,Iq _,_]) ?_)))))
    refine Qe (Am (l:=[.int .i64 0,.int .i64 0,.int .i64 0,.int .i64 0,.sl 3 []]) (by kernel_rfl)) ?_
    rintro _ _ ⟨b7,rfl,rfl⟩
    refine Cz 0 [Iq _,Iq _,Iq _,Iq _,_] (_::_::_) ?_
    refine Ag (AW.seq (Ah (Qp Xs (Qp Bp (Qp (Qf [Iq _,Iq _,Iq _,Iq _,Iq _,_,_]) (Qp Bp (Qp Cr (Ag (A3 (fun hc4=>?_) fun hc4=>?_)))))))))
    ·
     refine AW.seq (Ah (Qp Dt ?_))
     refine Qp (Al (n:=(Bn x.vars e.var).length) Ai rfl rfl rfl (by simp)) ?_
     refine Qp A6 (Ag (A3 (fun hc5=>?_) fun hc5=>?_))
     ·
      refine Ah (Qp (Fr [Iq _,Iq _,.str _]) ?_)
      refine Cz 1 [Iq _,Iq _,.str _] (_::_::_) ?_
      refine Qp Ar (Ag (Du (Aj ?_)))
      refine ⟨.inr rfl,[.agg [Iq _,Iq _,.str _],Iq _],.cons (.box _ _ _ 1 _ _ _ _ rfl rfl rfl rfl rfl rfl) <| .cons (.tmp _ _ rfl) <| .nil,.cons _ (.cons _ (.refl _)),?_⟩
      simp only [Ad,Ey,Gk]
      try simp only [hgd]
      (first | rw [iN hc1] | skip);(first | rw [iN hc2] | skip);(first | rw [iN hc3] | skip);(first | rw [if_pos hc4] | skip);(first | rw [if_pos hc5] | skip)
      first | done | rfl | (exfalso;simp_all;done) | skip
     ·
      have hlg:=sH hc5
      have hle:=Ze hx e.var
      have hne:(Bn x.vars e.var).length≠0:=by simpa using hc5
      refine hlg.elim fun a hal=>?_
      have ha:=hal.1
      have hl:=hal.2
      have hgd:(Bn x.vars e.var).getLast?.getD Ke=a:=by rw [hl];rfl
      refine By (AW.region (Qp Dt (Qp Dt ?_)))
      refine Qp (Al (n:=(Bn x.vars e.var).length) Ai rfl rfl rfl (by simp)) ?_
      refine Qp (Yz rfl rfl rfl (by constructor <;> omega)) ?_
      refine Qp (Af (c:=[Iq _,Iq _,Iq _,Iq _,_]) Ai rfl rfl rfl rfl rfl rfl (by omega) (Bo ha)) ?_
      refine Qp (Cv [Iq _,Iq _,Iq _,Iq _,_]) ?_
      refine Cz 0 [Iq _,Iq _,Iq _,Iq _,_] (_::_::_) ?_
      refine Ag (AW.seq (Ah (Qp K9 (Qp Bp (Qp A6 (Ag (A3 (fun hc6=>?_) fun hc6=>?_)))))))
      ·
       refine Ah (Qp H9 ?_)
       refine AOL.Aah (Ao (k:=0) (c:=Iq _) Ai rfl rfl rfl rfl) rfl rfl ?_
       refine Qp (Fr [Iq _,Iq _,.str _]) ?_
       refine Cz 1 [Iq _,Iq _,.str _] (_::_::_) ?_
       refine Qp Ar (Ag (Du ?_))
       refine ⟨.inr rfl,[.agg [Iq _,Iq _,.str _],Iq _],.cons (.box _ _ _ 1 _ _ _ _ rfl rfl rfl rfl rfl rfl) <| .cons (.tmp _ _ rfl) <| .nil,.cons _ (.cons _ (.refl _)),?_⟩
       simp only [Ad,Ey,Gk]
       try simp only [hgd]
       (first | rw [iN hc1] | skip);(first | rw [iN hc2] | skip);(first | rw [iN hc3] | skip);(first | rw [if_pos hc4] | skip);(first | rw [iN hc5] | skip);(first | rw [if_pos hc6] | skip)
       first | done | rfl | (exfalso;simp_all;done) | skip
      ·
       refine By (Ah ?_)
       refine AOL.Aah (Bs (k:=0) (l:=[Iq _,Iq _,Iq _,Iq _,_]) Ai rfl rfl rfl rfl rfl) rfl rfl ?_
       refine Qp Qv (Qp Bp ?_)
       refine Qp (Qc rfl (c93 _ e.field hk)) ?_
       refine Qp Nb ?_
       refine Qp (Ci (v:=.agg [Iq _,Iq _,.str _]) rfl rfl) ?_
       refine Qp I6 ?_
       refine Qe (Am (l:=[.int .i64 0,.int .i64 0,.str []]) (by kernel_rfl)) ?_
       rintro _ _ ⟨b8,rfl,rfl⟩
       refine Cz 0 [Iq _,Iq _,.str _] (_::_::_::_) ?_
       refine Qp Ar ?_
       refine AOL.ghost (GS.Aac (t:=8) 0 rfl rfl) ?_
       refine Ag (AW.seq (Ah (Qp A0 (Qp A6 (Ag (A3 (fun hc7=>?_) fun hc7=>?_))))))
       ·
        refine AW.region (Qp (Cv [Iq _,Iq _,.str _]) ?_)
        refine Qp (Qc rfl (c94 _)) ?_
        refine Qp Ar (Ag (AW.seq (Ah (Qp A0 (Qp Cr (Ag (A3 (fun hc8=>?_) fun hc8=>?_)))))))
        ·
         refine Ah (Qp (Fr [Iq _,Iq _,.str _]) (Qp A0 ?_))
         refine Cz 1 [Iq _,Iq _,.str _] (_::_::_) ?_
         refine Qp Ar (Ag (Du ?_))
         refine ⟨.inr rfl,[.agg [Iq _,Iq _,.str _],Iq _],.cons (.box _ _ _ 1 _ _ _ _ rfl rfl rfl rfl rfl rfl) <| .cons (.tmp _ _ rfl) <| .nil,.cons _ (.cons _ (.refl _)),?_⟩
         simp only [Ad,Ey,Gk]
         try simp only [hgd]
         (first | rw [iN hc1] | skip);(first | rw [iN hc2] | skip);(first | rw [iN hc3] | skip);(first | rw [if_pos hc4] | skip);(first | rw [iN hc5] | skip);(first | rw [iN hc6] | skip);(first | rw [if_pos hc7] | skip);(first | rw [if_pos hc8] | skip)
         first | done | rfl | (exfalso;simp_all;done) | skip
        ·
         refine By (Ah (Qp (Cv [Iq _,Iq _,.str _]) ?_))
         refine Cz 1 [Iq _,Iq _,.str _] (_::_::_) ?_
         refine Qp Ar (Ag (AW.ret ?_))
         refine ⟨.inr rfl,[.agg [Iq _,Iq _,.str _],Iq _],.cons (.box _ _ _ 1 _ _ _ _ rfl rfl rfl rfl rfl rfl) <| .cons (.tmp _ _ rfl) <| .nil,.cons _ (.cons _ (.refl _)),?_⟩
         simp only [Ad,Ey,Gk]
         try simp only [hgd]
         (first | rw [iN hc1] | skip);(first | rw [iN hc2] | skip);(first | rw [iN hc3] | skip);(first | rw [if_pos hc4] | skip);(first | rw [iN hc5] | skip);(first | rw [iN hc6] | skip);(first | rw [if_pos hc7] | skip);(first | rw [iN hc8] | skip)
         first | done | rfl | (exfalso;simp_all;done) | skip
       ·
        refine By (AW.seq (Ah (Qp A0 (Qp Cr (Ag (A3 (fun hc9=>?_) fun hc9=>?_))))))
        ·
         refine Ah (Qp (Fr [Iq _,Iq _,.str _]) (Qp A0 ?_))
         refine Cz 1 [Iq _,Iq _,.str _] (_::_::_) ?_
         refine Qp Ar (Ag (Du ?_))
         refine ⟨.inr rfl,[.agg [Iq _,Iq _,.str _],Iq _],.cons (.box _ _ _ 1 _ _ _ _ rfl rfl rfl rfl rfl rfl) <| .cons (.tmp _ _ rfl) <| .nil,.cons _ (.cons _ (.refl _)),?_⟩
         simp only [Ad,Ey,Gk]
         try simp only [hgd]
         (first | rw [iN hc1] | skip);(first | rw [iN hc2] | skip);(first | rw [iN hc3] | skip);(first | rw [if_pos hc4] | skip);(first | rw [iN hc5] | skip);(first | rw [iN hc6] | skip);(first | rw [iN hc7] | skip);(first | rw [if_pos hc9] | skip)
         first | done | rfl | (exfalso;simp_all;done) | skip
        ·
         refine By (Ah (Qp (Cv [Iq _,Iq _,.str _]) ?_))
         refine Cz 1 [Iq _,Iq _,.str _] (_::_::_) ?_
         refine Qp Ar (Ag (AW.ret ?_))
         refine ⟨.inr rfl,[.agg [Iq _,Iq _,.str _],Iq _],.cons (.box _ _ _ 1 _ _ _ _ rfl rfl rfl rfl rfl rfl) <| .cons (.tmp _ _ rfl) <| .nil,.cons _ (.cons _ (.refl _)),?_⟩
         simp only [Ad,Ey,Gk]
         try simp only [hgd]
         (first | rw [iN hc1] | skip);(first | rw [iN hc2] | skip);(first | rw [iN hc3] | skip);(first | rw [if_pos hc4] | skip);(first | rw [iN hc5] | skip);(first | rw [iN hc6] | skip);(first | rw [iN hc7] | skip);(first | rw [iN hc9] | skip)
         first | done | rfl | (exfalso;simp_all;done) | skip
    ·
     refine By (AW.seq (Ah (Qp K9 (Qp Bp (Qp A6 (Ag (A3 (fun hc10=>?_) fun hc10=>?_)))))))
     ·
      refine Ah (Qp H9 ?_)
      refine AOL.Aah (Ao (k:=0) (c:=Iq _) Ai rfl rfl rfl rfl) rfl rfl ?_
      refine Qp (Fr [Iq _,Iq _,.str _]) ?_
      refine Cz 1 [Iq _,Iq _,.str _] (_::_::_) ?_
      refine Qp Ar (Ag (Du ?_))
      refine ⟨.inr rfl,[.agg [Iq _,Iq _,.str _],Iq _],.cons (.box _ _ _ 1 _ _ _ _ rfl rfl rfl rfl rfl rfl) <| .cons (.tmp _ _ rfl) <| .nil,.cons _ (.cons _ (.refl _)),?_⟩
      simp only [Ad,Ey,Gk]
      try simp only [hgd]
      (first | rw [iN hc1] | skip);(first | rw [iN hc2] | skip);(first | rw [iN hc3] | skip);(first | rw [iN hc4] | skip);(first | rw [if_pos hc10] | skip)
      first | done | rfl | (exfalso;simp_all;done) | skip
     ·
      refine By (Ah ?_)
      refine AOL.Aah (Bs (k:=0) (l:=[Iq _,Iq _,Iq _,Iq _,_]) Ai rfl rfl rfl rfl rfl) rfl rfl ?_
      refine Qp Qv (Qp Bp ?_)
      refine Qp (Qc rfl (c93 _ e.field hk)) ?_
      refine Qp Nb ?_
      refine Qp (Ci (v:=.agg [Iq _,Iq _,.str _]) rfl rfl) ?_
      refine Qp I6 ?_
      refine Qe (Am (l:=[.int .i64 0,.int .i64 0,.str []]) (by kernel_rfl)) ?_
      rintro _ _ ⟨b8,rfl,rfl⟩
      refine Cz 0 [Iq _,Iq _,.str _] (_::_::_::_) ?_
      refine Qp Ar ?_
      refine AOL.ghost (GS.Aac (t:=8) 0 rfl rfl) ?_
      refine Ag (AW.seq (Ah (Qp A0 (Qp A6 (Ag (A3 (fun hc11=>?_) fun hc11=>?_))))))
      ·
       refine AW.region (Qp (Cv [Iq _,Iq _,.str _]) ?_)
       refine Qp (Qc rfl (c94 _)) ?_
       refine Qp Ar (Ag (AW.seq (Ah (Qp A0 (Qp Cr (Ag (A3 (fun hc12=>?_) fun hc12=>?_)))))))
       ·
        refine Ah (Qp (Fr [Iq _,Iq _,.str _]) (Qp A0 ?_))
        refine Cz 1 [Iq _,Iq _,.str _] (_::_::_) ?_
        refine Qp Ar (Ag (Du ?_))
        refine ⟨.inr rfl,[.agg [Iq _,Iq _,.str _],Iq _],.cons (.box _ _ _ 1 _ _ _ _ rfl rfl rfl rfl rfl rfl) <| .cons (.tmp _ _ rfl) <| .nil,.cons _ (.cons _ (.refl _)),?_⟩
        simp only [Ad,Ey,Gk]
        try simp only [hgd]
        (first | rw [iN hc1] | skip);(first | rw [iN hc2] | skip);(first | rw [iN hc3] | skip);(first | rw [iN hc4] | skip);(first | rw [iN hc10] | skip);(first | rw [if_pos hc11] | skip);(first | rw [if_pos hc12] | skip)
        first | done | rfl | (exfalso;simp_all;done) | skip
       ·
        refine By (Ah (Qp (Cv [Iq _,Iq _,.str _]) ?_))
        refine Cz 1 [Iq _,Iq _,.str _] (_::_::_) ?_
        refine Qp Ar (Ag (AW.ret ?_))
        refine ⟨.inr rfl,[.agg [Iq _,Iq _,.str _],Iq _],.cons (.box _ _ _ 1 _ _ _ _ rfl rfl rfl rfl rfl rfl) <| .cons (.tmp _ _ rfl) <| .nil,.cons _ (.cons _ (.refl _)),?_⟩
        simp only [Ad,Ey,Gk]
        try simp only [hgd]
        (first | rw [iN hc1] | skip);(first | rw [iN hc2] | skip);(first | rw [iN hc3] | skip);(first | rw [iN hc4] | skip);(first | rw [iN hc10] | skip);(first | rw [if_pos hc11] | skip);(first | rw [iN hc12] | skip)
        first | done | rfl | (exfalso;simp_all;done) | skip
      ·
       refine By (AW.seq (Ah (Qp A0 (Qp Cr (Ag (A3 (fun hc13=>?_) fun hc13=>?_))))))
       ·
        refine Ah (Qp (Fr [Iq _,Iq _,.str _]) (Qp A0 ?_))
        refine Cz 1 [Iq _,Iq _,.str _] (_::_::_) ?_
        refine Qp Ar (Ag (Du ?_))
        refine ⟨.inr rfl,[.agg [Iq _,Iq _,.str _],Iq _],.cons (.box _ _ _ 1 _ _ _ _ rfl rfl rfl rfl rfl rfl) <| .cons (.tmp _ _ rfl) <| .nil,.cons _ (.cons _ (.refl _)),?_⟩
        simp only [Ad,Ey,Gk]
        try simp only [hgd]
        (first | rw [iN hc1] | skip);(first | rw [iN hc2] | skip);(first | rw [iN hc3] | skip);(first | rw [iN hc4] | skip);(first | rw [iN hc10] | skip);(first | rw [iN hc11] | skip);(first | rw [if_pos hc13] | skip)
        first | done | rfl | (exfalso;simp_all;done) | skip
       ·
        refine By (Ah (Qp (Cv [Iq _,Iq _,.str _]) ?_))
        refine Cz 1 [Iq _,Iq _,.str _] (_::_::_) ?_
        refine Qp Ar (Ag (AW.ret ?_))
        refine ⟨.inr rfl,[.agg [Iq _,Iq _,.str _],Iq _],.cons (.box _ _ _ 1 _ _ _ _ rfl rfl rfl rfl rfl rfl) <| .cons (.tmp _ _ rfl) <| .nil,.cons _ (.cons _ (.refl _)),?_⟩
        simp only [Ad,Ey,Gk]
        try simp only [hgd]
        (first | rw [iN hc1] | skip);(first | rw [iN hc2] | skip);(first | rw [iN hc3] | skip);(first | rw [iN hc4] | skip);(first | rw [iN hc10] | skip);(first | rw [iN hc11] | skip);(first | rw [iN hc13] | skip)
        first | done | rfl | (exfalso;simp_all;done) | skip

end Go.Proofs.YtjedflcpjlgokaaGreatDoor
