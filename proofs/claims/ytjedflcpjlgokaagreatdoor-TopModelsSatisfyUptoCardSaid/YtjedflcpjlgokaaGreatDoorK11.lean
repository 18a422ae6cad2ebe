/-
  Several texts in one: W6, W8. No condition.
-/
import Derived.Test.YtjedflcpjlgokaaGreatDoorAz
import Derived.Test.YtjedflcpjlgokaaGreatDoorK10
import Derived.KernelRfl
set_option linter.unusedVariables false
set_option linter.unusedSimpArgs false
namespace Go.Proofs.YtjedflcpjlgokaaGreatDoor
open Go Go.Aw
set_option maxHeartbeats 400000
set_option maxRecDepth 20000

theorem c98 (op:Int):Ax Tryz.prog 145 [.int .i64 op] (.int .i64 (Ge op)):=by
  refine Ax.body (n:=13) Ah Tryz.func145 rfl rfl rfl fun H=>?_
  refine AW.seq (AW.region (Qp Ap (AOL.nil (Ad (AW.seq (AW.seq (AW.region (Qp Az (AOL.nil ?_)))))))))
  refine Ad (AW.block ?_)
  refine AW.cut (fun (_:Unit)=>(⟨[(0,.int .i64 op),(3,.int .i64 op),(4,.bool (op==5||op==6||op==7||op==8))],H,13⟩:St)) (fun (_:Unit)=>True) ?_ ?_
  · skip
    refine AW.seq (AW.region (Qp A9 (Qp Bl (AOL.nil (Ad (A6 (fun hc1=>?_) fun hc1=>?_))))))
    · skip
      refine By ?_
      refine ⟨(),?_,GS.weaken ⟨rfl,rfl,congrArg AV.bool (by simp [Nu, *]),trivial⟩ (.refl _)⟩
      trivial
    · skip
      refine AW.seq (AW.region (Qp A9 (Qp Bl (AOL.nil (Ad (A6 (fun hc2=>?_) fun hc2=>?_))))))
      · skip
        refine By ?_
        refine ⟨(),?_,GS.weaken ⟨rfl,rfl,congrArg AV.bool (by simp [Nu, *]),trivial⟩ (.refl _)⟩
        trivial
      · skip
        refine AW.seq (AW.region (Qp A9 (Qp Bl (AOL.nil (Ad (A6 (fun hc3=>?_) fun hc3=>?_))))))
        · skip
          refine By ?_
          refine ⟨(),?_,GS.weaken ⟨rfl,rfl,congrArg AV.bool (by simp [Nu, *]),trivial⟩ (.refl _)⟩
          trivial
        · skip
          refine AW.region (Qp A9 (Qp Bl (AOL.nil (Ad ?_))))
          refine ⟨(),?_,GS.weaken ⟨rfl,rfl,congrArg AV.bool (by simp [Nu, *]),trivial⟩ (.refl _)⟩
          trivial
  · rintro _ _
    refine A6 (fun hc4=>?_) fun hc4=>?_
    · skip
      refine AW.seq (AW.region (Qp Ap (AOL.nil (Ad (AW.ret (Bb (Aj ?_)))))))
      refine Qr (Iq _) ?_
      try simp only [C1,Bool.and_true] at *
      first
        | (simp only [Ae,Ge];(first | rw [if_pos hc4] | skip);first | done | rfl)
        | (try simp only [Bool.not_eq_true',Bool.not_eq_false'] at *
           first
           | (simp only [Ae,Ge, *,Bool.false_eq_true,↓reduceIte,Bool.true_or,Bool.or_true,Bool.false_or,Bool.or_false,Bool.true_and,Bool.and_true,Bool.false_and,Bool.and_false,Bool.not_true,Bool.not_false];done)
           | (simp [Ae,Ge, *];done)
           | (simp_all [Ae,Ge];done))
        | skip
    · skip
      refine AW.cut (fun (_:Unit)=>(⟨[(0,.int .i64 op),(3,.int .i64 op),(9,.bool (op==10||op==11||op==12))],H,13⟩:St)) (fun (_:Unit)=>True) ?_ ?_
      · skip
        refine AW.seq (AW.region (Qp A9 (Qp Bl (AOL.nil (Ad (A6 (fun hc5=>?_) fun hc5=>?_))))))
        · skip
          refine By ?_
          refine ⟨(),?_,GS.weaken ⟨rfl,rfl,congrArg AV.bool (by simp [Nu, *]),trivial⟩ (.refl _)⟩
          trivial
        · skip
          refine AW.seq (AW.region (Qp A9 (Qp Bl (AOL.nil (Ad (A6 (fun hc6=>?_) fun hc6=>?_))))))
          · skip
            refine By ?_
            refine ⟨(),?_,GS.weaken ⟨rfl,rfl,congrArg AV.bool (by simp [Nu, *]),trivial⟩ (.refl _)⟩
            trivial
          · skip
            refine AW.region (Qp A9 (Qp Bl (AOL.nil (Ad ?_))))
            refine ⟨(),?_,GS.weaken ⟨rfl,rfl,congrArg AV.bool (by simp [Nu, *]),trivial⟩ (.refl _)⟩
            trivial
      · rintro _ _
        refine A6 (fun hc7=>?_) fun hc7=>?_
        · skip
          refine AW.seq (AW.region (Qp Ap (AOL.nil (Ad (AW.ret (Bb (Aj ?_)))))))
          refine Qr (Iq _) ?_
          try simp only [C1,Bool.and_true] at *
          first
            | (simp only [Ae,Ge];(first | rw [iN hc4] | skip);(first | rw [if_pos hc7] | skip);first | done | rfl)
            | (try simp only [Bool.not_eq_true',Bool.not_eq_false'] at *
               first
               | (simp only [Ae,Ge, *,Bool.false_eq_true,↓reduceIte,Bool.true_or,Bool.or_true,Bool.false_or,Bool.or_false,Bool.true_and,Bool.and_true,Bool.false_and,Bool.and_false,Bool.not_true,Bool.not_false];done)
               | (simp [Ae,Ge, *];done)
               | (simp_all [Ae,Ge];done))
            | skip
        · skip
          refine AW.skip (Bu (Ad (AW.seq (AW.region (Qp Ap (AOL.nil (Ad (AW.ret ?_))))))))
          refine Qr (Iq _) ?_
          try simp only [C1,Bool.and_true] at *
          first
            | (simp only [Ae,Ge];(first | rw [iN hc4] | skip);(first | rw [iN hc7] | skip);first | done | rfl)
            | (try simp only [Bool.not_eq_true',Bool.not_eq_false'] at *
               first
               | (simp only [Ae,Ge, *,Bool.false_eq_true,↓reduceIte,Bool.true_or,Bool.or_true,Bool.false_or,Bool.or_false,Bool.true_and,Bool.and_true,Bool.false_and,Bool.and_false,Bool.not_true,Bool.not_false];done)
               | (simp [Ae,Ge, *];done)
               | (simp_all [Ae,Ge];done))
            | skip
theorem c73 (op:Int)(ks:List Int):Ax Tryz.prog 119 [.int .i64 op,.sl 1 (ks.map fun k=>[.int .i64 k])] (.int .i64 (D0 op ks)):=by
 refine Ax.body (n:=39) Ah Tryz.func119 rfl rfl rfl fun H=>?_
 refine Ai (Qp Ap (Ag (AW.seq (Ai (Qp Ap (Ag (AW.block ?_)))))))
 refine AW.sllen 1 rfl fun hlen=>?_
 simp only [List.length_map,maxLen] at hlen
 refine AW.Aao (fun (p:Nat)=>(⟨[(0,.int .i64 op),(1,.sl 1 (ks.map fun k=>[.int .i64 k])),(5,.int .i64 (p:Int))],H,39⟩:St)) (fun (p:Nat)=>p≤ks.length∧D0 op ks=Ao (fun k=>if Nu op k (ks.headD 0) then 0 else 9) (ks.drop p)) (fun (p:Nat)=>ks.length-p) (0) ?_ (GS.weaken ⟨rfl,rfl,rfl,trivial⟩ (.refl _)) ?_
 · exact ⟨Nat.zero_le _,rfl⟩
 ·
  rintro p hR
  refine AW.seq (Ai (Qp Az (Qp Dx ?_)))
  refine Qp (Al (n:=ks.length) Ah rfl rfl rfl (by simp)) ?_
  refine Qp Ch (Ag (A6 (fun hc1=>?_) fun hc1=>?_))
  ·
   obtain ⟨a,ha⟩:=B5 hc1
   have hlt:=A4 ha
   have hm:=List.mem_of_getElem? ha
   obtain ⟨a0,ha0⟩:∃a0,ks[0]? = some a0:=⟨_,List.getElem?_eq_getElem (by omega)⟩
   have hhd:ks.headD 0=a0:=by cases ks <;> simp_all
   refine By (AW.seq (AW.block (Ai (Qp Az ?_))))
   refine Qp (Qc rfl (c98 op)) ?_
   refine Qp Ap (Ag (AW.seq ?_))
   refine AW.draw mixed (fun _=>True) trivial (by kernel_rfl) ?_
   refine Qn 0 rfl Az (Qn 1 rfl Nt (Qn 2 rfl B0 (Qo 3 rfl [] Qw Dx (Qo 4 rfl [] Qw Az ?_))))
   refine Jn.pure _ _ 5 _ _ rfl (by kernel_rfl) (by kernel_rfl) rfl (.opt _ (.ptr _) [(18,_),(19,_)] rfl (nC.all ⟨Ent.Aam _ _,Ent.Aam _ _,trivial⟩) (fun hG=>Af (c:=[Iq _]) Ah rfl rfl rfl rfl rfl rfl (by omega) (Bi (f:=fun k=>[AV.int .i64 k]) ha)) rfl) ?_
   refine Qo 6 rfl [(20,_)] Qw Bp (Qo 7 rfl [] Qw Az ?_)
   refine Jn.pure _ _ 8 _ _ rfl (by kernel_rfl) (by kernel_rfl) rfl (.opt _ (.bool _) [(21,_),(22,_)] rfl (nC.all ⟨Ent.Aam _ _,Ent.Aam _ _,trivial⟩) (fun hG=>P7 rfl rfl) rfl) ?_
   refine Qn 9 rfl F7 (Qn 10 rfl B0 (Qo 11 rfl [] Qw Az (Qo 12 rfl [(26,_)] Qw A9 (Qo 13 rfl [(27,_)] Qw B0 (Qo 14 rfl [] Qw Dx (Qo 15 rfl [] Qw Az ?_))))))
   refine Jn.pure _ _ 16 _ _ rfl (by kernel_rfl) (by kernel_rfl) rfl (.opt _ (.ptr _) [(29,_),(30,_)] rfl (nC.all ⟨Ent.Aam _ _,Ent.Aam _ _,trivial⟩) (fun hG=>Af (c:=[Iq _]) Ah rfl rfl rfl rfl rfl rfl (by omega) (Bi (f:=fun k=>[AV.int .i64 k]) ha)) rfl) ?_
   refine Qo 17 rfl [(31,_)] Qw Bp (Qo 18 rfl [] Qw Dx ?_)
   refine Jn.pure _ _ 19 _ _ rfl (by kernel_rfl) (by kernel_rfl) rfl (.opt _ (.ptr _) [(33,_)] rfl (nC.all ⟨Ent.Aam _ _,trivial⟩) (fun hG=>Af (c:=[Iq _]) Ah rfl rfl rfl rfl rfl rfl (by omega) (Bi (f:=fun k=>[AV.int .i64 k]) ha0)) rfl) ?_
   refine Qo 20 rfl [(34,_)] Qw Bp ?_
   refine Jn.pure _ _ 21 _ _ rfl (by kernel_rfl) (by kernel_rfl) rfl (.opt _ (.bool _) [(32,_),(35,_)] rfl (nC.all ⟨Ent.Aam _ _,Ent.Aam _ _,trivial⟩) (fun hG=>P7 rfl rfl) rfl) ?_
   refine Qo 22 rfl [(28,_),(36,_)] Qw F7 (Qn 23 rfl E1 ?_)
   refine Jn.done _ _ (by kernel_rfl) ?_
   refine Ad (A6 (fun hc2=>?_) fun hc2=>?_)
   ·
    rw [aF] at hc2
    have hok:Nu op a a0=false:=by simpa using hc2
    refine Ai (Qp Ap (Ag (AW.ret (Bb (Aj (Aj (Bb (Aj ?_))))))))
    refine Qr (Iq _) ?_
    simp only [Ae,AV.int.injEq,true_and]
    rw [hR.2,A8 ha,Ao,hhd];simp [hok]
   ·
    rw [aF] at hc2
    have hok:Nu op a a0=true:=by simpa using hc2
    refine AW.skip (Bu (Ad (AW.region (Qp Az (Qp Ey (Qp Ap (Ag ?_)))))))
    refine ⟨p+1,?_,?_,GS.weaken ⟨rfl,rfl,rfl,trivial⟩ (.refl _)⟩
    · exact ⟨hlt,by rw [hR.2,A8 ha,Ao,hhd];simp [hok]⟩
    · first | omega | (simp only;omega)
  ·
   have hd:=Dc hc1
   refine AW.exit ?_
   refine A5 (A5 (Bq (Ad (Ai (Qp Ap (Ag (AW.ret ?_)))))))
   refine Qr (Iq _) ?_
   simp only [Ae,AV.int.injEq,true_and]
   rw [hR.2,hd];rfl
theorem c65 (a b:Int):Ax Tryz.prog 110 [.int .i64 a,.int .i64 b] (.agg (cV (G3 7 a b))):=by
 refine Ax.body (n:=9) Ah Tryz.func110 rfl rfl rfl fun H=>?_
 refine Ai ?_
 refine Qe (Ak (l:=[.int .i64 0,.int .i64 0,.str []]) (by kernel_rfl)) ?_
 rintro _ _ ⟨b4,rfl,rfl⟩
 refine Dm (Qp Az (Qp Az (Qp Ch ?_)))
 refine Qp (Qc rfl (c42 _)) ?_
 refine Cv 0 [Iq _,Iq _,.str _] (_::_) ?_
 refine Ag (AW.ret ?_)
 refine ⟨.inr rfl,[.agg [Iq _,Iq _,.str _]],.cons (.box _ _ _ 0 _ _ _ _ rfl rfl rfl rfl rfl rfl) <| .nil,.cons _ (.refl _),?_⟩
 rfl
theorem c66 (a b:Int):Ax Tryz.prog 111 [.int .i64 a,.int .i64 b] (.agg (cV (G3 8 a b))):=by
 refine Ax.body (n:=9) Ah Tryz.func111 rfl rfl rfl fun H=>?_
 refine Ai ?_
 refine Qe (Ak (l:=[.int .i64 0,.int .i64 0,.str []]) (by kernel_rfl)) ?_
 rintro _ _ ⟨b4,rfl,rfl⟩
 refine Dm (Qp Az (Qp Az (Qp N8 ?_)))
 refine Qp (Qc rfl (c42 _)) ?_
 refine Cv 0 [Iq _,Iq _,.str _] (_::_) ?_
 refine Ag (AW.ret ?_)
 refine ⟨.inr rfl,[.agg [Iq _,Iq _,.str _]],.cons (.box _ _ _ 0 _ _ _ _ rfl rfl rfl rfl rfl rfl) <| .nil,.cons _ (.refl _),?_⟩
 rfl
theorem c67 (a b:Int):Ax Tryz.prog 112 [.int .i64 a,.int .i64 b] (.agg (cV (G3 10 a b))):=by
 refine Ax.body (n:=12) Ah Tryz.func112 rfl rfl rfl fun H=>?_
 refine Ai ?_
 refine Qe (Ak (l:=[.int .i64 0,.int .i64 0,.str []]) (by kernel_rfl)) ?_
 rintro _ _ ⟨b4,rfl,rfl⟩
 refine Dm (Qp Az (Qp A9 (Qp B0 (Qg [] Qw Az (Qg [(8,_)] Qw A9 (Qp F7 ?_))))))
 refine Qp (Qc rfl (c42 _)) ?_
 refine Cv 0 [Iq _,Iq _,.str _] (_::_) ?_
 refine Ag (AW.ret ?_)
 refine ⟨.inr rfl,[.agg [Iq _,Iq _,.str _]],.cons (.box _ _ _ 0 _ _ _ _ rfl rfl rfl rfl rfl rfl) <| .nil,.cons _ (.refl _),?_⟩
 rfl
theorem c68 (a b:Int):Ax Tryz.prog 113 [.int .i64 a,.int .i64 b] (.agg (cV (G3 11 a b))):=by
 refine Ax.body (n:=12) Ah Tryz.func113 rfl rfl rfl fun H=>?_
 refine Ai ?_
 refine Qe (Ak (l:=[.int .i64 0,.int .i64 0,.str []]) (by kernel_rfl)) ?_
 rintro _ _ ⟨b4,rfl,rfl⟩
 refine Dm (Qp Az (Qp A9 (Qp B0 (Qg [] Qw Az (Qg [(8,_)] Qw A9 (Qp E1 ?_))))))
 refine Qp (Qc rfl (c42 _)) ?_
 refine Cv 0 [Iq _,Iq _,.str _] (_::_) ?_
 refine Ag (AW.ret ?_)
 refine ⟨.inr rfl,[.agg [Iq _,Iq _,.str _]],.cons (.box _ _ _ 0 _ _ _ _ rfl rfl rfl rfl rfl rfl) <| .nil,.cons _ (.refl _),?_⟩
 rfl
theorem c69 (a b:Int):Ax Tryz.prog 114 [.int .i64 a,.int .i64 b] (.agg (cV (G3 12 a b))):=by
 refine Ax.body (n:=8) Ah Tryz.func114 rfl rfl rfl fun H=>?_
 refine Ai ?_
 refine Qe (Ak (l:=[.int .i64 0,.int .i64 0,.str []]) (by kernel_rfl)) ?_
 rintro _ _ ⟨b4,rfl,rfl⟩
 refine Dm (Qp Az (Qp Cr ?_))
 refine Qp (Qc rfl (c42 _)) ?_
 refine Cv 0 [Iq _,Iq _,.str _] (_::_) ?_
 refine Ag (AW.ret ?_)
 refine ⟨.inr rfl,[.agg [Iq _,Iq _,.str _]],.cons (.box _ _ _ 0 _ _ _ _ rfl rfl rfl rfl rfl rfl) <| .nil,.cons _ (.refl _),?_⟩
 rfl
theorem c62 (n:Int):Ax Tryz.prog 107 [.int .i64 n] (.agg (cV ⟨0,n,[]⟩)):=by
 refine Ax.body (n:=5) Ah Tryz.func107 rfl rfl rfl fun H=>?_
 refine Ai ?_
 refine Qe (Ak (l:=[.int .i64 0,.int .i64 0,.str []]) (by kernel_rfl)) ?_
 rintro _ _ ⟨b2,rfl,rfl⟩
 refine Dm (Qp Az (Qp (Fz [Iq _,Iq _,.str _]) ?_))
 refine Cv 0 [Iq _,Iq _,.str _] (_::_) ?_
 refine Ag (AW.ret ?_)
 refine ⟨.inr rfl,[.agg [Iq _,Iq _,.str _]],.cons (.box _ _ _ 0 _ _ _ _ rfl rfl rfl rfl rfl rfl) <| .nil,.cons _ (.refl _),?_⟩
 rfl
theorem c63 (a b:Int):Ax Tryz.prog 108 [.int .i64 a,.int .i64 b,.ptr [.fn (.func 107) [] []]] (.agg (cV (G3 5 a b))):=by
 refine Ax.body (n:=11) Ah Tryz.func108 rfl rfl rfl fun H=>?_
 refine Ai ?_
 refine Qe (Ak (l:=[.int .i64 0,.int .i64 0,.str []]) (by kernel_rfl)) ?_
 rintro _ _ ⟨b5,rfl,rfl⟩
 refine Dm ?_
 refine Qp (Df (c:=.fn _ _ _) Ah rfl rfl rfl) ?_
 refine Qp Az (Qp Az ?_)
 refine Qp (cH rfl rfl) ?_
 refine Qp (Eg (by kernel_rfl) rfl rfl rfl (c62 _)) ?_
 refine Cv 0 [Iq _,Iq _,.str _] (_::_) ?_
 refine Ag (AW.ret ?_)
 refine ⟨.inr rfl,[.agg [Iq _,Iq _,.str _]],.cons (.box _ _ _ 0 _ _ _ _ rfl rfl rfl rfl rfl rfl) <| .nil,.cons _ (.refl _),?_⟩
 rfl
theorem c64 (a b:Int):Ax Tryz.prog 109 [.int .i64 a,.int .i64 b,.ptr [.fn (.func 107) [] []]] (.agg (cV (G3 6 a b))):=by
 refine Ax.body (n:=11) Ah Tryz.func109 rfl rfl rfl fun H=>?_
 refine Ai ?_
 refine Qe (Ak (l:=[.int .i64 0,.int .i64 0,.str []]) (by kernel_rfl)) ?_
 rintro _ _ ⟨b5,rfl,rfl⟩
 refine Dm ?_
 refine Qp (Df (c:=.fn _ _ _) Ah rfl rfl rfl) ?_
 refine Qp Az (Qp Az ?_)
 refine Qp (uQ rfl rfl) ?_
 refine Qp (Eg (by kernel_rfl) rfl rfl rfl (c62 _)) ?_
 refine Cv 0 [Iq _,Iq _,.str _] (_::_) ?_
 refine Ag (AW.ret ?_)
 refine ⟨.inr rfl,[.agg [Iq _,Iq _,.str _]],.cons (.box _ _ _ 0 _ _ _ _ rfl rfl rfl rfl rfl rfl) <| .nil,.cons _ (.refl _),?_⟩
 rfl
theorem c39  : Ax Tryz.prog 82 [] (.mapv OPS):=by
 refine Ax.body (n:=6) Ah Tryz.func82 rfl rfl rfl fun H=>?_
 refine Ai (Qp N4 (Dm ?_))
 refine Qe (Ak (l:=[.val .nilFunc]) (by kernel_rfl)) ?_
 rintro _ _ ⟨b1,rfl,rfl⟩
 refine Cv 0 [_] (_::_) ?_
 refine AOL.ghost (GS.Aan (t:=1) 0 rfl rfl) ?_
 refine Dm ?_
 refine Qe (nJ) ?_
 rintro _ _ ⟨b2,rfl,rfl⟩
 refine Qp (Bj (l:=[]) (l':=[.ptr _]) rfl rfl) ?_
 refine Qe (Ld (i:=0) (x:=.fn _ _ _) (H2:=_::_) Ah rfl rfl rfl rfl rfl rfl rfl rfl rfl rfl) ?_
 rintro _ _ ⟨rfl,rfl⟩
 refine Qp (Bj (l:=[]) (l':=[.ptr _]) rfl rfl) ?_
 refine Qe (Ld (i:=0) (x:=.fn _ _ _) (H2:=_::_) Ah rfl rfl rfl rfl rfl rfl rfl rfl rfl rfl) ?_
 rintro _ _ ⟨rfl,rfl⟩
 refine Qe (Ld (i:=0) (x:=.fn _ _ _) (H2:=_::_) Ah rfl rfl rfl rfl rfl rfl rfl rfl rfl rfl) ?_
 rintro _ _ ⟨rfl,rfl⟩
 refine Qe (Ld (i:=0) (x:=.fn _ _ _) (H2:=_::_) Ah rfl rfl rfl rfl rfl rfl rfl rfl rfl rfl) ?_
 rintro _ _ ⟨rfl,rfl⟩
 refine Qe (Ld (i:=0) (x:=.fn _ _ _) (H2:=_::_) Ah rfl rfl rfl rfl rfl rfl rfl rfl rfl rfl) ?_
 rintro _ _ ⟨rfl,rfl⟩
 refine Qe (Ld (i:=0) (x:=.fn _ _ _) (H2:=_::_) Ah rfl rfl rfl rfl rfl rfl rfl rfl rfl rfl) ?_
 rintro _ _ ⟨rfl,rfl⟩
 refine Qe (Ld (i:=0) (x:=.fn _ _ _) (H2:=_::_) Ah rfl rfl rfl rfl rfl rfl rfl rfl rfl rfl) ?_
 rintro _ _ ⟨rfl,rfl⟩
 refine AOL.ghost (GS.freezeMap (t:=2) 0 rfl rfl) ?_
 refine Qp (Bm (v:=.mapv _) rfl) ?_
 refine Qp (Dg (v:=.mapv _) rfl) ?_
 refine Ag (AW.ret ?_)
 refine Qr (.mapv _) ?_
 rfl

set_option maxHeartbeats 800000
set_option maxRecDepth 20000

theorem c70 (x:Evr)(hx:x.ok)(e:Ex)(hk:0≤e.field):Ax Tryz.prog 115 [.agg (cX x),.agg (cE e)] (.tuple [.agg (cV (E7 x e).1),.int .i64 (E7 x e).2]):=by
 refine Ax.body (n:=71) Ah Tryz.func115 rfl rfl rfl fun H=>?_
 refine Ai (Qp (Gd [_,Iq _,Iq _,Iq _,Iq _,Iq _,_,_]) (Qp Kx ?_))
 refine Qe (Ak (l:=[.int .i64 0,.int .i64 0,.str []]) (by kernel_rfl)) ?_
 rintro _ _ ⟨b4,rfl,rfl⟩
 refine Qp Ap (Dm (Qp (Cq [_,Iq _,Iq _,Iq _,Iq _,Iq _,_,_]) (Qp Te (Qp Bp ?_))))
 refine Qp (Qc rfl (c91 x e.var)) ?_
 refine Qp Sr (Ag (AW.seq (Ai (Qp Jl (Qp Bp (Ag (AW.block (Ai (Qp A9 ?_)))))))))
 refine Qp Bl (Ag (A6 (fun hc1=>?_) fun hc1=>?_))
 ·
  refine Ai (Qp Jq (Qp (Cq [Iq _,Iq _,.str _]) ?_))
  refine Cv 0 [Iq _,Iq _,.str _] (_::_) ?_
  refine Qp Ap (Ag (AW.ret (Bb (Aj ?_))))
  refine ⟨.inr rfl,[.agg [Iq _,Iq _,.str _],Iq _],.cons (.box _ _ _ 0 _ _ _ _ rfl rfl rfl rfl rfl rfl) <| .cons (.tmp _ _ rfl) <| .nil,.cons _ (.refl _),?_⟩
  simp only [Ae,E7,Gs]
  try simp only [hgd]
  (first | rw [if_pos hc1] | skip)
  first | done | rfl | (exfalso;simp_all;done) | skip
 ·
  refine Ai (Qp A9 (Qp Bl (Ag (A6 (fun hc2=>?_) fun hc2=>?_))))
  ·
   refine Ai (Qp Dx ?_)
   refine Qp (Al (n:=(Bx x.vars e.var).length) Ah rfl rfl rfl (by simp)) ?_
   refine Qp (Fz [Iq _,Iq _,.str _]) ?_
   refine Cv 0 [Iq _,Iq _,.str _] (_::_) ?_
   refine Qp Ap (Ag (AW.ret (Bb (Aj ?_))))
   refine ⟨.inr rfl,[.agg [Iq _,Iq _,.str _],Iq _],.cons (.box _ _ _ 0 _ _ _ _ rfl rfl rfl rfl rfl rfl) <| .cons (.tmp _ _ rfl) <| .nil,.cons _ (.refl _),?_⟩
   simp only [Ae,E7,Gs]
   try simp only [hgd]
   (first | rw [iN hc1] | skip);(first | rw [if_pos hc2] | skip)
   first | done | rfl | (exfalso;simp_all;done) | skip
  ·
   refine Ai (Qp A9 (Qp Bl (Ag (A6 (fun hc3=>?_) fun hc3=>?_))))
   ·
    refine Ai (Qp (Cq [_,Iq _,Iq _,Iq _,Iq _,Iq _,_,_]) (Qp El ?_))
    refine Qp (Qc rfl (c92 x hx e hk)) ?_
    refine Qp (Ci (v:=.agg [Iq _,Iq _,.str _]) rfl rfl) ?_
    refine Qp Ke ?_
    refine Cv 0 [Iq _,Iq _,.str _] (_::_) ?_
    refine Qp Ap (Ag (AW.ret (Bb (Aj ?_))))
    refine ⟨.inr rfl,[.agg [Iq _,Iq _,.str _],Iq _],.cons (.box _ _ _ 0 _ _ _ _ rfl rfl rfl rfl rfl rfl) <| .cons (.tmp _ _ rfl) <| .nil,.cons _ (.refl _),?_⟩
    simp only [Ae,E7,Gs]
    try simp only [hgd]
    (first | rw [iN hc1] | skip);(first | rw [iN hc2] | skip);(first | rw [if_pos hc3] | skip)
    first | done | rfl | (exfalso;simp_all;done) | skip
   ·
    refine AW.skip (Bu (Ad (Ai (Qp (Qf [Iq _,Iq _,Iq _,Iq _,_,_]) (Qp (Cq [Iq _,Iq _,Iq _,Iq _,_]) ?_)))))
    refine Qe (Ak (l:=[.int .i64 0,.int .i64 0,.int .i64 0,.int .i64 0,.sl 3 []]) (by kernel_rfl)) ?_
    rintro _ _ ⟨b7,rfl,rfl⟩
    refine Cv 0 [Iq _,Iq _,Iq _,Iq _,_] (_::_::_) ?_
    refine Ag (AW.seq (Ai (Qp Te (Qp Bp (Qp (Qf [Iq _,Iq _,Iq _,Iq _,Iq _,_,_]) (Qp Bp (Qp Cr (Ag (A6 (fun hc4=>?_) fun hc4=>?_)))))))))
    ·
     refine AW.seq (Ai (Qp Dx ?_))
     refine Qp (Al (n:=(Bx x.vars e.var).length) Ah rfl rfl rfl (by simp)) ?_
     refine Qp A9 (Ag (A6 (fun hc5=>?_) fun hc5=>?_))
     ·
      refine Ai (Qp (Fz [Iq _,Iq _,.str _]) ?_)
      refine Cv 1 [Iq _,Iq _,.str _] (_::_::_) ?_
      refine Qp Ap (Ag (Dw (Aj ?_)))
      refine ⟨.inr rfl,[.agg [Iq _,Iq _,.str _],Iq _],.cons (.box _ _ _ 1 _ _ _ _ rfl rfl rfl rfl rfl rfl) <| .cons (.tmp _ _ rfl) <| .nil,.cons _ (.cons _ (.refl _)),?_⟩
      simp only [Ae,E7,Gs]
      try simp only [hgd]
      (first | rw [iN hc1] | skip);(first | rw [iN hc2] | skip);(first | rw [iN hc3] | skip);(first | rw [if_pos hc4] | skip);(first | rw [if_pos hc5] | skip)
      first | done | rfl | (exfalso;simp_all;done) | skip
     ·
      have hlg:=tY hc5
      have hle:=Yc hx e.var
      have hne:(Bx x.vars e.var).length≠0:=by simpa using hc5
      refine hlg.elim fun a hal=>?_
      have ha:=hal.1
      have hl:=hal.2
      have hgd:(Bx x.vars e.var).getLast?.getD L3=a:=by rw [hl];rfl
      refine By (AW.region (Qp Dx (Qp Dx ?_)))
      refine Qp (Al (n:=(Bx x.vars e.var).length) Ah rfl rfl rfl (by simp)) ?_
      refine Qp (Yl rfl rfl rfl (by constructor <;> omega)) ?_
      refine Qp (Af (c:=[Iq _,Iq _,Iq _,Iq _,_]) Ah rfl rfl rfl rfl rfl rfl (by omega) (Bi ha)) ?_
      refine Qp (Cq [Iq _,Iq _,Iq _,Iq _,_]) ?_
      refine Cv 0 [Iq _,Iq _,Iq _,Iq _,_] (_::_::_) ?_
      refine Ag (AW.seq (Ai (Qp Jl (Qp Bp (Qp A9 (Ag (A6 (fun hc6=>?_) fun hc6=>?_)))))))
      ·
       refine Ai (Qp Gc ?_)
       refine AOL.Aas (Am (k:=0) (c:=Iq _) Ah rfl rfl rfl rfl) rfl rfl ?_
       refine Qp (Fz [Iq _,Iq _,.str _]) ?_
       refine Cv 1 [Iq _,Iq _,.str _] (_::_::_) ?_
       refine Qp Ap (Ag (Dw ?_))
       refine ⟨.inr rfl,[.agg [Iq _,Iq _,.str _],Iq _],.cons (.box _ _ _ 1 _ _ _ _ rfl rfl rfl rfl rfl rfl) <| .cons (.tmp _ _ rfl) <| .nil,.cons _ (.cons _ (.refl _)),?_⟩
       simp only [Ae,E7,Gs]
       try simp only [hgd]
       (first | rw [iN hc1] | skip);(first | rw [iN hc2] | skip);(first | rw [iN hc3] | skip);(first | rw [if_pos hc4] | skip);(first | rw [iN hc5] | skip);(first | rw [if_pos hc6] | skip)
       first | done | rfl | (exfalso;simp_all;done) | skip
      ·
       refine By (Ai ?_)
       refine AOL.Aas (A7 (k:=0) (l:=[Iq _,Iq _,Iq _,Iq _,_]) Ah rfl rfl rfl rfl rfl) rfl rfl ?_
       refine Qp Oq (Qp Bp ?_)
       refine Qp (Qc rfl (c93 _ e.field hk)) ?_
       refine Qp N6 ?_
       refine Qp (Ci (v:=.agg [Iq _,Iq _,.str _]) rfl rfl) ?_
       refine Qp Ke ?_
       refine Qe (Ak (l:=[.int .i64 0,.int .i64 0,.str []]) (by kernel_rfl)) ?_
       rintro _ _ ⟨b8,rfl,rfl⟩
       refine Cv 0 [Iq _,Iq _,.str _] (_::_::_::_) ?_
       refine Qp Ap ?_
       refine AOL.ghost (GS.Aan (t:=8) 0 rfl rfl) ?_
       refine Ag (AW.seq (Ai (Qp Az (Qp A9 (Ag (A6 (fun hc7=>?_) fun hc7=>?_))))))
       ·
        refine AW.region (Qp (Cq [Iq _,Iq _,.str _]) ?_)
        refine Qp (Qc rfl (c94 _)) ?_
        refine Qp Ap (Ag (AW.seq (Ai (Qp Az (Qp Cr (Ag (A6 (fun hc8=>?_) fun hc8=>?_)))))))
        ·
         refine Ai (Qp (Fz [Iq _,Iq _,.str _]) (Qp Az ?_))
         refine Cv 1 [Iq _,Iq _,.str _] (_::_::_) ?_
         refine Qp Ap (Ag (Dw ?_))
         refine ⟨.inr rfl,[.agg [Iq _,Iq _,.str _],Iq _],.cons (.box _ _ _ 1 _ _ _ _ rfl rfl rfl rfl rfl rfl) <| .cons (.tmp _ _ rfl) <| .nil,.cons _ (.cons _ (.refl _)),?_⟩
         simp only [Ae,E7,Gs]
         try simp only [hgd]
         (first | rw [iN hc1] | skip);(first | rw [iN hc2] | skip);(first | rw [iN hc3] | skip);(first | rw [if_pos hc4] | skip);(first | rw [iN hc5] | skip);(first | rw [iN hc6] | skip);(first | rw [if_pos hc7] | skip);(first | rw [if_pos hc8] | skip)
         first | done | rfl | (exfalso;simp_all;done) | skip
        ·
         refine By (Ai (Qp (Cq [Iq _,Iq _,.str _]) ?_))
         refine Cv 1 [Iq _,Iq _,.str _] (_::_::_) ?_
         refine Qp Ap (Ag (AW.ret ?_))
         refine ⟨.inr rfl,[.agg [Iq _,Iq _,.str _],Iq _],.cons (.box _ _ _ 1 _ _ _ _ rfl rfl rfl rfl rfl rfl) <| .cons (.tmp _ _ rfl) <| .nil,.cons _ (.cons _ (.refl _)),?_⟩
         simp only [Ae,E7,Gs]
         try simp only [hgd]
         (first | rw [iN hc1] | skip);(first | rw [iN hc2] | skip);(first | rw [iN hc3] | skip);(first | rw [if_pos hc4] | skip);(first | rw [iN hc5] | skip);(first | rw [iN hc6] | skip);(first | rw [if_pos hc7] | skip);(first | rw [iN hc8] | skip)
         first | done | rfl | (exfalso;simp_all;done) | skip
       ·
        refine By (AW.seq (Ai (Qp Az (Qp Cr (Ag (A6 (fun hc9=>?_) fun hc9=>?_))))))
        ·
         refine Ai (Qp (Fz [Iq _,Iq _,.str _]) (Qp Az ?_))
         refine Cv 1 [Iq _,Iq _,.str _] (_::_::_) ?_
         refine Qp Ap (Ag (Dw ?_))
         refine ⟨.inr rfl,[.agg [Iq _,Iq _,.str _],Iq _],.cons (.box _ _ _ 1 _ _ _ _ rfl rfl rfl rfl rfl rfl) <| .cons (.tmp _ _ rfl) <| .nil,.cons _ (.cons _ (.refl _)),?_⟩
         simp only [Ae,E7,Gs]
         try simp only [hgd]
         (first | rw [iN hc1] | skip);(first | rw [iN hc2] | skip);(first | rw [iN hc3] | skip);(first | rw [if_pos hc4] | skip);(first | rw [iN hc5] | skip);(first | rw [iN hc6] | skip);(first | rw [iN hc7] | skip);(first | rw [if_pos hc9] | skip)
         first | done | rfl | (exfalso;simp_all;done) | skip
        ·
         refine By (Ai (Qp (Cq [Iq _,Iq _,.str _]) ?_))
         refine Cv 1 [Iq _,Iq _,.str _] (_::_::_) ?_
         refine Qp Ap (Ag (AW.ret ?_))
         refine ⟨.inr rfl,[.agg [Iq _,Iq _,.str _],Iq _],.cons (.box _ _ _ 1 _ _ _ _ rfl rfl rfl rfl rfl rfl) <| .cons (.tmp _ _ rfl) <| .nil,.cons _ (.cons _ (.refl _)),?_⟩
         simp only [Ae,E7,Gs]
         try simp only [hgd]
         (first | rw [iN hc1] | skip);(first | rw [iN hc2] | skip);(first | rw [iN hc3] | skip);(first | rw [if_pos hc4] | skip);(first | rw [iN hc5] | skip);(first | rw [iN hc6] | skip);(first | rw [iN hc7] | skip);(first | rw [iN hc9] | skip)
         first | done | rfl | (exfalso;simp_all;done) | skip
    ·
     refine By (AW.seq (Ai (Qp Jl (Qp Bp (Qp A9 (Ag (A6 (fun hc10=>?_) fun hc10=>?_)))))))
     ·
      refine Ai (Qp Gc ?_)
      refine AOL.Aas (Am (k:=0) (c:=Iq _) Ah rfl rfl rfl rfl) rfl rfl ?_
      refine Qp (Fz [Iq _,Iq _,.str _]) ?_
      refine Cv 1 [Iq _,Iq _,.str _] (_::_::_) ?_
      refine Qp Ap (Ag (Dw ?_))
      refine ⟨.inr rfl,[.agg [Iq _,Iq _,.str _],Iq _],.cons (.box _ _ _ 1 _ _ _ _ rfl rfl rfl rfl rfl rfl) <| .cons (.tmp _ _ rfl) <| .nil,.cons _ (.cons _ (.refl _)),?_⟩
      simp only [Ae,E7,Gs]
      try simp only [hgd]
      (first | rw [iN hc1] | skip);(first | rw [iN hc2] | skip);(first | rw [iN hc3] | skip);(first | rw [iN hc4] | skip);(first | rw [if_pos hc10] | skip)
      first | done | rfl | (exfalso;simp_all;done) | skip
     ·
      refine By (Ai ?_)
      refine AOL.Aas (A7 (k:=0) (l:=[Iq _,Iq _,Iq _,Iq _,_]) Ah rfl rfl rfl rfl rfl) rfl rfl ?_
      refine Qp Oq (Qp Bp ?_)
      refine Qp (Qc rfl (c93 _ e.field hk)) ?_
      refine Qp N6 ?_
      refine Qp (Ci (v:=.agg [Iq _,Iq _,.str _]) rfl rfl) ?_
      refine Qp Ke ?_
      refine Qe (Ak (l:=[.int .i64 0,.int .i64 0,.str []]) (by kernel_rfl)) ?_
      rintro _ _ ⟨b8,rfl,rfl⟩
      refine Cv 0 [Iq _,Iq _,.str _] (_::_::_::_) ?_
      refine Qp Ap ?_
      refine AOL.ghost (GS.Aan (t:=8) 0 rfl rfl) ?_
      refine Ag (AW.seq (Ai (Qp Az (Qp A9 (Ag (A6 (fun hc11=>?_) fun hc11=>?_))))))
      ·
       refine AW.region (Qp (Cq [Iq _,Iq _,.str _]) ?_)
       refine Qp (Qc rfl (c94 _)) ?_
       refine Qp Ap (Ag (AW.seq (Ai (Qp Az (Qp Cr (Ag (A6 (fun hc12=>?_) fun hc12=>?_)))))))
       ·
        refine Ai (Qp (Fz [Iq _,Iq _,.str _]) (Qp Az ?_))
        refine Cv 1 [Iq _,Iq _,.str _] (_::_::_) ?_
        refine Qp Ap (Ag (Dw ?_))
        refine ⟨.inr rfl,[.agg [Iq _,Iq _,.str _],Iq _],.cons (.box _ _ _ 1 _ _ _ _ rfl rfl rfl rfl rfl rfl) <| .cons (.tmp _ _ rfl) <| .nil,.cons _ (.cons _ (.refl _)),?_⟩
        simp only [Ae,E7,Gs]
        try simp only [hgd]
        (first | rw [iN hc1] | skip);(first | rw [iN hc2] | skip);(first | rw [iN hc3] | skip);(first | rw [iN hc4] | skip);(first | rw [iN hc10] | skip);(first | rw [if_pos hc11] | skip);(first | rw [if_pos hc12] | skip)
        first | done | rfl | (exfalso;simp_all;done) | skip
       ·
        refine By (Ai (Qp (Cq [Iq _,Iq _,.str _]) ?_))
        refine Cv 1 [Iq _,Iq _,.str _] (_::_::_) ?_
        refine Qp Ap (Ag (AW.ret ?_))
        refine ⟨.inr rfl,[.agg [Iq _,Iq _,.str _],Iq _],.cons (.box _ _ _ 1 _ _ _ _ rfl rfl rfl rfl rfl rfl) <| .cons (.tmp _ _ rfl) <| .nil,.cons _ (.cons _ (.refl _)),?_⟩
        simp only [Ae,E7,Gs]
        try simp only [hgd]
        (first | rw [iN hc1] | skip);(first | rw [iN hc2] | skip);(first | rw [iN hc3] | skip);(first | rw [iN hc4] | skip);(first | rw [iN hc10] | skip);(first | rw [if_pos hc11] | skip);(first | rw [iN hc12] | skip)
        first | done | rfl | (exfalso;simp_all;done) | skip
      ·
       refine By (AW.seq (Ai (Qp Az (Qp Cr (Ag (A6 (fun hc13=>?_) fun hc13=>?_))))))
       ·
        refine Ai (Qp (Fz [Iq _,Iq _,.str _]) (Qp Az ?_))
        refine Cv 1 [Iq _,Iq _,.str _] (_::_::_) ?_
        refine Qp Ap (Ag (Dw ?_))
        refine ⟨.inr rfl,[.agg [Iq _,Iq _,.str _],Iq _],.cons (.box _ _ _ 1 _ _ _ _ rfl rfl rfl rfl rfl rfl) <| .cons (.tmp _ _ rfl) <| .nil,.cons _ (.cons _ (.refl _)),?_⟩
        simp only [Ae,E7,Gs]
        try simp only [hgd]
        (first | rw [iN hc1] | skip);(first | rw [iN hc2] | skip);(first | rw [iN hc3] | skip);(first | rw [iN hc4] | skip);(first | rw [iN hc10] | skip);(first | rw [iN hc11] | skip);(first | rw [if_pos hc13] | skip)
        first | done | rfl | (exfalso;simp_all;done) | skip
       ·
        refine By (Ai (Qp (Cq [Iq _,Iq _,.str _]) ?_))
        refine Cv 1 [Iq _,Iq _,.str _] (_::_::_) ?_
        refine Qp Ap (Ag (AW.ret ?_))
        refine ⟨.inr rfl,[.agg [Iq _,Iq _,.str _],Iq _],.cons (.box _ _ _ 1 _ _ _ _ rfl rfl rfl rfl rfl rfl) <| .cons (.tmp _ _ rfl) <| .nil,.cons _ (.cons _ (.refl _)),?_⟩
        simp only [Ae,E7,Gs]
        try simp only [hgd]
        (first | rw [iN hc1] | skip);(first | rw [iN hc2] | skip);(first | rw [iN hc3] | skip);(first | rw [iN hc4] | skip);(first | rw [iN hc10] | skip);(first | rw [iN hc11] | skip);(first | rw [iN hc13] | skip)
        first | done | rfl | (exfalso;simp_all;done) | skip

end Go.Proofs.YtjedflcpjlgokaaGreatDoor
