/-
  Several texts in one: W6, W8. No condition.
-/
import Derived.Test.YtkddpedfbicbeaaGreatDoorAz
import Derived.Test.YtkddpedfbicbeaaGreatDoorK10
import Derived.KernelRfl
set_option linter.unusedVariables false
set_option linter.unusedSimpArgs false
namespace Go.Proofs.YtkddpedfbicbeaaGreatDoor
open Go Go.Aw
set_option maxHeartbeats 400000
set_option maxRecDepth 20000

theorem c98 (op:Int):Av Tryz.prog 151 [.int .i64 op] (.int .i64 (Gn op)):=by
  refine Av.body (n:=13) Ai Tryz.func151 rfl rfl rfl fun H=>?_
  refine AW.seq (AW.region (Qp At (AOL.nil (Ae (AW.seq (AW.seq (AW.region (Qp A0 (AOL.nil ?_)))))))))
  refine Ae (AW.block ?_)
  refine AW.cut (fun (_:Unit)=>(⟨[(0,.int .i64 op),(3,.int .i64 op),(4,.bool (op==5||op==6||op==7||op==8))],H,13⟩:St)) (fun (_:Unit)=>True) ?_ ?_
  · skip
    refine AW.seq (AW.region (Qp A5 (Qp Be (AOL.nil (Ae (A3 (fun hc1=>?_) fun hc1=>?_))))))
    · skip
      refine Bx ?_
      refine ⟨(),?_,GS.weaken ⟨rfl,rfl,congrArg AV.bool (by simp [Mo, *]),trivial⟩ (.refl _)⟩
      trivial
    · skip
      refine AW.seq (AW.region (Qp A5 (Qp Be (AOL.nil (Ae (A3 (fun hc2=>?_) fun hc2=>?_))))))
      · skip
        refine Bx ?_
        refine ⟨(),?_,GS.weaken ⟨rfl,rfl,congrArg AV.bool (by simp [Mo, *]),trivial⟩ (.refl _)⟩
        trivial
      · skip
        refine AW.seq (AW.region (Qp A5 (Qp Be (AOL.nil (Ae (A3 (fun hc3=>?_) fun hc3=>?_))))))
        · skip
          refine Bx ?_
          refine ⟨(),?_,GS.weaken ⟨rfl,rfl,congrArg AV.bool (by simp [Mo, *]),trivial⟩ (.refl _)⟩
          trivial
        · skip
          refine AW.region (Qp A5 (Qp Be (AOL.nil (Ae ?_))))
          refine ⟨(),?_,GS.weaken ⟨rfl,rfl,congrArg AV.bool (by simp [Mo, *]),trivial⟩ (.refl _)⟩
          trivial
  · rintro _ _
    refine A3 (fun hc4=>?_) fun hc4=>?_
    · skip
      refine AW.seq (AW.region (Qp At (AOL.nil (Ae (AW.ret (Ba (Aj ?_)))))))
      refine Qr (Iq _) ?_
      try simp only [Cx,Bool.and_true] at *
      first
        | (simp only [Ad,Gn];(first | rw [if_pos hc4] | skip);first | done | rfl)
        | (try simp only [Bool.not_eq_true',Bool.not_eq_false'] at *
           first
           | (simp only [Ad,Gn, *,Bool.false_eq_true,↓reduceIte,Bool.true_or,Bool.or_true,Bool.false_or,Bool.or_false,Bool.true_and,Bool.and_true,Bool.false_and,Bool.and_false,Bool.not_true,Bool.not_false];done)
           | (simp [Ad,Gn, *];done)
           | (simp_all [Ad,Gn];done))
        | skip
    · skip
      refine AW.cut (fun (_:Unit)=>(⟨[(0,.int .i64 op),(3,.int .i64 op),(9,.bool (op==10||op==11||op==12))],H,13⟩:St)) (fun (_:Unit)=>True) ?_ ?_
      · skip
        refine AW.seq (AW.region (Qp A5 (Qp Be (AOL.nil (Ae (A3 (fun hc5=>?_) fun hc5=>?_))))))
        · skip
          refine Bx ?_
          refine ⟨(),?_,GS.weaken ⟨rfl,rfl,congrArg AV.bool (by simp [Mo, *]),trivial⟩ (.refl _)⟩
          trivial
        · skip
          refine AW.seq (AW.region (Qp A5 (Qp Be (AOL.nil (Ae (A3 (fun hc6=>?_) fun hc6=>?_))))))
          · skip
            refine Bx ?_
            refine ⟨(),?_,GS.weaken ⟨rfl,rfl,congrArg AV.bool (by simp [Mo, *]),trivial⟩ (.refl _)⟩
            trivial
          · skip
            refine AW.region (Qp A5 (Qp Be (AOL.nil (Ae ?_))))
            refine ⟨(),?_,GS.weaken ⟨rfl,rfl,congrArg AV.bool (by simp [Mo, *]),trivial⟩ (.refl _)⟩
            trivial
      · rintro _ _
        refine A3 (fun hc7=>?_) fun hc7=>?_
        · skip
          refine AW.seq (AW.region (Qp At (AOL.nil (Ae (AW.ret (Ba (Aj ?_)))))))
          refine Qr (Iq _) ?_
          try simp only [Cx,Bool.and_true] at *
          first
            | (simp only [Ad,Gn];(first | rw [iN hc4] | skip);(first | rw [if_pos hc7] | skip);first | done | rfl)
            | (try simp only [Bool.not_eq_true',Bool.not_eq_false'] at *
               first
               | (simp only [Ad,Gn, *,Bool.false_eq_true,↓reduceIte,Bool.true_or,Bool.or_true,Bool.false_or,Bool.or_false,Bool.true_and,Bool.and_true,Bool.false_and,Bool.and_false,Bool.not_true,Bool.not_false];done)
               | (simp [Ad,Gn, *];done)
               | (simp_all [Ad,Gn];done))
            | skip
        · skip
          refine AW.skip (Bq (Ae (AW.seq (AW.region (Qp At (AOL.nil (Ae (AW.ret ?_))))))))
          refine Qr (Iq _) ?_
          try simp only [Cx,Bool.and_true] at *
          first
            | (simp only [Ad,Gn];(first | rw [iN hc4] | skip);(first | rw [iN hc7] | skip);first | done | rfl)
            | (try simp only [Bool.not_eq_true',Bool.not_eq_false'] at *
               first
               | (simp only [Ad,Gn, *,Bool.false_eq_true,↓reduceIte,Bool.true_or,Bool.or_true,Bool.false_or,Bool.or_false,Bool.true_and,Bool.and_true,Bool.false_and,Bool.and_false,Bool.not_true,Bool.not_false];done)
               | (simp [Ad,Gn, *];done)
               | (simp_all [Ad,Gn];done))
            | skip
theorem c73 (op:Int)(ks:List Int):Av Tryz.prog 116 [.int .i64 op,.sl 1 (ks.map fun k=>[.int .i64 k])] (.int .i64 (Di op ks)):=by
 refine Av.body (n:=39) Ai Tryz.func116 rfl rfl rfl fun H=>?_
 refine Ah (Qp At (Ag (AW.seq (Ah (Qp At (Ag (AW.block ?_)))))))
 refine AW.sllen 1 rfl fun hlen=>?_
 simp only [List.length_map,maxLen] at hlen
 refine AW.Aae (fun (p:Nat)=>(⟨[(0,.int .i64 op),(1,.sl 1 (ks.map fun k=>[.int .i64 k])),(5,.int .i64 (p:Int))],H,39⟩:St)) (fun (p:Nat)=>p≤ks.length∧Di op ks=Aq (fun k=>if Mo op k (ks.headD 0) then 0 else 9) (ks.drop p)) (fun (p:Nat)=>ks.length-p) (0) ?_ (GS.weaken ⟨rfl,rfl,rfl,trivial⟩ (.refl _)) ?_
 · exact ⟨Nat.zero_le _,rfl⟩
 ·
  rintro p hR
  refine AW.seq (Ah (Qp A0 (Qp C4 ?_)))
  refine Qp (Ak (n:=ks.length) Ai rfl rfl rfl (by simp)) ?_
  refine Qp Cj (Ag (A3 (fun hc1=>?_) fun hc1=>?_))
  ·
   obtain ⟨a,ha⟩:=B2 hc1
   have hlt:=A9 ha
   have hm:=List.mem_of_getElem? ha
   obtain ⟨a0,ha0⟩:∃a0,ks[0]? = some a0:=⟨_,List.getElem?_eq_getElem (by omega)⟩
   have hhd:ks.headD 0=a0:=by cases ks <;> simp_all
   refine Bx (AW.seq (AW.block (Ah (Qp A0 ?_))))
   refine Qp (Qc rfl (c98 op)) ?_
   refine Qp At (Ag (AW.seq ?_))
   refine AW.draw mixed (fun _=>True) trivial (by kernel_rfl) ?_
   refine Qn 0 rfl A0 (Qn 1 rfl N9 (Qn 2 rfl Bp (Qo 3 rfl [] Qw C4 (Qo 4 rfl [] Qw A0 ?_))))
   refine Jv.pure _ _ 5 _ _ rfl (by kernel_rfl) (by kernel_rfl) rfl (.opt _ (.ptr _) [(18,_),(19,_)] rfl (rX.all ⟨Ent.Aac _ _,Ent.Aac _ _,trivial⟩) (fun hG=>Af (c:=[Iq _]) Ai rfl rfl rfl rfl rfl rfl (by omega) (Bh (f:=fun k=>[AV.int .i64 k]) ha)) rfl) ?_
   refine Qo 6 rfl [(20,_)] Qw Bs (Qo 7 rfl [] Qw A0 ?_)
   refine Jv.pure _ _ 8 _ _ rfl (by kernel_rfl) (by kernel_rfl) rfl (.opt _ (.bool _) [(21,_),(22,_)] rfl (rX.all ⟨Ent.Aac _ _,Ent.Aac _ _,trivial⟩) (fun hG=>Ox rfl rfl) rfl) ?_
   refine Qn 9 rfl E1 (Qn 10 rfl Bp (Qo 11 rfl [] Qw A0 (Qo 12 rfl [(26,_)] Qw A5 (Qo 13 rfl [(27,_)] Qw Bp (Qo 14 rfl [] Qw C4 (Qo 15 rfl [] Qw A0 ?_))))))
   refine Jv.pure _ _ 16 _ _ rfl (by kernel_rfl) (by kernel_rfl) rfl (.opt _ (.ptr _) [(29,_),(30,_)] rfl (rX.all ⟨Ent.Aac _ _,Ent.Aac _ _,trivial⟩) (fun hG=>Af (c:=[Iq _]) Ai rfl rfl rfl rfl rfl rfl (by omega) (Bh (f:=fun k=>[AV.int .i64 k]) ha)) rfl) ?_
   refine Qo 17 rfl [(31,_)] Qw Bs (Qo 18 rfl [] Qw C4 ?_)
   refine Jv.pure _ _ 19 _ _ rfl (by kernel_rfl) (by kernel_rfl) rfl (.opt _ (.ptr _) [(33,_)] rfl (rX.all ⟨Ent.Aac _ _,trivial⟩) (fun hG=>Af (c:=[Iq _]) Ai rfl rfl rfl rfl rfl rfl (by omega) (Bh (f:=fun k=>[AV.int .i64 k]) ha0)) rfl) ?_
   refine Qo 20 rfl [(34,_)] Qw Bs ?_
   refine Jv.pure _ _ 21 _ _ rfl (by kernel_rfl) (by kernel_rfl) rfl (.opt _ (.bool _) [(32,_),(35,_)] rfl (rX.all ⟨Ent.Aac _ _,Ent.Aac _ _,trivial⟩) (fun hG=>Ox rfl rfl) rfl) ?_
   refine Qo 22 rfl [(28,_),(36,_)] Qw E1 (Qn 23 rfl E2 ?_)
   refine Jv.done _ _ (by kernel_rfl) ?_
   refine Ae (A3 (fun hc2=>?_) fun hc2=>?_)
   ·
    rw [aA] at hc2
    have hok:Mo op a a0=false:=by simpa using hc2
    refine Ah (Qp At (Ag (AW.ret (Ba (Aj (Aj (Ba (Aj ?_))))))))
    refine Qr (Iq _) ?_
    simp only [Ad,AV.int.injEq,true_and]
    rw [hR.2,A8 ha,Aq,hhd];simp [hok]
   ·
    rw [aA] at hc2
    have hok:Mo op a a0=true:=by simpa using hc2
    refine AW.skip (Bq (Ae (AW.region (Qp A0 (Qp Fv (Qp At (Ag ?_)))))))
    refine ⟨p+1,?_,?_,GS.weaken ⟨rfl,rfl,rfl,trivial⟩ (.refl _)⟩
    · exact ⟨hlt,by rw [hR.2,A8 ha,Aq,hhd];simp [hok]⟩
    · first | omega | (simp only;omega)
  ·
   have hd:=Dh hc1
   refine AW.exit ?_
   refine A6 (A6 (Bv (Ae (Ah (Qp At (Ag (AW.ret ?_)))))))
   refine Qr (Iq _) ?_
   simp only [Ad,AV.int.injEq,true_and]
   rw [hR.2,hd];rfl
theorem c65 (a b:Int):Av Tryz.prog 121 [.int .i64 a,.int .i64 b] (.agg (cV (G0 7 a b))):=by
 refine Av.body (n:=9) Ai Tryz.func121 rfl rfl rfl fun H=>?_
 refine Ah ?_
 refine Qe (Al (l:=[.int .i64 0,.int .i64 0,.str []]) (by kernel_rfl)) ?_
 rintro _ _ ⟨b4,rfl,rfl⟩
 refine Df (Qp A0 (Qp A0 (Qp Cj ?_)))
 refine Qp (Qc rfl (c42 _)) ?_
 refine Cm 0 [Iq _,Iq _,.str _] (_::_) ?_
 refine Ag (AW.ret ?_)
 refine ⟨.inr rfl,[.agg [Iq _,Iq _,.str _]],.cons (.box _ _ _ 0 _ _ _ _ rfl rfl rfl rfl rfl rfl) <| .nil,.cons _ (.refl _),?_⟩
 rfl
theorem c66 (a b:Int):Av Tryz.prog 122 [.int .i64 a,.int .i64 b] (.agg (cV (G0 8 a b))):=by
 refine Av.body (n:=9) Ai Tryz.func122 rfl rfl rfl fun H=>?_
 refine Ah ?_
 refine Qe (Al (l:=[.int .i64 0,.int .i64 0,.str []]) (by kernel_rfl)) ?_
 rintro _ _ ⟨b4,rfl,rfl⟩
 refine Df (Qp A0 (Qp A0 (Qp Nx ?_)))
 refine Qp (Qc rfl (c42 _)) ?_
 refine Cm 0 [Iq _,Iq _,.str _] (_::_) ?_
 refine Ag (AW.ret ?_)
 refine ⟨.inr rfl,[.agg [Iq _,Iq _,.str _]],.cons (.box _ _ _ 0 _ _ _ _ rfl rfl rfl rfl rfl rfl) <| .nil,.cons _ (.refl _),?_⟩
 rfl
theorem c67 (a b:Int):Av Tryz.prog 123 [.int .i64 a,.int .i64 b] (.agg (cV (G0 10 a b))):=by
 refine Av.body (n:=12) Ai Tryz.func123 rfl rfl rfl fun H=>?_
 refine Ah ?_
 refine Qe (Al (l:=[.int .i64 0,.int .i64 0,.str []]) (by kernel_rfl)) ?_
 rintro _ _ ⟨b4,rfl,rfl⟩
 refine Df (Qp A0 (Qp A5 (Qp Bp (Qg [] Qw A0 (Qg [(8,_)] Qw A5 (Qp E1 ?_))))))
 refine Qp (Qc rfl (c42 _)) ?_
 refine Cm 0 [Iq _,Iq _,.str _] (_::_) ?_
 refine Ag (AW.ret ?_)
 refine ⟨.inr rfl,[.agg [Iq _,Iq _,.str _]],.cons (.box _ _ _ 0 _ _ _ _ rfl rfl rfl rfl rfl rfl) <| .nil,.cons _ (.refl _),?_⟩
 rfl
theorem c68 (a b:Int):Av Tryz.prog 124 [.int .i64 a,.int .i64 b] (.agg (cV (G0 11 a b))):=by
 refine Av.body (n:=12) Ai Tryz.func124 rfl rfl rfl fun H=>?_
 refine Ah ?_
 refine Qe (Al (l:=[.int .i64 0,.int .i64 0,.str []]) (by kernel_rfl)) ?_
 rintro _ _ ⟨b4,rfl,rfl⟩
 refine Df (Qp A0 (Qp A5 (Qp Bp (Qg [] Qw A0 (Qg [(8,_)] Qw A5 (Qp E2 ?_))))))
 refine Qp (Qc rfl (c42 _)) ?_
 refine Cm 0 [Iq _,Iq _,.str _] (_::_) ?_
 refine Ag (AW.ret ?_)
 refine ⟨.inr rfl,[.agg [Iq _,Iq _,.str _]],.cons (.box _ _ _ 0 _ _ _ _ rfl rfl rfl rfl rfl rfl) <| .nil,.cons _ (.refl _),?_⟩
 rfl
theorem c69 (a b:Int):Av Tryz.prog 125 [.int .i64 a,.int .i64 b] (.agg (cV (G0 12 a b))):=by
 refine Av.body (n:=8) Ai Tryz.func125 rfl rfl rfl fun H=>?_
 refine Ah ?_
 refine Qe (Al (l:=[.int .i64 0,.int .i64 0,.str []]) (by kernel_rfl)) ?_
 rintro _ _ ⟨b4,rfl,rfl⟩
 refine Df (Qp A0 (Qp Cr ?_))
 refine Qp (Qc rfl (c42 _)) ?_
 refine Cm 0 [Iq _,Iq _,.str _] (_::_) ?_
 refine Ag (AW.ret ?_)
 refine ⟨.inr rfl,[.agg [Iq _,Iq _,.str _]],.cons (.box _ _ _ 0 _ _ _ _ rfl rfl rfl rfl rfl rfl) <| .nil,.cons _ (.refl _),?_⟩
 rfl
theorem c62 (n:Int):Av Tryz.prog 118 [.int .i64 n] (.agg (cV ⟨0,n,[]⟩)):=by
 refine Av.body (n:=5) Ai Tryz.func118 rfl rfl rfl fun H=>?_
 refine Ah ?_
 refine Qe (Al (l:=[.int .i64 0,.int .i64 0,.str []]) (by kernel_rfl)) ?_
 rintro _ _ ⟨b2,rfl,rfl⟩
 refine Df (Qp A0 (Qp (Ep [Iq _,Iq _,.str _]) ?_))
 refine Cm 0 [Iq _,Iq _,.str _] (_::_) ?_
 refine Ag (AW.ret ?_)
 refine ⟨.inr rfl,[.agg [Iq _,Iq _,.str _]],.cons (.box _ _ _ 0 _ _ _ _ rfl rfl rfl rfl rfl rfl) <| .nil,.cons _ (.refl _),?_⟩
 rfl
theorem c63 (a b:Int):Av Tryz.prog 119 [.int .i64 a,.int .i64 b,.ptr [.fn (.func 118) [] []]] (.agg (cV (G0 5 a b))):=by
 refine Av.body (n:=11) Ai Tryz.func119 rfl rfl rfl fun H=>?_
 refine Ah ?_
 refine Qe (Al (l:=[.int .i64 0,.int .i64 0,.str []]) (by kernel_rfl)) ?_
 rintro _ _ ⟨b5,rfl,rfl⟩
 refine Df ?_
 refine Qp (Ec (c:=.fn _ _ _) Ai rfl rfl rfl) ?_
 refine Qp A0 (Qp A0 ?_)
 refine Qp (bQ rfl rfl) ?_
 refine Qp (Dz (by kernel_rfl) rfl rfl rfl (c62 _)) ?_
 refine Cm 0 [Iq _,Iq _,.str _] (_::_) ?_
 refine Ag (AW.ret ?_)
 refine ⟨.inr rfl,[.agg [Iq _,Iq _,.str _]],.cons (.box _ _ _ 0 _ _ _ _ rfl rfl rfl rfl rfl rfl) <| .nil,.cons _ (.refl _),?_⟩
 rfl
theorem c64 (a b:Int):Av Tryz.prog 120 [.int .i64 a,.int .i64 b,.ptr [.fn (.func 118) [] []]] (.agg (cV (G0 6 a b))):=by
 refine Av.body (n:=11) Ai Tryz.func120 rfl rfl rfl fun H=>?_
 refine Ah ?_
 refine Qe (Al (l:=[.int .i64 0,.int .i64 0,.str []]) (by kernel_rfl)) ?_
 rintro _ _ ⟨b5,rfl,rfl⟩
 refine Df ?_
 refine Qp (Ec (c:=.fn _ _ _) Ai rfl rfl rfl) ?_
 refine Qp A0 (Qp A0 ?_)
 refine Qp (zC rfl rfl) ?_
 refine Qp (Dz (by kernel_rfl) rfl rfl rfl (c62 _)) ?_
 refine Cm 0 [Iq _,Iq _,.str _] (_::_) ?_
 refine Ag (AW.ret ?_)
 refine ⟨.inr rfl,[.agg [Iq _,Iq _,.str _]],.cons (.box _ _ _ 0 _ _ _ _ rfl rfl rfl rfl rfl rfl) <| .nil,.cons _ (.refl _),?_⟩
 rfl
theorem c39  : Av Tryz.prog 76 [] (.mapv OPS):=by
 refine Av.body (n:=6) Ai Tryz.func76 rfl rfl rfl fun H=>?_
 refine Ah (Qp N8 (Df ?_))
 refine Qe (Al (l:=[.val .nilFunc]) (by kernel_rfl)) ?_
 rintro _ _ ⟨b1,rfl,rfl⟩
 refine Cm 0 [_] (_::_) ?_
 refine AOL.ghost (GS.Aad (t:=1) 0 rfl rfl) ?_
 refine Df ?_
 refine Qe (rW) ?_
 rintro _ _ ⟨b2,rfl,rfl⟩
 refine Qp (Bc (l:=[]) (l':=[.ptr _]) rfl rfl) ?_
 refine Qe (Lf (i:=0) (x:=.fn _ _ _) (H2:=_::_) Ai rfl rfl rfl rfl rfl rfl rfl rfl rfl rfl) ?_
 rintro _ _ ⟨rfl,rfl⟩
 refine Qp (Bc (l:=[]) (l':=[.ptr _]) rfl rfl) ?_
 refine Qe (Lf (i:=0) (x:=.fn _ _ _) (H2:=_::_) Ai rfl rfl rfl rfl rfl rfl rfl rfl rfl rfl) ?_
 rintro _ _ ⟨rfl,rfl⟩
 refine Qe (Lf (i:=0) (x:=.fn _ _ _) (H2:=_::_) Ai rfl rfl rfl rfl rfl rfl rfl rfl rfl rfl) ?_
 rintro _ _ ⟨rfl,rfl⟩
 refine Qe (Lf (i:=0) (x:=.fn _ _ _) (H2:=_::_) Ai rfl rfl rfl rfl rfl rfl rfl rfl rfl rfl) ?_
 rintro _ _ ⟨rfl,rfl⟩
 refine Qe (Lf (i:=0) (x:=.fn _ _ _) (H2:=_::_) Ai rfl rfl rfl rfl rfl rfl rfl rfl rfl rfl) ?_
 rintro _ _ ⟨rfl,rfl⟩
 refine Qe (Lf (i:=0) (x:=.fn _ _ _) (H2:=_::_) Ai rfl rfl rfl rfl rfl rfl rfl rfl rfl rfl) ?_
 rintro _ _ ⟨rfl,rfl⟩
 refine Qe (Lf (i:=0) (x:=.fn _ _ _) (H2:=_::_) Ai rfl rfl rfl rfl rfl rfl rfl rfl rfl rfl) ?_
 rintro _ _ ⟨rfl,rfl⟩
 refine AOL.ghost (GS.freezeMap (t:=2) 0 rfl rfl) ?_
 refine Qp (Bj (v:=.mapv _) rfl) ?_
 refine Qp (C2 (v:=.mapv _) rfl) ?_
 refine Ag (AW.ret ?_)
 refine Qr (.mapv _) ?_
 rfl

set_option maxHeartbeats 800000
set_option maxRecDepth 20000

theorem c70 (x:Evr)(hx:x.ok)(e:Ex)(hk:0≤e.field):Av Tryz.prog 126 [.agg (cX x),.agg (cE e)] (.tuple [.agg (cV (Fb x e).1),.int .i64 (Fb x e).2]):=by
 refine Av.body (n:=71) Ai Tryz.func126 rfl rfl rfl fun H=>?_
 refine Ah (Qp (F5 [_,Iq _,Iq _,Iq _,Iq _,Iq _,_,_]) (Qp K8 ?_))
 refine Qe (Al (l:=[.int .i64 0,.int .i64 0,.str []]) (by kernel_rfl)) ?_
 rintro _ _ ⟨b4,rfl,rfl⟩
 refine Qp At (Df (Qp (Ck [_,Iq _,Iq _,Iq _,Iq _,Iq _,_,_]) (Qp Xo (Qp Bs ?_))))
 refine Qp (Qc rfl (c91 x e.var)) ?_
 refine Qp Wj (Ag (AW.seq (Ah (Qp Ks (Qp Bs (Ag (AW.block (Ah (Qp A5 ?_)))))))))
 refine Qp Be (Ag (A3 (fun hc1=>?_) fun hc1=>?_))
 ·
  refine Ah (Qp Jp (Qp (Ck [Iq _,Iq _,.str _]) ?_))
  refine Cm 0 [Iq _,Iq _,.str _] (_::_) ?_
  refine Qp At (Ag (AW.ret (Ba (Aj ?_))))
  refine ⟨.inr rfl,[.agg [Iq _,Iq _,.str _],Iq _],.cons (.box _ _ _ 0 _ _ _ _ rfl rfl rfl rfl rfl rfl) <| .cons (.tmp _ _ rfl) <| .nil,.cons _ (.refl _),?_⟩
  simp only [Ad,Fb,G4]
  try simp only [hgd]
  (first | rw [if_pos hc1] | skip)
  first | done | rfl | (exfalso;simp_all;done) | skip
 ·
  refine Ah (Qp A5 (Qp Be (Ag (A3 (fun hc2=>?_) fun hc2=>?_))))
  ·
   refine Ah (Qp C4 ?_)
   refine Qp (Ak (n:=(Bt x.vars e.var).length) Ai rfl rfl rfl (by simp)) ?_
   refine Qp (Ep [Iq _,Iq _,.str _]) ?_
   refine Cm 0 [Iq _,Iq _,.str _] (_::_) ?_
   refine Qp At (Ag (AW.ret (Ba (Aj ?_))))
   refine ⟨.inr rfl,[.agg [Iq _,Iq _,.str _],Iq _],.cons (.box _ _ _ 0 _ _ _ _ rfl rfl rfl rfl rfl rfl) <| .cons (.tmp _ _ rfl) <| .nil,.cons _ (.refl _),?_⟩
   simp only [Ad,Fb,G4]
   try simp only [hgd]
   (first | rw [iN hc1] | skip);(first | rw [if_pos hc2] | skip)
   first | done | rfl | (exfalso;simp_all;done) | skip
  ·
   refine Ah (Qp A5 (Qp Be (Ag (A3 (fun hc3=>?_) fun hc3=>?_))))
   ·
    refine Ah (Qp (Ck [_,Iq _,Iq _,Iq _,Iq _,Iq _,_,_]) (Qp D0 ?_))
    refine Qp (Qc rfl (c92 x hx e hk)) ?_
    refine Qp (Cb (v:=.agg [Iq _,Iq _,.str _]) rfl rfl) ?_
    refine Qp Jn ?_
    refine Cm 0 [Iq _,Iq _,.str _] (_::_) ?_
    refine Qp At (Ag (AW.ret (Ba (Aj ?_))))
    refine ⟨.inr rfl,[.agg [Iq _,Iq _,.str _],Iq _],.cons (.box _ _ _ 0 _ _ _ _ rfl rfl rfl rfl rfl rfl) <| .cons (.tmp _ _ rfl) <| .nil,.cons _ (.refl _),?_⟩
    simp only [Ad,Fb,G4]
    try simp only [hgd]
    (first | rw [iN hc1] | skip);(first | rw [iN hc2] | skip);(first | rw [if_pos hc3] | skip)
    first | done | rfl | (exfalso;simp_all;done) | skip
   ·
    refine AW.skip (Bq (Ae (Ah (Qp (Qf [Iq _,Iq _,Iq _,Iq _,_,_]) (Qp (Ck [Iq _,Iq _,Iq _,Iq _,_]) ?_)))))
    refine Qe (Al (l:=[.int .i64 0,.int .i64 0,.int .i64 0,.int .i64 0,.sl 3 []]) (by kernel_rfl)) ?_
    rintro _ _ ⟨b7,rfl,rfl⟩
    refine Cm 0 [Iq _,Iq _,Iq _,Iq _,_] (_::_::_) ?_
    refine Ag (AW.seq (Ah (Qp Xo (Qp Bs (Qp (Qf [Iq _,Iq _,Iq _,Iq _,Iq _,_,_]) (Qp Bs (Qp Cr (Ag (A3 (fun hc4=>?_) fun hc4=>?_)))))))))
    ·
     refine AW.seq (Ah (Qp C4 ?_))
     refine Qp (Ak (n:=(Bt x.vars e.var).length) Ai rfl rfl rfl (by simp)) ?_
     refine Qp A5 (Ag (A3 (fun hc5=>?_) fun hc5=>?_))
     ·
      refine Ah (Qp (Ep [Iq _,Iq _,.str _]) ?_)
      refine Cm 1 [Iq _,Iq _,.str _] (_::_::_) ?_
      refine Qp At (Ag (Dr (Aj ?_)))
      refine ⟨.inr rfl,[.agg [Iq _,Iq _,.str _],Iq _],.cons (.box _ _ _ 1 _ _ _ _ rfl rfl rfl rfl rfl rfl) <| .cons (.tmp _ _ rfl) <| .nil,.cons _ (.cons _ (.refl _)),?_⟩
      simp only [Ad,Fb,G4]
      try simp only [hgd]
      (first | rw [iN hc1] | skip);(first | rw [iN hc2] | skip);(first | rw [iN hc3] | skip);(first | rw [if_pos hc4] | skip);(first | rw [if_pos hc5] | skip)
      first | done | rfl | (exfalso;simp_all;done) | skip
     ·
      have hlg:=uY hc5
      have hle:=bF hx e.var
      have hne:(Bt x.vars e.var).length≠0:=by simpa using hc5
      refine hlg.elim fun a hal=>?_
      have ha:=hal.1
      have hl:=hal.2
      have hgd:(Bt x.vars e.var).getLast?.getD Kl=a:=by rw [hl];rfl
      refine Bx (AW.region (Qp C4 (Qp C4 ?_)))
      refine Qp (Ak (n:=(Bt x.vars e.var).length) Ai rfl rfl rfl (by simp)) ?_
      refine Qp (Z5 rfl rfl rfl (by constructor <;> omega)) ?_
      refine Qp (Af (c:=[Iq _,Iq _,Iq _,Iq _,_]) Ai rfl rfl rfl rfl rfl rfl (by omega) (Bh ha)) ?_
      refine Qp (Ck [Iq _,Iq _,Iq _,Iq _,_]) ?_
      refine Cm 0 [Iq _,Iq _,Iq _,Iq _,_] (_::_::_) ?_
      refine Ag (AW.seq (Ah (Qp Ks (Qp Bs (Qp A5 (Ag (A3 (fun hc6=>?_) fun hc6=>?_)))))))
      ·
       refine Ah (Qp Ir ?_)
       refine AOL.Aai (Ax (k:=0) (c:=Iq _) Ai rfl rfl rfl rfl) rfl rfl ?_
       refine Qp (Ep [Iq _,Iq _,.str _]) ?_
       refine Cm 1 [Iq _,Iq _,.str _] (_::_::_) ?_
       refine Qp At (Ag (Dr ?_))
       refine ⟨.inr rfl,[.agg [Iq _,Iq _,.str _],Iq _],.cons (.box _ _ _ 1 _ _ _ _ rfl rfl rfl rfl rfl rfl) <| .cons (.tmp _ _ rfl) <| .nil,.cons _ (.cons _ (.refl _)),?_⟩
       simp only [Ad,Fb,G4]
       try simp only [hgd]
       (first | rw [iN hc1] | skip);(first | rw [iN hc2] | skip);(first | rw [iN hc3] | skip);(first | rw [if_pos hc4] | skip);(first | rw [iN hc5] | skip);(first | rw [if_pos hc6] | skip)
       first | done | rfl | (exfalso;simp_all;done) | skip
      ·
       refine Bx (Ah ?_)
       refine AOL.Aai (Bz (k:=0) (l:=[Iq _,Iq _,Iq _,Iq _,_]) Ai rfl rfl rfl rfl rfl) rfl rfl ?_
       refine Qp Q2 (Qp Bs ?_)
       refine Qp (Qc rfl (c93 _ e.field hk)) ?_
       refine Qp Mv ?_
       refine Qp (Cb (v:=.agg [Iq _,Iq _,.str _]) rfl rfl) ?_
       refine Qp Jn ?_
       refine Qe (Al (l:=[.int .i64 0,.int .i64 0,.str []]) (by kernel_rfl)) ?_
       rintro _ _ ⟨b8,rfl,rfl⟩
       refine Cm 0 [Iq _,Iq _,.str _] (_::_::_::_) ?_
       refine Qp At ?_
       refine AOL.ghost (GS.Aad (t:=8) 0 rfl rfl) ?_
       refine Ag (AW.seq (Ah (Qp A0 (Qp A5 (Ag (A3 (fun hc7=>?_) fun hc7=>?_))))))
       ·
        refine AW.region (Qp (Ck [Iq _,Iq _,.str _]) ?_)
        refine Qp (Qc rfl (c94 _)) ?_
        refine Qp At (Ag (AW.seq (Ah (Qp A0 (Qp Cr (Ag (A3 (fun hc8=>?_) fun hc8=>?_)))))))
        ·
         refine Ah (Qp (Ep [Iq _,Iq _,.str _]) (Qp A0 ?_))
         refine Cm 1 [Iq _,Iq _,.str _] (_::_::_) ?_
         refine Qp At (Ag (Dr ?_))
         refine ⟨.inr rfl,[.agg [Iq _,Iq _,.str _],Iq _],.cons (.box _ _ _ 1 _ _ _ _ rfl rfl rfl rfl rfl rfl) <| .cons (.tmp _ _ rfl) <| .nil,.cons _ (.cons _ (.refl _)),?_⟩
         simp only [Ad,Fb,G4]
         try simp only [hgd]
         (first | rw [iN hc1] | skip);(first | rw [iN hc2] | skip);(first | rw [iN hc3] | skip);(first | rw [if_pos hc4] | skip);(first | rw [iN hc5] | skip);(first | rw [iN hc6] | skip);(first | rw [if_pos hc7] | skip);(first | rw [if_pos hc8] | skip)
         first | done | rfl | (exfalso;simp_all;done) | skip
        ·
         refine Bx (Ah (Qp (Ck [Iq _,Iq _,.str _]) ?_))
         refine Cm 1 [Iq _,Iq _,.str _] (_::_::_) ?_
         refine Qp At (Ag (AW.ret ?_))
         refine ⟨.inr rfl,[.agg [Iq _,Iq _,.str _],Iq _],.cons (.box _ _ _ 1 _ _ _ _ rfl rfl rfl rfl rfl rfl) <| .cons (.tmp _ _ rfl) <| .nil,.cons _ (.cons _ (.refl _)),?_⟩
         simp only [Ad,Fb,G4]
         try simp only [hgd]
         (first | rw [iN hc1] | skip);(first | rw [iN hc2] | skip);(first | rw [iN hc3] | skip);(first | rw [if_pos hc4] | skip);(first | rw [iN hc5] | skip);(first | rw [iN hc6] | skip);(first | rw [if_pos hc7] | skip);(first | rw [iN hc8] | skip)
         first | done | rfl | (exfalso;simp_all;done) | skip
       ·
        refine Bx (AW.seq (Ah (Qp A0 (Qp Cr (Ag (A3 (fun hc9=>?_) fun hc9=>?_))))))
        ·
         refine Ah (Qp (Ep [Iq _,Iq _,.str _]) (Qp A0 ?_))
         refine Cm 1 [Iq _,Iq _,.str _] (_::_::_) ?_
         refine Qp At (Ag (Dr ?_))
         refine ⟨.inr rfl,[.agg [Iq _,Iq _,.str _],Iq _],.cons (.box _ _ _ 1 _ _ _ _ rfl rfl rfl rfl rfl rfl) <| .cons (.tmp _ _ rfl) <| .nil,.cons _ (.cons _ (.refl _)),?_⟩
         simp only [Ad,Fb,G4]
         try simp only [hgd]
         (first | rw [iN hc1] | skip);(first | rw [iN hc2] | skip);(first | rw [iN hc3] | skip);(first | rw [if_pos hc4] | skip);(first | rw [iN hc5] | skip);(first | rw [iN hc6] | skip);(first | rw [iN hc7] | skip);(first | rw [if_pos hc9] | skip)
         first | done | rfl | (exfalso;simp_all;done) | skip
        ·
         refine Bx (Ah (Qp (Ck [Iq _,Iq _,.str _]) ?_))
         refine Cm 1 [Iq _,Iq _,.str _] (_::_::_) ?_
         refine Qp At (Ag (AW.ret ?_))
         refine ⟨.inr rfl,[.agg [Iq _,Iq _,.str _],Iq _],.cons (.box _ _ _ 1 _ _ _ _ rfl rfl rfl rfl rfl rfl) <| .cons (.tmp _ _ rfl) <| .nil,.cons _ (.cons _ (.refl _)),?_⟩
         simp only [Ad,Fb,G4]
         try simp only [hgd]
         (first | rw [iN hc1] | skip);(first | rw [iN hc2] | skip);(first | rw [iN hc3] | skip);(first | rw [if_pos hc4] | skip);(first | rw [iN hc5] | skip);(first | rw [iN hc6] | skip);(first | rw [iN hc7] | skip);(first | rw [iN hc9] | skip)
         first | done | rfl | (exfalso;simp_all;done) | skip
    ·
     refine Bx (AW.seq (Ah (Qp Ks (Qp Bs (Qp A5 (Ag (A3 (fun hc10=>?_) fun hc10=>?_)))))))
     ·
      refine Ah (Qp Ir ?_)
      refine AOL.Aai (Ax (k:=0) (c:=Iq _) Ai rfl rfl rfl rfl) rfl rfl ?_
      refine Qp (Ep [Iq _,Iq _,.str _]) ?_
      refine Cm 1 [Iq _,Iq _,.str _] (_::_::_) ?_
      refine Qp At (Ag (Dr ?_))
      refine ⟨.inr rfl,[.agg [Iq _,Iq _,.str _],Iq _],.cons (.box _ _ _ 1 _ _ _ _ rfl rfl rfl rfl rfl rfl) <| .cons (.tmp _ _ rfl) <| .nil,.cons _ (.cons _ (.refl _)),?_⟩
      simp only [Ad,Fb,G4]
      try simp only [hgd]
      (first | rw [iN hc1] | skip);(first | rw [iN hc2] | skip);(first | rw [iN hc3] | skip);(first | rw [iN hc4] | skip);(first | rw [if_pos hc10] | skip)
      first | done | rfl | (exfalso;simp_all;done) | skip
     ·
      refine Bx (Ah ?_)
      refine AOL.Aai (Bz (k:=0) (l:=[Iq _,Iq _,Iq _,Iq _,_]) Ai rfl rfl rfl rfl rfl) rfl rfl ?_
      refine Qp Q2 (Qp Bs ?_)
      refine Qp (Qc rfl (c93 _ e.field hk)) ?_
      refine Qp Mv ?_
      refine Qp (Cb (v:=.agg [Iq _,Iq _,.str _]) rfl rfl) ?_
      refine Qp Jn ?_
      refine Qe (Al (l:=[.int .i64 0,.int .i64 0,.str []]) (by kernel_rfl)) ?_
      rintro _ _ ⟨b8,rfl,rfl⟩
      refine Cm 0 [Iq _,Iq _,.str _] (_::_::_::_) ?_
      refine Qp At ?_
      refine AOL.ghost (GS.Aad (t:=8) 0 rfl rfl) ?_
      refine Ag (AW.seq (Ah (Qp A0 (Qp A5 (Ag (A3 (fun hc11=>?_) fun hc11=>?_))))))
      ·
       refine AW.region (Qp (Ck [Iq _,Iq _,.str _]) ?_)
       refine Qp (Qc rfl (c94 _)) ?_
       refine Qp At (Ag (AW.seq (Ah (Qp A0 (Qp Cr (Ag (A3 (fun hc12=>?_) fun hc12=>?_)))))))
       ·
        refine Ah (Qp (Ep [Iq _,Iq _,.str _]) (Qp A0 ?_))
        refine Cm 1 [Iq _,Iq _,.str _] (_::_::_) ?_
        refine Qp At (Ag (Dr ?_))
        refine ⟨.inr rfl,[.agg [Iq _,Iq _,.str _],Iq _],.cons (.box _ _ _ 1 _ _ _ _ rfl rfl rfl rfl rfl rfl) <| .cons (.tmp _ _ rfl) <| .nil,.cons _ (.cons _ (.refl _)),?_⟩
        simp only [Ad,Fb,G4]
        try simp only [hgd]
        (first | rw [iN hc1] | skip);(first | rw [iN hc2] | skip);(first | rw [iN hc3] | skip);(first | rw [iN hc4] | skip);(first | rw [iN hc10] | skip);(first | rw [if_pos hc11] | skip);(first | rw [if_pos hc12] | skip)
        first | done | rfl | (exfalso;simp_all;done) | skip
       ·
        refine Bx (Ah (Qp (Ck [Iq _,Iq _,.str _]) ?_))
        refine Cm 1 [Iq _,Iq _,.str _] (_::_::_) ?_
        refine Qp At (Ag (AW.ret ?_))
        refine ⟨.inr rfl,[.agg [Iq _,Iq _,.str _],Iq _],.cons (.box _ _ _ 1 _ _ _ _ rfl rfl rfl rfl rfl rfl) <| .cons (.tmp _ _ rfl) <| .nil,.cons _ (.cons _ (.refl _)),?_⟩
        simp only [Ad,Fb,G4]
        try simp only [hgd]
        (first | rw [iN hc1] | skip);(first | rw [iN hc2] | skip);(first | rw [iN hc3] | skip);(first | rw [iN hc4] | skip);(first | rw [iN hc10] | skip);(first | rw [if_pos hc11] | skip);(first | rw [iN hc12] | skip)
        first | done | rfl | (exfalso;simp_all;done) | skip
      ·
       refine Bx (AW.seq (Ah (Qp A0 (Qp Cr (Ag (A3 (fun hc13=>?_) fun hc13=>?_))))))
       ·
        refine Ah (Qp (Ep [Iq _,Iq _,.str _]) (Qp A0 ?_))
        refine Cm 1 [Iq _,Iq _,.str _] (_::_::_) ?_
        refine Qp At (Ag (Dr ?_))
        refine ⟨.inr rfl,[.agg [Iq _,Iq _,.str _],Iq _],.cons (.box _ _ _ 1 _ _ _ _ rfl rfl rfl rfl rfl rfl) <| .cons (.tmp _ _ rfl) <| .nil,.cons _ (.cons _ (.refl _)),?_⟩
        simp only [Ad,Fb,G4]
        try simp only [hgd]
        (first | rw [iN hc1] | skip);(first | rw [iN hc2] | skip);(first | rw [iN hc3] | skip);(first | rw [iN hc4] | skip);(first | rw [iN hc10] | skip);(first | rw [iN hc11] | skip);(first | rw [if_pos hc13] | skip)
        first | done | rfl | (exfalso;simp_all;done) | skip
       ·
        refine Bx (Ah (Qp (Ck [Iq _,Iq _,.str _]) ?_))
        refine Cm 1 [Iq _,Iq _,.str _] (_::_::_) ?_
        refine Qp At (Ag (AW.ret ?_))
        refine ⟨.inr rfl,[.agg [Iq _,Iq _,.str _],Iq _],.cons (.box _ _ _ 1 _ _ _ _ rfl rfl rfl rfl rfl rfl) <| .cons (.tmp _ _ rfl) <| .nil,.cons _ (.cons _ (.refl _)),?_⟩
        simp only [Ad,Fb,G4]
        try simp only [hgd]
        (first | rw [iN hc1] | skip);(first | rw [iN hc2] | skip);(first | rw [iN hc3] | skip);(first | rw [iN hc4] | skip);(first | rw [iN hc10] | skip);(first | rw [iN hc11] | skip);(first | rw [iN hc13] | skip)
        first | done | rfl | (exfalso;simp_all;done) | skip

end Go.Proofs.YtkddpedfbicbeaaGreatDoor
