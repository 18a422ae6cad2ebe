/-
  Walks of layer 11: the zone of a clause. No condition.
-/
import Derived.Test.YtjedflcpjlgokaaGreatDoorAz
import Derived.Test.YtjedflcpjlgokaaGreatDoorK12
import Derived.Test.YtjedflcpjlgokaaGreatDoorY7
import Derived.KernelRfl
namespace Go.Proofs.YtjedflcpjlgokaaGreatDoor
open Go Go.Aw
set_option maxHeartbeats 6400000
set_option maxRecDepth 20000
set_option linter.unusedVariables false
set_option linter.unusedSimpArgs false

theorem cA (T:List Sc)(V:List Va)(l:List Lit)(hll:l.length≤4096)(hlk:Q9 T V l):A1 Tryz.prog 35 [.agg (B9 T V),.sl 9 (l.map Fy)] (.ptr (oF T V l)):=by
 have hgo:=J7 hlk
 have hgl:=hgo.len
 have hgb:=hgo.bnds
 refine A1.body (n:=179) Aj Tryz.func35 rfl rfl rfl fun H=>?_
 refine Ah (Qp (It [_,_]) (Qp O5 (Dv ?_)))
 refine Qe (Mi) ?_
 rintro _ _ ⟨b19,rfl,rfl⟩
 refine Qp (Nr (l0:=[.int .i64 0,.val (.slice none 0 0),.val (.slice none 0 0),.val (.map none)]) (l:=[Iq _,_,_,_]) Aj rfl rfl (by kernel_rfl) rfl) ?_
 refine Qe (Wc (v:=.agg _) (cs:=[Iq _,_,_,_]) rfl rfl (rfl)) ?_
 rintro _ _ ⟨b21,rfl,rfl⟩
 refine Qp O5 ?_
 refine AOL.ghost (GS.cellRow 0 2 103 3 rfl rfl rfl rfl) ?_
 refine Dv ?_
 refine Qe (A0 (l:=[.val (.slice none 0 0)]) (by kernel_rfl)) ?_
 rintro _ _ ⟨b6,rfl,rfl⟩
 refine AOL.ghost (GS.cellRow 0 0 112 3 rfl rfl rfl rfl) ?_
 refine Dv ?_
 refine Qp (Gr (l:=[]) (l':=[.val _]) rfl rfl) ?_
 refine Qp (Di (v:=.fn _ _ _) rfl) ?_
 refine Ag (AW.seq (Ah (Qp Dm ?_)))
 refine Qp (Al (n:=l.length) Aj rfl rfl rfl (by simp)) ?_
 refine Qp Az (Ag (AW.block ?_))
 refine AW.Aa3 (fun (p:Nat×Sy×Value×Value×List (List AV))=>(⟨[(2,.ptr (B9 T V)),(5,.val (.pointer (some ⟨b21,0,none⟩))),(6,.val (.pointer (some ⟨b6,0,none⟩))),(7,.fn (.func 71) [] [.val (.pointer (some ⟨b6,0,none⟩))]),(23,.sl 9 (l.map Fy)),(24,.int .i64 l.length),(25,.int .i64 (p.1:Int))],.row p.2.2.2.1 p.2.2.2.2.length 112 3 :: .box b6 44 [.row p.2.2.2.1 3 p.2.2.2.2]::eI b19 b21 p.2.2.1 (.int .i64 0) (.val (.slice none 0 0)) p.2.1.ts H,179⟩:St)) (fun (p:Nat×Sy×Value×Value×List (List AV))=>p.1≤l.length∧p.2.1=Bz T V (l.take p.1)∧p.2.2.2.2=p.2.1.bs.map Ml) (fun (p:Nat×Sy×Value×Value×List (List AV))=>l.length-p.1) ((0,⟨[],[]⟩,.slice none 0 0,.slice none 0 0,[])) ?_ (GS.weaken ⟨rfl,rfl,rfl,rfl,rfl,rfl,rfl,trivial⟩ (.refl _)) ?_
 · exact ⟨Nat.zero_le _,rfl,rfl⟩
 ·
  rintro p hR
  have hok:=J7 (sT hlk p.1)
  rw [←hR.2.1] at hok
  have hkl:(l.take p.1).length≤4096:=by rw [List.length_take];omega
  have htl:=hok.len
  have hbl:=hok.bnds
  have hel:p.2.2.2.2.length≤8192:=by rw [hR.2.2,List.length_map];omega
  have hsb:∀c∈p.2.2.2.2,Bg c=true:=by rw [hR.2.2];exact F2 fun _=>rfl
  have hx:=mF (ts:=[]) (l:=[]) (n:=0)
  refine Ah (Qp Co (Ag (AW.seq (A4 (fun hc1=>?_) fun hc1=>?_))))
  ·
   obtain ⟨c,hc⟩:=B5 hc1
   have hlt:=Bh hc
   have hcm:=List.mem_of_getElem? hc
   have hck:=(hlk c hcm).1
   have hcs:=(hlk c hcm).2
   have hgn:=Pb hck hcs
   have hgr:=hgn.rest
   refine Bx (AW.seq (AW.block (Ah ?_)))
   refine Qp (Af (c:=[Iq _,_,Iq _,Iq _,Iq _,Iq _,Iq _,.str _,.bool _]) Aj rfl rfl rfl rfl rfl rfl (by omega) (B1 hc)) ?_
   refine Qp (C8 [Iq _,_,Iq _,Iq _,Iq _,Iq _,Iq _,.str _,.bool _]) ?_
   refine Qe (A0 (l:=[.int .i64 0,.sl 8 [],.int .i64 0,.int .i64 0,.int .i64 0,.int .i64 0,.int .i64 0,.str [],.bool false]) (by kernel_rfl)) ?_
   rintro _ _ ⟨b9,rfl,rfl⟩
   refine Eu 0 [Iq _,_,Iq _,Iq _,Iq _,Iq _,Iq _,.str _,.bool _] (_::_::_::_::_::_::_) ?_
   refine AOL.ghost (GS.Aa2 (t:=9) 0 rfl rfl) ?_
   refine Dv (Qp (C8 [_,_]) (Qp (C8 [Iq _,_,Iq _,Iq _,Iq _,Iq _,Iq _,.str _,.bool _]) ?_))
   refine Qp (Qc rfl (lX T V c hck hcs)) ?_
   refine Qp Om ?_
   refine Qp (Dt (v:=.agg [_,_,Iq _]) rfl rfl) ?_
   refine Qp X9 ?_
   refine Qe (A0 (l:=[.sl 3 [],.sl 3 [],.int .i64 0]) (by kernel_rfl)) ?_
   rintro _ _ ⟨b10,rfl,rfl⟩
   refine Eu 0 [_,_,Iq _] (_::_::_::_::_::_::_) ?_
   refine Qp Bb ?_
   refine AOL.ghost (GS.Aa2 (t:=10) 0 rfl rfl) ?_
   refine Ag (AW.seq (Ah (Qp Bt (Qp Gj (Ag (A4 (fun hc2=>?_) fun hc2=>?_))))))
   ·
    refine AW.exit ?_
    refine A2 (Bo (Ad (AW.region (Qp Fb (Qp Az (Ag ?_))))))
    refine ⟨(p.1+1,p.2),?_,?_,GS.weaken ⟨rfl,rfl,rfl,rfl,rfl,rfl,rfl,trivial⟩ (.refl _)⟩
    · exact ⟨hlt,oR hc hR.2.1 hc2,hR.2.2⟩
    · simp only;omega
   ·
    have hnum:=hc2
    refine Bx (Ah (Qp Gn (Qp (Qf [_,_,Iq _]) (Qp D1 ?_))))
    refine Qe (Ey (by kernel_rfl) rfl rfl (C7.front3 (R:=_::_::_) 4 3 2 rfl rfl rfl rfl (X1 b19 b21 _ 0 (.val (.slice none 0 0)) p.2.1.ts (Aa T V c).1.plus _ (by omega)))) ?_
    rintro _ _ ⟨w1,rfl,rfl⟩
    refine Qp Aq (Dv (Qp Gn (Qp (Qf [_,Iq _]) (Qp D1 ?_))))
    refine Qe (Ey (by kernel_rfl) rfl rfl (C7.front3 (R:=_::_::_) 2 1 0 rfl rfl rfl rfl (X1 b19 b21 _ 0 (.val (.slice none 0 0)) (Ar p.2.1.ts (Aa T V c).1.plus) (Aa T V c).1.minus _ (by have:=N3 p.2.1.ts (Aa T V c).1.plus;omega)))) ?_
    rintro _ _ ⟨w2,rfl,rfl⟩
    refine Qp Aq (Dv (Qp (Qf [Iq _,_,Iq _,Iq _,Iq _,Iq _,Iq _,.str _,.bool _]) (Qp (Qf [Iq _,_,Iq _,Iq _,Iq _,Iq _,Iq _,.str _,.bool _]) (Qp B2 (Qp Aq (Ag (AW.block (AW.seq (Ah ?_)))))))))
    refine Qp Az (Qp Ba (Qp Bt (Qg [] Qw (Qf [.bool _]) (Qg [(65,_)] Qw kM (Qp G1 (Qp Bb (Ag (A4 (fun hc3=>?_) fun hc3=>?_))))))))
    ·
     refine Bx (A4 (fun hc4=>?_) fun hc4=>?_)
     ·
      refine AW.region ?_
      refine Qp (Bk (v:=.fn _ _ _) rfl) ?_
      refine Qp Az (Qp Az (Qp (Qf [Iq _]) (Qp B2 ?_)))
      refine Qp (W7 rfl rfl (by constructor <;> omega)) ?_
      refine Qe (Ib (by kernel_rfl) rfl rfl rfl (C7.front2 (R:=_::_::_::_) 4 3 rfl rfl rfl (Nd b6 _ p.2.2.2.2 _ (Bv (Ar p.2.1.ts (Aa T V c).1.plus) (Aa T V c).1.plus) (Bv (Ar (Ar p.2.1.ts (Aa T V c).1.plus) (Aa T V c).1.minus) (Aa T V c).1.minus) (0-(Aa T V c).1.rest) (Nat.le_trans hel (by decide)) hsb))) ?_
      rintro _ _ ⟨u1,rfl,rfl⟩
      refine AOL.nil (Bn (Bn (Ad (AW.region (Qp Fb (Qp Az (Ag ?_)))))))
      refine ⟨(p.1+1,⟨(Ar (Ar p.2.1.ts (Aa T V c).1.plus) (Aa T V c).1.minus),p.2.1.bs ++ [⟨(Bv (Ar p.2.1.ts (Aa T V c).1.plus) (Aa T V c).1.plus),(Bv (Ar (Ar p.2.1.ts (Aa T V c).1.plus) (Aa T V c).1.minus) (Aa T V c).1.minus),0-(Aa T V c).1.rest⟩]⟩,w2,u1,(p.2.2.2.2 ++ [Ml ⟨(Bv (Ar p.2.1.ts (Aa T V c).1.plus) (Aa T V c).1.plus),(Bv (Ar (Ar p.2.1.ts (Aa T V c).1.plus) (Aa T V c).1.minus) (Aa T V c).1.minus),0-(Aa T V c).1.rest⟩])),?_,?_,GS.weaken ⟨rfl,rfl,rfl,rfl,rfl,rfl,rfl,trivial⟩ (.refl _)⟩
      · exact ⟨hlt,Kk hc hR.2.1 hnum (bd_1 ‹(c.cond.op==1&&c.neg)=true›),K5 hR.2.2⟩
      · simp only;omega
     ·
      exact absurd (hc4.symm.trans hc3) (by decide)
    ·
     refine AW.region (Qp Az (Qp Ba (Qp Bt (Qg [] Qw (Qf [.bool _]) (Qg [(71,_)] Qw kM (Qg [(72,_)] Qw Gj (Qp G1 (Qp Bb (Ag (A4 (fun hc5=>?_) fun hc5=>?_))))))))))
     ·
      refine AW.region ?_
      refine Qp (Bk (v:=.fn _ _ _) rfl) ?_
      refine Qp Az (Qp Az (Qp (Qf [Iq _]) (Qp B2 ?_)))
      refine Qp (W7 rfl rfl (by constructor <;> omega)) ?_
      refine Qe (Ib (by kernel_rfl) rfl rfl rfl (C7.front2 (R:=_::_::_::_) 4 3 rfl rfl rfl (Nd b6 _ p.2.2.2.2 _ (Bv (Ar p.2.1.ts (Aa T V c).1.plus) (Aa T V c).1.plus) (Bv (Ar (Ar p.2.1.ts (Aa T V c).1.plus) (Aa T V c).1.minus) (Aa T V c).1.minus) (0-(Aa T V c).1.rest) (Nat.le_trans hel (by decide)) hsb))) ?_
      rintro _ _ ⟨u1,rfl,rfl⟩
      refine AOL.nil (Bn (Bn (Ad (AW.region (Qp Fb (Qp Az (Ag ?_)))))))
      refine ⟨(p.1+1,⟨(Ar (Ar p.2.1.ts (Aa T V c).1.plus) (Aa T V c).1.minus),p.2.1.bs ++ [⟨(Bv (Ar p.2.1.ts (Aa T V c).1.plus) (Aa T V c).1.plus),(Bv (Ar (Ar p.2.1.ts (Aa T V c).1.plus) (Aa T V c).1.minus) (Aa T V c).1.minus),0-(Aa T V c).1.rest⟩]⟩,w2,u1,(p.2.2.2.2 ++ [Ml ⟨(Bv (Ar p.2.1.ts (Aa T V c).1.plus) (Aa T V c).1.plus),(Bv (Ar (Ar p.2.1.ts (Aa T V c).1.plus) (Aa T V c).1.minus) (Aa T V c).1.minus),0-(Aa T V c).1.rest⟩])),?_,?_,GS.weaken ⟨rfl,rfl,rfl,rfl,rfl,rfl,rfl,trivial⟩ (.refl _)⟩
      · exact ⟨hlt,Kk hc hR.2.1 hnum (bd_2 ‹(c.cond.op==8 && !c.neg)=true›),K5 hR.2.2⟩
      · simp only;omega
     ·
      refine AW.seq (Ah (Qp Az (Qp Ba (Qp Bb (Ag (A4 (fun hc6=>?_) fun hc6=>?_))))))
      ·
       refine Bx (A4 (fun hc7=>?_) fun hc7=>?_)
       ·
        refine AW.region ?_
        refine Qp (Bk (v:=.fn _ _ _) rfl) ?_
        refine Qp Az (Qp Az (Qp (Qf [Iq _]) (Qp B2 ?_)))
        refine Qp (dQ rfl rfl rfl (by constructor <;> omega)) ?_
        refine Qe (Ib (by kernel_rfl) rfl rfl rfl (C7.front2 (R:=_::_::_::_) 4 3 rfl rfl rfl (Nd b6 _ p.2.2.2.2 _ (Bv (Ar (Ar p.2.1.ts (Aa T V c).1.plus) (Aa T V c).1.minus) (Aa T V c).1.minus) (Bv (Ar p.2.1.ts (Aa T V c).1.plus) (Aa T V c).1.plus) ((Aa T V c).1.rest-1) (Nat.le_trans hel (by decide)) hsb))) ?_
        rintro _ _ ⟨u1,rfl,rfl⟩
        refine AOL.nil (Bn (Bn (Ad (AW.region (Qp Fb (Qp Az (Ag ?_)))))))
        refine ⟨(p.1+1,⟨(Ar (Ar p.2.1.ts (Aa T V c).1.plus) (Aa T V c).1.minus),p.2.1.bs ++ [⟨(Bv (Ar (Ar p.2.1.ts (Aa T V c).1.plus) (Aa T V c).1.minus) (Aa T V c).1.minus),(Bv (Ar p.2.1.ts (Aa T V c).1.plus) (Aa T V c).1.plus),(Aa T V c).1.rest-1⟩]⟩,w2,u1,(p.2.2.2.2 ++ [Ml ⟨(Bv (Ar (Ar p.2.1.ts (Aa T V c).1.plus) (Aa T V c).1.minus) (Aa T V c).1.minus),(Bv (Ar p.2.1.ts (Aa T V c).1.plus) (Aa T V c).1.plus),(Aa T V c).1.rest-1⟩])),?_,?_,GS.weaken ⟨rfl,rfl,rfl,rfl,rfl,rfl,rfl,trivial⟩ (.refl _)⟩
        · exact ⟨hlt,Kk hc hR.2.1 hnum (bd_3 ‹(c.cond.op==1&&c.neg)=false› ‹(c.cond.op==8 && !c.neg)=false› ‹(c.cond.op==1)=true›),K5 hR.2.2⟩
        · simp only;omega
       ·
        exact absurd (hc7.symm.trans hc6) (by decide)
      ·
       refine AW.region (Qp Az (Qp Ba (Qp Bb (Ag (A4 (fun hc8=>?_) fun hc8=>?_)))))
       ·
        refine AW.region ?_
        refine Qp (Bk (v:=.fn _ _ _) rfl) ?_
        refine Qp Az (Qp Az (Qp (Qf [Iq _]) (Qp B2 ?_)))
        refine Qp (dQ rfl rfl rfl (by constructor <;> omega)) ?_
        refine Qe (Ib (by kernel_rfl) rfl rfl rfl (C7.front2 (R:=_::_::_::_) 4 3 rfl rfl rfl (Nd b6 _ p.2.2.2.2 _ (Bv (Ar (Ar p.2.1.ts (Aa T V c).1.plus) (Aa T V c).1.minus) (Aa T V c).1.minus) (Bv (Ar p.2.1.ts (Aa T V c).1.plus) (Aa T V c).1.plus) ((Aa T V c).1.rest-1) (Nat.le_trans hel (by decide)) hsb))) ?_
        rintro _ _ ⟨u1,rfl,rfl⟩
        refine AOL.nil (Bn (Bn (Ad (AW.region (Qp Fb (Qp Az (Ag ?_)))))))
        refine ⟨(p.1+1,⟨(Ar (Ar p.2.1.ts (Aa T V c).1.plus) (Aa T V c).1.minus),p.2.1.bs ++ [⟨(Bv (Ar (Ar p.2.1.ts (Aa T V c).1.plus) (Aa T V c).1.minus) (Aa T V c).1.minus),(Bv (Ar p.2.1.ts (Aa T V c).1.plus) (Aa T V c).1.plus),(Aa T V c).1.rest-1⟩]⟩,w2,u1,(p.2.2.2.2 ++ [Ml ⟨(Bv (Ar (Ar p.2.1.ts (Aa T V c).1.plus) (Aa T V c).1.minus) (Aa T V c).1.minus),(Bv (Ar p.2.1.ts (Aa T V c).1.plus) (Aa T V c).1.plus),(Aa T V c).1.rest-1⟩])),?_,?_,GS.weaken ⟨rfl,rfl,rfl,rfl,rfl,rfl,rfl,trivial⟩ (.refl _)⟩
        · exact ⟨hlt,Kk hc hR.2.1 hnum (bd_4 ‹(c.cond.op==1&&c.neg)=false› ‹(c.cond.op==8 && !c.neg)=false› ‹(c.cond.op==8)=true›),K5 hR.2.2⟩
        · simp only;omega
       ·
        refine Ah (Qp Az (Qp Ba (Qp Bt (Qg [] Qw (Qf [.bool _]) (Qg [(98,_)] Qw kM (Qg [(99,_)] Qw Gj (Qp G1 (Qp Bb (Ag (A4 (fun hc9=>?_) fun hc9=>?_))))))))))
        ·
         refine AW.region ?_
         refine Qp (Bk (v:=.fn _ _ _) rfl) ?_
         refine Qp Az (Qp Az (Qp (Qf [Iq _]) (Qp B2 ?_)))
         refine Qp (W7 rfl rfl (by constructor <;> omega)) ?_
         refine Qp (dQ rfl rfl rfl (by constructor <;> omega)) ?_
         refine Qe (Ib (by kernel_rfl) rfl rfl rfl (C7.front2 (R:=_::_::_::_) 4 3 rfl rfl rfl (Nd b6 _ p.2.2.2.2 _ (Bv (Ar p.2.1.ts (Aa T V c).1.plus) (Aa T V c).1.plus) (Bv (Ar (Ar p.2.1.ts (Aa T V c).1.plus) (Aa T V c).1.minus) (Aa T V c).1.minus) (0-(Aa T V c).1.rest-1) (Nat.le_trans hel (by decide)) hsb))) ?_
         rintro _ _ ⟨u1,rfl,rfl⟩
         refine AOL.nil (Bn (Bn (Ad (AW.region (Qp Fb (Qp Az (Ag ?_)))))))
         refine ⟨(p.1+1,⟨(Ar (Ar p.2.1.ts (Aa T V c).1.plus) (Aa T V c).1.minus),p.2.1.bs ++ [⟨(Bv (Ar p.2.1.ts (Aa T V c).1.plus) (Aa T V c).1.plus),(Bv (Ar (Ar p.2.1.ts (Aa T V c).1.plus) (Aa T V c).1.minus) (Aa T V c).1.minus),0-(Aa T V c).1.rest-1⟩]⟩,w2,u1,(p.2.2.2.2 ++ [Ml ⟨(Bv (Ar p.2.1.ts (Aa T V c).1.plus) (Aa T V c).1.plus),(Bv (Ar (Ar p.2.1.ts (Aa T V c).1.plus) (Aa T V c).1.minus) (Aa T V c).1.minus),0-(Aa T V c).1.rest-1⟩])),?_,?_,GS.weaken ⟨rfl,rfl,rfl,rfl,rfl,rfl,rfl,trivial⟩ (.refl _)⟩
         · exact ⟨hlt,Kk hc hR.2.1 hnum (bd_5 ‹(c.cond.op==1&&c.neg)=false› ‹(c.cond.op==8 && !c.neg)=false› ‹(c.cond.op==1)=false› ‹(c.cond.op==8)=false› ‹(c.cond.op==7 && !c.neg)=true›),K5 hR.2.2⟩
         · simp only;omega
        ·
         refine Ah (Qp Az (Qp Ba (Qp Bb (Ag (A4 (fun hc10=>?_) fun hc10=>?_)))))
         ·
          refine AW.region ?_
          refine Qp (Bk (v:=.fn _ _ _) rfl) ?_
          refine Qp Az (Qp Az (Qp (Qf [Iq _]) (Qp B2 ?_)))
          refine Qe (Ib (by kernel_rfl) rfl rfl rfl (C7.front2 (R:=_::_::_::_) 4 3 rfl rfl rfl (Nd b6 _ p.2.2.2.2 _ (Bv (Ar (Ar p.2.1.ts (Aa T V c).1.plus) (Aa T V c).1.minus) (Aa T V c).1.minus) (Bv (Ar p.2.1.ts (Aa T V c).1.plus) (Aa T V c).1.plus) ((Aa T V c).1.rest) (Nat.le_trans hel (by decide)) hsb))) ?_
          rintro _ _ ⟨u1,rfl,rfl⟩
          refine AOL.nil (Bn (Bn (Ad (AW.region (Qp Fb (Qp Az (Ag ?_)))))))
          refine ⟨(p.1+1,⟨(Ar (Ar p.2.1.ts (Aa T V c).1.plus) (Aa T V c).1.minus),p.2.1.bs ++ [⟨(Bv (Ar (Ar p.2.1.ts (Aa T V c).1.plus) (Aa T V c).1.minus) (Aa T V c).1.minus),(Bv (Ar p.2.1.ts (Aa T V c).1.plus) (Aa T V c).1.plus),(Aa T V c).1.rest⟩]⟩,w2,u1,(p.2.2.2.2 ++ [Ml ⟨(Bv (Ar (Ar p.2.1.ts (Aa T V c).1.plus) (Aa T V c).1.minus) (Aa T V c).1.minus),(Bv (Ar p.2.1.ts (Aa T V c).1.plus) (Aa T V c).1.plus),(Aa T V c).1.rest⟩])),?_,?_,GS.weaken ⟨rfl,rfl,rfl,rfl,rfl,rfl,rfl,trivial⟩ (.refl _)⟩
          · exact ⟨hlt,Kk hc hR.2.1 hnum (bd_6 ‹(c.cond.op==1&&c.neg)=false› ‹(c.cond.op==8 && !c.neg)=false› ‹(c.cond.op==1)=false› ‹(c.cond.op==8)=false› ‹(c.cond.op==7 && !c.neg)=false› ‹(c.cond.op==7)=true›),K5 hR.2.2⟩
          · simp only;omega
         ·
          refine Ah ?_
          refine Qp (Bk (v:=.fn _ _ _) rfl) ?_
          refine Qp Az (Qp Az (Qp (Qf [Iq _]) (Qp B2 ?_)))
          refine Qp (W7 rfl rfl (by constructor <;> omega)) ?_
          refine Qe (Ib (by kernel_rfl) rfl rfl rfl (C7.front2 (R:=_::_::_::_) 4 3 rfl rfl rfl (Nd b6 _ p.2.2.2.2 _ (Bv (Ar p.2.1.ts (Aa T V c).1.plus) (Aa T V c).1.plus) (Bv (Ar (Ar p.2.1.ts (Aa T V c).1.plus) (Aa T V c).1.minus) (Aa T V c).1.minus) (0-(Aa T V c).1.rest) (Nat.le_trans hel (by decide)) hsb))) ?_
          rintro _ _ ⟨u1,rfl,rfl⟩
          refine Ag (AW.region ?_)
          refine Qp (Bk (v:=.fn _ _ _) rfl) ?_
          refine Qp Az (Qp Az (Qp (Qf [Iq _]) (Qp B2 ?_)))
          refine Qe (Ib (by kernel_rfl) rfl rfl rfl (C7.front2 (R:=_::_::_::_) 1 0 rfl rfl rfl (Nd b6 _ (p.2.2.2.2 ++ [Ml ⟨(Bv (Ar p.2.1.ts (Aa T V c).1.plus) (Aa T V c).1.plus),(Bv (Ar (Ar p.2.1.ts (Aa T V c).1.plus) (Aa T V c).1.minus) (Aa T V c).1.minus),0-(Aa T V c).1.rest⟩]) _ (Bv (Ar (Ar p.2.1.ts (Aa T V c).1.plus) (Aa T V c).1.minus) (Aa T V c).1.minus) (Bv (Ar p.2.1.ts (Aa T V c).1.plus) (Aa T V c).1.plus) ((Aa T V c).1.rest) (by rw [List.length_append];simp;omega) (fun d hd=>(List.mem_append.1 hd).elim (hsb d) (Hw rfl d))))) ?_
          rintro _ _ ⟨u2,rfl,rfl⟩
          refine AOL.nil (Bn (Bn (Ad (AW.region (Qp Fb (Qp Az (Ag ?_)))))))
          refine ⟨(p.1+1,⟨(Ar (Ar p.2.1.ts (Aa T V c).1.plus) (Aa T V c).1.minus),p.2.1.bs ++ [⟨(Bv (Ar p.2.1.ts (Aa T V c).1.plus) (Aa T V c).1.plus),(Bv (Ar (Ar p.2.1.ts (Aa T V c).1.plus) (Aa T V c).1.minus) (Aa T V c).1.minus),0-(Aa T V c).1.rest⟩,⟨(Bv (Ar (Ar p.2.1.ts (Aa T V c).1.plus) (Aa T V c).1.minus) (Aa T V c).1.minus),(Bv (Ar p.2.1.ts (Aa T V c).1.plus) (Aa T V c).1.plus),(Aa T V c).1.rest⟩]⟩,w2,u2,((p.2.2.2.2 ++ [Ml ⟨(Bv (Ar p.2.1.ts (Aa T V c).1.plus) (Aa T V c).1.plus),(Bv (Ar (Ar p.2.1.ts (Aa T V c).1.plus) (Aa T V c).1.minus) (Aa T V c).1.minus),0-(Aa T V c).1.rest⟩]) ++ [Ml ⟨(Bv (Ar (Ar p.2.1.ts (Aa T V c).1.plus) (Aa T V c).1.minus) (Aa T V c).1.minus),(Bv (Ar p.2.1.ts (Aa T V c).1.plus) (Aa T V c).1.plus),(Aa T V c).1.rest⟩])),?_,?_,GS.weaken ⟨rfl,rfl,rfl,rfl,rfl,rfl,rfl,trivial⟩ (.refl _)⟩
          · exact ⟨hlt,Kk hc hR.2.1 hnum (bd_7 ‹(c.cond.op==1&&c.neg)=false› ‹(c.cond.op==8 && !c.neg)=false› ‹(c.cond.op==1)=false› ‹(c.cond.op==8)=false› ‹(c.cond.op==7 && !c.neg)=false› ‹(c.cond.op==7)=false›),mQ hR.2.2⟩
          · simp only;omega
  ·
   have hte:=Cg hc1
   have hS:=hR.2.1
   rw [hte] at hS
   have hpt:=hgo.terms
   rw [←hS] at hpt hgl
   refine AW.exit ?_
   refine A2 (A2 (Bo (Ad (Ah (Qp Gn (Qp Gn ?_))))))
   refine Qp (Bc rfl) ?_
   refine Qp Ia ?_
   refine AOL.Aa7 (Am (k:=3) (c:=.row _ _ _) Aj rfl rfl rfl rfl) rfl rfl ?_
   refine Qp (Le (n:=p.2.1.ts.length) Aj rfl rfl rfl (by simp)) ?_
   refine Qp Fb ?_
   refine Qp (Bc rfl) ?_
   refine Qp Ia (Qp Ia ?_)
   refine Eu 3 [Iq _,_,_,_] (_::_::_::_::_::_) ?_
   refine Ag (AW.seq (Ah (Qp Gn ?_)))
   refine Qp (Bc rfl) ?_
   refine Qp Ia ?_
   refine AOL.Aa7 (Am (k:=3) (c:=.row _ _ _) Aj rfl rfl rfl rfl) rfl rfl ?_
   refine Qp (Le (n:=p.2.1.ts.length) Aj rfl rfl rfl (by simp)) ?_
   refine Qp Az ?_
   refine AOL.ghost (GS.cellRow 3 1 112 3 rfl rfl rfl rfl) ?_
   refine Ag (AW.block ?_)
   refine AW.Aa3 (fun (q:Nat×Value×List (List AV))=>(⟨[(2,.ptr (B9 T V)),(5,.val (.pointer (some ⟨b21,0,none⟩))),(6,.val (.pointer (some ⟨b6,0,none⟩))),(133,.row p.2.2.1 3 (p.2.1.ts.map G2)),(134,.int .i64 p.2.1.ts.length),(135,.int .i64 (q.1:Int))],.row q.2.1 q.2.2.length 112 3 :: .row p.2.2.2.1 p.2.2.2.2.length 112 3 :: .box b6 44 [.row p.2.2.2.1 3 p.2.2.2.2] :: .row p.2.2.1 (p.2.1.ts.map G2).length 103 3 :: .box b21 101 [.int .i64 ((p.2.1.ts.length:Int)+1),.row q.2.1 3 q.2.2,.row p.2.2.1 3 (p.2.1.ts.map G2),.val (.map (some b19))] :: .kmap b19 (Rq p.2.1.ts)::H,179⟩:St)) (fun (q:Nat×Value×List (List AV))=>q.1≤p.2.1.ts.length∧q.2.2=(Gu T V 0 (p.2.1.ts.take q.1)).map Ml) (fun (q:Nat×Value×List (List AV))=>p.2.1.ts.length-q.1) ((0,.slice none 0 0,[])) ?_ (GS.weaken ⟨rfl,rfl,rfl,rfl,rfl,rfl,trivial⟩ (.refl _)) ?_
   · exact ⟨Nat.zero_le _,rfl⟩
   ·
    rintro q hQ
    have hsz:∀c∈q.2.2,Bg c=true:=by rw [hQ.2];exact F2 fun _=>rfl
    have hzl:q.2.2.length≤2*p.2.1.ts.length:=by rw [hQ.2,List.length_map,Tk,List.length_take];omega
    refine Ah (Qp Co (Ag (AW.seq (A4 (fun hc11=>?_) fun hc11=>?_))))
    ·
     obtain ⟨t,ht⟩:=B5 hc11
     have hlt2:=Bh ht
     have htm:=List.mem_of_getElem? ht
     refine Bx (AW.seq (AW.block (Ah (Qp Az ?_))))
     refine Qp (Jm (c:=[Iq _,Iq _,Iq _]) Aj rfl rfl rfl rfl rfl rfl (by omega) (B1 ht)) ?_
     refine Qp (C8 [Iq _,Iq _,Iq _]) ?_
     refine Qe (A0 (l:=[.int .i64 0,.int .i64 0,.int .i64 0]) (by kernel_rfl)) ?_
     rintro _ _ ⟨b16,rfl,rfl⟩
     refine Qp Aq ?_
     refine Eu 0 [Iq _,Iq _,Iq _] (_::_::_::_::_::_::_::_) ?_
     refine AOL.ghost (GS.Aa2 (t:=16) 0 rfl rfl) ?_
     refine Dv (Qp (C8 [_,_]) (Qp (C8 [Iq _,Iq _,Iq _]) ?_))
     refine Qp (Qc rfl (rK T V t (hpt t htm))) ?_
     refine Qp Om (Qp Kn (Qp Kn (Qp Aq (Qp Aq (Ag ?_)))))
     have hlr:=Lu (T:=T) (V:=V) t
     refine AW.region (Qp Gn (Qp Gn ?_))
     refine Qp (Bc rfl) ?_
     refine Qp Ia (Qp Ia ?_)
     refine AOL.Aa7 (Am (k:=4) (c:=.row _ _ _) Aj rfl rfl rfl rfl) rfl rfl ?_
     refine Qp Az (Qp Fb (Qp Az (Qp (Ij [Iq _,Iq _,Iq _]) (Qp Az (Qp Fb (Qp Az ?_))))))
     refine Qp (W7 rfl rfl (by constructor <;> omega)) ?_
     refine Qp (Ij [Iq _,Iq _,Iq _]) ?_
     refine Qp (A3 (es:=[[Iq _,Iq _,Iq _],[Iq _,Iq _,Iq _]]) Aj rfl rfl rfl rfl rfl rfl rfl rfl rfl) ?_
     refine Qe (Dr (k:=0) Aj rfl rfl rfl rfl rfl rfl rfl rfl ((zS rfl rfl)) (hsz) (by simp;omega) (by simp [maxLen];omega)) ?_
     rintro _ _ ⟨v162,rfl,rfl⟩
     refine Qp (Bc rfl) ?_
     refine Qp Ia (Qp Ia ?_)
     refine Eu 4 [Iq _,_,_,_] (_::_::_::_::_::_::_) ?_
     refine AOL.nil (Bn (Ad (AW.region (Qp Fb (Qp Az (Ag ?_))))))
     refine ⟨(q.1+1,v162,q.2.2 ++ [Ml ⟨(q.1:Int)+1,0,(Cw T V t).2⟩,Ml ⟨0,(q.1:Int)+1,0-(Cw T V t).1⟩]),?_,?_,GS.weaken ⟨rfl,rfl,rfl,rfl,rfl,rfl,trivial⟩ (.refl _)⟩
     · exact ⟨hlt2,by simp only;rw [pQ ht,List.map_append,hQ.2];rfl⟩
     · simp only;omega
    ·
     have hte2:=Cg hc11
     have hQe:=hQ.2
     rw [hte2] at hQe
     refine AW.exit ?_
     refine A2 (A2 (Bo (Ad (AW.seq ?_))))
     refine AW.ghost (GS.cell (H2:=_::_::_::_::_::_::_) 2 0 rfl rfl rfl rfl Gt) ?_
     have hsz:∀c∈q.2.2,Bg c=true:=by rw [hQ.2];exact F2 fun _=>rfl
     have hzl:q.2.2.length≤2*p.2.1.ts.length:=by rw [hQ.2,List.length_map,Tk,List.length_take];omega
     refine AW.draw mixed (fun H'=>_∈H'∧_∈H') ⟨(List.mem_of_getElem? (i:=4) rfl),(List.mem_of_getElem? (i:=2) rfl)⟩ (by kernel_rfl) ?_
     refine Qn 0 rfl Gn (Qn 1 rfl Gn ?_)
     refine Qn 2 rfl (Bc rfl) ?_
     refine Qn 3 rfl Ia (Qn 4 rfl Ia ?_)
     refine Qn 5 rfl (OpP.Aa4 (fun k=>Am (k:=k) (c:=.row _ _ _) Aj rfl rfl rfl rfl) (fun _ h=>h.1)) ?_
     refine Qn 6 rfl (OpP.Aa4 (fun k=>Am (k:=k) (c:=.sl _ _) Aj rfl rfl rfl rfl) (fun _ h=>h.2)) ?_
     refine Iu.eff _ _ 7 _ _ rfl (by kernel_rfl) rfl rfl (Dr (k:=0) Aj rfl rfl rfl rfl rfl rfl rfl rfl (hsb) (hsz) (by simp;omega) (by simp [maxLen];omega)) (by rintro _ _ ⟨v174,rfl,rfl⟩;simp) ?_
     rintro _ _ ⟨v174,rfl,rfl⟩
     refine Qn 8 rfl (Bc rfl) ?_
     refine Qn 9 rfl Ia (Qn 10 rfl Ia ?_)
     refine Iu.last _ _ 11 _ _ rfl (by kernel_rfl) rfl rfl (Dc (k:=4) (v:=.row _ _ _) (cs':=[Iq _,_,_,_]) (H2:=_::_::_::_::_::_::_) Aj rfl rfl rfl rfl (rfl) rfl rfl rfl rfl) (by kernel_rfl) ?_
     rintro _ _ ⟨rfl,rfl⟩
     refine Ad (AW.seq ?_)
     refine AW.ghost (GS.cell (H2:=_::_::_::_::_::_::_) 4 1 rfl rfl rfl rfl Gt) ?_
     refine AW.ghost (GS.cell (H2:=_::_::_::_::_::_::_) 4 2 rfl rfl rfl rfl Gt) ?_
     refine AW.ghost (GS.cell (H2:=_::_::_::_::_::_::_) (c':=.junk) 4 3 rfl rfl rfl rfl (fun _ _ _ _=>.junk _)) ?_
     refine AW.ghost (GS.Aa2 (t:=5) 4 rfl rfl) ?_
     refine AW.region (Qp tQ (Qp Qap (Ag (AW.ret ?_))))
     refine ⟨.inr rfl,[.ptr _],.cons (.tmp _ _ rfl) <| .nil,.cons _ (.cons _ (.cons _ (.cons _ (.cons _ (.refl _))))),?_⟩
     exact Eq.trans rfl (Aaf hS hQe hR.2.2)
theorem zZ (T:List Sc)(hl:T.length≤1048576)(hst:∀s∈T,Is s)(V:List Va)(hvl:V.length≤1048576)(l:List Lit)(hll:l.length≤1048576)(hls:∀c∈l,Av c.cond≤1048576):A1 Tryz.prog 12 [.sl 2 (T.map N5),.sl 2 (V.map Tp),.sl 9 (l.map Fy)] (.tuple [.agg (Ss (Mm T V l).zone),.sl 8 ((Mm T V l).terms.map Gq),.int .i64 (Mm T V l).err]):=by
 refine A1.body (n:=52) Aj Tryz.func12 rfl rfl rfl fun H=>?_
 refine Ah ?_
 refine Qe (A0 (l:=[.int .i64 0,.sl 3 []]) (by kernel_rfl)) ?_
 rintro _ _ ⟨b6,rfl,rfl⟩
 refine Qp (Br (z:=8) rfl) ?_
 refine Qp Aq (Dv (Qp Dm (Qp Dm (Qp (Ij [_,_]) ?_))))
 refine Qe (A0 (l:=[.sl 2 [],.sl 2 []]) (by kernel_rfl)) ?_
 rintro _ _ ⟨b9,rfl,rfl⟩
 refine Eu 0 [_,_] (_::_::_) ?_
 refine AOL.ghost (GS.Aa2 (t:=9) 0 rfl rfl) ?_
 refine Ag (AW.seq (Ah (Qp (C8 [_,_]) (Qp Dm ?_))))
 refine Qp (Qc rfl (sU T hl hst V hvl l hll hls)) ?_
 refine Qp Aq (Dv (Qp Az (Qp C1 (Ag (A4 (fun hc1=>?_) fun hc1=>?_)))))
 ·
  refine Ah (Qp (Ij [Iq _,_]) (Qp Az ?_))
  refine Eu 0 [Iq _,_] (_::_) ?_
  refine Qp (Br (z:=8) rfl) ?_
  refine Qp Aq (Ag (D4 ?_))
  refine ⟨.inr rfl,[.agg [Iq _,_],.sl _ _,Iq _],.cons (.box _ _ _ 0 _ _ _ _ rfl rfl rfl rfl rfl rfl) <| .cons (.tmp _ _ rfl) <| .cons (.tmp _ _ rfl) <| .nil,.cons _ (.refl _),?_⟩
  exact Eq.trans rfl (congrArg (fun q:Zr=>AV.tuple [.agg (Ss q.zone),.sl 8 (q.terms.map Gq),.int .i64 q.err]) (zU hc1)).symm
 ·
  have hok:=nX hc1
  have hgl:=(J7 hok.1).len
  have hol:=hok.2
  refine Bx (Ah (Qp (C8 [_,_]) (Qp Dm ?_)))
  refine Qp (Qc rfl (cA T V l (Nat.le_trans hok.2 (by decide)) hok.1)) ?_
  refine Qp Qap (Ag (AW.seq (Ah (Qp tQ ?_))))
  refine Qp (Qc rfl (gL T V l)) ?_
  refine Qp Gj (Ag (A4 (fun hc2=>?_) fun hc2=>?_))
  ·
   refine Ah (Qp (Ij [Iq _,_]) ?_)
   refine Eu 0 [Iq _,_] (_::_) ?_
   refine Qp (Br (z:=8) rfl) ?_
   refine Qp Aq (Ag (D4 ?_))
   refine ⟨.inr rfl,[.agg [Iq _,_],.sl _ _,Iq _],.cons (.box _ _ _ 0 _ _ _ _ rfl rfl rfl rfl rfl rfl) <| .cons (.tmp _ _ rfl) <| .cons (.tmp _ _ rfl) <| .nil,.cons _ (.refl _),?_⟩
   exact Eq.trans rfl (congrArg (fun q:Zr=>AV.tuple [.agg (Ss q.zone),.sl 8 (q.terms.map Gq),.int .i64 q.err]) (zG hc1 hc2)).symm
  ·
   refine Bx (Ah (Qp O5 ?_))
   refine AOL.ghost (GS.row (t:=12) 30 8 rfl) ?_
   refine Ag (AW.seq (Ah (Qp tQ ?_)))
   refine Qp (Fs rfl) ?_
   refine Qp (Qf [_,_]) (Qp D1 ?_)
   refine Qp (Al (n:=(Bz T V l).ts.length) Aj rfl rfl rfl (by simp)) ?_
   refine Qp Az (Ag (AW.block ?_))
   refine AW.Aa3 (fun (p:Nat×List (List AV)×Value)=>(⟨[(6,.val (.pointer (some ⟨b6,0,none⟩))),(11,.ptr (oF T V l)),(12,.row p.2.2 8 p.2.1),(35,.sl 3 ((Bz T V l).ts.map G2)),(36,.int .i64 (Bz T V l).ts.length),(37,.int .i64 (p.1:Int))],.row p.2.2 p.2.1.length 30 8 :: .box b6 46 [.int .i64 0,.sl 3 []]::H,52⟩:St)) (fun (p:Nat×List (List AV)×Value)=>p.1≤(Bz T V l).ts.length∧p.2.1=((Bz T V l).ts.take p.1).map fun t=>cE (Hs t)) (fun (p:Nat×List (List AV)×Value)=>(Bz T V l).ts.length-p.1) ((0,[],.slice none 0 0)) ?_ (GS.weaken ⟨rfl,rfl,rfl,rfl,rfl,rfl,trivial⟩ (.refl _)) ?_
   · exact ⟨Nat.zero_le _,rfl⟩
   ·
    rintro p hR
    have hsc:∀c∈p.2.1,Bg c=true:=by rw [hR.2];exact F2 fun _=>rfl
    have hpl:p.2.1.length≤p.1:=by rw [hR.2];simp;omega
    refine Ah (Qp Co (Ag (AW.seq (A4 (fun hc3=>?_) fun hc3=>?_))))
    ·
     obtain ⟨t,ht⟩:=B5 hc3
     have hlt:=Bh ht
     refine Bx (AW.seq (AW.block (Ah ?_)))
     refine Qp (Af (c:=[Iq _,Iq _,Iq _]) Aj rfl rfl rfl rfl rfl rfl (by omega) (B1 ht)) ?_
     refine Qp (C8 [Iq _,Iq _,Iq _]) ?_
     refine Qe (A0 (l:=[.int .i64 0,.int .i64 0,.int .i64 0]) (by kernel_rfl)) ?_
     rintro _ _ ⟨b14,rfl,rfl⟩
     refine Eu 0 [Iq _,Iq _,Iq _] (_::_::_::_) ?_
     refine AOL.ghost (GS.Aa2 (t:=14) 0 rfl rfl) ?_
     refine Ag (AW.region ?_)
     refine Qp (Bk (v:=.row _ _ _) rfl) ?_
     refine Qp (C8 [Iq _,Iq _,Iq _]) ?_
     refine Qp (Qc rfl (sA t)) ?_
     refine Qp (A3 (es:=[[Iq _,_,Iq _,Iq _,Iq _,Iq _,Iq _,.str _]]) Aj rfl rfl rfl rfl rfl rfl rfl rfl rfl) ?_
     refine Qe (Dr (k:=0) Aj rfl rfl rfl rfl rfl rfl rfl rfl (Hw rfl) (hsc) (by simp;omega) (by simp [maxLen];omega)) ?_
     rintro _ _ ⟨v45,rfl,rfl⟩
     refine Qp (Di (v:=.row _ _ _) rfl) ?_
     refine AOL.nil (Bn (Ad (AW.region (Qp Fb (Qp Az (Ag ?_))))))
     refine ⟨(p.1+1,p.2.1 ++ [cE (Hs t)],v45),?_,?_,GS.weaken ⟨rfl,rfl,rfl,rfl,rfl,rfl,trivial⟩ (.refl _)⟩
     · exact ⟨hlt,by simp only;rw [Cx ht,hR.2,List.map_append];rfl⟩
     · simp only;omega
    ·
     have hte:=Cg hc3
     have hall:=hR.2
     rw [hte] at hall
     refine AW.exit ?_
     refine A2 (A2 (Bo (Ad (Ah (Qp tQ ?_)))))
     refine Qp (Fs rfl) ?_
     refine Qp (Qf [Iq _,_,_,_]) (Qp (C8 [Iq _,_]) ?_)
     refine Qp (Bk (v:=.row _ _ _) rfl) ?_
     refine Eu 1 [Iq _,_] (_::_::_) ?_
     refine AOL.ghost (GS.unrow 51 rfl) ?_
     refine Qp Sx (Qp Aq (Ag (AW.ret ?_)))
     refine ⟨.inr rfl,[.agg [Iq _,_],.sl _ _,Iq _],.cons (.box _ _ _ 1 _ _ _ _ rfl rfl rfl rfl rfl rfl) <| .cons (.tmp _ _ rfl) <| .cons (.tmp _ _ rfl) <| .nil,.cons _ (.cons _ (.refl _)),?_⟩
     rw [hall,show ((Bz T V l).ts.map fun t=>cE (Hs t))=((Bz T V l).ts.map Hs).map Gq by rw [List.map_map];exact List.map_congr_left fun t _=>(Ko _).symm]
     exact Eq.trans rfl (congrArg (fun q:Zr=>AV.tuple [.agg (Ss q.zone),.sl 8 (q.terms.map Gq),.int .i64 q.err]) (Aae hc1 hc2)).symm

end Go.Proofs.YtjedflcpjlgokaaGreatDoor
