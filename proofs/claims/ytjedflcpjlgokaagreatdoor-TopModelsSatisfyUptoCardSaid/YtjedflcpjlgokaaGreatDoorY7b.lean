/-
  Walks of layer 11: the zone of a clause. No condition.
-/
import Derived.Test.YtjedflcpjlgokaaGreatDoorAz
import Derived.Test.YtjedflcpjlgokaaGreatDoorK17
import Derived.Test.YtjedflcpjlgokaaGreatDoorY7
import Derived.KernelRfl
namespace Go.Proofs.YtjedflcpjlgokaaGreatDoor
open Go Go.Aw
set_option maxHeartbeats 6400000
set_option maxRecDepth 20000
set_option linter.unusedVariables false
set_option linter.unusedSimpArgs false

theorem fE (T:List Sc)(V:List Va)(l:List Lit)(hll:l.length≤4096)(hlk:Sq T V l):Ax Tryz.prog 35 [.agg (Cf T V),.sl 9 (l.map F0)] (.ptr (oA T V l)):=by
 have hgo:=J8 hlk
 have hgl:=hgo.len
 have hgb:=hgo.bnds
 refine Ax.body (n:=179) Ah Tryz.func35 rfl rfl rfl fun H=>?_
 refine Ai (Qp (Gd [_,_]) (Qp N4 (Dm ?_)))
 refine Qe (Ni) ?_
 rintro _ _ ⟨b19,rfl,rfl⟩
 refine Qp (Lk (l0:=[.int .i64 0,.val (.slice none 0 0),.val (.slice none 0 0),.val (.map none)]) (l:=[Iq _,_,_,_]) Ah rfl rfl (by kernel_rfl) rfl) ?_
 refine Qe (O8 (v:=.agg _) (cs:=[Iq _,_,_,_]) rfl rfl (rfl)) ?_
 rintro _ _ ⟨b21,rfl,rfl⟩
 refine Qp N4 ?_
 refine AOL.ghost (GS.cellRow 0 2 103 3 rfl rfl rfl rfl) ?_
 refine Dm ?_
 refine Qe (Ak (l:=[.val (.slice none 0 0)]) (by kernel_rfl)) ?_
 rintro _ _ ⟨b6,rfl,rfl⟩
 refine AOL.ghost (GS.cellRow 0 0 112 3 rfl rfl rfl rfl) ?_
 refine Dm ?_
 refine Qp (Bj (l:=[]) (l':=[.val _]) rfl rfl) ?_
 refine Qp (Dg (v:=.fn _ _ _) rfl) ?_
 refine Ag (AW.seq (Ai (Qp Dx ?_)))
 refine Qp (Al (n:=l.length) Ah rfl rfl rfl (by simp)) ?_
 refine Qp Az (Ag (AW.block ?_))
 refine AW.Aao (fun (p:Nat×Sy×Value×Value×List (List AV))=>(⟨[(2,.ptr (Cf T V)),(5,.val (.pointer (some ⟨b21,0,none⟩))),(6,.val (.pointer (some ⟨b6,0,none⟩))),(7,.fn (.func 71) [] [.val (.pointer (some ⟨b6,0,none⟩))]),(23,.sl 9 (l.map F0)),(24,.int .i64 l.length),(25,.int .i64 (p.1:Int))],.row p.2.2.2.1 p.2.2.2.2.length 112 3 :: .box b6 44 [.row p.2.2.2.1 3 p.2.2.2.2]::gH b19 b21 p.2.2.1 (.int .i64 0) (.val (.slice none 0 0)) p.2.1.ts H,179⟩:St)) (fun (p:Nat×Sy×Value×Value×List (List AV))=>p.1≤l.length∧p.2.1=B1 T V (l.take p.1)∧p.2.2.2.2=p.2.1.bs.map Q7) (fun (p:Nat×Sy×Value×Value×List (List AV))=>l.length-p.1) ((0,⟨[],[]⟩,.slice none 0 0,.slice none 0 0,[])) ?_ (GS.weaken ⟨rfl,rfl,rfl,rfl,rfl,rfl,rfl,trivial⟩ (.refl _)) ?_
 · exact ⟨Nat.zero_le _,rfl,rfl⟩
 ·
  rintro p hR
  have hok:=J8 (rL hlk p.1)
  rw [←hR.2.1] at hok
  have hkl:(l.take p.1).length≤4096:=by rw [List.length_take];omega
  have htl:=hok.len
  have hbl:=hok.bnds
  have hel:p.2.2.2.2.length≤8192:=by rw [hR.2.2,List.length_map];omega
  have hsb:∀c∈p.2.2.2.2,Be c=true:=by rw [hR.2.2];exact Ed fun _=>rfl
  have hx:=nZ (ts:=[]) (l:=[]) (n:=0)
  refine Ai (Qp Ch (Ag (AW.seq (A6 (fun hc1=>?_) fun hc1=>?_))))
  ·
   obtain ⟨c,hc⟩:=B5 hc1
   have hlt:=A4 hc
   have hcm:=List.mem_of_getElem? hc
   have hck:=(hlk c hcm).1
   have hcs:=(hlk c hcm).2
   have hgn:=Q4 hck hcs
   have hgr:=hgn.rest
   refine By (AW.seq (AW.block (Ai ?_)))
   refine Qp (Af (c:=[Iq _,_,Iq _,Iq _,Iq _,Iq _,Iq _,.str _,.bool _]) Ah rfl rfl rfl rfl rfl rfl (by omega) (Bi hc)) ?_
   refine Qp (Cq [Iq _,_,Iq _,Iq _,Iq _,Iq _,Iq _,.str _,.bool _]) ?_
   refine Qe (Ak (l:=[.int .i64 0,.sl 8 [],.int .i64 0,.int .i64 0,.int .i64 0,.int .i64 0,.int .i64 0,.str [],.bool false]) (by kernel_rfl)) ?_
   rintro _ _ ⟨b9,rfl,rfl⟩
   refine Cv 0 [Iq _,_,Iq _,Iq _,Iq _,Iq _,Iq _,.str _,.bool _] (_::_::_::_::_::_::_) ?_
   refine AOL.ghost (GS.Aan (t:=9) 0 rfl rfl) ?_
   refine Dm (Qp (Cq [_,_]) (Qp (Cq [Iq _,_,Iq _,Iq _,Iq _,Iq _,Iq _,.str _,.bool _]) ?_))
   refine Qp (Qc rfl (pT T V c hck hcs)) ?_
   refine Qp N6 ?_
   refine Qp (Ci (v:=.agg [_,_,Iq _]) rfl rfl) ?_
   refine Qp bB ?_
   refine Qe (Ak (l:=[.sl 3 [],.sl 3 [],.int .i64 0]) (by kernel_rfl)) ?_
   rintro _ _ ⟨b10,rfl,rfl⟩
   refine Cv 0 [_,_,Iq _] (_::_::_::_::_::_::_) ?_
   refine Qp Bl ?_
   refine AOL.ghost (GS.Aan (t:=10) 0 rfl rfl) ?_
   refine Ag (AW.seq (Ai (Qp B0 (Qp Hc (Ag (A6 (fun hc2=>?_) fun hc2=>?_))))))
   ·
    refine AW.exit ?_
    refine A5 (Bq (Ad (AW.region (Qp Ey (Qp Az (Ag ?_))))))
    refine ⟨(p.1+1,p.2),?_,?_,GS.weaken ⟨rfl,rfl,rfl,rfl,rfl,rfl,rfl,trivial⟩ (.refl _)⟩
    · exact ⟨hlt,vK hc hR.2.1 hc2,hR.2.2⟩
    · simp only;omega
   ·
    have hnum:=hc2
    refine By (Ai (Qp Gr (Qp (Qf [_,_,Iq _]) (Qp Dy ?_))))
    refine Qe (Dj (by kernel_rfl) rfl rfl (Dk.front3 (R:=_::_::_) 4 3 2 rfl rfl rfl rfl (Za b19 b21 _ 0 (.val (.slice none 0 0)) p.2.1.ts (Aa T V c).1.plus _ (by omega)))) ?_
    rintro _ _ ⟨w1,rfl,rfl⟩
    refine Qp Ap (Dm (Qp Gr (Qp (Qf [_,Iq _]) (Qp Dy ?_))))
    refine Qe (Dj (by kernel_rfl) rfl rfl (Dk.front3 (R:=_::_::_) 2 1 0 rfl rfl rfl rfl (Za b19 b21 _ 0 (.val (.slice none 0 0)) (A3 p.2.1.ts (Aa T V c).1.plus) (Aa T V c).1.minus _ (by have:=Px p.2.1.ts (Aa T V c).1.plus;omega)))) ?_
    rintro _ _ ⟨w2,rfl,rfl⟩
    refine Qp Ap (Dm (Qp (Qf [Iq _,_,Iq _,Iq _,Iq _,Iq _,Iq _,.str _,.bool _]) (Qp (Qf [Iq _,_,Iq _,Iq _,Iq _,Iq _,Iq _,.str _,.bool _]) (Qp Bp (Qp Ap (Ag (AW.block (AW.seq (Ai ?_)))))))))
    refine Qp Az (Qp A9 (Qp B0 (Qg [] Qw (Qf [.bool _]) (Qg [(65,_)] Qw gV (Qp F7 (Qp Bl (Ag (A6 (fun hc3=>?_) fun hc3=>?_))))))))
    ·
     refine By (A6 (fun hc4=>?_) fun hc4=>?_)
     ·
      refine AW.region ?_
      refine Qp (Bm (v:=.fn _ _ _) rfl) ?_
      refine Qp Az (Qp Az (Qp (Qf [Iq _]) (Qp Bp ?_)))
      refine Qp (Tq rfl rfl (by constructor <;> omega)) ?_
      refine Qe (Jd (by kernel_rfl) rfl rfl rfl (ACall.Aat (R:=_::_::_::_) 4 3 rfl rfl rfl (O0 b6 _ p.2.2.2.2 _ (B9 (A3 p.2.1.ts (Aa T V c).1.plus) (Aa T V c).1.plus) (B9 (A3 (A3 p.2.1.ts (Aa T V c).1.plus) (Aa T V c).1.minus) (Aa T V c).1.minus) (0-(Aa T V c).1.rest) (Nat.le_trans hel (by decide)) hsb))) ?_
      rintro _ _ ⟨u1,rfl,rfl⟩
      refine AOL.nil (Bu (Bu (Ad (AW.region (Qp Ey (Qp Az (Ag ?_)))))))
      refine ⟨(p.1+1,⟨(A3 (A3 p.2.1.ts (Aa T V c).1.plus) (Aa T V c).1.minus),p.2.1.bs ++ [⟨(B9 (A3 p.2.1.ts (Aa T V c).1.plus) (Aa T V c).1.plus),(B9 (A3 (A3 p.2.1.ts (Aa T V c).1.plus) (Aa T V c).1.minus) (Aa T V c).1.minus),0-(Aa T V c).1.rest⟩]⟩,w2,u1,(p.2.2.2.2 ++ [Q7 ⟨(B9 (A3 p.2.1.ts (Aa T V c).1.plus) (Aa T V c).1.plus),(B9 (A3 (A3 p.2.1.ts (Aa T V c).1.plus) (Aa T V c).1.minus) (Aa T V c).1.minus),0-(Aa T V c).1.rest⟩])),?_,?_,GS.weaken ⟨rfl,rfl,rfl,rfl,rfl,rfl,rfl,trivial⟩ (.refl _)⟩
      · exact ⟨hlt,Lf hc hR.2.1 hnum (bd_1 ‹(c.cond.op==1&&c.neg)=true›),Mr hR.2.2⟩
      · simp only;omega
     ·
      exact absurd (hc4.symm.trans hc3) (by decide)
    ·
     refine AW.region (Qp Az (Qp A9 (Qp B0 (Qg [] Qw (Qf [.bool _]) (Qg [(71,_)] Qw gV (Qg [(72,_)] Qw Hc (Qp F7 (Qp Bl (Ag (A6 (fun hc5=>?_) fun hc5=>?_))))))))))
     ·
      refine AW.region ?_
      refine Qp (Bm (v:=.fn _ _ _) rfl) ?_
      refine Qp Az (Qp Az (Qp (Qf [Iq _]) (Qp Bp ?_)))
      refine Qp (Tq rfl rfl (by constructor <;> omega)) ?_
      refine Qe (Jd (by kernel_rfl) rfl rfl rfl (ACall.Aat (R:=_::_::_::_) 4 3 rfl rfl rfl (O0 b6 _ p.2.2.2.2 _ (B9 (A3 p.2.1.ts (Aa T V c).1.plus) (Aa T V c).1.plus) (B9 (A3 (A3 p.2.1.ts (Aa T V c).1.plus) (Aa T V c).1.minus) (Aa T V c).1.minus) (0-(Aa T V c).1.rest) (Nat.le_trans hel (by decide)) hsb))) ?_
      rintro _ _ ⟨u1,rfl,rfl⟩
      refine AOL.nil (Bu (Bu (Ad (AW.region (Qp Ey (Qp Az (Ag ?_)))))))
      refine ⟨(p.1+1,⟨(A3 (A3 p.2.1.ts (Aa T V c).1.plus) (Aa T V c).1.minus),p.2.1.bs ++ [⟨(B9 (A3 p.2.1.ts (Aa T V c).1.plus) (Aa T V c).1.plus),(B9 (A3 (A3 p.2.1.ts (Aa T V c).1.plus) (Aa T V c).1.minus) (Aa T V c).1.minus),0-(Aa T V c).1.rest⟩]⟩,w2,u1,(p.2.2.2.2 ++ [Q7 ⟨(B9 (A3 p.2.1.ts (Aa T V c).1.plus) (Aa T V c).1.plus),(B9 (A3 (A3 p.2.1.ts (Aa T V c).1.plus) (Aa T V c).1.minus) (Aa T V c).1.minus),0-(Aa T V c).1.rest⟩])),?_,?_,GS.weaken ⟨rfl,rfl,rfl,rfl,rfl,rfl,rfl,trivial⟩ (.refl _)⟩
      · exact ⟨hlt,Lf hc hR.2.1 hnum (bd_2 ‹(c.cond.op==8 && !c.neg)=true›),Mr hR.2.2⟩
      · simp only;omega
     ·
      refine AW.seq (Ai (Qp Az (Qp A9 (Qp Bl (Ag (A6 (fun hc6=>?_) fun hc6=>?_))))))
      ·
       refine By (A6 (fun hc7=>?_) fun hc7=>?_)
       ·
        refine AW.region ?_
        refine Qp (Bm (v:=.fn _ _ _) rfl) ?_
        refine Qp Az (Qp Az (Qp (Qf [Iq _]) (Qp Bp ?_)))
        refine Qp (Yl rfl rfl rfl (by constructor <;> omega)) ?_
        refine Qe (Jd (by kernel_rfl) rfl rfl rfl (ACall.Aat (R:=_::_::_::_) 4 3 rfl rfl rfl (O0 b6 _ p.2.2.2.2 _ (B9 (A3 (A3 p.2.1.ts (Aa T V c).1.plus) (Aa T V c).1.minus) (Aa T V c).1.minus) (B9 (A3 p.2.1.ts (Aa T V c).1.plus) (Aa T V c).1.plus) ((Aa T V c).1.rest-1) (Nat.le_trans hel (by decide)) hsb))) ?_
        rintro _ _ ⟨u1,rfl,rfl⟩
        refine AOL.nil (Bu (Bu (Ad (AW.region (Qp Ey (Qp Az (Ag ?_)))))))
        refine ⟨(p.1+1,⟨(A3 (A3 p.2.1.ts (Aa T V c).1.plus) (Aa T V c).1.minus),p.2.1.bs ++ [⟨(B9 (A3 (A3 p.2.1.ts (Aa T V c).1.plus) (Aa T V c).1.minus) (Aa T V c).1.minus),(B9 (A3 p.2.1.ts (Aa T V c).1.plus) (Aa T V c).1.plus),(Aa T V c).1.rest-1⟩]⟩,w2,u1,(p.2.2.2.2 ++ [Q7 ⟨(B9 (A3 (A3 p.2.1.ts (Aa T V c).1.plus) (Aa T V c).1.minus) (Aa T V c).1.minus),(B9 (A3 p.2.1.ts (Aa T V c).1.plus) (Aa T V c).1.plus),(Aa T V c).1.rest-1⟩])),?_,?_,GS.weaken ⟨rfl,rfl,rfl,rfl,rfl,rfl,rfl,trivial⟩ (.refl _)⟩
        · exact ⟨hlt,Lf hc hR.2.1 hnum (bd_3 ‹(c.cond.op==1&&c.neg)=false› ‹(c.cond.op==8 && !c.neg)=false› ‹(c.cond.op==1)=true›),Mr hR.2.2⟩
        · simp only;omega
       ·
        exact absurd (hc7.symm.trans hc6) (by decide)
      ·
       refine AW.region (Qp Az (Qp A9 (Qp Bl (Ag (A6 (fun hc8=>?_) fun hc8=>?_)))))
       ·
        refine AW.region ?_
        refine Qp (Bm (v:=.fn _ _ _) rfl) ?_
        refine Qp Az (Qp Az (Qp (Qf [Iq _]) (Qp Bp ?_)))
        refine Qp (Yl rfl rfl rfl (by constructor <;> omega)) ?_
        refine Qe (Jd (by kernel_rfl) rfl rfl rfl (ACall.Aat (R:=_::_::_::_) 4 3 rfl rfl rfl (O0 b6 _ p.2.2.2.2 _ (B9 (A3 (A3 p.2.1.ts (Aa T V c).1.plus) (Aa T V c).1.minus) (Aa T V c).1.minus) (B9 (A3 p.2.1.ts (Aa T V c).1.plus) (Aa T V c).1.plus) ((Aa T V c).1.rest-1) (Nat.le_trans hel (by decide)) hsb))) ?_
        rintro _ _ ⟨u1,rfl,rfl⟩
        refine AOL.nil (Bu (Bu (Ad (AW.region (Qp Ey (Qp Az (Ag ?_)))))))
        refine ⟨(p.1+1,⟨(A3 (A3 p.2.1.ts (Aa T V c).1.plus) (Aa T V c).1.minus),p.2.1.bs ++ [⟨(B9 (A3 (A3 p.2.1.ts (Aa T V c).1.plus) (Aa T V c).1.minus) (Aa T V c).1.minus),(B9 (A3 p.2.1.ts (Aa T V c).1.plus) (Aa T V c).1.plus),(Aa T V c).1.rest-1⟩]⟩,w2,u1,(p.2.2.2.2 ++ [Q7 ⟨(B9 (A3 (A3 p.2.1.ts (Aa T V c).1.plus) (Aa T V c).1.minus) (Aa T V c).1.minus),(B9 (A3 p.2.1.ts (Aa T V c).1.plus) (Aa T V c).1.plus),(Aa T V c).1.rest-1⟩])),?_,?_,GS.weaken ⟨rfl,rfl,rfl,rfl,rfl,rfl,rfl,trivial⟩ (.refl _)⟩
        · exact ⟨hlt,Lf hc hR.2.1 hnum (bd_4 ‹(c.cond.op==1&&c.neg)=false› ‹(c.cond.op==8 && !c.neg)=false› ‹(c.cond.op==8)=true›),Mr hR.2.2⟩
        · simp only;omega
       ·
        refine Ai (Qp Az (Qp A9 (Qp B0 (Qg [] Qw (Qf [.bool _]) (Qg [(98,_)] Qw gV (Qg [(99,_)] Qw Hc (Qp F7 (Qp Bl (Ag (A6 (fun hc9=>?_) fun hc9=>?_))))))))))
        ·
         refine AW.region ?_
         refine Qp (Bm (v:=.fn _ _ _) rfl) ?_
         refine Qp Az (Qp Az (Qp (Qf [Iq _]) (Qp Bp ?_)))
         refine Qp (Tq rfl rfl (by constructor <;> omega)) ?_
         refine Qp (Yl rfl rfl rfl (by constructor <;> omega)) ?_
         refine Qe (Jd (by kernel_rfl) rfl rfl rfl (ACall.Aat (R:=_::_::_::_) 4 3 rfl rfl rfl (O0 b6 _ p.2.2.2.2 _ (B9 (A3 p.2.1.ts (Aa T V c).1.plus) (Aa T V c).1.plus) (B9 (A3 (A3 p.2.1.ts (Aa T V c).1.plus) (Aa T V c).1.minus) (Aa T V c).1.minus) (0-(Aa T V c).1.rest-1) (Nat.le_trans hel (by decide)) hsb))) ?_
         rintro _ _ ⟨u1,rfl,rfl⟩
         refine AOL.nil (Bu (Bu (Ad (AW.region (Qp Ey (Qp Az (Ag ?_)))))))
         refine ⟨(p.1+1,⟨(A3 (A3 p.2.1.ts (Aa T V c).1.plus) (Aa T V c).1.minus),p.2.1.bs ++ [⟨(B9 (A3 p.2.1.ts (Aa T V c).1.plus) (Aa T V c).1.plus),(B9 (A3 (A3 p.2.1.ts (Aa T V c).1.plus) (Aa T V c).1.minus) (Aa T V c).1.minus),0-(Aa T V c).1.rest-1⟩]⟩,w2,u1,(p.2.2.2.2 ++ [Q7 ⟨(B9 (A3 p.2.1.ts (Aa T V c).1.plus) (Aa T V c).1.plus),(B9 (A3 (A3 p.2.1.ts (Aa T V c).1.plus) (Aa T V c).1.minus) (Aa T V c).1.minus),0-(Aa T V c).1.rest-1⟩])),?_,?_,GS.weaken ⟨rfl,rfl,rfl,rfl,rfl,rfl,rfl,trivial⟩ (.refl _)⟩
         · exact ⟨hlt,Lf hc hR.2.1 hnum (bd_5 ‹(c.cond.op==1&&c.neg)=false› ‹(c.cond.op==8 && !c.neg)=false› ‹(c.cond.op==1)=false› ‹(c.cond.op==8)=false› ‹(c.cond.op==7 && !c.neg)=true›),Mr hR.2.2⟩
         · simp only;omega
        ·
         refine Ai (Qp Az (Qp A9 (Qp Bl (Ag (A6 (fun hc10=>?_) fun hc10=>?_)))))
         ·
          refine AW.region ?_
          refine Qp (Bm (v:=.fn _ _ _) rfl) ?_
          refine Qp Az (Qp Az (Qp (Qf [Iq _]) (Qp Bp ?_)))
          refine Qe (Jd (by kernel_rfl) rfl rfl rfl (ACall.Aat (R:=_::_::_::_) 4 3 rfl rfl rfl (O0 b6 _ p.2.2.2.2 _ (B9 (A3 (A3 p.2.1.ts (Aa T V c).1.plus) (Aa T V c).1.minus) (Aa T V c).1.minus) (B9 (A3 p.2.1.ts (Aa T V c).1.plus) (Aa T V c).1.plus) ((Aa T V c).1.rest) (Nat.le_trans hel (by decide)) hsb))) ?_
          rintro _ _ ⟨u1,rfl,rfl⟩
          refine AOL.nil (Bu (Bu (Ad (AW.region (Qp Ey (Qp Az (Ag ?_)))))))
          refine ⟨(p.1+1,⟨(A3 (A3 p.2.1.ts (Aa T V c).1.plus) (Aa T V c).1.minus),p.2.1.bs ++ [⟨(B9 (A3 (A3 p.2.1.ts (Aa T V c).1.plus) (Aa T V c).1.minus) (Aa T V c).1.minus),(B9 (A3 p.2.1.ts (Aa T V c).1.plus) (Aa T V c).1.plus),(Aa T V c).1.rest⟩]⟩,w2,u1,(p.2.2.2.2 ++ [Q7 ⟨(B9 (A3 (A3 p.2.1.ts (Aa T V c).1.plus) (Aa T V c).1.minus) (Aa T V c).1.minus),(B9 (A3 p.2.1.ts (Aa T V c).1.plus) (Aa T V c).1.plus),(Aa T V c).1.rest⟩])),?_,?_,GS.weaken ⟨rfl,rfl,rfl,rfl,rfl,rfl,rfl,trivial⟩ (.refl _)⟩
          · exact ⟨hlt,Lf hc hR.2.1 hnum (bd_6 ‹(c.cond.op==1&&c.neg)=false› ‹(c.cond.op==8 && !c.neg)=false› ‹(c.cond.op==1)=false› ‹(c.cond.op==8)=false› ‹(c.cond.op==7 && !c.neg)=false› ‹(c.cond.op==7)=true›),Mr hR.2.2⟩
          · simp only;omega
         ·
          refine Ai ?_
          refine Qp (Bm (v:=.fn _ _ _) rfl) ?_
          refine Qp Az (Qp Az (Qp (Qf [Iq _]) (Qp Bp ?_)))
          refine Qp (Tq rfl rfl (by constructor <;> omega)) ?_
          refine Qe (Jd (by kernel_rfl) rfl rfl rfl (ACall.Aat (R:=_::_::_::_) 4 3 rfl rfl rfl (O0 b6 _ p.2.2.2.2 _ (B9 (A3 p.2.1.ts (Aa T V c).1.plus) (Aa T V c).1.plus) (B9 (A3 (A3 p.2.1.ts (Aa T V c).1.plus) (Aa T V c).1.minus) (Aa T V c).1.minus) (0-(Aa T V c).1.rest) (Nat.le_trans hel (by decide)) hsb))) ?_
          rintro _ _ ⟨u1,rfl,rfl⟩
          refine Ag (AW.region ?_)
          refine Qp (Bm (v:=.fn _ _ _) rfl) ?_
          refine Qp Az (Qp Az (Qp (Qf [Iq _]) (Qp Bp ?_)))
          refine Qe (Jd (by kernel_rfl) rfl rfl rfl (ACall.Aat (R:=_::_::_::_) 1 0 rfl rfl rfl (O0 b6 _ (p.2.2.2.2 ++ [Q7 ⟨(B9 (A3 p.2.1.ts (Aa T V c).1.plus) (Aa T V c).1.plus),(B9 (A3 (A3 p.2.1.ts (Aa T V c).1.plus) (Aa T V c).1.minus) (Aa T V c).1.minus),0-(Aa T V c).1.rest⟩]) _ (B9 (A3 (A3 p.2.1.ts (Aa T V c).1.plus) (Aa T V c).1.minus) (Aa T V c).1.minus) (B9 (A3 p.2.1.ts (Aa T V c).1.plus) (Aa T V c).1.plus) ((Aa T V c).1.rest) (by rw [List.length_append];simp;omega) (fun d hd=>(List.mem_append.1 hd).elim (hsb d) (Ff rfl d))))) ?_
          rintro _ _ ⟨u2,rfl,rfl⟩
          refine AOL.nil (Bu (Bu (Ad (AW.region (Qp Ey (Qp Az (Ag ?_)))))))
          refine ⟨(p.1+1,⟨(A3 (A3 p.2.1.ts (Aa T V c).1.plus) (Aa T V c).1.minus),p.2.1.bs ++ [⟨(B9 (A3 p.2.1.ts (Aa T V c).1.plus) (Aa T V c).1.plus),(B9 (A3 (A3 p.2.1.ts (Aa T V c).1.plus) (Aa T V c).1.minus) (Aa T V c).1.minus),0-(Aa T V c).1.rest⟩,⟨(B9 (A3 (A3 p.2.1.ts (Aa T V c).1.plus) (Aa T V c).1.minus) (Aa T V c).1.minus),(B9 (A3 p.2.1.ts (Aa T V c).1.plus) (Aa T V c).1.plus),(Aa T V c).1.rest⟩]⟩,w2,u2,((p.2.2.2.2 ++ [Q7 ⟨(B9 (A3 p.2.1.ts (Aa T V c).1.plus) (Aa T V c).1.plus),(B9 (A3 (A3 p.2.1.ts (Aa T V c).1.plus) (Aa T V c).1.minus) (Aa T V c).1.minus),0-(Aa T V c).1.rest⟩]) ++ [Q7 ⟨(B9 (A3 (A3 p.2.1.ts (Aa T V c).1.plus) (Aa T V c).1.minus) (Aa T V c).1.minus),(B9 (A3 p.2.1.ts (Aa T V c).1.plus) (Aa T V c).1.plus),(Aa T V c).1.rest⟩])),?_,?_,GS.weaken ⟨rfl,rfl,rfl,rfl,rfl,rfl,rfl,trivial⟩ (.refl _)⟩
          · exact ⟨hlt,Lf hc hR.2.1 hnum (bd_7 ‹(c.cond.op==1&&c.neg)=false› ‹(c.cond.op==8 && !c.neg)=false› ‹(c.cond.op==1)=false› ‹(c.cond.op==8)=false› ‹(c.cond.op==7 && !c.neg)=false› ‹(c.cond.op==7)=false›),pV hR.2.2⟩
          · simp only;omega
  ·
   have hte:=Cu hc1
   have hS:=hR.2.1
   rw [hte] at hS
   have hpt:=hgo.terms
   rw [←hS] at hpt hgl
   refine AW.exit ?_
   refine A5 (A5 (Bq (Ad (Ai (Qp Gr (Qp Gr ?_))))))
   refine Qp (Bn rfl) ?_
   refine Qp Gc ?_
   refine AOL.Aas (Am (k:=3) (c:=.row _ _ _) Ah rfl rfl rfl rfl) rfl rfl ?_
   refine Qp (K6 (n:=p.2.1.ts.length) Ah rfl rfl rfl (by simp)) ?_
   refine Qp Ey ?_
   refine Qp (Bn rfl) ?_
   refine Qp Gc (Qp Gc ?_)
   refine Cv 3 [Iq _,_,_,_] (_::_::_::_::_::_) ?_
   refine Ag (AW.seq (Ai (Qp Gr ?_)))
   refine Qp (Bn rfl) ?_
   refine Qp Gc ?_
   refine AOL.Aas (Am (k:=3) (c:=.row _ _ _) Ah rfl rfl rfl rfl) rfl rfl ?_
   refine Qp (K6 (n:=p.2.1.ts.length) Ah rfl rfl rfl (by simp)) ?_
   refine Qp Az ?_
   refine AOL.ghost (GS.cellRow 3 1 112 3 rfl rfl rfl rfl) ?_
   refine Ag (AW.block ?_)
   refine AW.Aao (fun (q:Nat×Value×List (List AV))=>(⟨[(2,.ptr (Cf T V)),(5,.val (.pointer (some ⟨b21,0,none⟩))),(6,.val (.pointer (some ⟨b6,0,none⟩))),(133,.row p.2.2.1 3 (p.2.1.ts.map Hw)),(134,.int .i64 p.2.1.ts.length),(135,.int .i64 (q.1:Int))],.row q.2.1 q.2.2.length 112 3 :: .row p.2.2.2.1 p.2.2.2.2.length 112 3 :: .box b6 44 [.row p.2.2.2.1 3 p.2.2.2.2] :: .row p.2.2.1 (p.2.1.ts.map Hw).length 103 3 :: .box b21 101 [.int .i64 ((p.2.1.ts.length:Int)+1),.row q.2.1 3 q.2.2,.row p.2.2.1 3 (p.2.1.ts.map Hw),.val (.map (some b19))] :: .kmap b19 (Th p.2.1.ts)::H,179⟩:St)) (fun (q:Nat×Value×List (List AV))=>q.1≤p.2.1.ts.length∧q.2.2=(Ho T V 0 (p.2.1.ts.take q.1)).map Q7) (fun (q:Nat×Value×List (List AV))=>p.2.1.ts.length-q.1) ((0,.slice none 0 0,[])) ?_ (GS.weaken ⟨rfl,rfl,rfl,rfl,rfl,rfl,trivial⟩ (.refl _)) ?_
   · exact ⟨Nat.zero_le _,rfl⟩
   ·
    rintro q hQ
    have hsz:∀c∈q.2.2,Be c=true:=by rw [hQ.2];exact Ed fun _=>rfl
    have hzl:q.2.2.length≤2*p.2.1.ts.length:=by rw [hQ.2,List.length_map,U3,List.length_take];omega
    refine Ai (Qp Ch (Ag (AW.seq (A6 (fun hc11=>?_) fun hc11=>?_))))
    ·
     obtain ⟨t,ht⟩:=B5 hc11
     have hlt2:=A4 ht
     have htm:=List.mem_of_getElem? ht
     refine By (AW.seq (AW.block (Ai (Qp Az ?_))))
     refine Qp (Ip (c:=[Iq _,Iq _,Iq _]) Ah rfl rfl rfl rfl rfl rfl (by omega) (Bi ht)) ?_
     refine Qp (Cq [Iq _,Iq _,Iq _]) ?_
     refine Qe (Ak (l:=[.int .i64 0,.int .i64 0,.int .i64 0]) (by kernel_rfl)) ?_
     rintro _ _ ⟨b16,rfl,rfl⟩
     refine Qp Ap ?_
     refine Cv 0 [Iq _,Iq _,Iq _] (_::_::_::_::_::_::_::_) ?_
     refine AOL.ghost (GS.Aan (t:=16) 0 rfl rfl) ?_
     refine Dm (Qp (Cq [_,_]) (Qp (Cq [Iq _,Iq _,Iq _]) ?_))
     refine Qp (Qc rfl (qU T V t (hpt t htm))) ?_
     refine Qp N6 (Qp Ke (Qp Ke (Qp Ap (Qp Ap (Ag ?_)))))
     have hlr:=Nx (T:=T) (V:=V) t
     refine AW.region (Qp Gr (Qp Gr ?_))
     refine Qp (Bn rfl) ?_
     refine Qp Gc (Qp Gc ?_)
     refine AOL.Aas (Am (k:=4) (c:=.row _ _ _) Ah rfl rfl rfl rfl) rfl rfl ?_
     refine Qp Az (Qp Ey (Qp Az (Qp (Fz [Iq _,Iq _,Iq _]) (Qp Az (Qp Ey (Qp Az ?_))))))
     refine Qp (Tq rfl rfl (by constructor <;> omega)) ?_
     refine Qp (Fz [Iq _,Iq _,Iq _]) ?_
     refine Qp (A1 (es:=[[Iq _,Iq _,Iq _],[Iq _,Iq _,Iq _]]) Ah rfl rfl rfl rfl rfl rfl rfl rfl rfl) ?_
     refine Qe (C3 (k:=0) Ah rfl rfl rfl rfl rfl rfl rfl rfl ((sc_two rfl rfl)) (hsz) (by simp;omega) (by simp [maxLen];omega)) ?_
     rintro _ _ ⟨v162,rfl,rfl⟩
     refine Qp (Bn rfl) ?_
     refine Qp Gc (Qp Gc ?_)
     refine Cv 4 [Iq _,_,_,_] (_::_::_::_::_::_::_) ?_
     refine AOL.nil (Bu (Ad (AW.region (Qp Ey (Qp Az (Ag ?_))))))
     refine ⟨(q.1+1,v162,q.2.2 ++ [Q7 ⟨(q.1:Int)+1,0,(Dh T V t).2⟩,Q7 ⟨0,(q.1:Int)+1,0-(Dh T V t).1⟩]),?_,?_,GS.weaken ⟨rfl,rfl,rfl,rfl,rfl,rfl,trivial⟩ (.refl _)⟩
     · exact ⟨hlt2,by simp only;rw [vP ht,List.map_append,hQ.2];rfl⟩
     · simp only;omega
    ·
     have hte2:=Cu hc11
     have hQe:=hQ.2
     rw [hte2] at hQe
     refine AW.exit ?_
     refine A5 (A5 (Bq (Ad (AW.seq ?_))))
     refine AW.ghost (GS.cell (H2:=_::_::_::_::_::_::_) 2 0 rfl rfl rfl rfl Ej) ?_
     have hsz:∀c∈q.2.2,Be c=true:=by rw [hQ.2];exact Ed fun _=>rfl
     have hzl:q.2.2.length≤2*p.2.1.ts.length:=by rw [hQ.2,List.length_map,U3,List.length_take];omega
     refine AW.draw mixed (fun H'=>_∈H'∧_∈H') ⟨(List.mem_of_getElem? (i:=4) rfl),(List.mem_of_getElem? (i:=2) rfl)⟩ (by kernel_rfl) ?_
     refine Qn 0 rfl Gr (Qn 1 rfl Gr ?_)
     refine Qn 2 rfl (Bn rfl) ?_
     refine Qn 3 rfl Gc (Qn 4 rfl Gc ?_)
     refine Qn 5 rfl (OpP.Aaq (fun k=>Am (k:=k) (c:=.row _ _ _) Ah rfl rfl rfl rfl) (fun _ h=>h.1)) ?_
     refine Qn 6 rfl (OpP.Aaq (fun k=>Am (k:=k) (c:=.sl _ _) Ah rfl rfl rfl rfl) (fun _ h=>h.2)) ?_
     refine Jn.eff _ _ 7 _ _ rfl (by kernel_rfl) rfl rfl (C3 (k:=0) Ah rfl rfl rfl rfl rfl rfl rfl rfl (hsb) (hsz) (by simp;omega) (by simp [maxLen];omega)) (by rintro _ _ ⟨v174,rfl,rfl⟩;simp) ?_
     rintro _ _ ⟨v174,rfl,rfl⟩
     refine Qn 8 rfl (Bn rfl) ?_
     refine Qn 9 rfl Gc (Qn 10 rfl Gc ?_)
     refine Jn.last _ _ 11 _ _ rfl (by kernel_rfl) rfl rfl (B2 (k:=4) (v:=.row _ _ _) (cs':=[Iq _,_,_,_]) (H2:=_::_::_::_::_::_::_) Ah rfl rfl rfl rfl (rfl) rfl rfl rfl rfl) (by kernel_rfl) ?_
     rintro _ _ ⟨rfl,rfl⟩
     refine Ad (AW.seq ?_)
     refine AW.ghost (GS.cell (H2:=_::_::_::_::_::_::_) 4 1 rfl rfl rfl rfl Ej) ?_
     refine AW.ghost (GS.cell (H2:=_::_::_::_::_::_::_) 4 2 rfl rfl rfl rfl Ej) ?_
     refine AW.ghost (GS.cell (H2:=_::_::_::_::_::_::_) (c':=.junk) 4 3 rfl rfl rfl rfl (fun _ _ _ _=>.junk _)) ?_
     refine AW.ghost (GS.Aan (t:=5) 4 rfl rfl) ?_
     refine AW.region (Qp wA (Qp Qap (Ag (AW.ret ?_))))
     refine ⟨.inr rfl,[.ptr _],.cons (.tmp _ _ rfl) <| .nil,.cons _ (.cons _ (.cons _ (.cons _ (.cons _ (.refl _))))),?_⟩
     exact Eq.trans rfl (cSy_eq hS hQe hR.2.2)
theorem d_Zone (T:List Sc)(hl:T.length≤1048576)(hst:∀s∈T,Ig s)(V:List Va)(hvl:V.length≤1048576)(l:List Lit)(hll:l.length≤1048576)(hls:∀c∈l,Ar c.cond≤1048576):Ax Tryz.prog 12 [.sl 2 (T.map Ob),.sl 2 (V.map S4),.sl 9 (l.map F0)] (.tuple [.agg (Xz (N3 T V l).zone),.sl 8 ((N3 T V l).terms.map G8),.int .i64 (N3 T V l).err]):=by
 refine Ax.body (n:=52) Ah Tryz.func12 rfl rfl rfl fun H=>?_
 refine Ai ?_
 refine Qe (Ak (l:=[.int .i64 0,.sl 3 []]) (by kernel_rfl)) ?_
 rintro _ _ ⟨b6,rfl,rfl⟩
 refine Qp (Bz (z:=8) rfl) ?_
 refine Qp Ap (Dm (Qp Dx (Qp Dx (Qp (Fz [_,_]) ?_))))
 refine Qe (Ak (l:=[.sl 2 [],.sl 2 []]) (by kernel_rfl)) ?_
 rintro _ _ ⟨b9,rfl,rfl⟩
 refine Cv 0 [_,_] (_::_::_) ?_
 refine AOL.ghost (GS.Aan (t:=9) 0 rfl rfl) ?_
 refine Ag (AW.seq (Ai (Qp (Cq [_,_]) (Qp Dx ?_))))
 refine Qp (Qc rfl (sN T hl hst V hvl l hll hls)) ?_
 refine Qp Ap (Dm (Qp Az (Qp Cr (Ag (A6 (fun hc1=>?_) fun hc1=>?_)))))
 ·
  refine Ai (Qp (Fz [Iq _,_]) (Qp Az ?_))
  refine Cv 0 [Iq _,_] (_::_) ?_
  refine Qp (Bz (z:=8) rfl) ?_
  refine Qp Ap (Ag (Dw ?_))
  refine ⟨.inr rfl,[.agg [Iq _,_],.sl _ _,Iq _],.cons (.box _ _ _ 0 _ _ _ _ rfl rfl rfl rfl rfl rfl) <| .cons (.tmp _ _ rfl) <| .cons (.tmp _ _ rfl) <| .nil,.cons _ (.refl _),?_⟩
  exact Eq.trans rfl (congrArg (fun q:Zr=>AV.tuple [.agg (Xz q.zone),.sl 8 (q.terms.map G8),.int .i64 q.err]) (Zone_1 hc1)).symm
 ·
  have hok:=pM hc1
  have hgl:=(J8 hok.1).len
  have hol:=hok.2
  refine By (Ai (Qp (Cq [_,_]) (Qp Dx ?_)))
  refine Qp (Qc rfl (fE T V l (Nat.le_trans hok.2 (by decide)) hok.1)) ?_
  refine Qp Qap (Ag (AW.seq (Ai (Qp wA ?_))))
  refine Qp (Qc rfl (iL T V l)) ?_
  refine Qp Hc (Ag (A6 (fun hc2=>?_) fun hc2=>?_))
  ·
   refine Ai (Qp (Fz [Iq _,_]) ?_)
   refine Cv 0 [Iq _,_] (_::_) ?_
   refine Qp (Bz (z:=8) rfl) ?_
   refine Qp Ap (Ag (Dw ?_))
   refine ⟨.inr rfl,[.agg [Iq _,_],.sl _ _,Iq _],.cons (.box _ _ _ 0 _ _ _ _ rfl rfl rfl rfl rfl rfl) <| .cons (.tmp _ _ rfl) <| .cons (.tmp _ _ rfl) <| .nil,.cons _ (.refl _),?_⟩
   exact Eq.trans rfl (congrArg (fun q:Zr=>AV.tuple [.agg (Xz q.zone),.sl 8 (q.terms.map G8),.int .i64 q.err]) (Zone_2 hc1 hc2)).symm
  ·
   refine By (Ai (Qp N4 ?_))
   refine AOL.ghost (GS.row (t:=12) 30 8 rfl) ?_
   refine Ag (AW.seq (Ai (Qp wA ?_)))
   refine Qp (Gk rfl) ?_
   refine Qp (Qf [_,_]) (Qp Dy ?_)
   refine Qp (Al (n:=(B1 T V l).ts.length) Ah rfl rfl rfl (by simp)) ?_
   refine Qp Az (Ag (AW.block ?_))
   refine AW.Aao (fun (p:Nat×List (List AV)×Value)=>(⟨[(6,.val (.pointer (some ⟨b6,0,none⟩))),(11,.ptr (oA T V l)),(12,.row p.2.2 8 p.2.1),(35,.sl 3 ((B1 T V l).ts.map Hw)),(36,.int .i64 (B1 T V l).ts.length),(37,.int .i64 (p.1:Int))],.row p.2.2 p.2.1.length 30 8 :: .box b6 46 [.int .i64 0,.sl 3 []]::H,52⟩:St)) (fun (p:Nat×List (List AV)×Value)=>p.1≤(B1 T V l).ts.length∧p.2.1=((B1 T V l).ts.take p.1).map fun t=>cE (Fx t)) (fun (p:Nat×List (List AV)×Value)=>(B1 T V l).ts.length-p.1) ((0,[],.slice none 0 0)) ?_ (GS.weaken ⟨rfl,rfl,rfl,rfl,rfl,rfl,trivial⟩ (.refl _)) ?_
   · exact ⟨Nat.zero_le _,rfl⟩
   ·
    rintro p hR
    have hsc:∀c∈p.2.1,Be c=true:=by rw [hR.2];exact Ed fun _=>rfl
    have hpl:p.2.1.length≤p.1:=by rw [hR.2];simp;omega
    refine Ai (Qp Ch (Ag (AW.seq (A6 (fun hc3=>?_) fun hc3=>?_))))
    ·
     obtain ⟨t,ht⟩:=B5 hc3
     have hlt:=A4 ht
     refine By (AW.seq (AW.block (Ai ?_)))
     refine Qp (Af (c:=[Iq _,Iq _,Iq _]) Ah rfl rfl rfl rfl rfl rfl (by omega) (Bi ht)) ?_
     refine Qp (Cq [Iq _,Iq _,Iq _]) ?_
     refine Qe (Ak (l:=[.int .i64 0,.int .i64 0,.int .i64 0]) (by kernel_rfl)) ?_
     rintro _ _ ⟨b14,rfl,rfl⟩
     refine Cv 0 [Iq _,Iq _,Iq _] (_::_::_::_) ?_
     refine AOL.ghost (GS.Aan (t:=14) 0 rfl rfl) ?_
     refine Ag (AW.region ?_)
     refine Qp (Bm (v:=.row _ _ _) rfl) ?_
     refine Qp (Cq [Iq _,Iq _,Iq _]) ?_
     refine Qp (Qc rfl (uK t)) ?_
     refine Qp (A1 (es:=[[Iq _,_,Iq _,Iq _,Iq _,Iq _,Iq _,.str _]]) Ah rfl rfl rfl rfl rfl rfl rfl rfl rfl) ?_
     refine Qe (C3 (k:=0) Ah rfl rfl rfl rfl rfl rfl rfl rfl (Ff rfl) (hsc) (by simp;omega) (by simp [maxLen];omega)) ?_
     rintro _ _ ⟨v45,rfl,rfl⟩
     refine Qp (Dg (v:=.row _ _ _) rfl) ?_
     refine AOL.nil (Bu (Ad (AW.region (Qp Ey (Qp Az (Ag ?_))))))
     refine ⟨(p.1+1,p.2.1 ++ [cE (Fx t)],v45),?_,?_,GS.weaken ⟨rfl,rfl,rfl,rfl,rfl,rfl,trivial⟩ (.refl _)⟩
     · exact ⟨hlt,by simp only;rw [C4 ht,hR.2,List.map_append];rfl⟩
     · simp only;omega
    ·
     have hte:=Cu hc3
     have hall:=hR.2
     rw [hte] at hall
     refine AW.exit ?_
     refine A5 (A5 (Bq (Ad (Ai (Qp wA ?_)))))
     refine Qp (Gk rfl) ?_
     refine Qp (Qf [Iq _,_,_,_]) (Qp (Cq [Iq _,_]) ?_)
     refine Qp (Bm (v:=.row _ _ _) rfl) ?_
     refine Cv 1 [Iq _,_] (_::_::_) ?_
     refine AOL.ghost (GS.unrow 51 rfl) ?_
     refine Qp Sr (Qp Ap (Ag (AW.ret ?_)))
     refine ⟨.inr rfl,[.agg [Iq _,_],.sl _ _,Iq _],.cons (.box _ _ _ 1 _ _ _ _ rfl rfl rfl rfl rfl rfl) <| .cons (.tmp _ _ rfl) <| .cons (.tmp _ _ rfl) <| .nil,.cons _ (.cons _ (.refl _)),?_⟩
     rw [hall,show ((B1 T V l).ts.map fun t=>cE (Fx t))=((B1 T V l).ts.map Fx).map G8 by rw [List.map_map];exact List.map_congr_left fun t _=>(Lr _).symm]
     exact Eq.trans rfl (congrArg (fun q:Zr=>AV.tuple [.agg (Xz q.zone),.sl 8 (q.terms.map G8),.int .i64 q.err]) (Zone_3 hc1 hc2)).symm

end Go.Proofs.YtjedflcpjlgokaaGreatDoor
