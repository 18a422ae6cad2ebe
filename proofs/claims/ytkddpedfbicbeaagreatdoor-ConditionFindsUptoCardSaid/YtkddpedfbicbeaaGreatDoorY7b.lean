/-
  Walks of layer 11: the zone of a clause. No condition.
-/
import Derived.Test.YtkddpedfbicbeaaGreatDoorAz
import Derived.Test.YtkddpedfbicbeaaGreatDoorK16
import Derived.Test.YtkddpedfbicbeaaGreatDoorY7
import Derived.KernelRfl
namespace Go.Proofs.YtkddpedfbicbeaaGreatDoor
open Go Go.Aw
set_option maxHeartbeats 6400000
set_option maxRecDepth 20000
set_option linter.unusedVariables false
set_option linter.unusedSimpArgs false

theorem iE (T:List Sc)(V:List Va)(l:List Lit)(hll:l.length≤4096)(hlk:Ve T V l):Av Tryz.prog 79 [.agg (Co T V),.sl 9 (l.map G3)] (.ptr (rK T V l)):=by
 have hgo:=Lr hlk
 have hgl:=hgo.len
 have hgb:=hgo.bnds
 refine Av.body (n:=179) Ai Tryz.func79 rfl rfl rfl fun H=>?_
 refine Ah (Qp (F5 [_,_]) (Qp N8 (Df ?_)))
 refine Qe (Mz) ?_
 rintro _ _ ⟨b19,rfl,rfl⟩
 refine Qp (O7 (l0:=[.int .i64 0,.val (.slice none 0 0),.val (.slice none 0 0),.val (.map none)]) (l:=[Iq _,_,_,_]) Ai rfl rfl (by kernel_rfl) rfl) ?_
 refine Qe (U7 (v:=.agg _) (cs:=[Iq _,_,_,_]) rfl rfl (rfl)) ?_
 rintro _ _ ⟨b21,rfl,rfl⟩
 refine Qp N8 ?_
 refine AOL.ghost (GS.cellRow 0 2 143 3 rfl rfl rfl rfl) ?_
 refine Df ?_
 refine Qe (Al (l:=[.val (.slice none 0 0)]) (by kernel_rfl)) ?_
 rintro _ _ ⟨b6,rfl,rfl⟩
 refine AOL.ghost (GS.cellRow 0 0 94 3 rfl rfl rfl rfl) ?_
 refine Df ?_
 refine Qp (Bc (l:=[]) (l':=[.val _]) rfl rfl) ?_
 refine Qp (C2 (v:=.fn _ _ _) rfl) ?_
 refine Ag (AW.seq (Ah (Qp C4 ?_)))
 refine Qp (Ak (n:=l.length) Ai rfl rfl rfl (by simp)) ?_
 refine Qp A0 (Ag (AW.block ?_))
 refine AW.Aae (fun (p:Nat×Sy×Value×Value×List (List AV))=>(⟨[(2,.ptr (Co T V)),(5,.val (.pointer (some ⟨b21,0,none⟩))),(6,.val (.pointer (some ⟨b6,0,none⟩))),(7,.fn (.func 128) [] [.val (.pointer (some ⟨b6,0,none⟩))]),(23,.sl 9 (l.map G3)),(24,.int .i64 l.length),(25,.int .i64 (p.1:Int))],.row p.2.2.2.1 p.2.2.2.2.length 94 3 :: .box b6 88 [.row p.2.2.2.1 3 p.2.2.2.2]::gF b19 b21 p.2.2.1 (.int .i64 0) (.val (.slice none 0 0)) p.2.1.ts H,179⟩:St)) (fun (p:Nat×Sy×Value×Value×List (List AV))=>p.1≤l.length∧p.2.1=Cg T V (l.take p.1)∧p.2.2.2.2=p.2.1.bs.map Rt) (fun (p:Nat×Sy×Value×Value×List (List AV))=>l.length-p.1) ((0,⟨[],[]⟩,.slice none 0 0,.slice none 0 0,[])) ?_ (GS.weaken ⟨rfl,rfl,rfl,rfl,rfl,rfl,rfl,trivial⟩ (.refl _)) ?_
 · exact ⟨Nat.zero_le _,rfl,rfl⟩
 ·
  rintro p hR
  have hok:=Lr (zG hlk p.1)
  rw [←hR.2.1] at hok
  have hkl:(l.take p.1).length≤4096:=by rw [List.length_take];omega
  have htl:=hok.len
  have hbl:=hok.bnds
  have hel:p.2.2.2.2.length≤8192:=by rw [hR.2.2,List.length_map];omega
  have hsb:∀c∈p.2.2.2.2,Bf c=true:=by rw [hR.2.2];exact Fm fun _=>rfl
  have hx:=pV (ts:=[]) (l:=[]) (n:=0)
  refine Ah (Qp Cj (Ag (AW.seq (A3 (fun hc1=>?_) fun hc1=>?_))))
  ·
   obtain ⟨c,hc⟩:=B2 hc1
   have hlt:=A9 hc
   have hcm:=List.mem_of_getElem? hc
   have hck:=(hlk c hcm).1
   have hcs:=(hlk c hcm).2
   have hgn:=Rq hck hcs
   have hgr:=hgn.rest
   refine Bx (AW.seq (AW.block (Ah ?_)))
   refine Qp (Af (c:=[Iq _,_,Iq _,Iq _,Iq _,Iq _,Iq _,.str _,.bool _]) Ai rfl rfl rfl rfl rfl rfl (by omega) (Bh hc)) ?_
   refine Qp (Ck [Iq _,_,Iq _,Iq _,Iq _,Iq _,Iq _,.str _,.bool _]) ?_
   refine Qe (Al (l:=[.int .i64 0,.sl 8 [],.int .i64 0,.int .i64 0,.int .i64 0,.int .i64 0,.int .i64 0,.str [],.bool false]) (by kernel_rfl)) ?_
   rintro _ _ ⟨b9,rfl,rfl⟩
   refine Cm 0 [Iq _,_,Iq _,Iq _,Iq _,Iq _,Iq _,.str _,.bool _] (_::_::_::_::_::_::_) ?_
   refine AOL.ghost (GS.Aad (t:=9) 0 rfl rfl) ?_
   refine Df (Qp (Ck [_,_]) (Qp (Ck [Iq _,_,Iq _,Iq _,Iq _,Iq _,Iq _,.str _,.bool _]) ?_))
   refine Qp (Qc rfl (qX T V c hck hcs)) ?_
   refine Qp Mv ?_
   refine Qp (Cb (v:=.agg [_,_,Iq _]) rfl rfl) ?_
   refine Qp eN ?_
   refine Qe (Al (l:=[.sl 3 [],.sl 3 [],.int .i64 0]) (by kernel_rfl)) ?_
   rintro _ _ ⟨b10,rfl,rfl⟩
   refine Cm 0 [_,_,Iq _] (_::_::_::_::_::_::_) ?_
   refine Qp Be ?_
   refine AOL.ghost (GS.Aad (t:=10) 0 rfl rfl) ?_
   refine Ag (AW.seq (Ah (Qp Bp (Qp Ge (Ag (A3 (fun hc2=>?_) fun hc2=>?_))))))
   ·
    refine AW.exit ?_
    refine A6 (Bv (Ae (AW.region (Qp Fv (Qp A0 (Ag ?_))))))
    refine ⟨(p.1+1,p.2),?_,?_,GS.weaken ⟨rfl,rfl,rfl,rfl,rfl,rfl,rfl,trivial⟩ (.refl _)⟩
    · exact ⟨hlt,tY hc hR.2.1 hc2,hR.2.2⟩
    · simp only;omega
   ·
    have hnum:=hc2
    refine Bx (Ah (Qp H0 (Qp (Qf [_,_,Iq _]) (Qp Dk ?_))))
    refine Qe (Fo (by kernel_rfl) rfl rfl (Dv.front3 (R:=_::_::_) 4 3 2 rfl rfl rfl rfl (aG b19 b21 _ 0 (.val (.slice none 0 0)) p.2.1.ts (Aa T V c).1.plus _ (by omega)))) ?_
    rintro _ _ ⟨w1,rfl,rfl⟩
    refine Qp At (Df (Qp H0 (Qp (Qf [_,Iq _]) (Qp Dk ?_))))
    refine Qe (Fo (by kernel_rfl) rfl rfl (Dv.front3 (R:=_::_::_) 2 1 0 rfl rfl rfl rfl (aG b19 b21 _ 0 (.val (.slice none 0 0)) (A2 p.2.1.ts (Aa T V c).1.plus) (Aa T V c).1.minus _ (by have:=Th p.2.1.ts (Aa T V c).1.plus;omega)))) ?_
    rintro _ _ ⟨w2,rfl,rfl⟩
    refine Qp At (Df (Qp (Qf [Iq _,_,Iq _,Iq _,Iq _,Iq _,Iq _,.str _,.bool _]) (Qp (Qf [Iq _,_,Iq _,Iq _,Iq _,Iq _,Iq _,.str _,.bool _]) (Qp Bs (Qp At (Ag (AW.block (AW.seq (Ah ?_)))))))))
    refine Qp A0 (Qp A5 (Qp Bp (Qg [] Qw (Qf [.bool _]) (Qg [(65,_)] Qw jV (Qp E1 (Qp Be (Ag (A3 (fun hc3=>?_) fun hc3=>?_))))))))
    ·
     refine Bx (A3 (fun hc4=>?_) fun hc4=>?_)
     ·
      refine AW.region ?_
      refine Qp (Bj (v:=.fn _ _ _) rfl) ?_
      refine Qp A0 (Qp A0 (Qp (Qf [Iq _]) (Qp Bs ?_)))
      refine Qp (Xv rfl rfl (by constructor <;> omega)) ?_
      refine Qe (Je (by kernel_rfl) rfl rfl rfl (Dv.front2 (R:=_::_::_::_) 4 3 rfl rfl rfl (O5 b6 _ p.2.2.2.2 _ (B4 (A2 p.2.1.ts (Aa T V c).1.plus) (Aa T V c).1.plus) (B4 (A2 (A2 p.2.1.ts (Aa T V c).1.plus) (Aa T V c).1.minus) (Aa T V c).1.minus) (0-(Aa T V c).1.rest) (Nat.le_trans hel (by decide)) hsb))) ?_
      rintro _ _ ⟨u1,rfl,rfl⟩
      refine AOL.nil (Bq (Bq (Ae (AW.region (Qp Fv (Qp A0 (Ag ?_)))))))
      refine ⟨(p.1+1,⟨(A2 (A2 p.2.1.ts (Aa T V c).1.plus) (Aa T V c).1.minus),p.2.1.bs ++ [⟨(B4 (A2 p.2.1.ts (Aa T V c).1.plus) (Aa T V c).1.plus),(B4 (A2 (A2 p.2.1.ts (Aa T V c).1.plus) (Aa T V c).1.minus) (Aa T V c).1.minus),0-(Aa T V c).1.rest⟩]⟩,w2,u1,(p.2.2.2.2 ++ [Rt ⟨(B4 (A2 p.2.1.ts (Aa T V c).1.plus) (Aa T V c).1.plus),(B4 (A2 (A2 p.2.1.ts (Aa T V c).1.plus) (Aa T V c).1.minus) (Aa T V c).1.minus),0-(Aa T V c).1.rest⟩])),?_,?_,GS.weaken ⟨rfl,rfl,rfl,rfl,rfl,rfl,rfl,trivial⟩ (.refl _)⟩
      · exact ⟨hlt,Lt hc hR.2.1 hnum (bd_1 ‹(c.cond.op==1&&c.neg)=true›),Ma hR.2.2⟩
      · simp only;omega
     ·
      exact absurd (hc4.symm.trans hc3) (by decide)
    ·
     refine AW.region (Qp A0 (Qp A5 (Qp Bp (Qg [] Qw (Qf [.bool _]) (Qg [(71,_)] Qw jV (Qg [(72,_)] Qw Ge (Qp E1 (Qp Be (Ag (A3 (fun hc5=>?_) fun hc5=>?_))))))))))
     ·
      refine AW.region ?_
      refine Qp (Bj (v:=.fn _ _ _) rfl) ?_
      refine Qp A0 (Qp A0 (Qp (Qf [Iq _]) (Qp Bs ?_)))
      refine Qp (Xv rfl rfl (by constructor <;> omega)) ?_
      refine Qe (Je (by kernel_rfl) rfl rfl rfl (Dv.front2 (R:=_::_::_::_) 4 3 rfl rfl rfl (O5 b6 _ p.2.2.2.2 _ (B4 (A2 p.2.1.ts (Aa T V c).1.plus) (Aa T V c).1.plus) (B4 (A2 (A2 p.2.1.ts (Aa T V c).1.plus) (Aa T V c).1.minus) (Aa T V c).1.minus) (0-(Aa T V c).1.rest) (Nat.le_trans hel (by decide)) hsb))) ?_
      rintro _ _ ⟨u1,rfl,rfl⟩
      refine AOL.nil (Bq (Bq (Ae (AW.region (Qp Fv (Qp A0 (Ag ?_)))))))
      refine ⟨(p.1+1,⟨(A2 (A2 p.2.1.ts (Aa T V c).1.plus) (Aa T V c).1.minus),p.2.1.bs ++ [⟨(B4 (A2 p.2.1.ts (Aa T V c).1.plus) (Aa T V c).1.plus),(B4 (A2 (A2 p.2.1.ts (Aa T V c).1.plus) (Aa T V c).1.minus) (Aa T V c).1.minus),0-(Aa T V c).1.rest⟩]⟩,w2,u1,(p.2.2.2.2 ++ [Rt ⟨(B4 (A2 p.2.1.ts (Aa T V c).1.plus) (Aa T V c).1.plus),(B4 (A2 (A2 p.2.1.ts (Aa T V c).1.plus) (Aa T V c).1.minus) (Aa T V c).1.minus),0-(Aa T V c).1.rest⟩])),?_,?_,GS.weaken ⟨rfl,rfl,rfl,rfl,rfl,rfl,rfl,trivial⟩ (.refl _)⟩
      · exact ⟨hlt,Lt hc hR.2.1 hnum (bd_2 ‹(c.cond.op==8 && !c.neg)=true›),Ma hR.2.2⟩
      · simp only;omega
     ·
      refine AW.seq (Ah (Qp A0 (Qp A5 (Qp Be (Ag (A3 (fun hc6=>?_) fun hc6=>?_))))))
      ·
       refine Bx (A3 (fun hc7=>?_) fun hc7=>?_)
       ·
        refine AW.region ?_
        refine Qp (Bj (v:=.fn _ _ _) rfl) ?_
        refine Qp A0 (Qp A0 (Qp (Qf [Iq _]) (Qp Bs ?_)))
        refine Qp (Z5 rfl rfl rfl (by constructor <;> omega)) ?_
        refine Qe (Je (by kernel_rfl) rfl rfl rfl (Dv.front2 (R:=_::_::_::_) 4 3 rfl rfl rfl (O5 b6 _ p.2.2.2.2 _ (B4 (A2 (A2 p.2.1.ts (Aa T V c).1.plus) (Aa T V c).1.minus) (Aa T V c).1.minus) (B4 (A2 p.2.1.ts (Aa T V c).1.plus) (Aa T V c).1.plus) ((Aa T V c).1.rest-1) (Nat.le_trans hel (by decide)) hsb))) ?_
        rintro _ _ ⟨u1,rfl,rfl⟩
        refine AOL.nil (Bq (Bq (Ae (AW.region (Qp Fv (Qp A0 (Ag ?_)))))))
        refine ⟨(p.1+1,⟨(A2 (A2 p.2.1.ts (Aa T V c).1.plus) (Aa T V c).1.minus),p.2.1.bs ++ [⟨(B4 (A2 (A2 p.2.1.ts (Aa T V c).1.plus) (Aa T V c).1.minus) (Aa T V c).1.minus),(B4 (A2 p.2.1.ts (Aa T V c).1.plus) (Aa T V c).1.plus),(Aa T V c).1.rest-1⟩]⟩,w2,u1,(p.2.2.2.2 ++ [Rt ⟨(B4 (A2 (A2 p.2.1.ts (Aa T V c).1.plus) (Aa T V c).1.minus) (Aa T V c).1.minus),(B4 (A2 p.2.1.ts (Aa T V c).1.plus) (Aa T V c).1.plus),(Aa T V c).1.rest-1⟩])),?_,?_,GS.weaken ⟨rfl,rfl,rfl,rfl,rfl,rfl,rfl,trivial⟩ (.refl _)⟩
        · exact ⟨hlt,Lt hc hR.2.1 hnum (bd_3 ‹(c.cond.op==1&&c.neg)=false› ‹(c.cond.op==8 && !c.neg)=false› ‹(c.cond.op==1)=true›),Ma hR.2.2⟩
        · simp only;omega
       ·
        exact absurd (hc7.symm.trans hc6) (by decide)
      ·
       refine AW.region (Qp A0 (Qp A5 (Qp Be (Ag (A3 (fun hc8=>?_) fun hc8=>?_)))))
       ·
        refine AW.region ?_
        refine Qp (Bj (v:=.fn _ _ _) rfl) ?_
        refine Qp A0 (Qp A0 (Qp (Qf [Iq _]) (Qp Bs ?_)))
        refine Qp (Z5 rfl rfl rfl (by constructor <;> omega)) ?_
        refine Qe (Je (by kernel_rfl) rfl rfl rfl (Dv.front2 (R:=_::_::_::_) 4 3 rfl rfl rfl (O5 b6 _ p.2.2.2.2 _ (B4 (A2 (A2 p.2.1.ts (Aa T V c).1.plus) (Aa T V c).1.minus) (Aa T V c).1.minus) (B4 (A2 p.2.1.ts (Aa T V c).1.plus) (Aa T V c).1.plus) ((Aa T V c).1.rest-1) (Nat.le_trans hel (by decide)) hsb))) ?_
        rintro _ _ ⟨u1,rfl,rfl⟩
        refine AOL.nil (Bq (Bq (Ae (AW.region (Qp Fv (Qp A0 (Ag ?_)))))))
        refine ⟨(p.1+1,⟨(A2 (A2 p.2.1.ts (Aa T V c).1.plus) (Aa T V c).1.minus),p.2.1.bs ++ [⟨(B4 (A2 (A2 p.2.1.ts (Aa T V c).1.plus) (Aa T V c).1.minus) (Aa T V c).1.minus),(B4 (A2 p.2.1.ts (Aa T V c).1.plus) (Aa T V c).1.plus),(Aa T V c).1.rest-1⟩]⟩,w2,u1,(p.2.2.2.2 ++ [Rt ⟨(B4 (A2 (A2 p.2.1.ts (Aa T V c).1.plus) (Aa T V c).1.minus) (Aa T V c).1.minus),(B4 (A2 p.2.1.ts (Aa T V c).1.plus) (Aa T V c).1.plus),(Aa T V c).1.rest-1⟩])),?_,?_,GS.weaken ⟨rfl,rfl,rfl,rfl,rfl,rfl,rfl,trivial⟩ (.refl _)⟩
        · exact ⟨hlt,Lt hc hR.2.1 hnum (bd_4 ‹(c.cond.op==1&&c.neg)=false› ‹(c.cond.op==8 && !c.neg)=false› ‹(c.cond.op==8)=true›),Ma hR.2.2⟩
        · simp only;omega
       ·
        refine Ah (Qp A0 (Qp A5 (Qp Bp (Qg [] Qw (Qf [.bool _]) (Qg [(98,_)] Qw jV (Qg [(99,_)] Qw Ge (Qp E1 (Qp Be (Ag (A3 (fun hc9=>?_) fun hc9=>?_))))))))))
        ·
         refine AW.region ?_
         refine Qp (Bj (v:=.fn _ _ _) rfl) ?_
         refine Qp A0 (Qp A0 (Qp (Qf [Iq _]) (Qp Bs ?_)))
         refine Qp (Xv rfl rfl (by constructor <;> omega)) ?_
         refine Qp (Z5 rfl rfl rfl (by constructor <;> omega)) ?_
         refine Qe (Je (by kernel_rfl) rfl rfl rfl (Dv.front2 (R:=_::_::_::_) 4 3 rfl rfl rfl (O5 b6 _ p.2.2.2.2 _ (B4 (A2 p.2.1.ts (Aa T V c).1.plus) (Aa T V c).1.plus) (B4 (A2 (A2 p.2.1.ts (Aa T V c).1.plus) (Aa T V c).1.minus) (Aa T V c).1.minus) (0-(Aa T V c).1.rest-1) (Nat.le_trans hel (by decide)) hsb))) ?_
         rintro _ _ ⟨u1,rfl,rfl⟩
         refine AOL.nil (Bq (Bq (Ae (AW.region (Qp Fv (Qp A0 (Ag ?_)))))))
         refine ⟨(p.1+1,⟨(A2 (A2 p.2.1.ts (Aa T V c).1.plus) (Aa T V c).1.minus),p.2.1.bs ++ [⟨(B4 (A2 p.2.1.ts (Aa T V c).1.plus) (Aa T V c).1.plus),(B4 (A2 (A2 p.2.1.ts (Aa T V c).1.plus) (Aa T V c).1.minus) (Aa T V c).1.minus),0-(Aa T V c).1.rest-1⟩]⟩,w2,u1,(p.2.2.2.2 ++ [Rt ⟨(B4 (A2 p.2.1.ts (Aa T V c).1.plus) (Aa T V c).1.plus),(B4 (A2 (A2 p.2.1.ts (Aa T V c).1.plus) (Aa T V c).1.minus) (Aa T V c).1.minus),0-(Aa T V c).1.rest-1⟩])),?_,?_,GS.weaken ⟨rfl,rfl,rfl,rfl,rfl,rfl,rfl,trivial⟩ (.refl _)⟩
         · exact ⟨hlt,Lt hc hR.2.1 hnum (bd_5 ‹(c.cond.op==1&&c.neg)=false› ‹(c.cond.op==8 && !c.neg)=false› ‹(c.cond.op==1)=false› ‹(c.cond.op==8)=false› ‹(c.cond.op==7 && !c.neg)=true›),Ma hR.2.2⟩
         · simp only;omega
        ·
         refine Ah (Qp A0 (Qp A5 (Qp Be (Ag (A3 (fun hc10=>?_) fun hc10=>?_)))))
         ·
          refine AW.region ?_
          refine Qp (Bj (v:=.fn _ _ _) rfl) ?_
          refine Qp A0 (Qp A0 (Qp (Qf [Iq _]) (Qp Bs ?_)))
          refine Qe (Je (by kernel_rfl) rfl rfl rfl (Dv.front2 (R:=_::_::_::_) 4 3 rfl rfl rfl (O5 b6 _ p.2.2.2.2 _ (B4 (A2 (A2 p.2.1.ts (Aa T V c).1.plus) (Aa T V c).1.minus) (Aa T V c).1.minus) (B4 (A2 p.2.1.ts (Aa T V c).1.plus) (Aa T V c).1.plus) ((Aa T V c).1.rest) (Nat.le_trans hel (by decide)) hsb))) ?_
          rintro _ _ ⟨u1,rfl,rfl⟩
          refine AOL.nil (Bq (Bq (Ae (AW.region (Qp Fv (Qp A0 (Ag ?_)))))))
          refine ⟨(p.1+1,⟨(A2 (A2 p.2.1.ts (Aa T V c).1.plus) (Aa T V c).1.minus),p.2.1.bs ++ [⟨(B4 (A2 (A2 p.2.1.ts (Aa T V c).1.plus) (Aa T V c).1.minus) (Aa T V c).1.minus),(B4 (A2 p.2.1.ts (Aa T V c).1.plus) (Aa T V c).1.plus),(Aa T V c).1.rest⟩]⟩,w2,u1,(p.2.2.2.2 ++ [Rt ⟨(B4 (A2 (A2 p.2.1.ts (Aa T V c).1.plus) (Aa T V c).1.minus) (Aa T V c).1.minus),(B4 (A2 p.2.1.ts (Aa T V c).1.plus) (Aa T V c).1.plus),(Aa T V c).1.rest⟩])),?_,?_,GS.weaken ⟨rfl,rfl,rfl,rfl,rfl,rfl,rfl,trivial⟩ (.refl _)⟩
          · exact ⟨hlt,Lt hc hR.2.1 hnum (bd_6 ‹(c.cond.op==1&&c.neg)=false› ‹(c.cond.op==8 && !c.neg)=false› ‹(c.cond.op==1)=false› ‹(c.cond.op==8)=false› ‹(c.cond.op==7 && !c.neg)=false› ‹(c.cond.op==7)=true›),Ma hR.2.2⟩
          · simp only;omega
         ·
          refine Ah ?_
          refine Qp (Bj (v:=.fn _ _ _) rfl) ?_
          refine Qp A0 (Qp A0 (Qp (Qf [Iq _]) (Qp Bs ?_)))
          refine Qp (Xv rfl rfl (by constructor <;> omega)) ?_
          refine Qe (Je (by kernel_rfl) rfl rfl rfl (Dv.front2 (R:=_::_::_::_) 4 3 rfl rfl rfl (O5 b6 _ p.2.2.2.2 _ (B4 (A2 p.2.1.ts (Aa T V c).1.plus) (Aa T V c).1.plus) (B4 (A2 (A2 p.2.1.ts (Aa T V c).1.plus) (Aa T V c).1.minus) (Aa T V c).1.minus) (0-(Aa T V c).1.rest) (Nat.le_trans hel (by decide)) hsb))) ?_
          rintro _ _ ⟨u1,rfl,rfl⟩
          refine Ag (AW.region ?_)
          refine Qp (Bj (v:=.fn _ _ _) rfl) ?_
          refine Qp A0 (Qp A0 (Qp (Qf [Iq _]) (Qp Bs ?_)))
          refine Qe (Je (by kernel_rfl) rfl rfl rfl (Dv.front2 (R:=_::_::_::_) 1 0 rfl rfl rfl (O5 b6 _ (p.2.2.2.2 ++ [Rt ⟨(B4 (A2 p.2.1.ts (Aa T V c).1.plus) (Aa T V c).1.plus),(B4 (A2 (A2 p.2.1.ts (Aa T V c).1.plus) (Aa T V c).1.minus) (Aa T V c).1.minus),0-(Aa T V c).1.rest⟩]) _ (B4 (A2 (A2 p.2.1.ts (Aa T V c).1.plus) (Aa T V c).1.minus) (Aa T V c).1.minus) (B4 (A2 p.2.1.ts (Aa T V c).1.plus) (Aa T V c).1.plus) ((Aa T V c).1.rest) (by rw [List.length_append];simp;omega) (fun d hd=>(List.mem_append.1 hd).elim (hsb d) (Hd rfl d))))) ?_
          rintro _ _ ⟨u2,rfl,rfl⟩
          refine AOL.nil (Bq (Bq (Ae (AW.region (Qp Fv (Qp A0 (Ag ?_)))))))
          refine ⟨(p.1+1,⟨(A2 (A2 p.2.1.ts (Aa T V c).1.plus) (Aa T V c).1.minus),p.2.1.bs ++ [⟨(B4 (A2 p.2.1.ts (Aa T V c).1.plus) (Aa T V c).1.plus),(B4 (A2 (A2 p.2.1.ts (Aa T V c).1.plus) (Aa T V c).1.minus) (Aa T V c).1.minus),0-(Aa T V c).1.rest⟩,⟨(B4 (A2 (A2 p.2.1.ts (Aa T V c).1.plus) (Aa T V c).1.minus) (Aa T V c).1.minus),(B4 (A2 p.2.1.ts (Aa T V c).1.plus) (Aa T V c).1.plus),(Aa T V c).1.rest⟩]⟩,w2,u2,((p.2.2.2.2 ++ [Rt ⟨(B4 (A2 p.2.1.ts (Aa T V c).1.plus) (Aa T V c).1.plus),(B4 (A2 (A2 p.2.1.ts (Aa T V c).1.plus) (Aa T V c).1.minus) (Aa T V c).1.minus),0-(Aa T V c).1.rest⟩]) ++ [Rt ⟨(B4 (A2 (A2 p.2.1.ts (Aa T V c).1.plus) (Aa T V c).1.minus) (Aa T V c).1.minus),(B4 (A2 p.2.1.ts (Aa T V c).1.plus) (Aa T V c).1.plus),(Aa T V c).1.rest⟩])),?_,?_,GS.weaken ⟨rfl,rfl,rfl,rfl,rfl,rfl,rfl,trivial⟩ (.refl _)⟩
          · exact ⟨hlt,Lt hc hR.2.1 hnum (bd_7 ‹(c.cond.op==1&&c.neg)=false› ‹(c.cond.op==8 && !c.neg)=false› ‹(c.cond.op==1)=false› ‹(c.cond.op==8)=false› ‹(c.cond.op==7 && !c.neg)=false› ‹(c.cond.op==7)=false›),tE hR.2.2⟩
          · simp only;omega
  ·
   have hte:=C3 hc1
   have hS:=hR.2.1
   rw [hte] at hS
   have hpt:=hgo.terms
   rw [←hS] at hpt hgl
   refine AW.exit ?_
   refine A6 (A6 (Bv (Ae (Ah (Qp H0 (Qp H0 ?_))))))
   refine Qp (Bl rfl) ?_
   refine Qp Ir ?_
   refine AOL.Aai (Ax (k:=3) (c:=.row _ _ _) Ai rfl rfl rfl rfl) rfl rfl ?_
   refine Qp (Md (n:=p.2.1.ts.length) Ai rfl rfl rfl (by simp)) ?_
   refine Qp Fv ?_
   refine Qp (Bl rfl) ?_
   refine Qp Ir (Qp Ir ?_)
   refine Cm 3 [Iq _,_,_,_] (_::_::_::_::_::_) ?_
   refine Ag (AW.seq (Ah (Qp H0 ?_)))
   refine Qp (Bl rfl) ?_
   refine Qp Ir ?_
   refine AOL.Aai (Ax (k:=3) (c:=.row _ _ _) Ai rfl rfl rfl rfl) rfl rfl ?_
   refine Qp (Md (n:=p.2.1.ts.length) Ai rfl rfl rfl (by simp)) ?_
   refine Qp A0 ?_
   refine AOL.ghost (GS.cellRow 3 1 94 3 rfl rfl rfl rfl) ?_
   refine Ag (AW.block ?_)
   refine AW.Aae (fun (q:Nat×Value×List (List AV))=>(⟨[(2,.ptr (Co T V)),(5,.val (.pointer (some ⟨b21,0,none⟩))),(6,.val (.pointer (some ⟨b6,0,none⟩))),(133,.row p.2.2.1 3 (p.2.1.ts.map H9)),(134,.int .i64 p.2.1.ts.length),(135,.int .i64 (q.1:Int))],.row q.2.1 q.2.2.length 94 3 :: .row p.2.2.2.1 p.2.2.2.2.length 94 3 :: .box b6 88 [.row p.2.2.2.1 3 p.2.2.2.2] :: .row p.2.2.1 (p.2.1.ts.map H9).length 143 3 :: .box b21 141 [.int .i64 ((p.2.1.ts.length:Int)+1),.row q.2.1 3 q.2.2,.row p.2.2.1 3 (p.2.1.ts.map H9),.val (.map (some b19))] :: .kmap b19 (Ub p.2.1.ts)::H,179⟩:St)) (fun (q:Nat×Value×List (List AV))=>q.1≤p.2.1.ts.length∧q.2.2=(Hl T V 0 (p.2.1.ts.take q.1)).map Rt) (fun (q:Nat×Value×List (List AV))=>p.2.1.ts.length-q.1) ((0,.slice none 0 0,[])) ?_ (GS.weaken ⟨rfl,rfl,rfl,rfl,rfl,rfl,trivial⟩ (.refl _)) ?_
   · exact ⟨Nat.zero_le _,rfl⟩
   ·
    rintro q hQ
    have hsz:∀c∈q.2.2,Bf c=true:=by rw [hQ.2];exact Fm fun _=>rfl
    have hzl:q.2.2.length≤2*p.2.1.ts.length:=by rw [hQ.2,List.length_map,cF,List.length_take];omega
    refine Ah (Qp Cj (Ag (AW.seq (A3 (fun hc11=>?_) fun hc11=>?_))))
    ·
     obtain ⟨t,ht⟩:=B2 hc11
     have hlt2:=A9 ht
     have htm:=List.mem_of_getElem? ht
     refine Bx (AW.seq (AW.block (Ah (Qp A0 ?_))))
     refine Qp (Kn (c:=[Iq _,Iq _,Iq _]) Ai rfl rfl rfl rfl rfl rfl (by omega) (Bh ht)) ?_
     refine Qp (Ck [Iq _,Iq _,Iq _]) ?_
     refine Qe (Al (l:=[.int .i64 0,.int .i64 0,.int .i64 0]) (by kernel_rfl)) ?_
     rintro _ _ ⟨b16,rfl,rfl⟩
     refine Qp At ?_
     refine Cm 0 [Iq _,Iq _,Iq _] (_::_::_::_::_::_::_::_) ?_
     refine AOL.ghost (GS.Aad (t:=16) 0 rfl rfl) ?_
     refine Df (Qp (Ck [_,_]) (Qp (Ck [Iq _,Iq _,Iq _]) ?_))
     refine Qp (Qc rfl (tW T V t (hpt t htm))) ?_
     refine Qp Mv (Qp Jn (Qp Jn (Qp At (Qp At (Ag ?_)))))
     have hlr:=Sp (T:=T) (V:=V) t
     refine AW.region (Qp H0 (Qp H0 ?_))
     refine Qp (Bl rfl) ?_
     refine Qp Ir (Qp Ir ?_)
     refine AOL.Aai (Ax (k:=4) (c:=.row _ _ _) Ai rfl rfl rfl rfl) rfl rfl ?_
     refine Qp A0 (Qp Fv (Qp A0 (Qp (Ep [Iq _,Iq _,Iq _]) (Qp A0 (Qp Fv (Qp A0 ?_))))))
     refine Qp (Xv rfl rfl (by constructor <;> omega)) ?_
     refine Qp (Ep [Iq _,Iq _,Iq _]) ?_
     refine Qp (Az (es:=[[Iq _,Iq _,Iq _],[Iq _,Iq _,Iq _]]) Ai rfl rfl rfl rfl rfl rfl rfl rfl rfl) ?_
     refine Qe (Dm (k:=0) Ai rfl rfl rfl rfl rfl rfl rfl rfl ((sc_two rfl rfl)) (hsz) (by simp;omega) (by simp [maxLen];omega)) ?_
     rintro _ _ ⟨v162,rfl,rfl⟩
     refine Qp (Bl rfl) ?_
     refine Qp Ir (Qp Ir ?_)
     refine Cm 4 [Iq _,_,_,_] (_::_::_::_::_::_::_) ?_
     refine AOL.nil (Bq (Ae (AW.region (Qp Fv (Qp A0 (Ag ?_))))))
     refine ⟨(q.1+1,v162,q.2.2 ++ [Rt ⟨(q.1:Int)+1,0,(C0 T V t).2⟩,Rt ⟨0,(q.1:Int)+1,0-(C0 T V t).1⟩]),?_,?_,GS.weaken ⟨rfl,rfl,rfl,rfl,rfl,rfl,trivial⟩ (.refl _)⟩
     · exact ⟨hlt2,by simp only;rw [wT ht,List.map_append,hQ.2];rfl⟩
     · simp only;omega
    ·
     have hte2:=C3 hc11
     have hQe:=hQ.2
     rw [hte2] at hQe
     refine AW.exit ?_
     refine A6 (A6 (Bv (Ae (AW.seq ?_))))
     refine AW.ghost (GS.cell (H2:=_::_::_::_::_::_::_) 2 0 rfl rfl rfl rfl G8) ?_
     have hsz:∀c∈q.2.2,Bf c=true:=by rw [hQ.2];exact Fm fun _=>rfl
     have hzl:q.2.2.length≤2*p.2.1.ts.length:=by rw [hQ.2,List.length_map,cF,List.length_take];omega
     refine AW.draw mixed (fun H'=>_∈H'∧_∈H') ⟨(List.mem_of_getElem? (i:=4) rfl),(List.mem_of_getElem? (i:=2) rfl)⟩ (by kernel_rfl) ?_
     refine Qn 0 rfl H0 (Qn 1 rfl H0 ?_)
     refine Qn 2 rfl (Bl rfl) ?_
     refine Qn 3 rfl Ir (Qn 4 rfl Ir ?_)
     refine Qn 5 rfl (OpP.Aah (fun k=>Ax (k:=k) (c:=.row _ _ _) Ai rfl rfl rfl rfl) (fun _ h=>h.1)) ?_
     refine Qn 6 rfl (OpP.Aah (fun k=>Ax (k:=k) (c:=.sl _ _) Ai rfl rfl rfl rfl) (fun _ h=>h.2)) ?_
     refine Jv.eff _ _ 7 _ _ rfl (by kernel_rfl) rfl rfl (Dm (k:=0) Ai rfl rfl rfl rfl rfl rfl rfl rfl (hsb) (hsz) (by simp;omega) (by simp [maxLen];omega)) (by rintro _ _ ⟨v174,rfl,rfl⟩;simp) ?_
     rintro _ _ ⟨v174,rfl,rfl⟩
     refine Qn 8 rfl (Bl rfl) ?_
     refine Qn 9 rfl Ir (Qn 10 rfl Ir ?_)
     refine Jv.last _ _ 11 _ _ rfl (by kernel_rfl) rfl rfl (C6 (k:=4) (v:=.row _ _ _) (cs':=[Iq _,_,_,_]) (H2:=_::_::_::_::_::_::_) Ai rfl rfl rfl rfl (rfl) rfl rfl rfl rfl) (by kernel_rfl) ?_
     rintro _ _ ⟨rfl,rfl⟩
     refine Ae (AW.seq ?_)
     refine AW.ghost (GS.cell (H2:=_::_::_::_::_::_::_) 4 1 rfl rfl rfl rfl G8) ?_
     refine AW.ghost (GS.cell (H2:=_::_::_::_::_::_::_) 4 2 rfl rfl rfl rfl G8) ?_
     refine AW.ghost (GS.cell (H2:=_::_::_::_::_::_::_) (c':=.junk) 4 3 rfl rfl rfl rfl (fun _ _ _ _=>.junk _)) ?_
     refine AW.ghost (GS.Aad (t:=5) 4 rfl rfl) ?_
     refine AW.region (Qp zH (Qp Qap (Ag (AW.ret ?_))))
     refine ⟨.inr rfl,[.ptr _],.cons (.tmp _ _ rfl) <| .nil,.cons _ (.cons _ (.cons _ (.cons _ (.cons _ (.refl _))))),?_⟩
     exact Eq.trans rfl (cSy_eq hS hQe hR.2.2)
theorem d_Zone (T:List Sc)(hl:T.length≤1048576)(hst:∀s∈T,Jk s)(V:List Va)(hvl:V.length≤1048576)(l:List Lit)(hll:l.length≤1048576)(hls:∀c∈l,Ar c.cond≤1048576):Av Tryz.prog 43 [.sl 2 (T.map Nz),.sl 2 (V.map Un),.sl 9 (l.map G3)] (.tuple [.agg (Tw (Qq T V l).zone),.sl 8 ((Qq T V l).terms.map Fu),.int .i64 (Qq T V l).err]):=by
 refine Av.body (n:=52) Ai Tryz.func43 rfl rfl rfl fun H=>?_
 refine Ah ?_
 refine Qe (Al (l:=[.int .i64 0,.sl 3 []]) (by kernel_rfl)) ?_
 rintro _ _ ⟨b6,rfl,rfl⟩
 refine Qp (B0 (z:=8) rfl) ?_
 refine Qp At (Df (Qp C4 (Qp C4 (Qp (Ep [_,_]) ?_))))
 refine Qe (Al (l:=[.sl 2 [],.sl 2 []]) (by kernel_rfl)) ?_
 rintro _ _ ⟨b9,rfl,rfl⟩
 refine Cm 0 [_,_] (_::_::_) ?_
 refine AOL.ghost (GS.Aad (t:=9) 0 rfl rfl) ?_
 refine Ag (AW.seq (Ah (Qp (Ck [_,_]) (Qp C4 ?_))))
 refine Qp (Qc rfl (xJ T hl hst V hvl l hll hls)) ?_
 refine Qp At (Df (Qp A0 (Qp Cr (Ag (A3 (fun hc1=>?_) fun hc1=>?_)))))
 ·
  refine Ah (Qp (Ep [Iq _,_]) (Qp A0 ?_))
  refine Cm 0 [Iq _,_] (_::_) ?_
  refine Qp (B0 (z:=8) rfl) ?_
  refine Qp At (Ag (Dr ?_))
  refine ⟨.inr rfl,[.agg [Iq _,_],.sl _ _,Iq _],.cons (.box _ _ _ 0 _ _ _ _ rfl rfl rfl rfl rfl rfl) <| .cons (.tmp _ _ rfl) <| .cons (.tmp _ _ rfl) <| .nil,.cons _ (.refl _),?_⟩
  exact Eq.trans rfl (congrArg (fun q:Zr=>AV.tuple [.agg (Tw q.zone),.sl 8 (q.terms.map Fu),.int .i64 q.err]) (Zone_1 hc1)).symm
 ·
  have hok:=sF hc1
  have hgl:=(Lr hok.1).len
  have hol:=hok.2
  refine Bx (Ah (Qp (Ck [_,_]) (Qp C4 ?_)))
  refine Qp (Qc rfl (iE T V l (Nat.le_trans hok.2 (by decide)) hok.1)) ?_
  refine Qp Qap (Ag (AW.seq (Ah (Qp zH ?_))))
  refine Qp (Qc rfl (mL T V l)) ?_
  refine Qp Ge (Ag (A3 (fun hc2=>?_) fun hc2=>?_))
  ·
   refine Ah (Qp (Ep [Iq _,_]) ?_)
   refine Cm 0 [Iq _,_] (_::_) ?_
   refine Qp (B0 (z:=8) rfl) ?_
   refine Qp At (Ag (Dr ?_))
   refine ⟨.inr rfl,[.agg [Iq _,_],.sl _ _,Iq _],.cons (.box _ _ _ 0 _ _ _ _ rfl rfl rfl rfl rfl rfl) <| .cons (.tmp _ _ rfl) <| .cons (.tmp _ _ rfl) <| .nil,.cons _ (.refl _),?_⟩
   exact Eq.trans rfl (congrArg (fun q:Zr=>AV.tuple [.agg (Tw q.zone),.sl 8 (q.terms.map Fu),.int .i64 q.err]) (Zone_2 hc1 hc2)).symm
  ·
   refine Bx (Ah (Qp N8 ?_))
   refine AOL.ghost (GS.row (t:=12) 30 8 rfl) ?_
   refine Ag (AW.seq (Ah (Qp zH ?_)))
   refine Qp (Gz rfl) ?_
   refine Qp (Qf [_,_]) (Qp Dk ?_)
   refine Qp (Ak (n:=(Cg T V l).ts.length) Ai rfl rfl rfl (by simp)) ?_
   refine Qp A0 (Ag (AW.block ?_))
   refine AW.Aae (fun (p:Nat×List (List AV)×Value)=>(⟨[(6,.val (.pointer (some ⟨b6,0,none⟩))),(11,.ptr (rK T V l)),(12,.row p.2.2 8 p.2.1),(35,.sl 3 ((Cg T V l).ts.map H9)),(36,.int .i64 (Cg T V l).ts.length),(37,.int .i64 (p.1:Int))],.row p.2.2 p.2.1.length 30 8 :: .box b6 90 [.int .i64 0,.sl 3 []]::H,52⟩:St)) (fun (p:Nat×List (List AV)×Value)=>p.1≤(Cg T V l).ts.length∧p.2.1=((Cg T V l).ts.take p.1).map fun t=>cE (Hn t)) (fun (p:Nat×List (List AV)×Value)=>(Cg T V l).ts.length-p.1) ((0,[],.slice none 0 0)) ?_ (GS.weaken ⟨rfl,rfl,rfl,rfl,rfl,rfl,trivial⟩ (.refl _)) ?_
   · exact ⟨Nat.zero_le _,rfl⟩
   ·
    rintro p hR
    have hsc:∀c∈p.2.1,Bf c=true:=by rw [hR.2];exact Fm fun _=>rfl
    have hpl:p.2.1.length≤p.1:=by rw [hR.2];simp;omega
    refine Ah (Qp Cj (Ag (AW.seq (A3 (fun hc3=>?_) fun hc3=>?_))))
    ·
     obtain ⟨t,ht⟩:=B2 hc3
     have hlt:=A9 ht
     refine Bx (AW.seq (AW.block (Ah ?_)))
     refine Qp (Af (c:=[Iq _,Iq _,Iq _]) Ai rfl rfl rfl rfl rfl rfl (by omega) (Bh ht)) ?_
     refine Qp (Ck [Iq _,Iq _,Iq _]) ?_
     refine Qe (Al (l:=[.int .i64 0,.int .i64 0,.int .i64 0]) (by kernel_rfl)) ?_
     rintro _ _ ⟨b14,rfl,rfl⟩
     refine Cm 0 [Iq _,Iq _,Iq _] (_::_::_::_) ?_
     refine AOL.ghost (GS.Aad (t:=14) 0 rfl rfl) ?_
     refine Ag (AW.region ?_)
     refine Qp (Bj (v:=.row _ _ _) rfl) ?_
     refine Qp (Ck [Iq _,Iq _,Iq _]) ?_
     refine Qp (Qc rfl (xU t)) ?_
     refine Qp (Az (es:=[[Iq _,_,Iq _,Iq _,Iq _,Iq _,Iq _,.str _]]) Ai rfl rfl rfl rfl rfl rfl rfl rfl rfl) ?_
     refine Qe (Dm (k:=0) Ai rfl rfl rfl rfl rfl rfl rfl rfl (Hd rfl) (hsc) (by simp;omega) (by simp [maxLen];omega)) ?_
     rintro _ _ ⟨v45,rfl,rfl⟩
     refine Qp (C2 (v:=.row _ _ _) rfl) ?_
     refine AOL.nil (Bq (Ae (AW.region (Qp Fv (Qp A0 (Ag ?_))))))
     refine ⟨(p.1+1,p.2.1 ++ [cE (Hn t)],v45),?_,?_,GS.weaken ⟨rfl,rfl,rfl,rfl,rfl,rfl,trivial⟩ (.refl _)⟩
     · exact ⟨hlt,by simp only;rw [Cq ht,hR.2,List.map_append];rfl⟩
     · simp only;omega
    ·
     have hte:=C3 hc3
     have hall:=hR.2
     rw [hte] at hall
     refine AW.exit ?_
     refine A6 (A6 (Bv (Ae (Ah (Qp zH ?_)))))
     refine Qp (Gz rfl) ?_
     refine Qp (Qf [Iq _,_,_,_]) (Qp (Ck [Iq _,_]) ?_)
     refine Qp (Bj (v:=.row _ _ _) rfl) ?_
     refine Cm 1 [Iq _,_] (_::_::_) ?_
     refine AOL.ghost (GS.unrow 51 rfl) ?_
     refine Qp Wj (Qp At (Ag (AW.ret ?_)))
     refine ⟨.inr rfl,[.agg [Iq _,_],.sl _ _,Iq _],.cons (.box _ _ _ 1 _ _ _ _ rfl rfl rfl rfl rfl rfl) <| .cons (.tmp _ _ rfl) <| .cons (.tmp _ _ rfl) <| .nil,.cons _ (.cons _ (.refl _)),?_⟩
     rw [hall,show ((Cg T V l).ts.map fun t=>cE (Hn t))=((Cg T V l).ts.map Hn).map Fu by rw [List.map_map];exact List.map_congr_left fun t _=>(Jg _).symm]
     exact Eq.trans rfl (congrArg (fun q:Zr=>AV.tuple [.agg (Tw q.zone),.sl 8 (q.terms.map Fu),.int .i64 q.err]) (Zone_3 hc1 hc2)).symm

end Go.Proofs.YtkddpedfbicbeaaGreatDoor
