/-
  Walks of layer 11: the zone of a clause. No condition.
-/
import Derived.Test.YtkddpedfbicbeaaGreatDoorAz
import Derived.Test.YtkddpedfbicbeaaGreatDoorS22
import Derived.Test.YtkddpedfbicbeaaGreatDoorY7
import Derived.KernelRfl
namespace Go.Proofs.YtkddpedfbicbeaaGreatDoor
open Go Go.Aw
set_option maxHeartbeats 6400000
set_option maxRecDepth 20000
set_option linter.unusedVariables false
set_option linter.unusedSimpArgs false

theorem fR (T:List Sc)(V:List Va)(l:List Lit)(hll:l.length≤4096)(hlk:Un T V l):Ar Tryz.prog 79 [.agg (Cj T V),.sl 9 (l.map Gw)] (.ptr (rO T V l)):=by
 have hgo:=Kf hlk
 have hgl:=hgo.len
 have hgb:=hgo.bnds
 refine Ar.body (n:=179) Ai Tryz.func79 rfl rfl rfl fun H=>?_
 refine Ah (Qp (Fx [_,_]) (Qp Oc (Db ?_)))
 refine Qe (Nr) ?_
 rintro _ _ ⟨b19,rfl,rfl⟩
 refine Qp (Pa (l0:=[.int .i64 0,.val (.slice none 0 0),.val (.slice none 0 0),.val (.map none)]) (l:=[Iq _,_,_,_]) Ai rfl rfl (by kernel_rfl) rfl) ?_
 refine Qe (Uw (v:=.agg _) (cs:=[Iq _,_,_,_]) rfl rfl (rfl)) ?_
 rintro _ _ ⟨b21,rfl,rfl⟩
 refine Qp Oc ?_
 refine AOL.ghost (GS.cellRow 0 2 143 3 rfl rfl rfl rfl) ?_
 refine Db ?_
 refine Qe (Aj (l:=[.val (.slice none 0 0)]) (by kernel_rfl)) ?_
 rintro _ _ ⟨b6,rfl,rfl⟩
 refine AOL.ghost (GS.cellRow 0 0 94 3 rfl rfl rfl rfl) ?_
 refine Db ?_
 refine Qp (Be (l:=[]) (l':=[.val _]) rfl rfl) ?_
 refine Qp (C8 (v:=.fn _ _ _) rfl) ?_
 refine Ag (AW.seq (Ah (Qp C5 ?_)))
 refine Qp (Ak (n:=l.length) Ai rfl rfl rfl (by simp)) ?_
 refine Qp Az (Ag (AW.block ?_))
 refine AW.Aau (fun (p:Nat×Sy×Value×Value×List (List AV))=>(⟨[(2,.ptr (Cj T V)),(5,.val (.pointer (some ⟨b21,0,none⟩))),(6,.val (.pointer (some ⟨b6,0,none⟩))),(7,.fn (.func 128) [] [.val (.pointer (some ⟨b6,0,none⟩))]),(23,.sl 9 (l.map Gw)),(24,.int .i64 l.length),(25,.int .i64 (p.1:Int))],.row p.2.2.2.1 p.2.2.2.2.length 94 3 :: .box b6 88 [.row p.2.2.2.1 3 p.2.2.2.2]::eT b19 b21 p.2.2.1 (.int .i64 0) (.val (.slice none 0 0)) p.2.1.ts H,179⟩:St)) (fun (p:Nat×Sy×Value×Value×List (List AV))=>p.1≤l.length∧p.2.1=B6 T V (l.take p.1)∧p.2.2.2.2=p.2.1.bs.map Rp) (fun (p:Nat×Sy×Value×Value×List (List AV))=>l.length-p.1) ((0,⟨[],[]⟩,.slice none 0 0,.slice none 0 0,[])) ?_ (GS.weaken ⟨rfl,rfl,rfl,rfl,rfl,rfl,rfl,trivial⟩ (.refl _)) ?_
 · exact ⟨Nat.zero_le _,rfl,rfl⟩
 ·
  rintro p hR
  have hok:=Kf (vA hlk p.1)
  rw [←hR.2.1] at hok
  have hkl:(l.take p.1).length≤4096:=by rw [List.length_take];omega
  have htl:=hok.len
  have hbl:=hok.bnds
  have hel:p.2.2.2.2.length≤8192:=by rw [hR.2.2,List.length_map];omega
  have hsb:∀c∈p.2.2.2.2,Bf c=true:=by rw [hR.2.2];exact Ff fun _=>rfl
  have hx:=rU (ts:=[]) (l:=[]) (n:=0)
  refine Ah (Qp Cf (Ag (AW.seq (A2 (fun hc1=>?_) fun hc1=>?_))))
  ·
   obtain ⟨c,hc⟩:=B1 hc1
   have hlt:=A8 hc
   have hcm:=List.mem_of_getElem? hc
   have hck:=(hlk c hcm).1
   have hcs:=(hlk c hcm).2
   have hgn:=Q0 hck hcs
   have hgr:=hgn.rest
   refine Bv (AW.seq (AW.block (Ah ?_)))
   refine Qp (Af (c:=[Iq _,_,Iq _,Iq _,Iq _,Iq _,Iq _,.str _,.bool _]) Ai rfl rfl rfl rfl rfl rfl (by omega) (Bg hc)) ?_
   refine Qp (Cd [Iq _,_,Iq _,Iq _,Iq _,Iq _,Iq _,.str _,.bool _]) ?_
   refine Qe (Aj (l:=[.int .i64 0,.sl 8 [],.int .i64 0,.int .i64 0,.int .i64 0,.int .i64 0,.int .i64 0,.str [],.bool false]) (by kernel_rfl)) ?_
   rintro _ _ ⟨b9,rfl,rfl⟩
   refine Cq 0 [Iq _,_,Iq _,Iq _,Iq _,Iq _,Iq _,.str _,.bool _] (_::_::_::_::_::_::_) ?_
   refine AOL.ghost (GS.Aat (t:=9) 0 rfl rfl) ?_
   refine Db (Qp (Cd [_,_]) (Qp (Cd [Iq _,_,Iq _,Iq _,Iq _,Iq _,Iq _,.str _,.bool _]) ?_))
   refine Qp (Qc rfl (sD T V c hck hcs)) ?_
   refine Qp Lv ?_
   refine Qp (Ch (v:=.agg [_,_,Iq _]) rfl rfl) ?_
   refine Qp dK ?_
   refine Qe (Aj (l:=[.sl 3 [],.sl 3 [],.int .i64 0]) (by kernel_rfl)) ?_
   rintro _ _ ⟨b10,rfl,rfl⟩
   refine Cq 0 [_,_,Iq _] (_::_::_::_::_::_::_) ?_
   refine Qp Bc ?_
   refine AOL.ghost (GS.Aat (t:=10) 0 rfl rfl) ?_
   refine Ag (AW.seq (Ah (Qp Bm (Qp Ge (Ag (A2 (fun hc2=>?_) fun hc2=>?_))))))
   ·
    refine AW.exit ?_
    refine A3 (Bq (Ae (AW.region (Qp Fu (Qp Az (Ag ?_))))))
    refine ⟨(p.1+1,p.2),?_,?_,GS.weaken ⟨rfl,rfl,rfl,rfl,rfl,rfl,rfl,trivial⟩ (.refl _)⟩
    · exact ⟨hlt,vZ hc hR.2.1 hc2,hR.2.2⟩
    · simp only;omega
   ·
    have hnum:=hc2
    refine Bv (Ah (Qp Hw (Qp (Qf [_,_,Iq _]) (Qp Dg ?_))))
    refine Qe (Fp (by kernel_rfl) rfl rfl (Dr.front3 (R:=_::_::_) 4 3 2 rfl rfl rfl rfl (aF b19 b21 _ 0 (.val (.slice none 0 0)) p.2.1.ts (Aa T V c).1.plus _ (by omega)))) ?_
    rintro _ _ ⟨w1,rfl,rfl⟩
    refine Qp Ap (Db (Qp Hw (Qp (Qf [_,Iq _]) (Qp Dg ?_))))
    refine Qe (Fp (by kernel_rfl) rfl rfl (Dr.front3 (R:=_::_::_) 2 1 0 rfl rfl rfl rfl (aF b19 b21 _ 0 (.val (.slice none 0 0)) (A1 p.2.1.ts (Aa T V c).1.plus) (Aa T V c).1.minus _ (by have:=T5 p.2.1.ts (Aa T V c).1.plus;omega)))) ?_
    rintro _ _ ⟨w2,rfl,rfl⟩
    refine Qp Ap (Db (Qp (Qf [Iq _,_,Iq _,Iq _,Iq _,Iq _,Iq _,.str _,.bool _]) (Qp (Qf [Iq _,_,Iq _,Iq _,Iq _,Iq _,Iq _,.str _,.bool _]) (Qp Br (Qp Ap (Ag (AW.block (AW.seq (Ah ?_)))))))))
    refine Qp Az (Qp A6 (Qp Bm (Qg [] Qw (Qf [.bool _]) (Qg [(65,_)] Qw jS (Qp Em (Qp Bc (Ag (A2 (fun hc3=>?_) fun hc3=>?_))))))))
    ·
     refine Bv (A2 (fun hc4=>?_) fun hc4=>?_)
     ·
      refine AW.region ?_
      refine Qp (Bk (v:=.fn _ _ _) rfl) ?_
      refine Qp Az (Qp Az (Qp (Qf [Iq _]) (Qp Br ?_)))
      refine Qp (Yg rfl rfl (by constructor <;> omega)) ?_
      refine Qe (Jh (by kernel_rfl) rfl rfl rfl (Dr.front2 (R:=_::_::_::_) 4 3 rfl rfl rfl (Pc b6 _ p.2.2.2.2 _ (B3 (A1 p.2.1.ts (Aa T V c).1.plus) (Aa T V c).1.plus) (B3 (A1 (A1 p.2.1.ts (Aa T V c).1.plus) (Aa T V c).1.minus) (Aa T V c).1.minus) (0-(Aa T V c).1.rest) (Nat.le_trans hel (by decide)) hsb))) ?_
      rintro _ _ ⟨u1,rfl,rfl⟩
      refine AOL.nil (Bp (Bp (Ae (AW.region (Qp Fu (Qp Az (Ag ?_)))))))
      refine ⟨(p.1+1,⟨(A1 (A1 p.2.1.ts (Aa T V c).1.plus) (Aa T V c).1.minus),p.2.1.bs ++ [⟨(B3 (A1 p.2.1.ts (Aa T V c).1.plus) (Aa T V c).1.plus),(B3 (A1 (A1 p.2.1.ts (Aa T V c).1.plus) (Aa T V c).1.minus) (Aa T V c).1.minus),0-(Aa T V c).1.rest⟩]⟩,w2,u1,(p.2.2.2.2 ++ [Rp ⟨(B3 (A1 p.2.1.ts (Aa T V c).1.plus) (Aa T V c).1.plus),(B3 (A1 (A1 p.2.1.ts (Aa T V c).1.plus) (Aa T V c).1.minus) (Aa T V c).1.minus),0-(Aa T V c).1.rest⟩])),?_,?_,GS.weaken ⟨rfl,rfl,rfl,rfl,rfl,rfl,rfl,trivial⟩ (.refl _)⟩
      · exact ⟨hlt,Lo hc hR.2.1 hnum (bd_1 ‹(c.cond.op==1&&c.neg)=true›),M1 hR.2.2⟩
      · simp only;omega
     ·
      exact absurd (hc4.symm.trans hc3) (by decide)
    ·
     refine AW.region (Qp Az (Qp A6 (Qp Bm (Qg [] Qw (Qf [.bool _]) (Qg [(71,_)] Qw jS (Qg [(72,_)] Qw Ge (Qp Em (Qp Bc (Ag (A2 (fun hc5=>?_) fun hc5=>?_))))))))))
     ·
      refine AW.region ?_
      refine Qp (Bk (v:=.fn _ _ _) rfl) ?_
      refine Qp Az (Qp Az (Qp (Qf [Iq _]) (Qp Br ?_)))
      refine Qp (Yg rfl rfl (by constructor <;> omega)) ?_
      refine Qe (Jh (by kernel_rfl) rfl rfl rfl (Dr.front2 (R:=_::_::_::_) 4 3 rfl rfl rfl (Pc b6 _ p.2.2.2.2 _ (B3 (A1 p.2.1.ts (Aa T V c).1.plus) (Aa T V c).1.plus) (B3 (A1 (A1 p.2.1.ts (Aa T V c).1.plus) (Aa T V c).1.minus) (Aa T V c).1.minus) (0-(Aa T V c).1.rest) (Nat.le_trans hel (by decide)) hsb))) ?_
      rintro _ _ ⟨u1,rfl,rfl⟩
      refine AOL.nil (Bp (Bp (Ae (AW.region (Qp Fu (Qp Az (Ag ?_)))))))
      refine ⟨(p.1+1,⟨(A1 (A1 p.2.1.ts (Aa T V c).1.plus) (Aa T V c).1.minus),p.2.1.bs ++ [⟨(B3 (A1 p.2.1.ts (Aa T V c).1.plus) (Aa T V c).1.plus),(B3 (A1 (A1 p.2.1.ts (Aa T V c).1.plus) (Aa T V c).1.minus) (Aa T V c).1.minus),0-(Aa T V c).1.rest⟩]⟩,w2,u1,(p.2.2.2.2 ++ [Rp ⟨(B3 (A1 p.2.1.ts (Aa T V c).1.plus) (Aa T V c).1.plus),(B3 (A1 (A1 p.2.1.ts (Aa T V c).1.plus) (Aa T V c).1.minus) (Aa T V c).1.minus),0-(Aa T V c).1.rest⟩])),?_,?_,GS.weaken ⟨rfl,rfl,rfl,rfl,rfl,rfl,rfl,trivial⟩ (.refl _)⟩
      · exact ⟨hlt,Lo hc hR.2.1 hnum (bd_2 ‹(c.cond.op==8 && !c.neg)=true›),M1 hR.2.2⟩
      · simp only;omega
     ·
      refine AW.seq (Ah (Qp Az (Qp A6 (Qp Bc (Ag (A2 (fun hc6=>?_) fun hc6=>?_))))))
      ·
       refine Bv (A2 (fun hc7=>?_) fun hc7=>?_)
       ·
        refine AW.region ?_
        refine Qp (Bk (v:=.fn _ _ _) rfl) ?_
        refine Qp Az (Qp Az (Qp (Qf [Iq _]) (Qp Br ?_)))
        refine Qp (Z9 rfl rfl rfl (by constructor <;> omega)) ?_
        refine Qe (Jh (by kernel_rfl) rfl rfl rfl (Dr.front2 (R:=_::_::_::_) 4 3 rfl rfl rfl (Pc b6 _ p.2.2.2.2 _ (B3 (A1 (A1 p.2.1.ts (Aa T V c).1.plus) (Aa T V c).1.minus) (Aa T V c).1.minus) (B3 (A1 p.2.1.ts (Aa T V c).1.plus) (Aa T V c).1.plus) ((Aa T V c).1.rest-1) (Nat.le_trans hel (by decide)) hsb))) ?_
        rintro _ _ ⟨u1,rfl,rfl⟩
        refine AOL.nil (Bp (Bp (Ae (AW.region (Qp Fu (Qp Az (Ag ?_)))))))
        refine ⟨(p.1+1,⟨(A1 (A1 p.2.1.ts (Aa T V c).1.plus) (Aa T V c).1.minus),p.2.1.bs ++ [⟨(B3 (A1 (A1 p.2.1.ts (Aa T V c).1.plus) (Aa T V c).1.minus) (Aa T V c).1.minus),(B3 (A1 p.2.1.ts (Aa T V c).1.plus) (Aa T V c).1.plus),(Aa T V c).1.rest-1⟩]⟩,w2,u1,(p.2.2.2.2 ++ [Rp ⟨(B3 (A1 (A1 p.2.1.ts (Aa T V c).1.plus) (Aa T V c).1.minus) (Aa T V c).1.minus),(B3 (A1 p.2.1.ts (Aa T V c).1.plus) (Aa T V c).1.plus),(Aa T V c).1.rest-1⟩])),?_,?_,GS.weaken ⟨rfl,rfl,rfl,rfl,rfl,rfl,rfl,trivial⟩ (.refl _)⟩
        · exact ⟨hlt,Lo hc hR.2.1 hnum (bd_3 ‹(c.cond.op==1&&c.neg)=false› ‹(c.cond.op==8 && !c.neg)=false› ‹(c.cond.op==1)=true›),M1 hR.2.2⟩
        · simp only;omega
       ·
        exact absurd (hc7.symm.trans hc6) (by decide)
      ·
       refine AW.region (Qp Az (Qp A6 (Qp Bc (Ag (A2 (fun hc8=>?_) fun hc8=>?_)))))
       ·
        refine AW.region ?_
        refine Qp (Bk (v:=.fn _ _ _) rfl) ?_
        refine Qp Az (Qp Az (Qp (Qf [Iq _]) (Qp Br ?_)))
        refine Qp (Z9 rfl rfl rfl (by constructor <;> omega)) ?_
        refine Qe (Jh (by kernel_rfl) rfl rfl rfl (Dr.front2 (R:=_::_::_::_) 4 3 rfl rfl rfl (Pc b6 _ p.2.2.2.2 _ (B3 (A1 (A1 p.2.1.ts (Aa T V c).1.plus) (Aa T V c).1.minus) (Aa T V c).1.minus) (B3 (A1 p.2.1.ts (Aa T V c).1.plus) (Aa T V c).1.plus) ((Aa T V c).1.rest-1) (Nat.le_trans hel (by decide)) hsb))) ?_
        rintro _ _ ⟨u1,rfl,rfl⟩
        refine AOL.nil (Bp (Bp (Ae (AW.region (Qp Fu (Qp Az (Ag ?_)))))))
        refine ⟨(p.1+1,⟨(A1 (A1 p.2.1.ts (Aa T V c).1.plus) (Aa T V c).1.minus),p.2.1.bs ++ [⟨(B3 (A1 (A1 p.2.1.ts (Aa T V c).1.plus) (Aa T V c).1.minus) (Aa T V c).1.minus),(B3 (A1 p.2.1.ts (Aa T V c).1.plus) (Aa T V c).1.plus),(Aa T V c).1.rest-1⟩]⟩,w2,u1,(p.2.2.2.2 ++ [Rp ⟨(B3 (A1 (A1 p.2.1.ts (Aa T V c).1.plus) (Aa T V c).1.minus) (Aa T V c).1.minus),(B3 (A1 p.2.1.ts (Aa T V c).1.plus) (Aa T V c).1.plus),(Aa T V c).1.rest-1⟩])),?_,?_,GS.weaken ⟨rfl,rfl,rfl,rfl,rfl,rfl,rfl,trivial⟩ (.refl _)⟩
        · exact ⟨hlt,Lo hc hR.2.1 hnum (bd_4 ‹(c.cond.op==1&&c.neg)=false› ‹(c.cond.op==8 && !c.neg)=false› ‹(c.cond.op==8)=true›),M1 hR.2.2⟩
        · simp only;omega
       ·
        refine Ah (Qp Az (Qp A6 (Qp Bm (Qg [] Qw (Qf [.bool _]) (Qg [(98,_)] Qw jS (Qg [(99,_)] Qw Ge (Qp Em (Qp Bc (Ag (A2 (fun hc9=>?_) fun hc9=>?_))))))))))
        ·
         refine AW.region ?_
         refine Qp (Bk (v:=.fn _ _ _) rfl) ?_
         refine Qp Az (Qp Az (Qp (Qf [Iq _]) (Qp Br ?_)))
         refine Qp (Yg rfl rfl (by constructor <;> omega)) ?_
         refine Qp (Z9 rfl rfl rfl (by constructor <;> omega)) ?_
         refine Qe (Jh (by kernel_rfl) rfl rfl rfl (Dr.front2 (R:=_::_::_::_) 4 3 rfl rfl rfl (Pc b6 _ p.2.2.2.2 _ (B3 (A1 p.2.1.ts (Aa T V c).1.plus) (Aa T V c).1.plus) (B3 (A1 (A1 p.2.1.ts (Aa T V c).1.plus) (Aa T V c).1.minus) (Aa T V c).1.minus) (0-(Aa T V c).1.rest-1) (Nat.le_trans hel (by decide)) hsb))) ?_
         rintro _ _ ⟨u1,rfl,rfl⟩
         refine AOL.nil (Bp (Bp (Ae (AW.region (Qp Fu (Qp Az (Ag ?_)))))))
         refine ⟨(p.1+1,⟨(A1 (A1 p.2.1.ts (Aa T V c).1.plus) (Aa T V c).1.minus),p.2.1.bs ++ [⟨(B3 (A1 p.2.1.ts (Aa T V c).1.plus) (Aa T V c).1.plus),(B3 (A1 (A1 p.2.1.ts (Aa T V c).1.plus) (Aa T V c).1.minus) (Aa T V c).1.minus),0-(Aa T V c).1.rest-1⟩]⟩,w2,u1,(p.2.2.2.2 ++ [Rp ⟨(B3 (A1 p.2.1.ts (Aa T V c).1.plus) (Aa T V c).1.plus),(B3 (A1 (A1 p.2.1.ts (Aa T V c).1.plus) (Aa T V c).1.minus) (Aa T V c).1.minus),0-(Aa T V c).1.rest-1⟩])),?_,?_,GS.weaken ⟨rfl,rfl,rfl,rfl,rfl,rfl,rfl,trivial⟩ (.refl _)⟩
         · exact ⟨hlt,Lo hc hR.2.1 hnum (bd_5 ‹(c.cond.op==1&&c.neg)=false› ‹(c.cond.op==8 && !c.neg)=false› ‹(c.cond.op==1)=false› ‹(c.cond.op==8)=false› ‹(c.cond.op==7 && !c.neg)=true›),M1 hR.2.2⟩
         · simp only;omega
        ·
         refine Ah (Qp Az (Qp A6 (Qp Bc (Ag (A2 (fun hc10=>?_) fun hc10=>?_)))))
         ·
          refine AW.region ?_
          refine Qp (Bk (v:=.fn _ _ _) rfl) ?_
          refine Qp Az (Qp Az (Qp (Qf [Iq _]) (Qp Br ?_)))
          refine Qe (Jh (by kernel_rfl) rfl rfl rfl (Dr.front2 (R:=_::_::_::_) 4 3 rfl rfl rfl (Pc b6 _ p.2.2.2.2 _ (B3 (A1 (A1 p.2.1.ts (Aa T V c).1.plus) (Aa T V c).1.minus) (Aa T V c).1.minus) (B3 (A1 p.2.1.ts (Aa T V c).1.plus) (Aa T V c).1.plus) ((Aa T V c).1.rest) (Nat.le_trans hel (by decide)) hsb))) ?_
          rintro _ _ ⟨u1,rfl,rfl⟩
          refine AOL.nil (Bp (Bp (Ae (AW.region (Qp Fu (Qp Az (Ag ?_)))))))
          refine ⟨(p.1+1,⟨(A1 (A1 p.2.1.ts (Aa T V c).1.plus) (Aa T V c).1.minus),p.2.1.bs ++ [⟨(B3 (A1 (A1 p.2.1.ts (Aa T V c).1.plus) (Aa T V c).1.minus) (Aa T V c).1.minus),(B3 (A1 p.2.1.ts (Aa T V c).1.plus) (Aa T V c).1.plus),(Aa T V c).1.rest⟩]⟩,w2,u1,(p.2.2.2.2 ++ [Rp ⟨(B3 (A1 (A1 p.2.1.ts (Aa T V c).1.plus) (Aa T V c).1.minus) (Aa T V c).1.minus),(B3 (A1 p.2.1.ts (Aa T V c).1.plus) (Aa T V c).1.plus),(Aa T V c).1.rest⟩])),?_,?_,GS.weaken ⟨rfl,rfl,rfl,rfl,rfl,rfl,rfl,trivial⟩ (.refl _)⟩
          · exact ⟨hlt,Lo hc hR.2.1 hnum (bd_6 ‹(c.cond.op==1&&c.neg)=false› ‹(c.cond.op==8 && !c.neg)=false› ‹(c.cond.op==1)=false› ‹(c.cond.op==8)=false› ‹(c.cond.op==7 && !c.neg)=false› ‹(c.cond.op==7)=true›),M1 hR.2.2⟩
          · simp only;omega
         ·
          refine Ah ?_
          refine Qp (Bk (v:=.fn _ _ _) rfl) ?_
          refine Qp Az (Qp Az (Qp (Qf [Iq _]) (Qp Br ?_)))
          refine Qp (Yg rfl rfl (by constructor <;> omega)) ?_
          refine Qe (Jh (by kernel_rfl) rfl rfl rfl (Dr.front2 (R:=_::_::_::_) 4 3 rfl rfl rfl (Pc b6 _ p.2.2.2.2 _ (B3 (A1 p.2.1.ts (Aa T V c).1.plus) (Aa T V c).1.plus) (B3 (A1 (A1 p.2.1.ts (Aa T V c).1.plus) (Aa T V c).1.minus) (Aa T V c).1.minus) (0-(Aa T V c).1.rest) (Nat.le_trans hel (by decide)) hsb))) ?_
          rintro _ _ ⟨u1,rfl,rfl⟩
          refine Ag (AW.region ?_)
          refine Qp (Bk (v:=.fn _ _ _) rfl) ?_
          refine Qp Az (Qp Az (Qp (Qf [Iq _]) (Qp Br ?_)))
          refine Qe (Jh (by kernel_rfl) rfl rfl rfl (Dr.front2 (R:=_::_::_::_) 1 0 rfl rfl rfl (Pc b6 _ (p.2.2.2.2 ++ [Rp ⟨(B3 (A1 p.2.1.ts (Aa T V c).1.plus) (Aa T V c).1.plus),(B3 (A1 (A1 p.2.1.ts (Aa T V c).1.plus) (Aa T V c).1.minus) (Aa T V c).1.minus),0-(Aa T V c).1.rest⟩]) _ (B3 (A1 (A1 p.2.1.ts (Aa T V c).1.plus) (Aa T V c).1.minus) (Aa T V c).1.minus) (B3 (A1 p.2.1.ts (Aa T V c).1.plus) (Aa T V c).1.plus) ((Aa T V c).1.rest) (by rw [List.length_append];simp;omega) (fun d hd=>(List.mem_append.1 hd).elim (hsb d) (G2 rfl d))))) ?_
          rintro _ _ ⟨u2,rfl,rfl⟩
          refine AOL.nil (Bp (Bp (Ae (AW.region (Qp Fu (Qp Az (Ag ?_)))))))
          refine ⟨(p.1+1,⟨(A1 (A1 p.2.1.ts (Aa T V c).1.plus) (Aa T V c).1.minus),p.2.1.bs ++ [⟨(B3 (A1 p.2.1.ts (Aa T V c).1.plus) (Aa T V c).1.plus),(B3 (A1 (A1 p.2.1.ts (Aa T V c).1.plus) (Aa T V c).1.minus) (Aa T V c).1.minus),0-(Aa T V c).1.rest⟩,⟨(B3 (A1 (A1 p.2.1.ts (Aa T V c).1.plus) (Aa T V c).1.minus) (Aa T V c).1.minus),(B3 (A1 p.2.1.ts (Aa T V c).1.plus) (Aa T V c).1.plus),(Aa T V c).1.rest⟩]⟩,w2,u2,((p.2.2.2.2 ++ [Rp ⟨(B3 (A1 p.2.1.ts (Aa T V c).1.plus) (Aa T V c).1.plus),(B3 (A1 (A1 p.2.1.ts (Aa T V c).1.plus) (Aa T V c).1.minus) (Aa T V c).1.minus),0-(Aa T V c).1.rest⟩]) ++ [Rp ⟨(B3 (A1 (A1 p.2.1.ts (Aa T V c).1.plus) (Aa T V c).1.minus) (Aa T V c).1.minus),(B3 (A1 p.2.1.ts (Aa T V c).1.plus) (Aa T V c).1.plus),(Aa T V c).1.rest⟩])),?_,?_,GS.weaken ⟨rfl,rfl,rfl,rfl,rfl,rfl,rfl,trivial⟩ (.refl _)⟩
          · exact ⟨hlt,Lo hc hR.2.1 hnum (bd_7 ‹(c.cond.op==1&&c.neg)=false› ‹(c.cond.op==8 && !c.neg)=false› ‹(c.cond.op==1)=false› ‹(c.cond.op==8)=false› ‹(c.cond.op==7 && !c.neg)=false› ‹(c.cond.op==7)=false›),sK hR.2.2⟩
          · simp only;omega
  ·
   have hte:=Cv hc1
   have hS:=hR.2.1
   rw [hte] at hS
   have hpt:=hgo.terms
   rw [←hS] at hpt hgl
   refine AW.exit ?_
   refine A3 (A3 (Bq (Ae (Ah (Qp Hw (Qp Hw ?_))))))
   refine Qp (Bh rfl) ?_
   refine Qp Iu ?_
   refine AOL.Aay (At (k:=3) (c:=.row _ _ _) Ai rfl rfl rfl rfl) rfl rfl ?_
   refine Qp (Nb (n:=p.2.1.ts.length) Ai rfl rfl rfl (by simp)) ?_
   refine Qp Fu ?_
   refine Qp (Bh rfl) ?_
   refine Qp Iu (Qp Iu ?_)
   refine Cq 3 [Iq _,_,_,_] (_::_::_::_::_::_) ?_
   refine Ag (AW.seq (Ah (Qp Hw ?_)))
   refine Qp (Bh rfl) ?_
   refine Qp Iu ?_
   refine AOL.Aay (At (k:=3) (c:=.row _ _ _) Ai rfl rfl rfl rfl) rfl rfl ?_
   refine Qp (Nb (n:=p.2.1.ts.length) Ai rfl rfl rfl (by simp)) ?_
   refine Qp Az ?_
   refine AOL.ghost (GS.cellRow 3 1 94 3 rfl rfl rfl rfl) ?_
   refine Ag (AW.block ?_)
   refine AW.Aau (fun (q:Nat×Value×List (List AV))=>(⟨[(2,.ptr (Cj T V)),(5,.val (.pointer (some ⟨b21,0,none⟩))),(6,.val (.pointer (some ⟨b6,0,none⟩))),(133,.row p.2.2.1 3 (p.2.1.ts.map Hz)),(134,.int .i64 p.2.1.ts.length),(135,.int .i64 (q.1:Int))],.row q.2.1 q.2.2.length 94 3 :: .row p.2.2.2.1 p.2.2.2.2.length 94 3 :: .box b6 88 [.row p.2.2.2.1 3 p.2.2.2.2] :: .row p.2.2.1 (p.2.1.ts.map Hz).length 143 3 :: .box b21 141 [.int .i64 ((p.2.1.ts.length:Int)+1),.row q.2.1 3 q.2.2,.row p.2.2.1 3 (p.2.1.ts.map Hz),.val (.map (some b19))] :: .kmap b19 (Tx p.2.1.ts)::H,179⟩:St)) (fun (q:Nat×Value×List (List AV))=>q.1≤p.2.1.ts.length∧q.2.2=(G0 T V 0 (p.2.1.ts.take q.1)).map Rp) (fun (q:Nat×Value×List (List AV))=>p.2.1.ts.length-q.1) ((0,.slice none 0 0,[])) ?_ (GS.weaken ⟨rfl,rfl,rfl,rfl,rfl,rfl,trivial⟩ (.refl _)) ?_
   · exact ⟨Nat.zero_le _,rfl⟩
   ·
    rintro q hQ
    have hsz:∀c∈q.2.2,Bf c=true:=by rw [hQ.2];exact Ff fun _=>rfl
    have hzl:q.2.2.length≤2*p.2.1.ts.length:=by rw [hQ.2,List.length_map,V2,List.length_take];omega
    refine Ah (Qp Cf (Ag (AW.seq (A2 (fun hc11=>?_) fun hc11=>?_))))
    ·
     obtain ⟨t,ht⟩:=B1 hc11
     have hlt2:=A8 ht
     have htm:=List.mem_of_getElem? ht
     refine Bv (AW.seq (AW.block (Ah (Qp Az ?_))))
     refine Qp (Kr (c:=[Iq _,Iq _,Iq _]) Ai rfl rfl rfl rfl rfl rfl (by omega) (Bg ht)) ?_
     refine Qp (Cd [Iq _,Iq _,Iq _]) ?_
     refine Qe (Aj (l:=[.int .i64 0,.int .i64 0,.int .i64 0]) (by kernel_rfl)) ?_
     rintro _ _ ⟨b16,rfl,rfl⟩
     refine Qp Ap ?_
     refine Cq 0 [Iq _,Iq _,Iq _] (_::_::_::_::_::_::_::_) ?_
     refine AOL.ghost (GS.Aat (t:=16) 0 rfl rfl) ?_
     refine Db (Qp (Cd [_,_]) (Qp (Cd [Iq _,Iq _,Iq _]) ?_))
     refine Qp (Qc rfl (uL T V t (hpt t htm))) ?_
     refine Qp Lv (Qp Ih (Qp Ih (Qp Ap (Qp Ap (Ag ?_)))))
     have hlr:=Sm (T:=T) (V:=V) t
     refine AW.region (Qp Hw (Qp Hw ?_))
     refine Qp (Bh rfl) ?_
     refine Qp Iu (Qp Iu ?_)
     refine AOL.Aay (At (k:=4) (c:=.row _ _ _) Ai rfl rfl rfl rfl) rfl rfl ?_
     refine Qp Az (Qp Fu (Qp Az (Qp (El [Iq _,Iq _,Iq _]) (Qp Az (Qp Fu (Qp Az ?_))))))
     refine Qp (Yg rfl rfl (by constructor <;> omega)) ?_
     refine Qp (El [Iq _,Iq _,Iq _]) ?_
     refine Qp (A0 (es:=[[Iq _,Iq _,Iq _],[Iq _,Iq _,Iq _]]) Ai rfl rfl rfl rfl rfl rfl rfl rfl rfl) ?_
     refine Qe (Dj (k:=0) Ai rfl rfl rfl rfl rfl rfl rfl rfl ((sc_two rfl rfl)) (hsz) (by simp;omega) (by simp [maxLen];omega)) ?_
     rintro _ _ ⟨v162,rfl,rfl⟩
     refine Qp (Bh rfl) ?_
     refine Qp Iu (Qp Iu ?_)
     refine Cq 4 [Iq _,_,_,_] (_::_::_::_::_::_::_) ?_
     refine AOL.nil (Bp (Ae (AW.region (Qp Fu (Qp Az (Ag ?_))))))
     refine ⟨(q.1+1,v162,q.2.2 ++ [Rp ⟨(q.1:Int)+1,0,(C3 T V t).2⟩,Rp ⟨0,(q.1:Int)+1,0-(C3 T V t).1⟩]),?_,?_,GS.weaken ⟨rfl,rfl,rfl,rfl,rfl,rfl,trivial⟩ (.refl _)⟩
     · exact ⟨hlt2,by simp only;rw [uU ht,List.map_append,hQ.2];rfl⟩
     · simp only;omega
    ·
     have hte2:=Cv hc11
     have hQe:=hQ.2
     rw [hte2] at hQe
     refine AW.exit ?_
     refine A3 (A3 (Bq (Ae (AW.seq ?_))))
     refine AW.ghost (GS.cell (H2:=_::_::_::_::_::_::_) 2 0 rfl rfl rfl rfl G1) ?_
     have hsz:∀c∈q.2.2,Bf c=true:=by rw [hQ.2];exact Ff fun _=>rfl
     have hzl:q.2.2.length≤2*p.2.1.ts.length:=by rw [hQ.2,List.length_map,V2,List.length_take];omega
     refine AW.draw mixed (fun H'=>_∈H'∧_∈H') ⟨(List.mem_of_getElem? (i:=4) rfl),(List.mem_of_getElem? (i:=2) rfl)⟩ (by kernel_rfl) ?_
     refine Qn 0 rfl Hw (Qn 1 rfl Hw ?_)
     refine Qn 2 rfl (Bh rfl) ?_
     refine Qn 3 rfl Iu (Qn 4 rfl Iu ?_)
     refine Qn 5 rfl (OpP.Aax (fun k=>At (k:=k) (c:=.row _ _ _) Ai rfl rfl rfl rfl) (fun _ h=>h.1)) ?_
     refine Qn 6 rfl (OpP.Aax (fun k=>At (k:=k) (c:=.sl _ _) Ai rfl rfl rfl rfl) (fun _ h=>h.2)) ?_
     refine Js.eff _ _ 7 _ _ rfl (by kernel_rfl) rfl rfl (Dj (k:=0) Ai rfl rfl rfl rfl rfl rfl rfl rfl (hsb) (hsz) (by simp;omega) (by simp [maxLen];omega)) (by rintro _ _ ⟨v174,rfl,rfl⟩;simp) ?_
     rintro _ _ ⟨v174,rfl,rfl⟩
     refine Qn 8 rfl (Bh rfl) ?_
     refine Qn 9 rfl Iu (Qn 10 rfl Iu ?_)
     refine Js.last _ _ 11 _ _ rfl (by kernel_rfl) rfl rfl (C6 (k:=4) (v:=.row _ _ _) (cs':=[Iq _,_,_,_]) (H2:=_::_::_::_::_::_::_) Ai rfl rfl rfl rfl (rfl) rfl rfl rfl rfl) (by kernel_rfl) ?_
     rintro _ _ ⟨rfl,rfl⟩
     refine Ae (AW.seq ?_)
     refine AW.ghost (GS.cell (H2:=_::_::_::_::_::_::_) 4 1 rfl rfl rfl rfl G1) ?_
     refine AW.ghost (GS.cell (H2:=_::_::_::_::_::_::_) 4 2 rfl rfl rfl rfl G1) ?_
     refine AW.ghost (GS.cell (H2:=_::_::_::_::_::_::_) (c':=.junk) 4 3 rfl rfl rfl rfl (fun _ _ _ _=>.junk _)) ?_
     refine AW.ghost (GS.Aat (t:=5) 4 rfl rfl) ?_
     refine AW.region (Qp zG (Qp Qap (Ag (AW.ret ?_))))
     refine ⟨.inr rfl,[.ptr _],.cons (.tmp _ _ rfl) <| .nil,.cons _ (.cons _ (.cons _ (.cons _ (.cons _ (.refl _))))),?_⟩
     exact Eq.trans rfl (cSy_eq hS hQe hR.2.2)
theorem d_Zone (T:List Sc)(hl:T.length≤1048576)(hst:∀s∈T,I9 s)(V:List Va)(hvl:V.length≤1048576)(l:List Lit)(hll:l.length≤1048576)(hls:∀c∈l,Av c.cond≤1048576):Ar Tryz.prog 43 [.sl 2 (T.map Nf),.sl 2 (V.map Ub),.sl 9 (l.map Gw)] (.tuple [.agg (Th (Qx T V l).zone),.sl 8 ((Qx T V l).terms.map Gs),.int .i64 (Qx T V l).err]):=by
 refine Ar.body (n:=52) Ai Tryz.func43 rfl rfl rfl fun H=>?_
 refine Ah ?_
 refine Qe (Aj (l:=[.int .i64 0,.sl 3 []]) (by kernel_rfl)) ?_
 rintro _ _ ⟨b6,rfl,rfl⟩
 refine Qp (Bz (z:=8) rfl) ?_
 refine Qp Ap (Db (Qp C5 (Qp C5 (Qp (El [_,_]) ?_))))
 refine Qe (Aj (l:=[.sl 2 [],.sl 2 []]) (by kernel_rfl)) ?_
 rintro _ _ ⟨b9,rfl,rfl⟩
 refine Cq 0 [_,_] (_::_::_) ?_
 refine AOL.ghost (GS.Aat (t:=9) 0 rfl rfl) ?_
 refine Ag (AW.seq (Ah (Qp (Cd [_,_]) (Qp C5 ?_))))
 refine Qp (Qc rfl (uI T hl hst V hvl l hll hls)) ?_
 refine Qp Ap (Db (Qp Az (Qp Ci (Ag (A2 (fun hc1=>?_) fun hc1=>?_)))))
 ·
  refine Ah (Qp (El [Iq _,_]) (Qp Az ?_))
  refine Cq 0 [Iq _,_] (_::_) ?_
  refine Qp (Bz (z:=8) rfl) ?_
  refine Qp Ap (Ag (Dq ?_))
  refine ⟨.inr rfl,[.agg [Iq _,_],.sl _ _,Iq _],.cons (.box _ _ _ 0 _ _ _ _ rfl rfl rfl rfl rfl rfl) <| .cons (.tmp _ _ rfl) <| .cons (.tmp _ _ rfl) <| .nil,.cons _ (.refl _),?_⟩
  exact Eq.trans rfl (congrArg (fun q:Zr=>AV.tuple [.agg (Th q.zone),.sl 8 (q.terms.map Gs),.int .i64 q.err]) (Zone_1 hc1)).symm
 ·
  have hok:=rW hc1
  have hgl:=(Kf hok.1).len
  have hol:=hok.2
  refine Bv (Ah (Qp (Cd [_,_]) (Qp C5 ?_)))
  refine Qp (Qc rfl (fR T V l (Nat.le_trans hok.2 (by decide)) hok.1)) ?_
  refine Qp Qap (Ag (AW.seq (Ah (Qp zG ?_))))
  refine Qp (Qc rfl (kQ T V l)) ?_
  refine Qp Ge (Ag (A2 (fun hc2=>?_) fun hc2=>?_))
  ·
   refine Ah (Qp (El [Iq _,_]) ?_)
   refine Cq 0 [Iq _,_] (_::_) ?_
   refine Qp (Bz (z:=8) rfl) ?_
   refine Qp Ap (Ag (Dq ?_))
   refine ⟨.inr rfl,[.agg [Iq _,_],.sl _ _,Iq _],.cons (.box _ _ _ 0 _ _ _ _ rfl rfl rfl rfl rfl rfl) <| .cons (.tmp _ _ rfl) <| .cons (.tmp _ _ rfl) <| .nil,.cons _ (.refl _),?_⟩
   exact Eq.trans rfl (congrArg (fun q:Zr=>AV.tuple [.agg (Th q.zone),.sl 8 (q.terms.map Gs),.int .i64 q.err]) (Zone_2 hc1 hc2)).symm
  ·
   refine Bv (Ah (Qp Oc ?_))
   refine AOL.ghost (GS.row (t:=12) 30 8 rfl) ?_
   refine Ag (AW.seq (Ah (Qp zG ?_)))
   refine Qp (Gt rfl) ?_
   refine Qp (Qf [_,_]) (Qp Dg ?_)
   refine Qp (Ak (n:=(B6 T V l).ts.length) Ai rfl rfl rfl (by simp)) ?_
   refine Qp Az (Ag (AW.block ?_))
   refine AW.Aau (fun (p:Nat×List (List AV)×Value)=>(⟨[(6,.val (.pointer (some ⟨b6,0,none⟩))),(11,.ptr (rO T V l)),(12,.row p.2.2 8 p.2.1),(35,.sl 3 ((B6 T V l).ts.map Hz)),(36,.int .i64 (B6 T V l).ts.length),(37,.int .i64 (p.1:Int))],.row p.2.2 p.2.1.length 30 8 :: .box b6 90 [.int .i64 0,.sl 3 []]::H,52⟩:St)) (fun (p:Nat×List (List AV)×Value)=>p.1≤(B6 T V l).ts.length∧p.2.1=((B6 T V l).ts.take p.1).map fun t=>cE (Hf t)) (fun (p:Nat×List (List AV)×Value)=>(B6 T V l).ts.length-p.1) ((0,[],.slice none 0 0)) ?_ (GS.weaken ⟨rfl,rfl,rfl,rfl,rfl,rfl,trivial⟩ (.refl _)) ?_
   · exact ⟨Nat.zero_le _,rfl⟩
   ·
    rintro p hR
    have hsc:∀c∈p.2.1,Bf c=true:=by rw [hR.2];exact Ff fun _=>rfl
    have hpl:p.2.1.length≤p.1:=by rw [hR.2];simp;omega
    refine Ah (Qp Cf (Ag (AW.seq (A2 (fun hc3=>?_) fun hc3=>?_))))
    ·
     obtain ⟨t,ht⟩:=B1 hc3
     have hlt:=A8 ht
     refine Bv (AW.seq (AW.block (Ah ?_)))
     refine Qp (Af (c:=[Iq _,Iq _,Iq _]) Ai rfl rfl rfl rfl rfl rfl (by omega) (Bg ht)) ?_
     refine Qp (Cd [Iq _,Iq _,Iq _]) ?_
     refine Qe (Aj (l:=[.int .i64 0,.int .i64 0,.int .i64 0]) (by kernel_rfl)) ?_
     rintro _ _ ⟨b14,rfl,rfl⟩
     refine Cq 0 [Iq _,Iq _,Iq _] (_::_::_::_) ?_
     refine AOL.ghost (GS.Aat (t:=14) 0 rfl rfl) ?_
     refine Ag (AW.region ?_)
     refine Qp (Bk (v:=.row _ _ _) rfl) ?_
     refine Qp (Cd [Iq _,Iq _,Iq _]) ?_
     refine Qp (Qc rfl (uN t)) ?_
     refine Qp (A0 (es:=[[Iq _,_,Iq _,Iq _,Iq _,Iq _,Iq _,.str _]]) Ai rfl rfl rfl rfl rfl rfl rfl rfl rfl) ?_
     refine Qe (Dj (k:=0) Ai rfl rfl rfl rfl rfl rfl rfl rfl (G2 rfl) (hsc) (by simp;omega) (by simp [maxLen];omega)) ?_
     rintro _ _ ⟨v45,rfl,rfl⟩
     refine Qp (C8 (v:=.row _ _ _) rfl) ?_
     refine AOL.nil (Bp (Ae (AW.region (Qp Fu (Qp Az (Ag ?_))))))
     refine ⟨(p.1+1,p.2.1 ++ [cE (Hf t)],v45),?_,?_,GS.weaken ⟨rfl,rfl,rfl,rfl,rfl,rfl,trivial⟩ (.refl _)⟩
     · exact ⟨hlt,by simp only;rw [Cm ht,hR.2,List.map_append];rfl⟩
     · simp only;omega
    ·
     have hte:=Cv hc3
     have hall:=hR.2
     rw [hte] at hall
     refine AW.exit ?_
     refine A3 (A3 (Bq (Ae (Ah (Qp zG ?_)))))
     refine Qp (Gt rfl) ?_
     refine Qp (Qf [Iq _,_,_,_]) (Qp (Cd [Iq _,_]) ?_)
     refine Qp (Bk (v:=.row _ _ _) rfl) ?_
     refine Cq 1 [Iq _,_] (_::_::_) ?_
     refine AOL.ghost (GS.unrow 51 rfl) ?_
     refine Qp Xa (Qp Ap (Ag (AW.ret ?_)))
     refine ⟨.inr rfl,[.agg [Iq _,_],.sl _ _,Iq _],.cons (.box _ _ _ 1 _ _ _ _ rfl rfl rfl rfl rfl rfl) <| .cons (.tmp _ _ rfl) <| .cons (.tmp _ _ rfl) <| .nil,.cons _ (.cons _ (.refl _)),?_⟩
     rw [hall,show ((B6 T V l).ts.map fun t=>cE (Hf t))=((B6 T V l).ts.map Hf).map Gs by rw [List.map_map];exact List.map_congr_left fun t _=>(K5 _).symm]
     exact Eq.trans rfl (congrArg (fun q:Zr=>AV.tuple [.agg (Th q.zone),.sl 8 (q.terms.map Gs),.int .i64 q.err]) (Zone_3 hc1 hc2)).symm

end Go.Proofs.YtkddpedfbicbeaaGreatDoor
