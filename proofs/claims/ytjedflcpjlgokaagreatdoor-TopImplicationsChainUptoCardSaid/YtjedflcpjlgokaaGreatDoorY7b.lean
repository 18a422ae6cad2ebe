/-
  Walks of layer 11: the zone of a clause. No condition.
-/
import Derived.Test.YtjedflcpjlgokaaGreatDoorAz
import Derived.Test.YtjedflcpjlgokaaGreatDoorS22
import Derived.Test.YtjedflcpjlgokaaGreatDoorY7
import Derived.KernelRfl
namespace Go.Proofs.YtjedflcpjlgokaaGreatDoor
open Go Go.Aw
set_option maxHeartbeats 6400000
set_option maxRecDepth 20000
set_option linter.unusedVariables false
set_option linter.unusedSimpArgs false

theorem rY (T:List Sc)(V:List Va)(l:List Lit)(hll:l.length≤4096)(hlk:Up T V l):Ax Tryz.prog 35 [.agg (Cw T V),.sl 9 (l.map H7)] (.ptr (qP T V l)):=by
 have hgo:=Lt hlk
 have hgl:=hgo.len
 have hgb:=hgo.bnds
 refine Ax.body (n:=179) Ai Tryz.func35 rfl rfl rfl fun H=>?_
 refine Ah (Qp (Gd [_,_]) (Qp N2 (Do ?_)))
 refine Qe (Mt) ?_
 rintro _ _ ⟨b19,rfl,rfl⟩
 refine Qp (Nr (l0:=[.int .i64 0,.val (.slice none 0 0),.val (.slice none 0 0),.val (.map none)]) (l:=[Iq _,_,_,_]) Ai rfl rfl (by kernel_rfl) rfl) ?_
 refine Qe (Ub (v:=.agg _) (cs:=[Iq _,_,_,_]) rfl rfl (rfl)) ?_
 rintro _ _ ⟨b21,rfl,rfl⟩
 refine Qp N2 ?_
 refine AOL.ghost (GS.cellRow 0 2 103 3 rfl rfl rfl rfl) ?_
 refine Do ?_
 refine Qe (Am (l:=[.val (.slice none 0 0)]) (by kernel_rfl)) ?_
 rintro _ _ ⟨b6,rfl,rfl⟩
 refine AOL.ghost (GS.cellRow 0 0 112 3 rfl rfl rfl rfl) ?_
 refine Do ?_
 refine Qp (A9 (l:=[]) (l':=[.val _]) rfl rfl) ?_
 refine Qp (Da (v:=.fn _ _ _) rfl) ?_
 refine Ag (AW.seq (Ah (Qp Dt ?_)))
 refine Qp (Al (n:=l.length) Ai rfl rfl rfl (by simp)) ?_
 refine Qp A0 (Ag (AW.block ?_))
 refine AW.Aad (fun (p:Nat×Sy×Value×Value×List (List AV))=>(⟨[(2,.ptr (Cw T V)),(5,.val (.pointer (some ⟨b21,0,none⟩))),(6,.val (.pointer (some ⟨b6,0,none⟩))),(7,.fn (.func 71) [] [.val (.pointer (some ⟨b6,0,none⟩))]),(23,.sl 9 (l.map H7)),(24,.int .i64 l.length),(25,.int .i64 (p.1:Int))],.row p.2.2.2.1 p.2.2.2.2.length 112 3 :: .box b6 44 [.row p.2.2.2.1 3 p.2.2.2.2]::dO b19 b21 p.2.2.1 (.int .i64 0) (.val (.slice none 0 0)) p.2.1.ts H,179⟩:St)) (fun (p:Nat×Sy×Value×Value×List (List AV))=>p.1≤l.length∧p.2.1=Cp T V (l.take p.1)∧p.2.2.2.2=p.2.1.bs.map Qu) (fun (p:Nat×Sy×Value×Value×List (List AV))=>l.length-p.1) ((0,⟨[],[]⟩,.slice none 0 0,.slice none 0 0,[])) ?_ (GS.weaken ⟨rfl,rfl,rfl,rfl,rfl,rfl,rfl,trivial⟩ (.refl _)) ?_
 · exact ⟨Nat.zero_le _,rfl,rfl⟩
 ·
  rintro p hR
  have hok:=Lt (sK hlk p.1)
  rw [←hR.2.1] at hok
  have hkl:(l.take p.1).length≤4096:=by rw [List.length_take];omega
  have htl:=hok.len
  have hbl:=hok.bnds
  have hel:p.2.2.2.2.length≤8192:=by rw [hR.2.2,List.length_map];omega
  have hsb:∀c∈p.2.2.2.2,Bc c=true:=by rw [hR.2.2];exact Fc fun _=>rfl
  have hx:=pV (ts:=[]) (l:=[]) (n:=0)
  refine Ah (Qp Ck (Ag (AW.seq (A3 (fun hc1=>?_) fun hc1=>?_))))
  ·
   obtain ⟨c,hc⟩:=B7 hc1
   have hlt:=Bb hc
   have hcm:=List.mem_of_getElem? hc
   have hck:=(hlk c hcm).1
   have hcs:=(hlk c hcm).2
   have hgn:=Qm hck hcs
   have hgr:=hgn.rest
   refine By (AW.seq (AW.block (Ah ?_)))
   refine Qp (Af (c:=[Iq _,_,Iq _,Iq _,Iq _,Iq _,Iq _,.str _,.bool _]) Ai rfl rfl rfl rfl rfl rfl (by omega) (Bo hc)) ?_
   refine Qp (Cv [Iq _,_,Iq _,Iq _,Iq _,Iq _,Iq _,.str _,.bool _]) ?_
   refine Qe (Am (l:=[.int .i64 0,.sl 8 [],.int .i64 0,.int .i64 0,.int .i64 0,.int .i64 0,.int .i64 0,.str [],.bool false]) (by kernel_rfl)) ?_
   rintro _ _ ⟨b9,rfl,rfl⟩
   refine Cz 0 [Iq _,_,Iq _,Iq _,Iq _,Iq _,Iq _,.str _,.bool _] (_::_::_::_::_::_::_) ?_
   refine AOL.ghost (GS.Aac (t:=9) 0 rfl rfl) ?_
   refine Do (Qp (Cv [_,_]) (Qp (Cv [Iq _,_,Iq _,Iq _,Iq _,Iq _,Iq _,.str _,.bool _]) ?_))
   refine Qp (Qc rfl (pP T V c hck hcs)) ?_
   refine Qp Nb ?_
   refine Qp (Ci (v:=.agg [_,_,Iq _]) rfl rfl) ?_
   refine Qp eR ?_
   refine Qe (Am (l:=[.sl 3 [],.sl 3 [],.int .i64 0]) (by kernel_rfl)) ?_
   rintro _ _ ⟨b10,rfl,rfl⟩
   refine Cz 0 [_,_,Iq _] (_::_::_::_::_::_::_) ?_
   refine Qp Bm ?_
   refine AOL.ghost (GS.Aac (t:=10) 0 rfl rfl) ?_
   refine Ag (AW.seq (Ah (Qp Bu (Qp Hp (Ag (A3 (fun hc2=>?_) fun hc2=>?_))))))
   ·
    refine AW.exit ?_
    refine A5 (Bx (Ae (AW.region (Qp F7 (Qp A0 (Ag ?_))))))
    refine ⟨(p.1+1,p.2),?_,?_,GS.weaken ⟨rfl,rfl,rfl,rfl,rfl,rfl,rfl,trivial⟩ (.refl _)⟩
    · exact ⟨hlt,sA hc hR.2.1 hc2,hR.2.2⟩
    · simp only;omega
   ·
    have hnum:=hc2
    refine By (Ah (Qp Ho (Qp (Qf [_,_,Iq _]) (Qp Ee ?_))))
    refine Qe (E5 (by kernel_rfl) rfl rfl (Dj.front3 (R:=_::_::_) 4 3 2 rfl rfl rfl rfl (Yi b19 b21 _ 0 (.val (.slice none 0 0)) p.2.1.ts (Aa T V c).1.plus _ (by omega)))) ?_
    rintro _ _ ⟨w1,rfl,rfl⟩
    refine Qp Ar (Do (Qp Ho (Qp (Qf [_,Iq _]) (Qp Ee ?_))))
    refine Qe (E5 (by kernel_rfl) rfl rfl (Dj.front3 (R:=_::_::_) 2 1 0 rfl rfl rfl rfl (Yi b19 b21 _ 0 (.val (.slice none 0 0)) (Av p.2.1.ts (Aa T V c).1.plus) (Aa T V c).1.minus _ (by have:=Si p.2.1.ts (Aa T V c).1.plus;omega)))) ?_
    rintro _ _ ⟨w2,rfl,rfl⟩
    refine Qp Ar (Do (Qp (Qf [Iq _,_,Iq _,Iq _,Iq _,Iq _,Iq _,.str _,.bool _]) (Qp (Qf [Iq _,_,Iq _,Iq _,Iq _,Iq _,Iq _,.str _,.bool _]) (Qp Bp (Qp Ar (Ag (AW.block (AW.seq (Ah ?_)))))))))
    refine Qp A0 (Qp A6 (Qp Bu (Qg [] Qw (Qf [.bool _]) (Qg [(65,_)] Qw qQ (Qp Gg (Qp Bm (Ag (A3 (fun hc3=>?_) fun hc3=>?_))))))))
    ·
     refine By (A3 (fun hc4=>?_) fun hc4=>?_)
     ·
      refine AW.region ?_
      refine Qp (Bk (v:=.fn _ _ _) rfl) ?_
      refine Qp A0 (Qp A0 (Qp (Qf [Iq _]) (Qp Bp ?_)))
      refine Qp (V5 rfl rfl (by constructor <;> omega)) ?_
      refine Qe (Iv (by kernel_rfl) rfl rfl rfl (Dj.front2 (R:=_::_::_::_) 4 3 rfl rfl rfl (Ok b6 _ p.2.2.2.2 _ (B1 (Av p.2.1.ts (Aa T V c).1.plus) (Aa T V c).1.plus) (B1 (Av (Av p.2.1.ts (Aa T V c).1.plus) (Aa T V c).1.minus) (Aa T V c).1.minus) (0-(Aa T V c).1.rest) (Nat.le_trans hel (by decide)) hsb))) ?_
      rintro _ _ ⟨u1,rfl,rfl⟩
      refine AOL.nil (Bv (Bv (Ae (AW.region (Qp F7 (Qp A0 (Ag ?_)))))))
      refine ⟨(p.1+1,⟨(Av (Av p.2.1.ts (Aa T V c).1.plus) (Aa T V c).1.minus),p.2.1.bs ++ [⟨(B1 (Av p.2.1.ts (Aa T V c).1.plus) (Aa T V c).1.plus),(B1 (Av (Av p.2.1.ts (Aa T V c).1.plus) (Aa T V c).1.minus) (Aa T V c).1.minus),0-(Aa T V c).1.rest⟩]⟩,w2,u1,(p.2.2.2.2 ++ [Qu ⟨(B1 (Av p.2.1.ts (Aa T V c).1.plus) (Aa T V c).1.plus),(B1 (Av (Av p.2.1.ts (Aa T V c).1.plus) (Aa T V c).1.minus) (Aa T V c).1.minus),0-(Aa T V c).1.rest⟩])),?_,?_,GS.weaken ⟨rfl,rfl,rfl,rfl,rfl,rfl,rfl,trivial⟩ (.refl _)⟩
      · exact ⟨hlt,K1 hc hR.2.1 hnum (bd_1 ‹(c.cond.op==1&&c.neg)=true›),L9 hR.2.2⟩
      · simp only;omega
     ·
      exact absurd (hc4.symm.trans hc3) (by decide)
    ·
     refine AW.region (Qp A0 (Qp A6 (Qp Bu (Qg [] Qw (Qf [.bool _]) (Qg [(71,_)] Qw qQ (Qg [(72,_)] Qw Hp (Qp Gg (Qp Bm (Ag (A3 (fun hc5=>?_) fun hc5=>?_))))))))))
     ·
      refine AW.region ?_
      refine Qp (Bk (v:=.fn _ _ _) rfl) ?_
      refine Qp A0 (Qp A0 (Qp (Qf [Iq _]) (Qp Bp ?_)))
      refine Qp (V5 rfl rfl (by constructor <;> omega)) ?_
      refine Qe (Iv (by kernel_rfl) rfl rfl rfl (Dj.front2 (R:=_::_::_::_) 4 3 rfl rfl rfl (Ok b6 _ p.2.2.2.2 _ (B1 (Av p.2.1.ts (Aa T V c).1.plus) (Aa T V c).1.plus) (B1 (Av (Av p.2.1.ts (Aa T V c).1.plus) (Aa T V c).1.minus) (Aa T V c).1.minus) (0-(Aa T V c).1.rest) (Nat.le_trans hel (by decide)) hsb))) ?_
      rintro _ _ ⟨u1,rfl,rfl⟩
      refine AOL.nil (Bv (Bv (Ae (AW.region (Qp F7 (Qp A0 (Ag ?_)))))))
      refine ⟨(p.1+1,⟨(Av (Av p.2.1.ts (Aa T V c).1.plus) (Aa T V c).1.minus),p.2.1.bs ++ [⟨(B1 (Av p.2.1.ts (Aa T V c).1.plus) (Aa T V c).1.plus),(B1 (Av (Av p.2.1.ts (Aa T V c).1.plus) (Aa T V c).1.minus) (Aa T V c).1.minus),0-(Aa T V c).1.rest⟩]⟩,w2,u1,(p.2.2.2.2 ++ [Qu ⟨(B1 (Av p.2.1.ts (Aa T V c).1.plus) (Aa T V c).1.plus),(B1 (Av (Av p.2.1.ts (Aa T V c).1.plus) (Aa T V c).1.minus) (Aa T V c).1.minus),0-(Aa T V c).1.rest⟩])),?_,?_,GS.weaken ⟨rfl,rfl,rfl,rfl,rfl,rfl,rfl,trivial⟩ (.refl _)⟩
      · exact ⟨hlt,K1 hc hR.2.1 hnum (bd_2 ‹(c.cond.op==8 && !c.neg)=true›),L9 hR.2.2⟩
      · simp only;omega
     ·
      refine AW.seq (Ah (Qp A0 (Qp A6 (Qp Bm (Ag (A3 (fun hc6=>?_) fun hc6=>?_))))))
      ·
       refine By (A3 (fun hc7=>?_) fun hc7=>?_)
       ·
        refine AW.region ?_
        refine Qp (Bk (v:=.fn _ _ _) rfl) ?_
        refine Qp A0 (Qp A0 (Qp (Qf [Iq _]) (Qp Bp ?_)))
        refine Qp (Yz rfl rfl rfl (by constructor <;> omega)) ?_
        refine Qe (Iv (by kernel_rfl) rfl rfl rfl (Dj.front2 (R:=_::_::_::_) 4 3 rfl rfl rfl (Ok b6 _ p.2.2.2.2 _ (B1 (Av (Av p.2.1.ts (Aa T V c).1.plus) (Aa T V c).1.minus) (Aa T V c).1.minus) (B1 (Av p.2.1.ts (Aa T V c).1.plus) (Aa T V c).1.plus) ((Aa T V c).1.rest-1) (Nat.le_trans hel (by decide)) hsb))) ?_
        rintro _ _ ⟨u1,rfl,rfl⟩
        refine AOL.nil (Bv (Bv (Ae (AW.region (Qp F7 (Qp A0 (Ag ?_)))))))
        refine ⟨(p.1+1,⟨(Av (Av p.2.1.ts (Aa T V c).1.plus) (Aa T V c).1.minus),p.2.1.bs ++ [⟨(B1 (Av (Av p.2.1.ts (Aa T V c).1.plus) (Aa T V c).1.minus) (Aa T V c).1.minus),(B1 (Av p.2.1.ts (Aa T V c).1.plus) (Aa T V c).1.plus),(Aa T V c).1.rest-1⟩]⟩,w2,u1,(p.2.2.2.2 ++ [Qu ⟨(B1 (Av (Av p.2.1.ts (Aa T V c).1.plus) (Aa T V c).1.minus) (Aa T V c).1.minus),(B1 (Av p.2.1.ts (Aa T V c).1.plus) (Aa T V c).1.plus),(Aa T V c).1.rest-1⟩])),?_,?_,GS.weaken ⟨rfl,rfl,rfl,rfl,rfl,rfl,rfl,trivial⟩ (.refl _)⟩
        · exact ⟨hlt,K1 hc hR.2.1 hnum (bd_3 ‹(c.cond.op==1&&c.neg)=false› ‹(c.cond.op==8 && !c.neg)=false› ‹(c.cond.op==1)=true›),L9 hR.2.2⟩
        · simp only;omega
       ·
        exact absurd (hc7.symm.trans hc6) (by decide)
      ·
       refine AW.region (Qp A0 (Qp A6 (Qp Bm (Ag (A3 (fun hc8=>?_) fun hc8=>?_)))))
       ·
        refine AW.region ?_
        refine Qp (Bk (v:=.fn _ _ _) rfl) ?_
        refine Qp A0 (Qp A0 (Qp (Qf [Iq _]) (Qp Bp ?_)))
        refine Qp (Yz rfl rfl rfl (by constructor <;> omega)) ?_
        refine Qe (Iv (by kernel_rfl) rfl rfl rfl (Dj.front2 (R:=_::_::_::_) 4 3 rfl rfl rfl (Ok b6 _ p.2.2.2.2 _ (B1 (Av (Av p.2.1.ts (Aa T V c).1.plus) (Aa T V c).1.minus) (Aa T V c).1.minus) (B1 (Av p.2.1.ts (Aa T V c).1.plus) (Aa T V c).1.plus) ((Aa T V c).1.rest-1) (Nat.le_trans hel (by decide)) hsb))) ?_
        rintro _ _ ⟨u1,rfl,rfl⟩
        refine AOL.nil (Bv (Bv (Ae (AW.region (Qp F7 (Qp A0 (Ag ?_)))))))
        refine ⟨(p.1+1,⟨(Av (Av p.2.1.ts (Aa T V c).1.plus) (Aa T V c).1.minus),p.2.1.bs ++ [⟨(B1 (Av (Av p.2.1.ts (Aa T V c).1.plus) (Aa T V c).1.minus) (Aa T V c).1.minus),(B1 (Av p.2.1.ts (Aa T V c).1.plus) (Aa T V c).1.plus),(Aa T V c).1.rest-1⟩]⟩,w2,u1,(p.2.2.2.2 ++ [Qu ⟨(B1 (Av (Av p.2.1.ts (Aa T V c).1.plus) (Aa T V c).1.minus) (Aa T V c).1.minus),(B1 (Av p.2.1.ts (Aa T V c).1.plus) (Aa T V c).1.plus),(Aa T V c).1.rest-1⟩])),?_,?_,GS.weaken ⟨rfl,rfl,rfl,rfl,rfl,rfl,rfl,trivial⟩ (.refl _)⟩
        · exact ⟨hlt,K1 hc hR.2.1 hnum (bd_4 ‹(c.cond.op==1&&c.neg)=false› ‹(c.cond.op==8 && !c.neg)=false› ‹(c.cond.op==8)=true›),L9 hR.2.2⟩
        · simp only;omega
       ·
        refine Ah (Qp A0 (Qp A6 (Qp Bu (Qg [] Qw (Qf [.bool _]) (Qg [(98,_)] Qw qQ (Qg [(99,_)] Qw Hp (Qp Gg (Qp Bm (Ag (A3 (fun hc9=>?_) fun hc9=>?_))))))))))
        ·
         refine AW.region ?_
         refine Qp (Bk (v:=.fn _ _ _) rfl) ?_
         refine Qp A0 (Qp A0 (Qp (Qf [Iq _]) (Qp Bp ?_)))
         refine Qp (V5 rfl rfl (by constructor <;> omega)) ?_
         refine Qp (Yz rfl rfl rfl (by constructor <;> omega)) ?_
         refine Qe (Iv (by kernel_rfl) rfl rfl rfl (Dj.front2 (R:=_::_::_::_) 4 3 rfl rfl rfl (Ok b6 _ p.2.2.2.2 _ (B1 (Av p.2.1.ts (Aa T V c).1.plus) (Aa T V c).1.plus) (B1 (Av (Av p.2.1.ts (Aa T V c).1.plus) (Aa T V c).1.minus) (Aa T V c).1.minus) (0-(Aa T V c).1.rest-1) (Nat.le_trans hel (by decide)) hsb))) ?_
         rintro _ _ ⟨u1,rfl,rfl⟩
         refine AOL.nil (Bv (Bv (Ae (AW.region (Qp F7 (Qp A0 (Ag ?_)))))))
         refine ⟨(p.1+1,⟨(Av (Av p.2.1.ts (Aa T V c).1.plus) (Aa T V c).1.minus),p.2.1.bs ++ [⟨(B1 (Av p.2.1.ts (Aa T V c).1.plus) (Aa T V c).1.plus),(B1 (Av (Av p.2.1.ts (Aa T V c).1.plus) (Aa T V c).1.minus) (Aa T V c).1.minus),0-(Aa T V c).1.rest-1⟩]⟩,w2,u1,(p.2.2.2.2 ++ [Qu ⟨(B1 (Av p.2.1.ts (Aa T V c).1.plus) (Aa T V c).1.plus),(B1 (Av (Av p.2.1.ts (Aa T V c).1.plus) (Aa T V c).1.minus) (Aa T V c).1.minus),0-(Aa T V c).1.rest-1⟩])),?_,?_,GS.weaken ⟨rfl,rfl,rfl,rfl,rfl,rfl,rfl,trivial⟩ (.refl _)⟩
         · exact ⟨hlt,K1 hc hR.2.1 hnum (bd_5 ‹(c.cond.op==1&&c.neg)=false› ‹(c.cond.op==8 && !c.neg)=false› ‹(c.cond.op==1)=false› ‹(c.cond.op==8)=false› ‹(c.cond.op==7 && !c.neg)=true›),L9 hR.2.2⟩
         · simp only;omega
        ·
         refine Ah (Qp A0 (Qp A6 (Qp Bm (Ag (A3 (fun hc10=>?_) fun hc10=>?_)))))
         ·
          refine AW.region ?_
          refine Qp (Bk (v:=.fn _ _ _) rfl) ?_
          refine Qp A0 (Qp A0 (Qp (Qf [Iq _]) (Qp Bp ?_)))
          refine Qe (Iv (by kernel_rfl) rfl rfl rfl (Dj.front2 (R:=_::_::_::_) 4 3 rfl rfl rfl (Ok b6 _ p.2.2.2.2 _ (B1 (Av (Av p.2.1.ts (Aa T V c).1.plus) (Aa T V c).1.minus) (Aa T V c).1.minus) (B1 (Av p.2.1.ts (Aa T V c).1.plus) (Aa T V c).1.plus) ((Aa T V c).1.rest) (Nat.le_trans hel (by decide)) hsb))) ?_
          rintro _ _ ⟨u1,rfl,rfl⟩
          refine AOL.nil (Bv (Bv (Ae (AW.region (Qp F7 (Qp A0 (Ag ?_)))))))
          refine ⟨(p.1+1,⟨(Av (Av p.2.1.ts (Aa T V c).1.plus) (Aa T V c).1.minus),p.2.1.bs ++ [⟨(B1 (Av (Av p.2.1.ts (Aa T V c).1.plus) (Aa T V c).1.minus) (Aa T V c).1.minus),(B1 (Av p.2.1.ts (Aa T V c).1.plus) (Aa T V c).1.plus),(Aa T V c).1.rest⟩]⟩,w2,u1,(p.2.2.2.2 ++ [Qu ⟨(B1 (Av (Av p.2.1.ts (Aa T V c).1.plus) (Aa T V c).1.minus) (Aa T V c).1.minus),(B1 (Av p.2.1.ts (Aa T V c).1.plus) (Aa T V c).1.plus),(Aa T V c).1.rest⟩])),?_,?_,GS.weaken ⟨rfl,rfl,rfl,rfl,rfl,rfl,rfl,trivial⟩ (.refl _)⟩
          · exact ⟨hlt,K1 hc hR.2.1 hnum (bd_6 ‹(c.cond.op==1&&c.neg)=false› ‹(c.cond.op==8 && !c.neg)=false› ‹(c.cond.op==1)=false› ‹(c.cond.op==8)=false› ‹(c.cond.op==7 && !c.neg)=false› ‹(c.cond.op==7)=true›),L9 hR.2.2⟩
          · simp only;omega
         ·
          refine Ah ?_
          refine Qp (Bk (v:=.fn _ _ _) rfl) ?_
          refine Qp A0 (Qp A0 (Qp (Qf [Iq _]) (Qp Bp ?_)))
          refine Qp (V5 rfl rfl (by constructor <;> omega)) ?_
          refine Qe (Iv (by kernel_rfl) rfl rfl rfl (Dj.front2 (R:=_::_::_::_) 4 3 rfl rfl rfl (Ok b6 _ p.2.2.2.2 _ (B1 (Av p.2.1.ts (Aa T V c).1.plus) (Aa T V c).1.plus) (B1 (Av (Av p.2.1.ts (Aa T V c).1.plus) (Aa T V c).1.minus) (Aa T V c).1.minus) (0-(Aa T V c).1.rest) (Nat.le_trans hel (by decide)) hsb))) ?_
          rintro _ _ ⟨u1,rfl,rfl⟩
          refine Ag (AW.region ?_)
          refine Qp (Bk (v:=.fn _ _ _) rfl) ?_
          refine Qp A0 (Qp A0 (Qp (Qf [Iq _]) (Qp Bp ?_)))
          refine Qe (Iv (by kernel_rfl) rfl rfl rfl (Dj.front2 (R:=_::_::_::_) 1 0 rfl rfl rfl (Ok b6 _ (p.2.2.2.2 ++ [Qu ⟨(B1 (Av p.2.1.ts (Aa T V c).1.plus) (Aa T V c).1.plus),(B1 (Av (Av p.2.1.ts (Aa T V c).1.plus) (Aa T V c).1.minus) (Aa T V c).1.minus),0-(Aa T V c).1.rest⟩]) _ (B1 (Av (Av p.2.1.ts (Aa T V c).1.plus) (Aa T V c).1.minus) (Aa T V c).1.minus) (B1 (Av p.2.1.ts (Aa T V c).1.plus) (Aa T V c).1.plus) ((Aa T V c).1.rest) (by rw [List.length_append];simp;omega) (fun d hd=>(List.mem_append.1 hd).elim (hsb d) (G5 rfl d))))) ?_
          rintro _ _ ⟨u2,rfl,rfl⟩
          refine AOL.nil (Bv (Bv (Ae (AW.region (Qp F7 (Qp A0 (Ag ?_)))))))
          refine ⟨(p.1+1,⟨(Av (Av p.2.1.ts (Aa T V c).1.plus) (Aa T V c).1.minus),p.2.1.bs ++ [⟨(B1 (Av p.2.1.ts (Aa T V c).1.plus) (Aa T V c).1.plus),(B1 (Av (Av p.2.1.ts (Aa T V c).1.plus) (Aa T V c).1.minus) (Aa T V c).1.minus),0-(Aa T V c).1.rest⟩,⟨(B1 (Av (Av p.2.1.ts (Aa T V c).1.plus) (Aa T V c).1.minus) (Aa T V c).1.minus),(B1 (Av p.2.1.ts (Aa T V c).1.plus) (Aa T V c).1.plus),(Aa T V c).1.rest⟩]⟩,w2,u2,((p.2.2.2.2 ++ [Qu ⟨(B1 (Av p.2.1.ts (Aa T V c).1.plus) (Aa T V c).1.plus),(B1 (Av (Av p.2.1.ts (Aa T V c).1.plus) (Aa T V c).1.minus) (Aa T V c).1.minus),0-(Aa T V c).1.rest⟩]) ++ [Qu ⟨(B1 (Av (Av p.2.1.ts (Aa T V c).1.plus) (Aa T V c).1.minus) (Aa T V c).1.minus),(B1 (Av p.2.1.ts (Aa T V c).1.plus) (Aa T V c).1.plus),(Aa T V c).1.rest⟩])),?_,?_,GS.weaken ⟨rfl,rfl,rfl,rfl,rfl,rfl,rfl,trivial⟩ (.refl _)⟩
          · exact ⟨hlt,K1 hc hR.2.1 hnum (bd_7 ‹(c.cond.op==1&&c.neg)=false› ‹(c.cond.op==8 && !c.neg)=false› ‹(c.cond.op==1)=false› ‹(c.cond.op==8)=false› ‹(c.cond.op==7 && !c.neg)=false› ‹(c.cond.op==7)=false›),qK hR.2.2⟩
          · simp only;omega
  ·
   have hte:=C5 hc1
   have hS:=hR.2.1
   rw [hte] at hS
   have hpt:=hgo.terms
   rw [←hS] at hpt hgl
   refine AW.exit ?_
   refine A5 (A5 (Bx (Ae (Ah (Qp Ho (Qp Ho ?_))))))
   refine Qp (Be rfl) ?_
   refine Qp H9 ?_
   refine AOL.Aah (Ao (k:=3) (c:=.row _ _ _) Ai rfl rfl rfl rfl) rfl rfl ?_
   refine Qp (Lw (n:=p.2.1.ts.length) Ai rfl rfl rfl (by simp)) ?_
   refine Qp F7 ?_
   refine Qp (Be rfl) ?_
   refine Qp H9 (Qp H9 ?_)
   refine Cz 3 [Iq _,_,_,_] (_::_::_::_::_::_) ?_
   refine Ag (AW.seq (Ah (Qp Ho ?_)))
   refine Qp (Be rfl) ?_
   refine Qp H9 ?_
   refine AOL.Aah (Ao (k:=3) (c:=.row _ _ _) Ai rfl rfl rfl rfl) rfl rfl ?_
   refine Qp (Lw (n:=p.2.1.ts.length) Ai rfl rfl rfl (by simp)) ?_
   refine Qp A0 ?_
   refine AOL.ghost (GS.cellRow 3 1 112 3 rfl rfl rfl rfl) ?_
   refine Ag (AW.block ?_)
   refine AW.Aad (fun (q:Nat×Value×List (List AV))=>(⟨[(2,.ptr (Cw T V)),(5,.val (.pointer (some ⟨b21,0,none⟩))),(6,.val (.pointer (some ⟨b6,0,none⟩))),(133,.row p.2.2.1 3 (p.2.1.ts.map Hz)),(134,.int .i64 p.2.1.ts.length),(135,.int .i64 (q.1:Int))],.row q.2.1 q.2.2.length 112 3 :: .row p.2.2.2.1 p.2.2.2.2.length 112 3 :: .box b6 44 [.row p.2.2.2.1 3 p.2.2.2.2] :: .row p.2.2.1 (p.2.1.ts.map Hz).length 103 3 :: .box b21 101 [.int .i64 ((p.2.1.ts.length:Int)+1),.row q.2.1 3 q.2.2,.row p.2.2.1 3 (p.2.1.ts.map Hz),.val (.map (some b19))] :: .kmap b19 (Th p.2.1.ts)::H,179⟩:St)) (fun (q:Nat×Value×List (List AV))=>q.1≤p.2.1.ts.length∧q.2.2=(G2 T V 0 (p.2.1.ts.take q.1)).map Qu) (fun (q:Nat×Value×List (List AV))=>p.2.1.ts.length-q.1) ((0,.slice none 0 0,[])) ?_ (GS.weaken ⟨rfl,rfl,rfl,rfl,rfl,rfl,trivial⟩ (.refl _)) ?_
   · exact ⟨Nat.zero_le _,rfl⟩
   ·
    rintro q hQ
    have hsz:∀c∈q.2.2,Bc c=true:=by rw [hQ.2];exact Fc fun _=>rfl
    have hzl:q.2.2.length≤2*p.2.1.ts.length:=by rw [hQ.2,List.length_map,Z6,List.length_take];omega
    refine Ah (Qp Ck (Ag (AW.seq (A3 (fun hc11=>?_) fun hc11=>?_))))
    ·
     obtain ⟨t,ht⟩:=B7 hc11
     have hlt2:=Bb ht
     have htm:=List.mem_of_getElem? ht
     refine By (AW.seq (AW.block (Ah (Qp A0 ?_))))
     refine Qp (J6 (c:=[Iq _,Iq _,Iq _]) Ai rfl rfl rfl rfl rfl rfl (by omega) (Bo ht)) ?_
     refine Qp (Cv [Iq _,Iq _,Iq _]) ?_
     refine Qe (Am (l:=[.int .i64 0,.int .i64 0,.int .i64 0]) (by kernel_rfl)) ?_
     rintro _ _ ⟨b16,rfl,rfl⟩
     refine Qp Ar ?_
     refine Cz 0 [Iq _,Iq _,Iq _] (_::_::_::_::_::_::_::_) ?_
     refine AOL.ghost (GS.Aac (t:=16) 0 rfl rfl) ?_
     refine Do (Qp (Cv [_,_]) (Qp (Cv [Iq _,Iq _,Iq _]) ?_))
     refine Qp (Qc rfl (tW T V t (hpt t htm))) ?_
     refine Qp Nb (Qp I6 (Qp I6 (Qp Ar (Qp Ar (Ag ?_)))))
     have hlr:=Rs (T:=T) (V:=V) t
     refine AW.region (Qp Ho (Qp Ho ?_))
     refine Qp (Be rfl) ?_
     refine Qp H9 (Qp H9 ?_)
     refine AOL.Aah (Ao (k:=4) (c:=.row _ _ _) Ai rfl rfl rfl rfl) rfl rfl ?_
     refine Qp A0 (Qp F7 (Qp A0 (Qp (Fr [Iq _,Iq _,Iq _]) (Qp A0 (Qp F7 (Qp A0 ?_))))))
     refine Qp (V5 rfl rfl (by constructor <;> omega)) ?_
     refine Qp (Fr [Iq _,Iq _,Iq _]) ?_
     refine Qp (A2 (es:=[[Iq _,Iq _,Iq _],[Iq _,Iq _,Iq _]]) Ai rfl rfl rfl rfl rfl rfl rfl rfl rfl) ?_
     refine Qe (Dh (k:=0) Ai rfl rfl rfl rfl rfl rfl rfl rfl ((sc_two rfl rfl)) (hsz) (by simp;omega) (by simp [maxLen];omega)) ?_
     rintro _ _ ⟨v162,rfl,rfl⟩
     refine Qp (Be rfl) ?_
     refine Qp H9 (Qp H9 ?_)
     refine Cz 4 [Iq _,_,_,_] (_::_::_::_::_::_::_) ?_
     refine AOL.nil (Bv (Ae (AW.region (Qp F7 (Qp A0 (Ag ?_))))))
     refine ⟨(q.1+1,v162,q.2.2 ++ [Qu ⟨(q.1:Int)+1,0,(Ct T V t).2⟩,Qu ⟨0,(q.1:Int)+1,0-(Ct T V t).1⟩]),?_,?_,GS.weaken ⟨rfl,rfl,rfl,rfl,rfl,rfl,trivial⟩ (.refl _)⟩
     · exact ⟨hlt2,by simp only;rw [tP ht,List.map_append,hQ.2];rfl⟩
     · simp only;omega
    ·
     have hte2:=C5 hc11
     have hQe:=hQ.2
     rw [hte2] at hQe
     refine AW.exit ?_
     refine A5 (A5 (Bx (Ae (AW.seq ?_))))
     refine AW.ghost (GS.cell (H2:=_::_::_::_::_::_::_) 2 0 rfl rfl rfl rfl Gn) ?_
     have hsz:∀c∈q.2.2,Bc c=true:=by rw [hQ.2];exact Fc fun _=>rfl
     have hzl:q.2.2.length≤2*p.2.1.ts.length:=by rw [hQ.2,List.length_map,Z6,List.length_take];omega
     refine AW.draw mixed (fun H'=>_∈H'∧_∈H') ⟨(List.mem_of_getElem? (i:=4) rfl),(List.mem_of_getElem? (i:=2) rfl)⟩ (by kernel_rfl) ?_
     refine Qn 0 rfl Ho (Qn 1 rfl Ho ?_)
     refine Qn 2 rfl (Be rfl) ?_
     refine Qn 3 rfl H9 (Qn 4 rfl H9 ?_)
     refine Qn 5 rfl (OpP.Aag (fun k=>Ao (k:=k) (c:=.row _ _ _) Ai rfl rfl rfl rfl) (fun _ h=>h.1)) ?_
     refine Qn 6 rfl (OpP.Aag (fun k=>Ao (k:=k) (c:=.sl _ _) Ai rfl rfl rfl rfl) (fun _ h=>h.2)) ?_
     refine Jb.eff _ _ 7 _ _ rfl (by kernel_rfl) rfl rfl (Dh (k:=0) Ai rfl rfl rfl rfl rfl rfl rfl rfl (hsb) (hsz) (by simp;omega) (by simp [maxLen];omega)) (by rintro _ _ ⟨v174,rfl,rfl⟩;simp) ?_
     rintro _ _ ⟨v174,rfl,rfl⟩
     refine Qn 8 rfl (Be rfl) ?_
     refine Qn 9 rfl H9 (Qn 10 rfl H9 ?_)
     refine Jb.last _ _ 11 _ _ rfl (by kernel_rfl) rfl rfl (Df (k:=4) (v:=.row _ _ _) (cs':=[Iq _,_,_,_]) (H2:=_::_::_::_::_::_::_) Ai rfl rfl rfl rfl (rfl) rfl rfl rfl rfl) (by kernel_rfl) ?_
     rintro _ _ ⟨rfl,rfl⟩
     refine Ae (AW.seq ?_)
     refine AW.ghost (GS.cell (H2:=_::_::_::_::_::_::_) 4 1 rfl rfl rfl rfl Gn) ?_
     refine AW.ghost (GS.cell (H2:=_::_::_::_::_::_::_) 4 2 rfl rfl rfl rfl Gn) ?_
     refine AW.ghost (GS.cell (H2:=_::_::_::_::_::_::_) (c':=.junk) 4 3 rfl rfl rfl rfl (fun _ _ _ _=>.junk _)) ?_
     refine AW.ghost (GS.Aac (t:=5) 4 rfl rfl) ?_
     refine AW.region (Qp Qmp (Qp Qap (Ag (AW.ret ?_))))
     refine ⟨.inr rfl,[.ptr _],.cons (.tmp _ _ rfl) <| .nil,.cons _ (.cons _ (.cons _ (.cons _ (.cons _ (.refl _))))),?_⟩
     exact Eq.trans rfl (cSy_eq hS hQe hR.2.2)
end Go.Proofs.YtjedflcpjlgokaaGreatDoor
