/-
  Several texts in one: Y7b, Y9. No condition.
-/
import Derived.Test.YtkddpedfbicbeaaGreatDoorK01
import Derived.Test.YtkddpedfbicbeaaGreatDoorK06
import Derived.Test.YtkddpedfbicbeaaGreatDoorK11
import Derived.KernelRfl
namespace Go.Proofs.YtkddpedfbicbeaaGreatDoor
open Go Go.Aw
set_option maxHeartbeats 6400000
set_option maxRecDepth 20000
set_option linter.unusedVariables false
set_option linter.unusedSimpArgs false

theorem d_system (T:List Sc)(V:List Va)(l:List Lit)(hll:l.length≤4096)(hlk:LOK T V l):APure Tryz.prog 79 [.agg (cScene T V),.sl 9 (l.map cLit)] (.ptr (cSy T V l)):=by
 have hgo:=sysGo_ok hlk
 have hgl:=hgo.len
 have hgb:=hgo.bnds
 refine APure.body (n:=179) tok Tryz.func79 rfl rfl rfl fun H=>?_
 refine Qsr (Qp (Qbx [_,_]) ?_)
 refine Qp Qav ?_
 refine Qns (Qe (E_makeKMap) ?_)
 rintro _ _ ⟨b19,rfl,rfl⟩
 refine Qp (P_buildZ (l0:=[.int .i64 0,.val (.slice none 0 0),.val (.slice none 0 0),.val (.map none)]) (l:=[.int .i64 _,_,_,_]) tok rfl rfl (by kernel_rfl) rfl) ?_
 refine Qe (E_box (v:=.agg _) (cs:=[.int .i64 _,_,_,_]) rfl rfl (rfl)) ?_
 rintro _ _ ⟨b21,rfl,rfl⟩
 refine Qp Qav ?_
 refine AOL.ghost (GS.cellRow 0 2 143 3 rfl rfl rfl rfl) ?_
 refine Qns (Qe (E_alloc (l:=[.val (.slice none 0 0)]) (by kernel_rfl)) ?_)
 rintro _ _ ⟨b6,rfl,rfl⟩
 refine AOL.ghost (GS.cellRow 0 0 94 3 rfl rfl rfl rfl) ?_
 refine Qns (Qp (P_makeFunc (l:=[]) (l':=[.val _]) rfl rfl) ?_)
 refine Qp (P_assign (v:=.fn _ _ _) rfl) ?_
 refine Qnn (AW.seq (Qsr (Qp Qms ?_)))
 refine Qp (P_len_sl (n:=l.length) tok rfl rfl rfl (by simp)) ?_
 refine Qp Qmi ?_
 refine Qnn (AW.block ?_)
 refine AW.loopS (fun (p:Nat×Sy×Value×Value×List (List AV))=>(⟨[(2,.ptr (cScene T V)),(5,.val (.pointer (some ⟨b21,0,none⟩))),(6,.val (.pointer (some ⟨b6,0,none⟩))),(7,.fn (.func 128) [] [.val (.pointer (some ⟨b6,0,none⟩))]),(23,.sl 9 (l.map cLit)),(24,.int .i64 l.length),(25,.int .i64 (p.1:Int))],.row p.2.2.2.1 p.2.2.2.2.length 94 3 :: .box b6 88 [.row p.2.2.2.1 3 p.2.2.2.2]::sysH b19 b21 p.2.2.1 (.int .i64 0) (.val (.slice none 0 0)) p.2.1.ts H,179⟩:St)) (fun (p:Nat×Sy×Value×Value×List (List AV))=>p.1≤l.length∧p.2.1=sysGo T V (l.take p.1)∧p.2.2.2.2=p.2.1.bs.map cBd) (fun (p:Nat×Sy×Value×Value×List (List AV))=>l.length - p.1) ((0,⟨[],[]⟩,.slice none 0 0,.slice none 0 0,[])) ?_ (GS.weaken ⟨rfl,rfl,rfl,rfl,rfl,rfl,rfl,trivial⟩ (.refl _)) ?_
 · exact ⟨Nat.zero_le _,rfl,rfl⟩
 ·
  rintro p hR
  have hok:=sysGo_ok (LOK_take hlk p.1)
  rw [←hR.2.1] at hok
  have hkl:(l.take p.1).length≤4096:=by rw [List.length_take];omega
  have htl:=hok.len
  have hbl:=hok.bnds
  have hel:p.2.2.2.2.length≤8192:=by rw [hR.2.2,List.length_map];omega
  have hsb:∀c∈p.2.2.2.2,scalars c=true:=by rw [hR.2.2];exact sc_map fun _=>rfl
  have hx:=num_range (ts:=[]) (l:=[]) (n:=0)
  refine Qsr (Qp Qclt ?_)
  refine Qnn (AW.seq (Qif (fun hc1=>?_) fun hc1=>?_))
  ·
   obtain ⟨c,hc⟩:=get_lt hc1
   have hlt:=get_lt' hc
   have hcm:=List.mem_of_getElem? hc
   have hck:=(hlk c hcm).1
   have hcs:=(hlk c hcm).2
   have hgn:=numeric_ok hck hcs
   have hgr:=hgn.rest
   refine Qst (AW.seq (AW.block (Qsr (Qp (P_indexAddr (c:=[.int .i64 _,_,.int .i64 _,.int .i64 _,.int .i64 _,.int .i64 _,.int .i64 _,.str _,.bool _]) tok rfl rfl rfl rfl rfl rfl (by omega) (map_at hc)) ?_))))
   refine Qp (Qlg [.int .i64 _,_,.int .i64 _,.int .i64 _,.int .i64 _,.int .i64 _,.int .i64 _,.str _,.bool _]) ?_
   refine Qe (E_alloc (l:=[.int .i64 0,.sl 8 [],.int .i64 0,.int .i64 0,.int .i64 0,.int .i64 0,.int .i64 0,.str [],.bool false]) (by kernel_rfl)) ?_
   rintro _ _ ⟨b9,rfl,rfl⟩
   refine Qe (E_store (k:=0) (v:=.agg _) (cs':=[.int .i64 _,_,.int .i64 _,.int .i64 _,.int .i64 _,.int .i64 _,.int .i64 _,.str _,.bool _]) (H2:=_::_::_::_::_::_::_) tok rfl rfl rfl rfl (rfl) rfl rfl rfl rfl) ?_
   rintro _ _ ⟨rfl,rfl⟩
   refine AOL.ghost (GS.freeze (t:=9) 0 rfl rfl) ?_
   refine Qns (Qp (Qlg [_,_]) ?_)
   refine Qp (Qlg [.int .i64 _,_,.int .i64 _,.int .i64 _,.int .i64 _,.int .i64 _,.int .i64 _,.str _,.bool _]) ?_
   refine Qp (Qc rfl (d_numeric T V c hck hcs)) ?_
   refine Qp Qmu ?_
   refine Qp (P_extract (v:=.agg [_,_,.int .i64 _]) rfl rfl) ?_
   refine Qp Qxb ?_
   refine Qe (E_alloc (l:=[.sl 3 [],.sl 3 [],.int .i64 0]) (by kernel_rfl)) ?_
   rintro _ _ ⟨b10,rfl,rfl⟩
   refine Qe (E_store (k:=0) (v:=.agg _) (cs':=[_,_,.int .i64 _]) (H2:=_::_::_::_::_::_::_) tok rfl rfl rfl rfl (rfl) rfl rfl rfl rfl) ?_
   rintro _ _ ⟨rfl,rfl⟩
   refine Qp Qab ?_
   refine AOL.ghost (GS.freeze (t:=10) 0 rfl rfl) ?_
   refine Qnn (AW.seq (Qsr (Qp Qmb ?_)))
   refine Qp Qnt ?_
   refine Qnn (Qif (fun hc2=>?_) fun hc2=>?_)
   ·
    refine AW.exit ?_
    refine thenE (blkHit (thenN (AW.region (Qp Qad ?_))))
    refine Qp Qmi ?_
    refine Qnn ?_
    refine ⟨(p.1+1,p.2),?_,?_,GS.weaken ⟨rfl,rfl,rfl,rfl,rfl,rfl,rfl,trivial⟩ (.refl _)⟩
    · exact ⟨hlt,sys_same hc hR.2.1 hc2,hR.2.2⟩
    · simp only;omega
   ·
    have hnum:=hc2
    refine Qst (Qsr (Qp Qmv ?_))
    refine Qp (Qf [_,_,.int .i64 _]) ?_
    refine Qp Qls ?_
    refine Qe (E_callf (by kernel_rfl) rfl rfl (ACall.front3 (R:=_::_::_) 4 3 2 rfl rfl rfl rfl (d_unknown b19 b21 _ 0 (.val (.slice none 0 0)) p.2.1.ts (numericS T V c).1.plus _ (by omega)))) ?_
    rintro _ _ ⟨w1,rfl,rfl⟩
    refine Qp Qai ?_
    refine Qns (Qp Qmv ?_)
    refine Qp (Qf [_,.int .i64 _]) ?_
    refine Qp Qls ?_
    refine Qe (E_callf (by kernel_rfl) rfl rfl (ACall.front3 (R:=_::_::_) 2 1 0 rfl rfl rfl rfl (d_unknown b19 b21 _ 0 (.val (.slice none 0 0)) (addTm p.2.1.ts (numericS T V c).1.plus) (numericS T V c).1.minus _ (by have:=addTm_len p.2.1.ts (numericS T V c).1.plus;omega)))) ?_
    rintro _ _ ⟨w2,rfl,rfl⟩
    refine Qp Qai ?_
    refine Qns (Qp (Qf [.int .i64 _,_,.int .i64 _,.int .i64 _,.int .i64 _,.int .i64 _,.int .i64 _,.str _,.bool _]) ?_)
    refine Qp (Qf [.int .i64 _,_,.int .i64 _,.int .i64 _,.int .i64 _,.int .i64 _,.int .i64 _,.str _,.bool _]) ?_
    refine Qp Qli ?_
    refine Qp Qai ?_
    refine Qnn (AW.block (AW.seq (Qsr (Qp Qmi ?_))))
    refine Qp Qceq ?_
    refine Qp Qmb ?_
    refine Qg [] Qw (Qf [.bool _]) ?_
    refine Qg [(65,_)] Qw Qlb ?_
    refine Qp Qpa ?_
    refine Qp Qab ?_
    refine Qnn (Qif (fun hc3=>?_) fun hc3=>?_)
    ·
     refine Qst (Qif (fun hc4=>?_) fun hc4=>?_)
     ·
      refine AW.region (Qp (P_move (v:=.fn _ _ _) rfl) ?_)
      refine Qp Qmi ?_
      refine Qp Qmi ?_
      refine Qp (Qf [.int .i64 _]) ?_
      refine Qp Qli ?_
      refine Qp (P_neg rfl rfl (by constructor <;> omega)) ?_
      refine Qe (E_call (by kernel_rfl) rfl rfl rfl (ACall.front2 (R:=_::_::_::_) 4 3 rfl rfl rfl (d_add1 b6 _ p.2.2.2.2 _ (numTm (addTm p.2.1.ts (numericS T V c).1.plus) (numericS T V c).1.plus) (numTm (addTm (addTm p.2.1.ts (numericS T V c).1.plus) (numericS T V c).1.minus) (numericS T V c).1.minus) (0 - (numericS T V c).1.rest) (Nat.le_trans hel (by decide)) hsb))) ?_
      rintro _ _ ⟨u1,rfl,rfl⟩
      refine AOL.nil (blkN (blkN (thenN (AW.region (Qp Qad ?_)))))
      refine Qp Qmi ?_
      refine Qnn ?_
      refine ⟨(p.1+1,⟨(addTm (addTm p.2.1.ts (numericS T V c).1.plus) (numericS T V c).1.minus),p.2.1.bs++[⟨(numTm (addTm p.2.1.ts (numericS T V c).1.plus) (numericS T V c).1.plus),(numTm (addTm (addTm p.2.1.ts (numericS T V c).1.plus) (numericS T V c).1.minus) (numericS T V c).1.minus),0 - (numericS T V c).1.rest⟩]⟩,w2,u1,(p.2.2.2.2++[cBd ⟨(numTm (addTm p.2.1.ts (numericS T V c).1.plus) (numericS T V c).1.plus),(numTm (addTm (addTm p.2.1.ts (numericS T V c).1.plus) (numericS T V c).1.minus) (numericS T V c).1.minus),0 - (numericS T V c).1.rest⟩])),?_,?_,GS.weaken ⟨rfl,rfl,rfl,rfl,rfl,rfl,rfl,trivial⟩ (.refl _)⟩
      · exact ⟨hlt,sys_next hc hR.2.1 hnum (bd_1 ‹(c.cond.op == 1&&c.neg)=true›),enc_snoc hR.2.2⟩
      · simp only;omega
     ·
      exact absurd (hc4.symm.trans hc3) (by decide)
    ·
     refine AW.region (Qp Qmi ?_)
     refine Qp Qceq ?_
     refine Qp Qmb ?_
     refine Qg [] Qw (Qf [.bool _]) ?_
     refine Qg [(71,_)] Qw Qlb ?_
     refine Qg [(72,_)] Qw Qnt ?_
     refine Qp Qpa ?_
     refine Qp Qab ?_
     refine Qnn (Qif (fun hc5=>?_) fun hc5=>?_)
     ·
      refine AW.region (Qp (P_move (v:=.fn _ _ _) rfl) ?_)
      refine Qp Qmi ?_
      refine Qp Qmi ?_
      refine Qp (Qf [.int .i64 _]) ?_
      refine Qp Qli ?_
      refine Qp (P_neg rfl rfl (by constructor <;> omega)) ?_
      refine Qe (E_call (by kernel_rfl) rfl rfl rfl (ACall.front2 (R:=_::_::_::_) 4 3 rfl rfl rfl (d_add1 b6 _ p.2.2.2.2 _ (numTm (addTm p.2.1.ts (numericS T V c).1.plus) (numericS T V c).1.plus) (numTm (addTm (addTm p.2.1.ts (numericS T V c).1.plus) (numericS T V c).1.minus) (numericS T V c).1.minus) (0 - (numericS T V c).1.rest) (Nat.le_trans hel (by decide)) hsb))) ?_
      rintro _ _ ⟨u1,rfl,rfl⟩
      refine AOL.nil (blkN (blkN (thenN (AW.region (Qp Qad ?_)))))
      refine Qp Qmi ?_
      refine Qnn ?_
      refine ⟨(p.1+1,⟨(addTm (addTm p.2.1.ts (numericS T V c).1.plus) (numericS T V c).1.minus),p.2.1.bs++[⟨(numTm (addTm p.2.1.ts (numericS T V c).1.plus) (numericS T V c).1.plus),(numTm (addTm (addTm p.2.1.ts (numericS T V c).1.plus) (numericS T V c).1.minus) (numericS T V c).1.minus),0 - (numericS T V c).1.rest⟩]⟩,w2,u1,(p.2.2.2.2++[cBd ⟨(numTm (addTm p.2.1.ts (numericS T V c).1.plus) (numericS T V c).1.plus),(numTm (addTm (addTm p.2.1.ts (numericS T V c).1.plus) (numericS T V c).1.minus) (numericS T V c).1.minus),0 - (numericS T V c).1.rest⟩])),?_,?_,GS.weaken ⟨rfl,rfl,rfl,rfl,rfl,rfl,rfl,trivial⟩ (.refl _)⟩
      · exact ⟨hlt,sys_next hc hR.2.1 hnum (bd_2 ‹(c.cond.op == 8 && !c.neg)=true›),enc_snoc hR.2.2⟩
      · simp only;omega
     ·
      refine AW.seq (Qsr (Qp Qmi ?_))
      refine Qp Qceq ?_
      refine Qp Qab ?_
      refine Qnn (Qif (fun hc6=>?_) fun hc6=>?_)
      ·
       refine Qst (Qif (fun hc7=>?_) fun hc7=>?_)
       ·
        refine AW.region (Qp (P_move (v:=.fn _ _ _) rfl) ?_)
        refine Qp Qmi ?_
        refine Qp Qmi ?_
        refine Qp (Qf [.int .i64 _]) ?_
        refine Qp Qli ?_
        refine Qp (P_sub rfl rfl rfl (by constructor <;> omega)) ?_
        refine Qe (E_call (by kernel_rfl) rfl rfl rfl (ACall.front2 (R:=_::_::_::_) 4 3 rfl rfl rfl (d_add1 b6 _ p.2.2.2.2 _ (numTm (addTm (addTm p.2.1.ts (numericS T V c).1.plus) (numericS T V c).1.minus) (numericS T V c).1.minus) (numTm (addTm p.2.1.ts (numericS T V c).1.plus) (numericS T V c).1.plus) ((numericS T V c).1.rest - 1) (Nat.le_trans hel (by decide)) hsb))) ?_
        rintro _ _ ⟨u1,rfl,rfl⟩
        refine AOL.nil (blkN (blkN (thenN (AW.region (Qp Qad ?_)))))
        refine Qp Qmi ?_
        refine Qnn ?_
        refine ⟨(p.1+1,⟨(addTm (addTm p.2.1.ts (numericS T V c).1.plus) (numericS T V c).1.minus),p.2.1.bs++[⟨(numTm (addTm (addTm p.2.1.ts (numericS T V c).1.plus) (numericS T V c).1.minus) (numericS T V c).1.minus),(numTm (addTm p.2.1.ts (numericS T V c).1.plus) (numericS T V c).1.plus),(numericS T V c).1.rest - 1⟩]⟩,w2,u1,(p.2.2.2.2++[cBd ⟨(numTm (addTm (addTm p.2.1.ts (numericS T V c).1.plus) (numericS T V c).1.minus) (numericS T V c).1.minus),(numTm (addTm p.2.1.ts (numericS T V c).1.plus) (numericS T V c).1.plus),(numericS T V c).1.rest - 1⟩])),?_,?_,GS.weaken ⟨rfl,rfl,rfl,rfl,rfl,rfl,rfl,trivial⟩ (.refl _)⟩
        · exact ⟨hlt,sys_next hc hR.2.1 hnum (bd_3 ‹(c.cond.op == 1&&c.neg)=false› ‹(c.cond.op == 8 && !c.neg)=false› ‹(c.cond.op == 1)=true›),enc_snoc hR.2.2⟩
        · simp only;omega
       ·
        exact absurd (hc7.symm.trans hc6) (by decide)
      ·
       refine AW.region (Qp Qmi ?_)
       refine Qp Qceq ?_
       refine Qp Qab ?_
       refine Qnn (Qif (fun hc8=>?_) fun hc8=>?_)
       ·
        refine AW.region (Qp (P_move (v:=.fn _ _ _) rfl) ?_)
        refine Qp Qmi ?_
        refine Qp Qmi ?_
        refine Qp (Qf [.int .i64 _]) ?_
        refine Qp Qli ?_
        refine Qp (P_sub rfl rfl rfl (by constructor <;> omega)) ?_
        refine Qe (E_call (by kernel_rfl) rfl rfl rfl (ACall.front2 (R:=_::_::_::_) 4 3 rfl rfl rfl (d_add1 b6 _ p.2.2.2.2 _ (numTm (addTm (addTm p.2.1.ts (numericS T V c).1.plus) (numericS T V c).1.minus) (numericS T V c).1.minus) (numTm (addTm p.2.1.ts (numericS T V c).1.plus) (numericS T V c).1.plus) ((numericS T V c).1.rest - 1) (Nat.le_trans hel (by decide)) hsb))) ?_
        rintro _ _ ⟨u1,rfl,rfl⟩
        refine AOL.nil (blkN (blkN (thenN (AW.region (Qp Qad ?_)))))
        refine Qp Qmi ?_
        refine Qnn ?_
        refine ⟨(p.1+1,⟨(addTm (addTm p.2.1.ts (numericS T V c).1.plus) (numericS T V c).1.minus),p.2.1.bs++[⟨(numTm (addTm (addTm p.2.1.ts (numericS T V c).1.plus) (numericS T V c).1.minus) (numericS T V c).1.minus),(numTm (addTm p.2.1.ts (numericS T V c).1.plus) (numericS T V c).1.plus),(numericS T V c).1.rest - 1⟩]⟩,w2,u1,(p.2.2.2.2++[cBd ⟨(numTm (addTm (addTm p.2.1.ts (numericS T V c).1.plus) (numericS T V c).1.minus) (numericS T V c).1.minus),(numTm (addTm p.2.1.ts (numericS T V c).1.plus) (numericS T V c).1.plus),(numericS T V c).1.rest - 1⟩])),?_,?_,GS.weaken ⟨rfl,rfl,rfl,rfl,rfl,rfl,rfl,trivial⟩ (.refl _)⟩
        · exact ⟨hlt,sys_next hc hR.2.1 hnum (bd_4 ‹(c.cond.op == 1&&c.neg)=false› ‹(c.cond.op == 8 && !c.neg)=false› ‹(c.cond.op == 8)=true›),enc_snoc hR.2.2⟩
        · simp only;omega
       ·
        refine Qsr (Qp Qmi ?_)
        refine Qp Qceq ?_
        refine Qp Qmb ?_
        refine Qg [] Qw (Qf [.bool _]) ?_
        refine Qg [(98,_)] Qw Qlb ?_
        refine Qg [(99,_)] Qw Qnt ?_
        refine Qp Qpa ?_
        refine Qp Qab ?_
        refine Qnn (Qif (fun hc9=>?_) fun hc9=>?_)
        ·
         refine AW.region (Qp (P_move (v:=.fn _ _ _) rfl) ?_)
         refine Qp Qmi ?_
         refine Qp Qmi ?_
         refine Qp (Qf [.int .i64 _]) ?_
         refine Qp Qli ?_
         refine Qp (P_neg rfl rfl (by constructor <;> omega)) ?_
         refine Qp (P_sub rfl rfl rfl (by constructor <;> omega)) ?_
         refine Qe (E_call (by kernel_rfl) rfl rfl rfl (ACall.front2 (R:=_::_::_::_) 4 3 rfl rfl rfl (d_add1 b6 _ p.2.2.2.2 _ (numTm (addTm p.2.1.ts (numericS T V c).1.plus) (numericS T V c).1.plus) (numTm (addTm (addTm p.2.1.ts (numericS T V c).1.plus) (numericS T V c).1.minus) (numericS T V c).1.minus) (0 - (numericS T V c).1.rest - 1) (Nat.le_trans hel (by decide)) hsb))) ?_
         rintro _ _ ⟨u1,rfl,rfl⟩
         refine AOL.nil (blkN (blkN (thenN (AW.region (Qp Qad ?_)))))
         refine Qp Qmi ?_
         refine Qnn ?_
         refine ⟨(p.1+1,⟨(addTm (addTm p.2.1.ts (numericS T V c).1.plus) (numericS T V c).1.minus),p.2.1.bs++[⟨(numTm (addTm p.2.1.ts (numericS T V c).1.plus) (numericS T V c).1.plus),(numTm (addTm (addTm p.2.1.ts (numericS T V c).1.plus) (numericS T V c).1.minus) (numericS T V c).1.minus),0 - (numericS T V c).1.rest - 1⟩]⟩,w2,u1,(p.2.2.2.2++[cBd ⟨(numTm (addTm p.2.1.ts (numericS T V c).1.plus) (numericS T V c).1.plus),(numTm (addTm (addTm p.2.1.ts (numericS T V c).1.plus) (numericS T V c).1.minus) (numericS T V c).1.minus),0 - (numericS T V c).1.rest - 1⟩])),?_,?_,GS.weaken ⟨rfl,rfl,rfl,rfl,rfl,rfl,rfl,trivial⟩ (.refl _)⟩
         · exact ⟨hlt,sys_next hc hR.2.1 hnum (bd_5 ‹(c.cond.op == 1&&c.neg)=false› ‹(c.cond.op == 8 && !c.neg)=false› ‹(c.cond.op == 1)=false› ‹(c.cond.op == 8)=false› ‹(c.cond.op == 7 && !c.neg)=true›),enc_snoc hR.2.2⟩
         · simp only;omega
        ·
         refine Qsr (Qp Qmi ?_)
         refine Qp Qceq ?_
         refine Qp Qab ?_
         refine Qnn (Qif (fun hc10=>?_) fun hc10=>?_)
         ·
          refine AW.region (Qp (P_move (v:=.fn _ _ _) rfl) ?_)
          refine Qp Qmi ?_
          refine Qp Qmi ?_
          refine Qp (Qf [.int .i64 _]) ?_
          refine Qp Qli ?_
          refine Qe (E_call (by kernel_rfl) rfl rfl rfl (ACall.front2 (R:=_::_::_::_) 4 3 rfl rfl rfl (d_add1 b6 _ p.2.2.2.2 _ (numTm (addTm (addTm p.2.1.ts (numericS T V c).1.plus) (numericS T V c).1.minus) (numericS T V c).1.minus) (numTm (addTm p.2.1.ts (numericS T V c).1.plus) (numericS T V c).1.plus) ((numericS T V c).1.rest) (Nat.le_trans hel (by decide)) hsb))) ?_
          rintro _ _ ⟨u1,rfl,rfl⟩
          refine AOL.nil (blkN (blkN (thenN (AW.region (Qp Qad ?_)))))
          refine Qp Qmi ?_
          refine Qnn ?_
          refine ⟨(p.1+1,⟨(addTm (addTm p.2.1.ts (numericS T V c).1.plus) (numericS T V c).1.minus),p.2.1.bs++[⟨(numTm (addTm (addTm p.2.1.ts (numericS T V c).1.plus) (numericS T V c).1.minus) (numericS T V c).1.minus),(numTm (addTm p.2.1.ts (numericS T V c).1.plus) (numericS T V c).1.plus),(numericS T V c).1.rest⟩]⟩,w2,u1,(p.2.2.2.2++[cBd ⟨(numTm (addTm (addTm p.2.1.ts (numericS T V c).1.plus) (numericS T V c).1.minus) (numericS T V c).1.minus),(numTm (addTm p.2.1.ts (numericS T V c).1.plus) (numericS T V c).1.plus),(numericS T V c).1.rest⟩])),?_,?_,GS.weaken ⟨rfl,rfl,rfl,rfl,rfl,rfl,rfl,trivial⟩ (.refl _)⟩
          · exact ⟨hlt,sys_next hc hR.2.1 hnum (bd_6 ‹(c.cond.op == 1&&c.neg)=false› ‹(c.cond.op == 8 && !c.neg)=false› ‹(c.cond.op == 1)=false› ‹(c.cond.op == 8)=false› ‹(c.cond.op == 7 && !c.neg)=false› ‹(c.cond.op == 7)=true›),enc_snoc hR.2.2⟩
          · simp only;omega
         ·
          refine Qsr (Qp (P_move (v:=.fn _ _ _) rfl) ?_)
          refine Qp Qmi ?_
          refine Qp Qmi ?_
          refine Qp (Qf [.int .i64 _]) ?_
          refine Qp Qli ?_
          refine Qp (P_neg rfl rfl (by constructor <;> omega)) ?_
          refine Qe (E_call (by kernel_rfl) rfl rfl rfl (ACall.front2 (R:=_::_::_::_) 4 3 rfl rfl rfl (d_add1 b6 _ p.2.2.2.2 _ (numTm (addTm p.2.1.ts (numericS T V c).1.plus) (numericS T V c).1.plus) (numTm (addTm (addTm p.2.1.ts (numericS T V c).1.plus) (numericS T V c).1.minus) (numericS T V c).1.minus) (0 - (numericS T V c).1.rest) (Nat.le_trans hel (by decide)) hsb))) ?_
          rintro _ _ ⟨u1,rfl,rfl⟩
          refine Qnn (AW.region (Qp (P_move (v:=.fn _ _ _) rfl) ?_))
          refine Qp Qmi ?_
          refine Qp Qmi ?_
          refine Qp (Qf [.int .i64 _]) ?_
          refine Qp Qli ?_
          refine Qe (E_call (by kernel_rfl) rfl rfl rfl (ACall.front2 (R:=_::_::_::_) 1 0 rfl rfl rfl (d_add1 b6 _ (p.2.2.2.2++[cBd ⟨(numTm (addTm p.2.1.ts (numericS T V c).1.plus) (numericS T V c).1.plus),(numTm (addTm (addTm p.2.1.ts (numericS T V c).1.plus) (numericS T V c).1.minus) (numericS T V c).1.minus),0 - (numericS T V c).1.rest⟩]) _ (numTm (addTm (addTm p.2.1.ts (numericS T V c).1.plus) (numericS T V c).1.minus) (numericS T V c).1.minus) (numTm (addTm p.2.1.ts (numericS T V c).1.plus) (numericS T V c).1.plus) ((numericS T V c).1.rest) (by rw [List.length_append];simp;omega) (fun d hd=>(List.mem_append.1 hd).elim (hsb d) (sc_one rfl d))))) ?_
          rintro _ _ ⟨u2,rfl,rfl⟩
          refine AOL.nil (blkN (blkN (thenN (AW.region (Qp Qad ?_)))))
          refine Qp Qmi ?_
          refine Qnn ?_
          refine ⟨(p.1+1,⟨(addTm (addTm p.2.1.ts (numericS T V c).1.plus) (numericS T V c).1.minus),p.2.1.bs++[⟨(numTm (addTm p.2.1.ts (numericS T V c).1.plus) (numericS T V c).1.plus),(numTm (addTm (addTm p.2.1.ts (numericS T V c).1.plus) (numericS T V c).1.minus) (numericS T V c).1.minus),0 - (numericS T V c).1.rest⟩,⟨(numTm (addTm (addTm p.2.1.ts (numericS T V c).1.plus) (numericS T V c).1.minus) (numericS T V c).1.minus),(numTm (addTm p.2.1.ts (numericS T V c).1.plus) (numericS T V c).1.plus),(numericS T V c).1.rest⟩]⟩,w2,u2,((p.2.2.2.2++[cBd ⟨(numTm (addTm p.2.1.ts (numericS T V c).1.plus) (numericS T V c).1.plus),(numTm (addTm (addTm p.2.1.ts (numericS T V c).1.plus) (numericS T V c).1.minus) (numericS T V c).1.minus),0 - (numericS T V c).1.rest⟩])++[cBd ⟨(numTm (addTm (addTm p.2.1.ts (numericS T V c).1.plus) (numericS T V c).1.minus) (numericS T V c).1.minus),(numTm (addTm p.2.1.ts (numericS T V c).1.plus) (numericS T V c).1.plus),(numericS T V c).1.rest⟩])),?_,?_,GS.weaken ⟨rfl,rfl,rfl,rfl,rfl,rfl,rfl,trivial⟩ (.refl _)⟩
          · exact ⟨hlt,sys_next hc hR.2.1 hnum (bd_7 ‹(c.cond.op == 1&&c.neg)=false› ‹(c.cond.op == 8 && !c.neg)=false› ‹(c.cond.op == 1)=false› ‹(c.cond.op == 8)=false› ‹(c.cond.op == 7 && !c.neg)=false› ‹(c.cond.op == 7)=false›),enc_snoc2 hR.2.2⟩
          · simp only;omega
  ·
   have hte:=take_end hc1
   have hS:=hR.2.1
   rw [hte] at hS
   have hpt:=hgo.terms
   rw [←hS] at hpt hgl
   refine AW.exit ?_
   refine thenE (thenE (blkHit (thenN (Qsr (Qp Qmv ?_)))))
   refine Qp Qmv ?_
   refine Qp (P_nilCheck rfl) ?_
   refine Qp Qfv ?_
   refine AOL.pk (P_load_box (k:=3) (c:=.row _ _ _) tok rfl rfl rfl rfl) rfl rfl ?_
   refine Qp (P_len_row (n:=p.2.1.ts.length) tok rfl rfl rfl (by simp)) ?_
   refine Qp Qad ?_
   refine Qp (P_nilCheck rfl) ?_
   refine Qp Qfv ?_
   refine Qp Qfv ?_
   refine Qe (E_store (k:=3) (v:=.int .i64 _) (cs':=[.int .i64 _,_,_,_]) (H2:=_::_::_::_::_::_) tok rfl rfl rfl rfl (rfl) rfl rfl rfl rfl) ?_
   rintro _ _ ⟨rfl,rfl⟩
   refine Qnn (AW.seq (Qsr (Qp Qmv ?_)))
   refine Qp (P_nilCheck rfl) ?_
   refine Qp Qfv ?_
   refine AOL.pk (P_load_box (k:=3) (c:=.row _ _ _) tok rfl rfl rfl rfl) rfl rfl ?_
   refine Qp (P_len_row (n:=p.2.1.ts.length) tok rfl rfl rfl (by simp)) ?_
   refine Qp Qmi ?_
   refine AOL.ghost (GS.cellRow 3 1 94 3 rfl rfl rfl rfl) ?_
   refine Qnn (AW.block ?_)
   refine AW.loopS (fun (q:Nat×Value×List (List AV))=>(⟨[(2,.ptr (cScene T V)),(5,.val (.pointer (some ⟨b21,0,none⟩))),(6,.val (.pointer (some ⟨b6,0,none⟩))),(133,.row p.2.2.1 3 (p.2.1.ts.map cTm)),(134,.int .i64 p.2.1.ts.length),(135,.int .i64 (q.1:Int))],.row q.2.1 q.2.2.length 94 3 :: .row p.2.2.2.1 p.2.2.2.2.length 94 3 :: .box b6 88 [.row p.2.2.2.1 3 p.2.2.2.2] :: .row p.2.2.1 (p.2.1.ts.map cTm).length 143 3 :: .box b21 141 [.int .i64 ((p.2.1.ts.length:Int)+1),.row q.2.1 3 q.2.2,.row p.2.2.1 3 (p.2.1.ts.map cTm),.val (.map (some b19))] :: .kmap b19 (yMap p.2.1.ts)::H,179⟩:St)) (fun (q:Nat×Value×List (List AV))=>q.1≤p.2.1.ts.length∧q.2.2=(limGo T V 0 (p.2.1.ts.take q.1)).map cBd) (fun (q:Nat×Value×List (List AV))=>p.2.1.ts.length - q.1) ((0,.slice none 0 0,[])) ?_ (GS.weaken ⟨rfl,rfl,rfl,rfl,rfl,rfl,trivial⟩ (.refl _)) ?_
   · exact ⟨Nat.zero_le _,rfl⟩
   ·
    rintro q hQ
    have hsz:∀c∈q.2.2,scalars c=true:=by rw [hQ.2];exact sc_map fun _=>rfl
    have hzl:q.2.2.length≤2*p.2.1.ts.length:=by rw [hQ.2,List.length_map,lim_len,List.length_take];omega
    refine Qsr (Qp Qclt ?_)
    refine Qnn (AW.seq (Qif (fun hc11=>?_) fun hc11=>?_))
    ·
     obtain ⟨t,ht⟩:=get_lt hc11
     have hlt2:=get_lt' ht
     have htm:=List.mem_of_getElem? ht
     refine Qst (AW.seq (AW.block (Qsr (Qp Qmi ?_))))
     refine Qp (P_indexAddr_row (c:=[.int .i64 _,.int .i64 _,.int .i64 _]) tok rfl rfl rfl rfl rfl rfl (by omega) (map_at ht)) ?_
     refine Qp (Qlg [.int .i64 _,.int .i64 _,.int .i64 _]) ?_
     refine Qe (E_alloc (l:=[.int .i64 0,.int .i64 0,.int .i64 0]) (by kernel_rfl)) ?_
     rintro _ _ ⟨b16,rfl,rfl⟩
     refine Qp Qai ?_
     refine Qe (E_store (k:=0) (v:=.agg _) (cs':=[.int .i64 _,.int .i64 _,.int .i64 _]) (H2:=_::_::_::_::_::_::_::_) tok rfl rfl rfl rfl (rfl) rfl rfl rfl rfl) ?_
     rintro _ _ ⟨rfl,rfl⟩
     refine AOL.ghost (GS.freeze (t:=16) 0 rfl rfl) ?_
     refine Qns (Qp (Qlg [_,_]) ?_)
     refine Qp (Qlg [.int .i64 _,.int .i64 _,.int .i64 _]) ?_
     refine Qp (Qc rfl (d_limits T V t (hpt t htm))) ?_
     refine Qp Qmu ?_
     refine Qp Qxi ?_
     refine Qp Qxi ?_
     refine Qp Qai ?_
     refine Qp Qai ?_
     refine Qnn ?_
     have hlr:=limits_range (T:=T) (V:=V) t
     refine AW.region (Qp Qmv ?_)
     refine Qp Qmv ?_
     refine Qp (P_nilCheck rfl) ?_
     refine Qp Qfv ?_
     refine Qp Qfv ?_
     refine AOL.pk (P_load_box (k:=4) (c:=.row _ _ _) tok rfl rfl rfl rfl) rfl rfl ?_
     refine Qp Qmi ?_
     refine Qp Qad ?_
     refine Qp Qmi ?_
     refine Qp (Qbd [.int .i64 _,.int .i64 _,.int .i64 _]) ?_
     refine Qp Qmi ?_
     refine Qp Qad ?_
     refine Qp Qmi ?_
     refine Qp (P_neg rfl rfl (by constructor <;> omega)) ?_
     refine Qp (Qbd [.int .i64 _,.int .i64 _,.int .i64 _]) ?_
     refine Qp (P_buildSlice (es:=[[.int .i64 _,.int .i64 _,.int .i64 _],[.int .i64 _,.int .i64 _,.int .i64 _]]) tok rfl rfl rfl rfl rfl rfl rfl rfl rfl) ?_
     refine Qe (E_append (k:=0) tok rfl rfl rfl rfl rfl rfl rfl rfl ((sc_two rfl rfl)) (hsz) (by simp;omega) (by simp [maxLen];omega)) ?_
     rintro _ _ ⟨v162,rfl,rfl⟩
     refine Qp (P_nilCheck rfl) ?_
     refine Qp Qfv ?_
     refine Qp Qfv ?_
     refine Qe (E_store (k:=4) (v:=.row _ _ _) (cs':=[.int .i64 _,_,_,_]) (H2:=_::_::_::_::_::_::_) tok rfl rfl rfl rfl (rfl) rfl rfl rfl rfl) ?_
     rintro _ _ ⟨rfl,rfl⟩
     refine AOL.nil (blkN (thenN (AW.region (Qp Qad ?_))))
     refine Qp Qmi ?_
     refine Qnn ?_
     refine ⟨(q.1+1,v162,q.2.2++[cBd ⟨(q.1:Int)+1,0,(limitsS T V t).2⟩,cBd ⟨0,(q.1:Int)+1,0 - (limitsS T V t).1⟩]),?_,?_,GS.weaken ⟨rfl,rfl,rfl,rfl,rfl,rfl,trivial⟩ (.refl _)⟩
     · exact ⟨hlt2,by simp only;rw [lim_take ht,List.map_append,hQ.2];rfl⟩
     · simp only;omega
    ·
     have hte2:=take_end hc11
     have hQe:=hQ.2
     rw [hte2] at hQe
     refine AW.exit ?_
     refine thenE (thenE (blkHit (thenN (AW.seq ?_))))
     refine AW.ghost (GS.cell (H2:=_::_::_::_::_::_::_) 2 0 rfl rfl rfl rfl unrow_cell) ?_
     have hsz:∀c∈q.2.2,scalars c=true:=by rw [hQ.2];exact sc_map fun _=>rfl
     have hzl:q.2.2.length≤2*p.2.1.ts.length:=by rw [hQ.2,List.length_map,lim_len,List.length_take];omega
     refine AW.draw mixed (fun H'=>_∈H'∧_∈H') ⟨(List.mem_of_getElem? (i:=4) rfl),(List.mem_of_getElem? (i:=2) rfl)⟩ (by kernel_rfl) ?_
     refine Qn 0 rfl Qmv ?_
     refine Qn 1 rfl Qmv ?_
     refine Qn 2 rfl (P_nilCheck rfl) ?_
     refine Qn 3 rfl Qfv ?_
     refine Qn 4 rfl Qfv ?_
     refine Qn 5 rfl (OpP.mem (fun k=>P_load_box (k:=k) (c:=.row _ _ _) tok rfl rfl rfl rfl) (fun _ h=>h.1)) ?_
     refine Qn 6 rfl (OpP.mem (fun k=>P_load_box (k:=k) (c:=.sl _ _) tok rfl rfl rfl rfl) (fun _ h=>h.2)) ?_
     refine Canon.eff _ _ 7 _ _ rfl (by kernel_rfl) rfl rfl (E_append (k:=0) tok rfl rfl rfl rfl rfl rfl rfl rfl (hsb) (hsz) (by simp;omega) (by simp [maxLen];omega)) (by rintro _ _ ⟨v174,rfl,rfl⟩;simp) ?_
     rintro _ _ ⟨v174,rfl,rfl⟩
     refine Qn 8 rfl (P_nilCheck rfl) ?_
     refine Qn 9 rfl Qfv ?_
     refine Qn 10 rfl Qfv ?_
     refine Canon.last _ _ 11 _ _ rfl (by kernel_rfl) rfl rfl (E_store (k:=4) (v:=.row _ _ _) (cs':=[.int .i64 _,_,_,_]) (H2:=_::_::_::_::_::_::_) tok rfl rfl rfl rfl (rfl) rfl rfl rfl rfl) (by kernel_rfl) ?_
     rintro _ _ ⟨rfl,rfl⟩
     refine thenN (AW.seq ?_)
     refine AW.ghost (GS.cell (H2:=_::_::_::_::_::_::_) 4 1 rfl rfl rfl rfl unrow_cell) ?_
     refine AW.ghost (GS.cell (H2:=_::_::_::_::_::_::_) 4 2 rfl rfl rfl rfl unrow_cell) ?_
     refine AW.ghost (GS.cell (H2:=_::_::_::_::_::_::_) (c':=.junk) 4 3 rfl rfl rfl rfl (fun _ _ _ _=>.junk _)) ?_
     refine AW.ghost (GS.freeze (t:=5) 4 rfl rfl) ?_
     refine AW.region (Qp Qmp ?_)
     refine Qp Qap ?_
     refine Qnn (AW.ret ?_)
     refine ⟨.inr rfl,[.ptr _],.cons (.tmp _ _ rfl) <| .nil,.cons _ (.cons _ (.cons _ (.cons _ (.cons _ (.refl _))))),?_⟩
     exact Eq.trans rfl (cSy_eq hS hQe hR.2.2)
theorem d_Zone (T:List Sc)(hl:T.length≤1048576)(hst:∀s∈T,scOK s)(V:List Va)(hvl:V.length≤1048576)(l:List Lit)(hll:l.length≤1048576)(hls:∀c∈l,sizeN c.cond≤1048576):APure Tryz.prog 43 [.sl 2 (T.map cSc),.sl 2 (V.map cVa),.sl 9 (l.map cLit)] (.tuple [.agg (cZn (ZoneS T V l).zone),.sl 8 ((ZoneS T V l).terms.map encE),.int .i64 (ZoneS T V l).err]):=by
 refine APure.body (n:=52) tok Tryz.func43 rfl rfl rfl fun H=>?_
 refine Qsr (Qe (E_alloc (l:=[.int .i64 0,.sl 3 []]) (by kernel_rfl)) ?_)
 rintro _ _ ⟨b6,rfl,rfl⟩
 refine Qp (P_assign_nil (z:=8) rfl) ?_
 refine Qp Qai ?_
 refine Qns (Qp Qms ?_)
 refine Qp Qms ?_
 refine Qp (Qbd [_,_]) ?_
 refine Qe (E_alloc (l:=[.sl 2 [],.sl 2 []]) (by kernel_rfl)) ?_
 rintro _ _ ⟨b9,rfl,rfl⟩
 refine Qe (E_store (k:=0) (v:=.agg _) (cs':=[_,_]) (H2:=_::_::_) tok rfl rfl rfl rfl (rfl) rfl rfl rfl rfl) ?_
 rintro _ _ ⟨rfl,rfl⟩
 refine AOL.ghost (GS.freeze (t:=9) 0 rfl rfl) ?_
 refine Qnn (AW.seq (Qsr (Qp (Qlg [_,_]) ?_)))
 refine Qp Qms ?_
 refine Qp (Qc rfl (d_clause T hl hst V hvl l hll hls)) ?_
 refine Qp Qai ?_
 refine Qns (Qp Qmi ?_)
 refine Qp Qcne ?_
 refine Qnn (Qif (fun hc1=>?_) fun hc1=>?_)
 ·
  refine Qsr (Qp (Qbd [.int .i64 _,_]) ?_)
  refine Qp Qmi ?_
  refine Qe (E_store (k:=0) (v:=.agg _) (cs':=[.int .i64 _,_]) (H2:=_::_) tok rfl rfl rfl rfl (rfl) rfl rfl rfl rfl) ?_
  rintro _ _ ⟨rfl,rfl⟩
  refine Qp (P_assign_nil (z:=8) rfl) ?_
  refine Qp Qai ?_
  refine Qnn (Qrt ?_)
  refine ⟨.inr rfl,[.agg [.int .i64 _,_],.sl _ _,.int .i64 _],.cons (.box _ _ _ 0 _ _ _ _ rfl rfl rfl rfl rfl rfl) <| .cons (.tmp _ _ rfl) <| .cons (.tmp _ _ rfl) <| .nil,.cons _ (.refl _),?_⟩
  exact Eq.trans rfl (congrArg (fun q:Zr=>AV.tuple [.agg (cZn q.zone),.sl 8 (q.terms.map encE),.int .i64 q.err]) (Zone_1 hc1)).symm
 ·
  have hok:=clause_ok hc1
  have hgl:=(sysGo_ok hok.1).len
  have hol:=hok.2
  refine Qst (Qsr (Qp (Qlg [_,_]) ?_))
  refine Qp Qms ?_
  refine Qp (Qc rfl (d_system T V l (Nat.le_trans hok.2 (by decide)) hok.1)) ?_
  refine Qp Qap ?_
  refine Qnn (AW.seq (Qsr (Qp Qmp ?_)))
  refine Qp (Qc rfl (d_fits T V l)) ?_
  refine Qp Qnt ?_
  refine Qnn (Qif (fun hc2=>?_) fun hc2=>?_)
  ·
   refine Qsr (Qp (Qbd [.int .i64 _,_]) ?_)
   refine Qe (E_store (k:=0) (v:=.agg _) (cs':=[.int .i64 _,_]) (H2:=_::_) tok rfl rfl rfl rfl (rfl) rfl rfl rfl rfl) ?_
   rintro _ _ ⟨rfl,rfl⟩
   refine Qp (P_assign_nil (z:=8) rfl) ?_
   refine Qp Qai ?_
   refine Qnn (Qrt ?_)
   refine ⟨.inr rfl,[.agg [.int .i64 _,_],.sl _ _,.int .i64 _],.cons (.box _ _ _ 0 _ _ _ _ rfl rfl rfl rfl rfl rfl) <| .cons (.tmp _ _ rfl) <| .cons (.tmp _ _ rfl) <| .nil,.cons _ (.refl _),?_⟩
   exact Eq.trans rfl (congrArg (fun q:Zr=>AV.tuple [.agg (cZn q.zone),.sl 8 (q.terms.map encE),.int .i64 q.err]) (Zone_2 hc1 hc2)).symm
  ·
   refine Qst (Qsr (Qp Qav ?_))
   refine AOL.ghost (GS.row (t:=12) 30 8 rfl) ?_
   refine Qnn (AW.seq (Qsr (Qp Qmp ?_)))
   refine Qp (P_nilCheck_ptr rfl) ?_
   refine Qp (Qf [_,_]) ?_
   refine Qp Qls ?_
   refine Qp (P_len_sl (n:=(sysGo T V l).ts.length) tok rfl rfl rfl (by simp)) ?_
   refine Qp Qmi ?_
   refine Qnn (AW.block ?_)
   refine AW.loopS (fun (p:Nat×List (List AV)×Value)=>(⟨[(6,.val (.pointer (some ⟨b6,0,none⟩))),(11,.ptr (cSy T V l)),(12,.row p.2.2 8 p.2.1),(35,.sl 3 ((sysGo T V l).ts.map cTm)),(36,.int .i64 (sysGo T V l).ts.length),(37,.int .i64 (p.1:Int))],.row p.2.2 p.2.1.length 30 8 :: .box b6 90 [.int .i64 0,.sl 3 []]::H,52⟩:St)) (fun (p:Nat×List (List AV)×Value)=>p.1≤(sysGo T V l).ts.length∧p.2.1=((sysGo T V l).ts.take p.1).map fun t=>cE (tmE t)) (fun (p:Nat×List (List AV)×Value)=>(sysGo T V l).ts.length - p.1) ((0,[],.slice none 0 0)) ?_ (GS.weaken ⟨rfl,rfl,rfl,rfl,rfl,rfl,trivial⟩ (.refl _)) ?_
   · exact ⟨Nat.zero_le _,rfl⟩
   ·
    rintro p hR
    have hsc:∀c∈p.2.1,scalars c=true:=by rw [hR.2];exact sc_map fun _=>rfl
    have hpl:p.2.1.length≤p.1:=by rw [hR.2];simp;omega
    refine Qsr (Qp Qclt ?_)
    refine Qnn (AW.seq (Qif (fun hc3=>?_) fun hc3=>?_))
    ·
     obtain ⟨t,ht⟩:=get_lt hc3
     have hlt:=get_lt' ht
     refine Qst (AW.seq (AW.block (Qsr (Qp (P_indexAddr (c:=[.int .i64 _,.int .i64 _,.int .i64 _]) tok rfl rfl rfl rfl rfl rfl (by omega) (map_at ht)) ?_))))
     refine Qp (Qlg [.int .i64 _,.int .i64 _,.int .i64 _]) ?_
     refine Qe (E_alloc (l:=[.int .i64 0,.int .i64 0,.int .i64 0]) (by kernel_rfl)) ?_
     rintro _ _ ⟨b14,rfl,rfl⟩
     refine Qe (E_store (k:=0) (v:=.agg _) (cs':=[.int .i64 _,.int .i64 _,.int .i64 _]) (H2:=_::_::_::_) tok rfl rfl rfl rfl (rfl) rfl rfl rfl rfl) ?_
     rintro _ _ ⟨rfl,rfl⟩
     refine AOL.ghost (GS.freeze (t:=14) 0 rfl rfl) ?_
     refine Qnn (AW.region (Qp (P_move (v:=.row _ _ _) rfl) ?_))
     refine Qp (Qlg [.int .i64 _,.int .i64 _,.int .i64 _]) ?_
     refine Qp (Qc rfl (d_expr t)) ?_
     refine Qp (P_buildSlice (es:=[[.int .i64 _,_,.int .i64 _,.int .i64 _,.int .i64 _,.int .i64 _,.int .i64 _,.str _]]) tok rfl rfl rfl rfl rfl rfl rfl rfl rfl) ?_
     refine Qe (E_append (k:=0) tok rfl rfl rfl rfl rfl rfl rfl rfl (sc_one rfl) (hsc) (by simp;omega) (by simp [maxLen];omega)) ?_
     rintro _ _ ⟨v45,rfl,rfl⟩
     refine Qp (P_assign (v:=.row _ _ _) rfl) ?_
     refine AOL.nil (blkN (thenN (AW.region (Qp Qad ?_))))
     refine Qp Qmi ?_
     refine Qnn ?_
     refine ⟨(p.1+1,p.2.1++[cE (tmE t)],v45),?_,?_,GS.weaken ⟨rfl,rfl,rfl,rfl,rfl,rfl,trivial⟩ (.refl _)⟩
     · exact ⟨hlt,by simp only;rw [take_get ht,hR.2,List.map_append];rfl⟩
     · simp only;omega
    ·
     have hte:=take_end hc3
     have hall:=hR.2
     rw [hte] at hall
     refine AW.exit ?_
     refine thenE (thenE (blkHit (thenN (Qsr (Qp Qmp ?_)))))
     refine Qp (P_nilCheck_ptr rfl) ?_
     refine Qp (Qf [.int .i64 _,_,_,_]) ?_
     refine Qp (Qlg [.int .i64 _,_]) ?_
     refine Qp (P_move (v:=.row _ _ _) rfl) ?_
     refine Qe (E_store (k:=1) (v:=.agg _) (cs':=[.int .i64 _,_]) (H2:=_::_::_) tok rfl rfl rfl rfl (rfl) rfl rfl rfl rfl) ?_
     rintro _ _ ⟨rfl,rfl⟩
     refine AOL.ghost (GS.unrow 51 rfl) ?_
     refine Qp Qas ?_
     refine Qp Qai ?_
     refine Qnn (AW.ret ?_)
     refine ⟨.inr rfl,[.agg [.int .i64 _,_],.sl _ _,.int .i64 _],.cons (.box _ _ _ 1 _ _ _ _ rfl rfl rfl rfl rfl rfl) <| .cons (.tmp _ _ rfl) <| .cons (.tmp _ _ rfl) <| .nil,.cons _ (.cons _ (.refl _)),?_⟩
     rw [hall,show ((sysGo T V l).ts.map fun t=>cE (tmE t))=((sysGo T V l).ts.map tmE).map encE by rw [List.map_map];exact List.map_congr_left fun t _=>(encE_eq _).symm]
     exact Eq.trans rfl (congrArg (fun q:Zr=>AV.tuple [.agg (cZn q.zone),.sl 8 (q.terms.map encE),.int .i64 q.err]) (Zone_3 hc1 hc2)).symm

end Go.Proofs.YtkddpedfbicbeaaGreatDoor

namespace Go.Proofs.YtkddpedfbicbeaaGreatDoor
open Go Go.Aw
set_option maxHeartbeats 3200000
set_option maxRecDepth 20000
set_option linter.unusedVariables false
set_option linter.unusedSimpArgs false

theorem d_asWord (e:Ex):APure Tryz.prog 164 [.agg (cE e)] (.agg (cWd (asWd e))):=by
 refine APure.body (n:=18) tok Tryz.func164 rfl rfl rfl fun H=>?_
 refine Qsr (Qp Qbe ?_)
 refine Qe (E_alloc (l:=[.bool false,.str [],.int .i64 0,.int .i64 0,.int .i64 0]) (by kernel_rfl)) ?_
 rintro _ _ ⟨b2,rfl,rfl⟩
 refine Qnn (AW.seq (Qsr (Qp Qf0 ?_)))
 refine Qp Qli ?_
 refine Qp Qceq ?_
 refine Qnn (Qif (fun hc1=>?_) fun hc1=>?_)
 ·
  refine Qsr (Qp Qf5 ?_)
  refine Qp Qf7 ?_
  refine Qp Qlt ?_
  refine Qp (Qbd [.bool _,.str _,.int .i64 _,.int .i64 _,.int .i64 _]) ?_
  refine Qe (E_store (k:=0) (v:=.agg _) (cs':=[.bool _,.str _,.int .i64 _,.int .i64 _,.int .i64 _]) (H2:=_::_) tok rfl rfl rfl rfl (rfl) rfl rfl rfl rfl) ?_
  rintro _ _ ⟨rfl,rfl⟩
  refine Qnn (Qrt ?_)
  refine ⟨.inr rfl,[.agg [.bool _,.str _,.int .i64 _,.int .i64 _,.int .i64 _]],.cons (.box _ _ _ 0 _ _ _ _ rfl rfl rfl rfl rfl rfl) <| .nil,.cons _ (.refl _),?_⟩
  exact Eq.trans rfl (congrArg (fun q:Wd=>AV.agg (cWd q)) (asWd_1 hc1)).symm
 ·
  refine Qst (Qsr (Qp Qf0 ?_))
  refine Qp Qli ?_
  refine Qp Qf2 ?_
  refine Qp Qli ?_
  refine Qp Qf3 ?_
  refine Qp Qli ?_
  refine Qp (Qbd [.int .i64 _,.int .i64 _,.int .i64 _]) ?_
  refine Qp (Qbd [.bool _,.str _,.int .i64 _,.int .i64 _,.int .i64 _]) ?_
  refine Qe (E_store (k:=0) (v:=.agg _) (cs':=[.bool _,.str _,.int .i64 _,.int .i64 _,.int .i64 _]) (H2:=_::_) tok rfl rfl rfl rfl (rfl) rfl rfl rfl rfl) ?_
  rintro _ _ ⟨rfl,rfl⟩
  refine Qnn (AW.ret ?_)
  refine ⟨.inr rfl,[.agg [.bool _,.str _,.int .i64 _,.int .i64 _,.int .i64 _]],.cons (.box _ _ _ 0 _ _ _ _ rfl rfl rfl rfl rfl rfl) <| .nil,.cons _ (.refl _),?_⟩
  exact Eq.trans rfl (congrArg (fun q:Wd=>AV.agg (cWd q)) (asWd_2 hc1)).symm
theorem d_of (m:Nat)(w:Wm)(hw:wOK w)(x:Wd)(R:List HO):ACall Tryz.prog 163 (.kmap m (wE w)::R) [.val (.map (some m)),.agg (cWd x)] (fun r H'=>r = .agg (cWd (ofS' w x))∧H' = .kmap m (wE w)::R):=by
 refine ACall.body (n:=17) tok Tryz.func163 rfl rfl rfl ?_
 refine Qsr (Qe (E_box (v:=.agg _) (cs:=[.bool _,.str _,.int .i64 _,.int .i64 _,.int .i64 _]) rfl rfl (rfl)) ?_)
 rintro _ _ ⟨b3,rfl,rfl⟩
 refine Qe (E_alloc (l:=[.bool false,.str [],.int .i64 0,.int .i64 0,.int .i64 0]) (by kernel_rfl)) ?_
 rintro _ _ ⟨b4,rfl,rfl⟩
 refine Qnn (AW.block ?_)
 refine AW.loopS (fun (p:Nat×Wd)=>(⟨[(0,.val (.map (some m))),(3,.val (.pointer (some ⟨b3,0,none⟩))),(4,.val (.pointer (some ⟨b4,0,none⟩)))],.box b4 214 [.bool false,.str [],.int .i64 0,.int .i64 0,.int .i64 0] :: .box b3 214 (cWd p.2) :: .kmap m (wE w)::R,17⟩:St)) (fun (p:Nat×Wd)=>wInv w p.1 p.2∧ofS' w x=ofGo w p.1 p.2) (fun (p:Nat×Wd)=>p.1) ((w.length,x)) ?_ (GS.weaken ⟨rfl,rfl,rfl,trivial⟩ (.refl _)) ?_
 · exact ⟨wInv_start w x,rfl⟩
 ·
  rintro p hR
  refine AW.block (Qsr (Qp Qmv ?_))
  refine AOL.pk (P_load_box_agg (k:=1) (l:=[.bool _,.str _,.int .i64 _,.int .i64 _,.int .i64 _]) tok rfl rfl rfl rfl rfl) rfl rfl ?_
  refine AOL.pk (P_klook2 (i:=2) (eq:=eqWd p.2) tok rfl rfl rfl rfl rfl (by kernel_rfl) rfl rfl (rfl) (wE_eq p.2 w) (look_w p.2 w) (has_w p.2 w)) rfl rfl ?_
  refine Qp Qmu ?_
  refine Qp (P_extract (v:=.agg [.bool _,.str _,.int .i64 _,.int .i64 _,.int .i64 _]) rfl rfl) ?_
  refine Qp Qxb ?_
  refine Qe (E_alloc (l:=[.bool false,.str [],.int .i64 0,.int .i64 0,.int .i64 0]) (by kernel_rfl)) ?_
  rintro _ _ ⟨b5,rfl,rfl⟩
  refine Qe (E_store (k:=0) (v:=.agg _) (cs':=[.bool _,.str _,.int .i64 _,.int .i64 _,.int .i64 _]) (H2:=_::_::_::_::_) tok rfl rfl rfl rfl (rfl) rfl rfl rfl rfl) ?_
  rintro _ _ ⟨rfl,rfl⟩
  refine Qp Qab ?_
  refine AOL.ghost (GS.freeze (t:=5) 0 rfl rfl) ?_
  refine Qnn (AW.seq (Qsr (Qp Qmb ?_)))
  refine Qp Qnt ?_
  refine Qnn (Qif (fun hc1=>?_) fun hc1=>?_)
  ·
   have hnn:=not_some hc1
   refine Qsr ?_
   refine AOL.pk (P_load_box_agg (k:=1) (l:=[.bool _,.str _,.int .i64 _,.int .i64 _,.int .i64 _]) tok rfl rfl rfl rfl rfl) rfl rfl ?_
   refine Qe (E_store (k:=0) (v:=.agg _) (cs':=[.bool _,.str _,.int .i64 _,.int .i64 _,.int .i64 _]) (H2:=_::_::_::_) tok rfl rfl rfl rfl (rfl) rfl rfl rfl rfl) ?_
   rintro _ _ ⟨rfl,rfl⟩
   refine Qnn (Qrt (blkR (thenR (blkR ?_))))
   refine ⟨.inr rfl,[.agg [.bool _,.str _,.int .i64 _,.int .i64 _,.int .i64 _]],.cons (.box _ _ _ 0 _ _ _ _ rfl rfl rfl rfl rfl rfl) <| .nil,_,.cons _ (.cons _ (.refl _)),?_⟩
   exact ⟨congrArg (fun q:Wd=>AV.agg (cWd q)) ((hR.2.trans (of_none hnn)).symm),rfl⟩
  ·
   have hyy:=is_some (d:=wd0) hc1
   have hst:=wInv_step hw hR.1 hyy
   refine Qst (AW.region (Qp (Qlg [.bool _,.str _,.int .i64 _,.int .i64 _,.int .i64 _]) ?_))
   refine Qe (E_store (k:=1) (v:=.agg _) (cs':=[.bool _,.str _,.int .i64 _,.int .i64 _,.int .i64 _]) (H2:=_::_::_::_) tok rfl rfl rfl rfl (rfl) rfl rfl rfl rfl) ?_
   rintro _ _ ⟨rfl,rfl⟩
   refine AOL.nil (blkN (thenN ?_))
   refine ⟨(p.1 - 1,(wget w p.2).getD wd0),?_,?_,GS.weaken ⟨rfl,rfl,rfl,trivial⟩ (.refl _)⟩
   · exact ⟨hst.2,hR.2.trans (of_some hst.1 hyy)⟩
   · have:=hst.1;simp only;omega
theorem d_of_at (m:Nat)(w:Wm)(hw:wOK w)(x:Wd):∀(H:List HO) (k:Nat),H[k]? = some (.kmap m (wE w))→ACall Tryz.prog 163 H [.val (.map (some m)),.agg (cWd x)] fun r' H'=>r' = .agg (cWd (ofS' w x))∧H'=H:=
  ACall.atFront (d_of m w hw x)
theorem d_str2 (bw m:Nat)(w:Wm)(x y:Wd)(hx:wget w x=none)(hy:wget w y=none)(R:List HO):ACall Tryz.prog 165 (.box bw 156 [.val (.map (some m))] :: .kmap m (wE w)::R) [.agg (cWd x),.agg (cWd y),.val (.pointer (some ⟨bw,0,none⟩))] (fun r H'=>r = .bool (eqAB w x y).2∧H' = .box bw 156 [.val (.map (some m))] :: .kmap m (wE (eqAB w x y).1)::R):=by
 refine ACall.body (n:=25) tok Tryz.func165 rfl rfl rfl ?_
 refine Qsr (Qe (E_box (v:=.agg _) (cs:=[.bool _,.str _,.int .i64 _,.int .i64 _,.int .i64 _]) rfl rfl (rfl)) ?_)
 rintro _ _ ⟨b3,rfl,rfl⟩
 refine Qe (E_box (v:=.agg _) (cs:=[.bool _,.str _,.int .i64 _,.int .i64 _,.int .i64 _]) rfl rfl (rfl)) ?_
 rintro _ _ ⟨b4,rfl,rfl⟩
 refine Qp Qab ?_
 refine Qnn ?_
 refine AW.cut (fun (p:Wd×Wd)=>(⟨[(2,.val (.pointer (some ⟨bw,0,none⟩))),(3,.val (.pointer (some ⟨b3,0,none⟩))),(4,.val (.pointer (some ⟨b4,0,none⟩)))],.box b4 214 (cWd p.2) :: .box b3 214 (cWd p.1) :: .box bw 156 [.val (.map (some m))] :: .kmap m (wE w)::R,25⟩:St)) (fun (p:Wd×Wd)=>wget w p.1=none∧eqAB w x y=(w++[p],true)) ?_ ?_
 ·
  refine AW.block (Qsr ?_)
  refine AOL.pk (P_load_box_agg (k:=1) (l:=[.bool _,.str _,.int .i64 _,.int .i64 _,.int .i64 _]) tok rfl rfl rfl rfl rfl) rfl rfl ?_
  refine AOL.pk (P_load_box_agg (k:=0) (l:=[.bool _,.str _,.int .i64 _,.int .i64 _,.int .i64 _]) tok rfl rfl rfl rfl rfl) rfl rfl ?_
  refine Qp (P_eql_agg (r:=eqW x y) tok rfl rfl rfl rfl (eqWd_is x y)) ?_
  refine Qp Qab ?_
  refine Qnn (Qif (fun hc1=>?_) fun hc1=>?_)
  ·
   refine Qsr (Qp Qab ?_)
   refine Qnn (AW.ret (blkR (thenR ?_)))
   refine ⟨.inr rfl,[.bool _],.cons (.tmp _ _ rfl) <| .nil,_,.cons _ (.cons _ (.refl _)),?_⟩
   exact ⟨congrArg (fun q:Wm×Bool=>AV.bool q.2) (eqAB_1 hc1).symm,congrArg (fun q:Wm×Bool=>(.box bw 156 [.val (.map (some m))] :: .kmap m (wE q.1)::R:List HO)) (eqAB_1 hc1).symm⟩
  ·
   refine Qsr (Qp Qfv ?_)
   refine AOL.pk (P_load_box (k:=1) (c:=.bool _) tok rfl rfl rfl rfl) rfl rfl ?_
   refine Qp Qmb ?_
   refine Qg [] Qw Qfv ?_
   refine AOL.gk (y:=.bool _) _ [(14,_)] rfl (EntL.all ⟨Ent.self _ _,trivial⟩) (fun hG=>P_load_box (k:=0) (c:=.bool _) tok rfl rfl rfl rfl) rfl rfl ?_
   refine Qp Qpa ?_
   refine Qp Qab ?_
   refine Qnn (Qif (fun hc2=>?_) fun hc2=>?_)
   ·
    refine Qsr (Qp Qab ?_)
    refine Qnn (AW.ret (blkR (thenR ?_)))
    refine ⟨.inr rfl,[.bool _],.cons (.tmp _ _ rfl) <| .nil,_,.cons _ (.cons _ (.refl _)),?_⟩
    exact ⟨congrArg (fun q:Wm×Bool=>AV.bool q.2) (eqAB_2 hc1 hc2).symm,congrArg (fun q:Wm×Bool=>(.box bw 156 [.val (.map (some m))] :: .kmap m (wE q.1)::R:List HO)) (eqAB_2 hc1 hc2).symm⟩
   ·
    refine Qsr (Qp Qfv ?_)
    refine AOL.pk (P_load_box (k:=1) (c:=.bool _) tok rfl rfl rfl rfl) rfl rfl ?_
    refine Qp Qab ?_
    refine Qnn (Qif (fun hc3=>?_) fun hc3=>?_)
    ·
     refine AW.region ?_
     refine AOL.pk (P_load_box_agg (k:=0) (l:=[.bool _,.str _,.int .i64 _,.int .i64 _,.int .i64 _]) tok rfl rfl rfl rfl rfl) rfl rfl ?_
     refine AOL.pk (P_load_box_agg (k:=1) (l:=[.bool _,.str _,.int .i64 _,.int .i64 _,.int .i64 _]) tok rfl rfl rfl rfl rfl) rfl rfl ?_
     refine Qe (E_store (k:=1) (v:=.agg _) (cs':=[.bool _,.str _,.int .i64 _,.int .i64 _,.int .i64 _]) (H2:=_::_::_::_::_) tok rfl rfl rfl rfl (rfl) rfl rfl rfl rfl) ?_
     rintro _ _ ⟨rfl,rfl⟩
     refine Qe (E_store (k:=0) (v:=.agg _) (cs':=[.bool _,.str _,.int .i64 _,.int .i64 _,.int .i64 _]) (H2:=_::_::_::_::_) tok rfl rfl rfl rfl (rfl) rfl rfl rfl rfl) ?_
     rintro _ _ ⟨rfl,rfl⟩
     refine AOL.nil (blkN (thenN ?_))
     refine ⟨(y,x),?_,GS.weaken ⟨rfl,rfl,rfl,trivial⟩ (.refl _)⟩
     exact ⟨hy,eqAB_3 hc1 hc2 hc3⟩
    ·
     refine AW.skip (blkN (thenN ?_))
     refine ⟨(x,y),?_,GS.weaken ⟨rfl,rfl,rfl,trivial⟩ (.refl _)⟩
     exact ⟨hx,eqAB_4 hc1 hc2 hc3⟩
 ·
  rintro p hR
  refine Qsr ?_
  refine AOL.pk (P_load_box (k:=2) (c:=.val _) tok rfl rfl rfl rfl) rfl rfl ?_
  refine AOL.pk (P_load_box_agg (k:=1) (l:=[.bool _,.str _,.int .i64 _,.int .i64 _,.int .i64 _]) tok rfl rfl rfl rfl rfl) rfl rfl ?_
  refine AOL.pk (P_load_box_agg (k:=0) (l:=[.bool _,.str _,.int .i64 _,.int .i64 _,.int .i64 _]) tok rfl rfl rfl rfl rfl) rfl rfl ?_
  refine Qe (E_kmapAdd (i:=3) (eq:=eqWd p.1) (H2:=_::_::_::_::_) tok rfl rfl rfl rfl rfl rfl rfl (rfl) (wE_eq p.1 w) rfl (new_w hR.1) rfl) ?_
  rintro _ _ ⟨rfl,rfl⟩
  refine Qns (Qp Qab ?_)
  refine Qnn (AW.ret ?_)
  refine ⟨.inr rfl,[.bool _],.cons (.tmp _ _ rfl) <| .nil,_,.cons _ (.cons _ (.refl _)),?_⟩
  exact ⟨congrArg (fun q:Wm×Bool=>AV.bool q.2) hR.2.symm,(congrArg (fun e=>(.box bw 156 [.val (.map (some m))] :: .kmap m e::R:List HO)) (wE_snoc w p).symm).trans (congrArg (fun q:Wm×Bool=>(.box bw 156 [.val (.map (some m))] :: .kmap m (wE q.1)::R:List HO)) hR.2.symm)⟩
theorem d_str3 (x y:Wd):APure Tryz.prog 166 [.agg (cWd x),.agg (cWd y)] (.bool (!(eqW x y))):=by
 refine APure.body (n:=8) tok Tryz.func166 rfl rfl rfl fun H=>?_
 refine Qsr (Qp (Qbx [.bool _,.str _,.int .i64 _,.int .i64 _,.int .i64 _]) ?_)
 refine Qp (Qbx [.bool _,.str _,.int .i64 _,.int .i64 _,.int .i64 _]) ?_
 refine Qp Qab ?_
 refine Qns (Qp (Qlg [.bool _,.str _,.int .i64 _,.int .i64 _,.int .i64 _]) ?_)
 refine Qp (Qlg [.bool _,.str _,.int .i64 _,.int .i64 _,.int .i64 _]) ?_
 refine Qp (P_neq_agg (r:=eqW x y) tok rfl rfl rfl rfl (eqWd_is x y)) ?_
 refine Qp Qab ?_
 refine Qnn (AW.ret (Qr (.bool _) ?_))
 rfl
theorem d_eachT (T:List Sc)(V:List Va)(l:List Lit)(hlk:LOK T V l)(bw m:Nat)(R:List HO):ACall Tryz.prog 162 (.box bw 156 [.val (.map (some m))] :: .kmap m (wE [])::R) [.bool true,.fn (.func 165) [] [.val (.pointer (some ⟨bw,0,none⟩))],.ptr [.sl 9 (l.map cLit)],.ptr (cScene T V),.val (.pointer (some ⟨bw,0,none⟩))] (fun r H'=>r = .bool (eqGo T V l []).2∧H' = .box bw 156 [.val (.map (some m))] :: .kmap m (wE (eqGo T V l []).1)::R):=by
 refine ACall.body (n:=54) tok Tryz.func162 rfl rfl rfl ?_
 refine Qsr (Qp Qab ?_)
 refine Qnn (AW.seq (Qsr (Qp Qls ?_)))
 refine Qp (P_len_sl (n:=l.length) tok rfl rfl rfl (by simp)) ?_
 refine Qp Qmi ?_
 refine Qnn (AW.block ?_)
 refine AW.sllen 10 rfl fun hlen=>?_
 simp only [List.length_map,maxLen] at hlen
 refine AW.loopS (fun (p:Nat×Wm)=>(⟨[(0,.bool true),(1,.fn (.func 165) [] [.val (.pointer (some ⟨bw,0,none⟩))]),(2,.ptr [.sl 9 (l.map cLit)]),(3,.ptr (cScene T V)),(4,.val (.pointer (some ⟨bw,0,none⟩))),(10,.sl 9 (l.map cLit)),(11,.int .i64 l.length),(12,.int .i64 (p.1:Int))],.box bw 156 [.val (.map (some m))] :: .kmap m (wE p.2)::R,54⟩:St)) (fun (p:Nat×Wm)=>p.1≤l.length∧eqGo T V l []=eqGo T V (l.drop p.1) p.2∧wOK p.2) (fun (p:Nat×Wm)=>l.length - p.1) ((0,[])) ?_ (GS.weaken ⟨rfl,rfl,rfl,rfl,rfl,rfl,rfl,rfl,trivial⟩ (.refl _)) ?_
 · exact ⟨Nat.zero_le _,rfl,wOK_nil⟩
 ·
  rintro p hR
  have hwp:=hR.2.2
  refine Qsr (Qp Qclt ?_)
  refine Qnn (AW.seq (Qif (fun hc1=>?_) fun hc1=>?_))
  ·
   obtain ⟨c,hc⟩:=get_lt hc1
   have hlt:=get_lt' hc
   have hcm:=List.mem_of_getElem? hc
   have hck:=(hlk c hcm).1
   have hcs:=Nat.le_trans (hlk c hcm).2 (by decide:64≤1048576)
   have hdc:=drop_cons hc
   have hR2:=hR.2.1
   rw [hdc] at hR2
   refine Qst (AW.seq (AW.block (Qsr (Qp (P_indexAddr (c:=[.int .i64 _,_,.int .i64 _,.int .i64 _,.int .i64 _,.int .i64 _,.int .i64 _,.str _,.bool _]) tok rfl rfl rfl rfl rfl rfl (by omega) (map_at hc)) ?_))))
   refine Qp (Qlg [.int .i64 _,_,.int .i64 _,.int .i64 _,.int .i64 _,.int .i64 _,.int .i64 _,.str _,.bool _]) ?_
   refine Qe (E_alloc (l:=[.int .i64 0,.sl 8 [],.int .i64 0,.int .i64 0,.int .i64 0,.int .i64 0,.int .i64 0,.str [],.bool false]) (by kernel_rfl)) ?_
   rintro _ _ ⟨b9,rfl,rfl⟩
   refine Qe (E_store (k:=0) (v:=.agg _) (cs':=[.int .i64 _,_,.int .i64 _,.int .i64 _,.int .i64 _,.int .i64 _,.int .i64 _,.str _,.bool _]) (H2:=_::_::_::_) tok rfl rfl rfl rfl (rfl) rfl rfl rfl rfl) ?_
   rintro _ _ ⟨rfl,rfl⟩
   refine AOL.ghost (GS.freeze (t:=9) 0 rfl rfl) ?_
   refine Qnn (AW.seq ?_)
   refine AW.drawI mixed (fun j H'=>(j == 18||j == 25||j == 26||j == 33)=true→_∈H'∧_∈H') (fun _ _=>⟨(List.mem_of_getElem? (i:=0) rfl),(List.mem_of_getElem? (i:=1) rfl)⟩) (by kernel_rfl) ?_
   refine CanonI.pure _ _ 0 _ _ rfl (by kernel_rfl) (by kernel_rfl) rfl (.run rfl (P_fieldAddr_ptr (cs':=[.bool _]) tok rfl rfl rfl rfl rfl rfl)) ?_
   refine CanonI.pure _ _ 1 _ _ rfl (by kernel_rfl) (by kernel_rfl) rfl (.run rfl (P_load_ptr (c:=.bool _) tok rfl rfl rfl)) ?_
   refine CanonI.pure _ _ 2 _ _ rfl (by kernel_rfl) (by kernel_rfl) rfl (.run rfl (P_move (v:=.bool _) rfl)) ?_
   refine CanonI.pure _ _ 3 _ _ rfl (by kernel_rfl) (by kernel_rfl) rfl (.run rfl (P_neq_bool tok rfl rfl rfl rfl)) ?_
   refine CanonI.pure _ _ 4 _ _ rfl (by kernel_rfl) (by kernel_rfl) rfl (.run rfl (P_move (v:=.bool _) rfl)) ?_
   refine CanonI.pure _ _ 5 _ _ rfl (by kernel_rfl) (by kernel_rfl) rfl (.opt _ (.agg _) [] rfl (EntL.all trivial) (fun hG=>P_load_ptr_agg (l:=[_,_]) tok rfl rfl rfl rfl rfl) rfl) ?_
   refine CanonI.pure _ _ 6 _ _ rfl (by kernel_rfl) (by kernel_rfl) rfl (.opt _ (.ptr _) [] rfl (EntL.all trivial) (fun hG=>P_fieldAddr_ptr (cs':=[.int .i64 _,_,.int .i64 _,.int .i64 _,.int .i64 _,.int .i64 _,.int .i64 _,.str _,.bool _]) tok rfl rfl rfl rfl rfl rfl) rfl) ?_
   refine CanonI.pure _ _ 7 _ _ rfl (by kernel_rfl) (by kernel_rfl) rfl (.opt _ (.agg _) [(22,_)] rfl (EntL.all ⟨Ent.self _ _,trivial⟩) (fun hG=>P_load_ptr_agg (l:=[.int .i64 _,_,.int .i64 _,.int .i64 _,.int .i64 _,.int .i64 _,.int .i64 _,.str _]) tok rfl rfl rfl rfl rfl) rfl) ?_
   refine CanonI.pure _ _ 8 _ _ rfl (by kernel_rfl) (by kernel_rfl) rfl (.opt _ (.bool _) [(21,_),(23,_)] rfl (EntL.all ⟨Ent.self _ _,Ent.self _ _,trivial⟩) (fun hG=>P_callf (by kernel_rfl) rfl rfl (d_texts T V c.cond hck)) rfl) ?_
   refine CanonI.pure _ _ 9 _ _ rfl (by kernel_rfl) (by kernel_rfl) rfl (.run rfl (P_pick_and rfl rfl rfl)) ?_
   refine CanonI.pure _ _ 10 _ _ rfl (by kernel_rfl) (by kernel_rfl) rfl (.run rfl (P_move (v:=.bool _) rfl)) ?_
   refine CanonI.pure _ _ 11 _ _ rfl (by kernel_rfl) (by kernel_rfl) rfl (.opt _ (.agg _) [] rfl (EntL.all trivial) (fun hG=>P_load_ptr_agg (l:=[_,_]) tok rfl rfl rfl rfl rfl) rfl) ?_
   refine CanonI.pure _ _ 12 _ _ rfl (by kernel_rfl) (by kernel_rfl) rfl (.opt _ (.ptr _) [] rfl (EntL.all trivial) (fun hG=>P_fieldAddr_ptr (cs':=[.int .i64 _,_,.int .i64 _,.int .i64 _,.int .i64 _,.int .i64 _,.int .i64 _,.str _,.bool _]) tok rfl rfl rfl rfl rfl rfl) rfl) ?_
   refine CanonI.pure _ _ 13 _ _ rfl (by kernel_rfl) (by kernel_rfl) rfl (.opt _ (.agg _) [(28,_)] rfl (EntL.all ⟨Ent.self _ _,trivial⟩) (fun hG=>P_load_ptr_agg (l:=[.int .i64 _,_,.int .i64 _,.int .i64 _,.int .i64 _,.int .i64 _,.int .i64 _,.str _]) tok rfl rfl rfl rfl rfl) rfl) ?_
   refine CanonI.pure _ _ 14 _ _ rfl (by kernel_rfl) (by kernel_rfl) rfl (.opt _ (.bool _) [(27,_),(29,_)] rfl (EntL.all ⟨Ent.self _ _,Ent.self _ _,trivial⟩) (fun hG=>P_callf (by kernel_rfl) rfl rfl (d_simple T V c.cond hck hcs)) rfl) ?_
   refine CanonI.pure _ _ 15 _ _ rfl (by kernel_rfl) (by kernel_rfl) rfl (.run rfl (P_pick_and rfl rfl rfl)) ?_
   refine CanonI.pure _ _ 16 _ _ rfl (by kernel_rfl) (by kernel_rfl) rfl (.run rfl (P_move (v:=.bool _) rfl)) ?_
   refine CanonI.pure _ _ 17 _ _ rfl (by kernel_rfl) (by kernel_rfl) rfl (.opt _ (.fn _ _ _) [] rfl (EntL.all trivial) (fun hG=>P_move (v:=.fn _ _ _) rfl) rfl) ?_
   refine CanonI.pure _ _ 18 _ _ rfl (by kernel_rfl) (by kernel_rfl) rfl (.opt _ (.val _) [] rfl (EntL.all trivial) (fun hG=>OpP.mem (fun k=>P_load_box (k:=k) (c:=.val _) tok rfl rfl rfl rfl) (fun _ h=>(h rfl).1)) rfl) ?_
   refine CanonI.pure _ _ 19 _ _ rfl (by kernel_rfl) (by kernel_rfl) rfl (.opt _ (.ptr _) [] rfl (EntL.all trivial) (fun hG=>P_fieldAddr_ptr (cs':=[.int .i64 _,_,.int .i64 _,.int .i64 _,.int .i64 _,.int .i64 _,.int .i64 _,.str _,.bool _]) tok rfl rfl rfl rfl rfl rfl) rfl) ?_
   refine CanonI.pure _ _ 20 _ _ rfl (by kernel_rfl) (by kernel_rfl) rfl (.opt _ (.ptr _) [(35,_)] rfl (EntL.all ⟨Ent.self _ _,trivial⟩) (fun hG=>P_fieldAddr_ptr (cs':=[_,.int .i64 _,.int .i64 _,.int .i64 _,.int .i64 _,.int .i64 _,.str _,.bool _]) tok rfl rfl rfl rfl rfl rfl) rfl) ?_
   refine CanonI.pure _ _ 21 _ _ rfl (by kernel_rfl) (by kernel_rfl) rfl (.opt _ (.sl _ _) [(36,_)] rfl (EntL.all ⟨Ent.self _ _,trivial⟩) (fun hG=>P_load_ptr (c:=.sl _ _) tok rfl rfl rfl) rfl) ?_
   refine CanonI.pure _ _ 22 _ _ rfl (by kernel_rfl) (by kernel_rfl) rfl (.opt _ (.ptr _) [(37,_)] rfl (EntL.all ⟨Ent.self _ _,trivial⟩) (fun hG=>P_indexAddr (c:=[.int .i64 _,_,.int .i64 _,.int .i64 _,.int .i64 _,.int .i64 _,.int .i64 _,.str _]) tok rfl rfl rfl rfl rfl rfl (by decide) (arg0_at (Nat.lt_of_succ_lt (cmp_two hck (texts_cmp (stringy_texts (g1' hG))))))) rfl) ?_
   refine CanonI.pure _ _ 23 _ _ rfl (by kernel_rfl) (by kernel_rfl) rfl (.opt _ (.agg _) [(38,_)] rfl (EntL.all ⟨Ent.self _ _,trivial⟩) (fun hG=>P_load_ptr_agg (l:=[.int .i64 _,_,.int .i64 _,.int .i64 _,.int .i64 _,.int .i64 _,.int .i64 _,.str _]) tok rfl rfl rfl rfl rfl) rfl) ?_
   refine CanonI.pure _ _ 24 _ _ rfl (by kernel_rfl) (by kernel_rfl) rfl (.opt _ (.agg _) [(39,_)] rfl (EntL.all ⟨Ent.self _ _,trivial⟩) (fun hG=>P_callf (by kernel_rfl) rfl rfl (d_asWord _)) rfl) ?_
   refine CanonI.pure _ _ 25 _ _ rfl (by kernel_rfl) (by kernel_rfl) rfl (.opt _ (.agg _) [(34,_),(40,_)] rfl (EntL.all ⟨Ent.self _ _,Ent.self _ _,trivial⟩) (fun hG=>P_callK (ho:=.kmap m (wE p.2)) (by kernel_rfl) rfl rfl (d_of_at m p.2 hwp (asWd (arg0 c.cond))) (fun _ h=>(h rfl).2)) rfl) ?_
   refine CanonI.pure _ _ 26 _ _ rfl (by kernel_rfl) (by kernel_rfl) rfl (.opt _ (.val _) [] rfl (EntL.all trivial) (fun hG=>OpP.mem (fun k=>P_load_box (k:=k) (c:=.val _) tok rfl rfl rfl rfl) (fun _ h=>(h rfl).1)) rfl) ?_
   refine CanonI.pure _ _ 27 _ _ rfl (by kernel_rfl) (by kernel_rfl) rfl (.opt _ (.ptr _) [] rfl (EntL.all trivial) (fun hG=>P_fieldAddr_ptr (cs':=[.int .i64 _,_,.int .i64 _,.int .i64 _,.int .i64 _,.int .i64 _,.int .i64 _,.str _,.bool _]) tok rfl rfl rfl rfl rfl rfl) rfl) ?_
   refine CanonI.pure _ _ 28 _ _ rfl (by kernel_rfl) (by kernel_rfl) rfl (.opt _ (.ptr _) [(43,_)] rfl (EntL.all ⟨Ent.self _ _,trivial⟩) (fun hG=>P_fieldAddr_ptr (cs':=[_,.int .i64 _,.int .i64 _,.int .i64 _,.int .i64 _,.int .i64 _,.str _,.bool _]) tok rfl rfl rfl rfl rfl rfl) rfl) ?_
   refine CanonI.pure _ _ 29 _ _ rfl (by kernel_rfl) (by kernel_rfl) rfl (.opt _ (.sl _ _) [(44,_)] rfl (EntL.all ⟨Ent.self _ _,trivial⟩) (fun hG=>P_load_ptr (c:=.sl _ _) tok rfl rfl rfl) rfl) ?_
   refine CanonI.pure _ _ 30 _ _ rfl (by kernel_rfl) (by kernel_rfl) rfl (.opt _ (.ptr _) [(45,_)] rfl (EntL.all ⟨Ent.self _ _,trivial⟩) (fun hG=>P_indexAddr (c:=[.int .i64 _,_,.int .i64 _,.int .i64 _,.int .i64 _,.int .i64 _,.int .i64 _,.str _]) tok rfl rfl rfl rfl rfl rfl (by decide) (arg1_at (cmp_two hck (texts_cmp (stringy_texts (g1' hG)))))) rfl) ?_
   refine CanonI.pure _ _ 31 _ _ rfl (by kernel_rfl) (by kernel_rfl) rfl (.opt _ (.agg _) [(46,_)] rfl (EntL.all ⟨Ent.self _ _,trivial⟩) (fun hG=>P_load_ptr_agg (l:=[.int .i64 _,_,.int .i64 _,.int .i64 _,.int .i64 _,.int .i64 _,.int .i64 _,.str _]) tok rfl rfl rfl rfl rfl) rfl) ?_
   refine CanonI.pure _ _ 32 _ _ rfl (by kernel_rfl) (by kernel_rfl) rfl (.opt _ (.agg _) [(47,_)] rfl (EntL.all ⟨Ent.self _ _,trivial⟩) (fun hG=>P_callf (by kernel_rfl) rfl rfl (d_asWord _)) rfl) ?_
   refine CanonI.pure _ _ 33 _ _ rfl (by kernel_rfl) (by kernel_rfl) rfl (.opt _ (.agg _) [(42,_),(48,_)] rfl (EntL.all ⟨Ent.self _ _,Ent.self _ _,trivial⟩) (fun hG=>P_callK (ho:=.kmap m (wE p.2)) (by kernel_rfl) rfl rfl (d_of_at m p.2 hwp (asWd (arg1 c.cond))) (fun _ h=>(h rfl).2)) rfl) ?_
   refine CanonI.phaseg (fun _ _=>True) _ _ 34 _ _ [(41,_),(49,_),(33,_)] _ _ rfl (by kernel_rfl) rfl rfl (EntL.all ⟨Ent.self _ _,Ent.self _ _,Ent.self _ _,trivial⟩) (fun hG=>E_call (by kernel_rfl) rfl rfl rfl (ACall.front2 (R:=_) 1 0 rfl rfl rfl ((d_str2 bw m p.2 (ofS' p.2 (asWd (arg0 c.cond))) (ofS' p.2 (asWd (arg1 c.cond))) (ofS_fresh hwp _) (ofS_fresh hwp _) _).mono' (fun r K h=>⟨h.1,h.2.trans (congrArg (fun w=>(.box bw 156 [.val (.map (some m))] :: .kmap m (wE w)::R:List HO)) (wNext_yes (stringy_T (g1' hG))))⟩)))) (fun hG=>congrArg (fun w=>(.box bw 156 [.val (.map (some m))] :: .kmap m (wE w)::R:List HO)) (wNext_no (stringy_F (g1n hG))).symm) (fun j _ _ hr _ _ hj=>?_) (fun _=>trivial) ?_
   ·
    rcases (by simpa only [Bool.or_eq_true,beq_iff_eq,or_assoc] using hj:j=18∨j=25∨j=26∨j=33) with rfl | rfl | rfl | rfl
    · exact Bool.noConfusion ((show reachB _ 7 _ 18=true by kernel_rfl).symm.trans hr)
    · exact Bool.noConfusion ((show reachB _ 7 _ 25=true by kernel_rfl).symm.trans hr)
    · exact Bool.noConfusion ((show reachB _ 7 _ 26=true by kernel_rfl).symm.trans hr)
    · exact Bool.noConfusion ((show reachB _ 7 _ 33=true by kernel_rfl).symm.trans hr)
   refine CanonI.pure _ _ 35 _ _ rfl (by kernel_rfl) (by kernel_rfl) rfl (.opt _ (.bool _) [(50,_)] rfl (EntL.all ⟨Ent.self _ _,trivial⟩) (fun hG=>P_not rfl) rfl) ?_
   refine CanonI.pure _ _ 36 _ _ rfl (by kernel_rfl) (by kernel_rfl) rfl (.run rfl (P_pick_and rfl rfl rfl)) ?_
   refine CanonI.done _ _ (by kernel_rfl) ?_
   refine thenN (Qif (fun hc2=>?_) fun hc2=>?_)
   ·
    have hs2:=Bool.and_eq_true_iff.mp hc2
    have hst:=stringy_T hs2.1
    have hfin:=hR2.trans (eqGo_fail hst ((Bool.not_eq_true' _).mp hs2.2))
    have hf1:(eqGo T V l []).1=(eqStep p.2 c).1:=by rw [hfin]
    refine Qsr (Qp Qab ?_)
    refine Qnn (AW.ret (blkR (thenR (thenR (blkR (thenR ?_))))))
    refine ⟨.inr rfl,[.bool _],.cons (.tmp _ _ rfl) <| .nil,_,.refl _,?_⟩
    exact ⟨congrArg (fun q:Wm×Bool=>AV.bool q.2) hfin.symm,congrArg (fun w=>(.box bw 156 [.val (.map (some m))] :: .kmap m (wE w)::R:List HO)) ((wNext_yes hst).symm.trans hf1.symm)⟩
   ·
    refine AW.skip (blkN (thenN (AW.region (Qp Qad ?_))))
    refine Qp Qmi ?_
    refine Qnn ?_
    refine ⟨(p.1+1,wNext T V p.2 c),?_,?_,GS.weaken ⟨rfl,rfl,rfl,rfl,rfl,rfl,rfl,rfl,trivial⟩ (.refl _)⟩
    · exact ⟨hlt,hR2.trans (eqGo_go2 hc2),wNext_ok hwp c⟩
    · simp only;omega
  ·
   have hde:=get_end hc1
   have hR2:=hR.2.1
   rw [hde] at hR2
   refine AW.exit ?_
   refine thenE (thenE (blkHit (thenN (Qsr (Qp Qab ?_)))))
   refine Qnn (AW.ret ?_)
   refine ⟨.inr rfl,[.bool _],.cons (.tmp _ _ rfl) <| .nil,_,.refl _,?_⟩
   exact ⟨congrArg (fun q:Wm×Bool=>AV.bool q.2) hR2.symm,congrArg (fun q:Wm×Bool=>(.box bw 156 [.val (.map (some m))] :: .kmap m (wE q.1)::R:List HO)) hR2.symm⟩
theorem d_eachF (T:List Sc)(V:List Va)(l:List Lit)(hlk:LOK T V l)(bw m:Nat)(w:Wm)(hwp:wOK w)(R:List HO):ACall Tryz.prog 162 (.box bw 156 [.val (.map (some m))] :: .kmap m (wE w)::R) [.bool false,.fn (.func 166) [] [],.ptr [.sl 9 (l.map cLit)],.ptr (cScene T V),.val (.pointer (some ⟨bw,0,none⟩))] (fun r H'=>r = .bool (neGo T V w l)∧H' = .box bw 156 [.val (.map (some m))] :: .kmap m (wE w)::R):=by
 refine ACall.body (n:=54) tok Tryz.func162 rfl rfl rfl ?_
 refine Qsr (Qp Qab ?_)
 refine Qnn (AW.seq (Qsr (Qp Qls ?_)))
 refine Qp (P_len_sl (n:=l.length) tok rfl rfl rfl (by simp)) ?_
 refine Qp Qmi ?_
 refine Qnn (AW.block ?_)
 refine AW.sllen 10 rfl fun hlen=>?_
 simp only [List.length_map,maxLen] at hlen
 refine AW.loopS (fun (p:Nat)=>(⟨[(0,.bool false),(1,.fn (.func 166) [] []),(2,.ptr [.sl 9 (l.map cLit)]),(3,.ptr (cScene T V)),(4,.val (.pointer (some ⟨bw,0,none⟩))),(10,.sl 9 (l.map cLit)),(11,.int .i64 l.length),(12,.int .i64 (p:Int))],.box bw 156 [.val (.map (some m))] :: .kmap m (wE w)::R,54⟩:St)) (fun (p:Nat)=>p≤l.length∧neGo T V w l=neGo T V w (l.drop p)) (fun (p:Nat)=>l.length - p) (0) ?_ (GS.weaken ⟨rfl,rfl,rfl,rfl,rfl,rfl,rfl,rfl,trivial⟩ (.refl _)) ?_
 · exact ⟨Nat.zero_le _,rfl⟩
 ·
  rintro p hR
  refine Qsr (Qp Qclt ?_)
  refine Qnn (AW.seq (Qif (fun hc1=>?_) fun hc1=>?_))
  ·
   obtain ⟨c,hc⟩:=get_lt hc1
   have hlt:=get_lt' hc
   have hcm:=List.mem_of_getElem? hc
   have hck:=(hlk c hcm).1
   have hcs:=Nat.le_trans (hlk c hcm).2 (by decide:64≤1048576)
   have hdc:=drop_cons hc
   have hR2:=hR.2
   rw [hdc] at hR2
   refine Qst (AW.seq (AW.block (Qsr (Qp (P_indexAddr (c:=[.int .i64 _,_,.int .i64 _,.int .i64 _,.int .i64 _,.int .i64 _,.int .i64 _,.str _,.bool _]) tok rfl rfl rfl rfl rfl rfl (by omega) (map_at hc)) ?_))))
   refine Qp (Qlg [.int .i64 _,_,.int .i64 _,.int .i64 _,.int .i64 _,.int .i64 _,.int .i64 _,.str _,.bool _]) ?_
   refine Qe (E_alloc (l:=[.int .i64 0,.sl 8 [],.int .i64 0,.int .i64 0,.int .i64 0,.int .i64 0,.int .i64 0,.str [],.bool false]) (by kernel_rfl)) ?_
   rintro _ _ ⟨b9,rfl,rfl⟩
   refine Qe (E_store (k:=0) (v:=.agg _) (cs':=[.int .i64 _,_,.int .i64 _,.int .i64 _,.int .i64 _,.int .i64 _,.int .i64 _,.str _,.bool _]) (H2:=_::_::_::_) tok rfl rfl rfl rfl (rfl) rfl rfl rfl rfl) ?_
   rintro _ _ ⟨rfl,rfl⟩
   refine AOL.ghost (GS.freeze (t:=9) 0 rfl rfl) ?_
   refine Qnn (AW.seq ?_)
   refine AW.draw mixed (fun H'=>_∈H'∧_∈H') ⟨(List.mem_of_getElem? (i:=0) rfl),(List.mem_of_getElem? (i:=1) rfl)⟩ (by kernel_rfl) ?_
   refine Qn 0 rfl (Qf [.bool _]) ?_
   refine Qn 1 rfl Qlb ?_
   refine Qn 2 rfl Qmb ?_
   refine Qn 3 rfl (P_neq_bool tok rfl rfl rfl rfl) ?_
   refine Qn 4 rfl Qmb ?_
   refine Qo 5 rfl [] Qw (Qlg [_,_]) ?_
   refine Qo 6 rfl [] Qw (Qf [.int .i64 _,_,.int .i64 _,.int .i64 _,.int .i64 _,.int .i64 _,.int .i64 _,.str _,.bool _]) ?_
   refine Qo 7 rfl [(22,_)] Qw Qle ?_
   refine Canon.pure _ _ 8 _ _ rfl (by kernel_rfl) (by kernel_rfl) rfl (.opt _ (.bool _) [(21,_),(23,_)] rfl (EntL.all ⟨Ent.self _ _,Ent.self _ _,trivial⟩) (fun hG=>P_callf (by kernel_rfl) rfl rfl (d_texts T V c.cond hck)) rfl) ?_
   refine Qn 9 rfl Qpa ?_
   refine Qn 10 rfl Qmb ?_
   refine Qo 11 rfl [] Qw (Qlg [_,_]) ?_
   refine Qo 12 rfl [] Qw (Qf [.int .i64 _,_,.int .i64 _,.int .i64 _,.int .i64 _,.int .i64 _,.int .i64 _,.str _,.bool _]) ?_
   refine Qo 13 rfl [(28,_)] Qw Qle ?_
   refine Canon.pure _ _ 14 _ _ rfl (by kernel_rfl) (by kernel_rfl) rfl (.opt _ (.bool _) [(27,_),(29,_)] rfl (EntL.all ⟨Ent.self _ _,Ent.self _ _,trivial⟩) (fun hG=>P_callf (by kernel_rfl) rfl rfl (d_simple T V c.cond hck hcs)) rfl) ?_
   refine Qn 15 rfl Qpa ?_
   refine Qn 16 rfl Qmb ?_
   refine Canon.pure _ _ 17 _ _ rfl (by kernel_rfl) (by kernel_rfl) rfl (.opt _ (.fn _ _ _) [] rfl (EntL.all trivial) (fun hG=>P_move (v:=.fn _ _ _) rfl) rfl) ?_
   refine Canon.pure _ _ 18 _ _ rfl (by kernel_rfl) (by kernel_rfl) rfl (.opt _ (.val _) [] rfl (EntL.all trivial) (fun hG=>OpP.mem (fun k=>P_load_box (k:=k) (c:=.val _) tok rfl rfl rfl rfl) (fun _ h=>h.1)) rfl) ?_
   refine Qo 19 rfl [] Qw (Qf [.int .i64 _,_,.int .i64 _,.int .i64 _,.int .i64 _,.int .i64 _,.int .i64 _,.str _,.bool _]) ?_
   refine Qo 20 rfl [(35,_)] Qw (Qf [_,.int .i64 _,.int .i64 _,.int .i64 _,.int .i64 _,.int .i64 _,.str _,.bool _]) ?_
   refine Qo 21 rfl [(36,_)] Qw Qls ?_
   refine Canon.pure _ _ 22 _ _ rfl (by kernel_rfl) (by kernel_rfl) rfl (.opt _ (.ptr _) [(37,_)] rfl (EntL.all ⟨Ent.self _ _,trivial⟩) (fun hG=>P_indexAddr (c:=[.int .i64 _,_,.int .i64 _,.int .i64 _,.int .i64 _,.int .i64 _,.int .i64 _,.str _]) tok rfl rfl rfl rfl rfl rfl (by decide) (arg0_at (Nat.lt_of_succ_lt (cmp_two hck (texts_cmp (stringy_texts (g1' hG))))))) rfl) ?_
   refine Qo 23 rfl [(38,_)] Qw Qle ?_
   refine Qo 24 rfl [(39,_)] Qw (Qc rfl (d_asWord _)) ?_
   refine Canon.pure _ _ 25 _ _ rfl (by kernel_rfl) (by kernel_rfl) rfl (.opt _ (.agg _) [(34,_),(40,_)] rfl (EntL.all ⟨Ent.self _ _,Ent.self _ _,trivial⟩) (fun hG=>P_callK (ho:=.kmap m (wE w)) (by kernel_rfl) rfl rfl (d_of_at m w hwp (asWd (arg0 c.cond))) (fun _ h=>h.2)) rfl) ?_
   refine Canon.pure _ _ 26 _ _ rfl (by kernel_rfl) (by kernel_rfl) rfl (.opt _ (.val _) [] rfl (EntL.all trivial) (fun hG=>OpP.mem (fun k=>P_load_box (k:=k) (c:=.val _) tok rfl rfl rfl rfl) (fun _ h=>h.1)) rfl) ?_
   refine Qo 27 rfl [] Qw (Qf [.int .i64 _,_,.int .i64 _,.int .i64 _,.int .i64 _,.int .i64 _,.int .i64 _,.str _,.bool _]) ?_
   refine Qo 28 rfl [(43,_)] Qw (Qf [_,.int .i64 _,.int .i64 _,.int .i64 _,.int .i64 _,.int .i64 _,.str _,.bool _]) ?_
   refine Qo 29 rfl [(44,_)] Qw Qls ?_
   refine Canon.pure _ _ 30 _ _ rfl (by kernel_rfl) (by kernel_rfl) rfl (.opt _ (.ptr _) [(45,_)] rfl (EntL.all ⟨Ent.self _ _,trivial⟩) (fun hG=>P_indexAddr (c:=[.int .i64 _,_,.int .i64 _,.int .i64 _,.int .i64 _,.int .i64 _,.int .i64 _,.str _]) tok rfl rfl rfl rfl rfl rfl (by decide) (arg1_at (cmp_two hck (texts_cmp (stringy_texts (g1' hG)))))) rfl) ?_
   refine Qo 31 rfl [(46,_)] Qw Qle ?_
   refine Qo 32 rfl [(47,_)] Qw (Qc rfl (d_asWord _)) ?_
   refine Canon.pure _ _ 33 _ _ rfl (by kernel_rfl) (by kernel_rfl) rfl (.opt _ (.agg _) [(42,_),(48,_)] rfl (EntL.all ⟨Ent.self _ _,Ent.self _ _,trivial⟩) (fun hG=>P_callK (ho:=.kmap m (wE w)) (by kernel_rfl) rfl rfl (d_of_at m w hwp (asWd (arg1 c.cond))) (fun _ h=>h.2)) rfl) ?_
   refine Canon.pure _ _ 34 _ _ rfl (by kernel_rfl) (by kernel_rfl) rfl (.opt _ (.bool _) [(41,_),(49,_),(33,_)] rfl (EntL.all ⟨Ent.self _ _,Ent.self _ _,Ent.self _ _,trivial⟩) (fun hG=>P_call (by kernel_rfl) rfl rfl rfl (d_str3 (ofS' w (asWd (arg0 c.cond))) (ofS' w (asWd (arg1 c.cond))))) rfl) ?_
   refine Qo 35 rfl [(50,_)] Qw Qnt ?_
   refine Qn 36 rfl Qpa ?_
   refine Canon.done _ _ (by kernel_rfl) ?_
   refine thenN (Qif (fun hc2=>?_) fun hc2=>?_)
   ·
    have hfin:=hR2.trans (neGo_fail2 hc2)
    refine Qsr (Qp Qab ?_)
    refine Qnn (AW.ret (blkR (thenR (thenR (blkR (thenR ?_))))))
    refine ⟨.inr rfl,[.bool _],.cons (.tmp _ _ rfl) <| .nil,_,.refl _,?_⟩
    exact ⟨congrArg AV.bool hfin.symm,rfl⟩
   ·
    refine AW.skip (blkN (thenN (AW.region (Qp Qad ?_))))
    refine Qp Qmi ?_
    refine Qnn ?_
    refine ⟨p+1,?_,?_,GS.weaken ⟨rfl,rfl,rfl,rfl,rfl,rfl,rfl,rfl,trivial⟩ (.refl _)⟩
    · exact ⟨hlt,hR2.trans (neGo_skip2 hc2)⟩
    · omega
  ·
   have hde:=get_end hc1
   have hR2:=hR.2
   rw [hde] at hR2
   refine AW.exit ?_
   refine thenE (thenE (blkHit (thenN (Qsr (Qp Qab ?_)))))
   refine Qnn (AW.ret ?_)
   refine ⟨.inr rfl,[.bool _],.cons (.tmp _ _ rfl) <| .nil,_,.refl _,?_⟩
   exact ⟨congrArg AV.bool hR2.symm,rfl⟩

end Go.Proofs.YtkddpedfbicbeaaGreatDoor
