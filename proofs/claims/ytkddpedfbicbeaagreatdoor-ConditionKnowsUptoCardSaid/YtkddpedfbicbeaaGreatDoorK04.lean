/-
  Several texts in one: W24, W13, W2, W3, W5, W6, W8, W9, W10, W25, S13. No condition.
-/
import Derived.Test.YtkddpedfbicbeaaGreatDoorK01
import Derived.Test.YtkddpedfbicbeaaGreatDoorK03
import Derived.KernelRfl
import Derived.Test.YtkddpedfbicbeaaGreatDoorK02
namespace Go.Proofs.YtkddpedfbicbeaaGreatDoor
open Go Go.Aw
set_option maxHeartbeats 800000
set_option maxRecDepth 20000
set_option linter.unusedVariables false
set_option linter.unusedSimpArgs false

def scOK (s:Sc):Prop:=s.name.length≤1048576∧s.fields.length≤1048576∧∀f∈s.fields,f.name.length≤1048576
theorem fields_step {seen:List (List UInt8)}{a:Fi}{r:List Fi}(h:fieldE seen a=0):fieldsS seen (a::r)=fieldsS (seen++[a.name]) r:=by rw [fieldsS,if_neg (by rw [h];decide)]
theorem fields_stop {seen:List (List UInt8)}{a:Fi}{r:List Fi}(h:fieldE seen a≠0):fieldsS seen (a::r)=fieldE seen a:=by rw [fieldsS,if_pos (by simpa using h)]
theorem types_step {seen:List (List UInt8)}{a:Sc}{r:List Sc}(h:typeE seen a=0):typesS seen (a::r)=typesS (seen++[a.name]) r:=by rw [typesS,if_neg (by rw [h];decide)]
theorem types_stop {seen:List (List UInt8)}{a:Sc}{r:List Sc}(h:typeE seen a≠0):typesS seen (a::r)=typeE seen a:=by rw [typesS,if_pos (by simpa using h)]
theorem c85 (s:Sc)(hs:scOK s):APure Tryz.prog 155 [.agg (cSc s)] (.int .i64 (schS s)):=by
 refine APure.body (n:=45) tok Tryz.func155 rfl rfl rfl fun H=>?_
 refine Qsr (Qp (Qbx [.str _,_]) ?_)
 refine Qp Qai ?_
 refine Qnn (AW.seq (Qsr (Qp (Qf [.str _,_]) ?_)))
 refine Qp Qlt ?_
 refine Qp (Qc rfl (c102 _ hs.1)) ?_
 refine Qp Qnt ?_
 refine Qnn (Qif (fun hc1=>?_) fun hc1=>?_)
 ·
  refine Qsr (Qp Qai ?_)
  refine Qnn (Qrt (Qr (.int .i64 _) ?_))
  rw [show schS s=8 by unfold schS;rw [if_pos (by simpa using hc1)]];rfl
 ·
  refine Qst (AW.seq (Qsr (Qp (Qf [_]) ?_)))
  refine Qp Qls ?_
  refine Qp (P_len_sl (n:=s.fields.length) tok rfl rfl rfl (by simp)) ?_
  refine Qp Qcgt ?_
  refine Qnn (Qif (fun hc2=>?_) fun hc2=>?_)
  ·
   refine Qsr (Qp Qai ?_)
   refine Qnn (Qrt (Qr (.int .i64 _) ?_))
   rw [show schS s=5 by unfold schS;rw [if_neg (by simpa using hc1),if_pos (by simpa using hc2)]];rfl
  ·
   refine Qst (Qsr (Qe (E_makeSMap) ?_))
   rintro _ _ ⟨b14,rfl,rfl⟩
   refine Qp Qav ?_
   refine Qnn (AW.seq (Qsr (Qp (Qf [_]) ?_)))
   refine Qp Qls ?_
   refine Qp (P_len_sl (n:=s.fields.length) tok rfl rfl rfl (by simp)) ?_
   refine Qp Qmi ?_
   refine Qnn (AW.block ?_)
   have hfl:=hs.2.1
   refine AW.loopS (fun (p:Nat×List (List UInt8))=>(⟨[(3,.val (.map (some b14))),(16,.sl 2 (s.fields.map cFi)),(17,.int .i64 s.fields.length),(18,.int .i64 (p.1:Int))],.smap b14 (setS p.2)::H,45⟩:St)) (fun (p:Nat×List (List UInt8))=>p.1≤s.fields.length∧fieldsS [] s.fields=fieldsS p.2 (s.fields.drop p.1)) (fun (p:Nat×List (List UInt8))=>s.fields.length - p.1) ((0,[])) ?_ (GS.weaken ⟨rfl,rfl,rfl,rfl,trivial⟩ (.refl _)) ?_
   · exact ⟨Nat.zero_le _,rfl⟩
   ·
    rintro p hR
    refine Qsr (Qp Qclt ?_)
    refine Qnn (AW.seq (Qif (fun hc3=>?_) fun hc3=>?_))
    ·
     obtain ⟨a,ha⟩:=get_lt hc3
     have hlt:=get_lt' ha
     have hm:=List.mem_of_getElem? ha
     refine Qst (AW.seq (AW.block (Qsr (Qp (P_indexAddr (c:=[.str _,.int .i64 _]) tok rfl rfl rfl rfl rfl rfl (by omega) (map_at ha)) ?_))))
     refine Qp (Qlg [.str _,.int .i64 _]) ?_
     refine Qe (E_alloc (l:=[.str [],.int .i64 0]) (by kernel_rfl)) ?_
     rintro _ _ ⟨b5,rfl,rfl⟩
     refine Qe (E_store (k:=0) (v:=.agg _) (cs':=[.str _,.int .i64 _]) (H2:=_::_::_) tok rfl rfl rfl rfl (rfl) rfl rfl rfl rfl) ?_
     rintro _ _ ⟨rfl,rfl⟩
     refine AOL.ghost (GS.freeze (t:=5) 0 rfl rfl) ?_
     refine Qnn (AW.seq (AW.block (Qsr (Qp (Qf [.str _,.int .i64 _]) ?_))))
     refine Qp Qlt ?_
     refine Qp (Qc rfl (c103 _ (hs.2.2 a hm))) ?_
     refine Qp Qnt ?_
     refine Qp Qab ?_
     refine Qnn (Qif (fun hc4=>?_) fun hc4=>?_)
     ·
      have hb4:(!fnameS a.name)=true:=hc4
      refine Qsr (Qp Qai ?_)
      refine Qnn (AW.ret (blkR (thenR (blkR (thenR (thenR (blkR ?_)))))))
      refine thenR ?_
      refine ⟨.inr rfl,[.int .i64 _],.cons (.tmp _ _ rfl) <| .nil,.cons _ (.refl _),?_⟩
      have he:fieldE p.2 a=8:=by
       unfold fieldE;rw [if_pos hb4]
      rw [show schS s=fieldE p.2 a by unfold schS;rw [if_neg (by simpa using hc1),if_neg (by simpa using hc2),hR.2,drop_cons ha,fields_stop (by rw [he];decide)],he];rfl
     ·
      have hb4:¬(!fnameS a.name)=true:=by simpa using hc4
      refine Qsr (Qp Qmv ?_)
      refine Qp (Qf [.str _,.int .i64 _]) ?_
      refine Qp Qlt ?_
      refine AOL.pk (P_setLook (i:=0) (ks:=p.2) tok rfl rfl rfl rfl rfl (by kernel_rfl) rfl rfl rfl) rfl rfl ?_
      refine Qp Qab ?_
      refine Qnn (Qif (fun hc5=>?_) fun hc5=>?_)
      ·
       have hb5:p.2.contains a.name=true:=hc5
       refine Qsr (Qp Qai ?_)
       refine Qnn (AW.ret (blkR (thenR (blkR (thenR (thenR (blkR ?_)))))))
       refine thenR ?_
       refine ⟨.inr rfl,[.int .i64 _],.cons (.tmp _ _ rfl) <| .nil,.cons _ (.refl _),?_⟩
       have he:fieldE p.2 a=7:=by
        unfold fieldE;rw [if_neg hb4,if_pos hb5]
       rw [show schS s=fieldE p.2 a by unfold schS;rw [if_neg (by simpa using hc1),if_neg (by simpa using hc2),hR.2,drop_cons ha,fields_stop (by rw [he];decide)],he];rfl
      ·
       have hb5:¬p.2.contains a.name=true:=by simpa using hc5
       refine Qsr (Qp (Qf [.int .i64 _]) ?_)
       refine Qp Qli ?_
       refine Qp Qclt ?_
       refine Qp Qmb ?_
       refine Qg [] Qw (Qf [.int .i64 _]) ?_
       refine Qg [(37,_)] Qw Qli ?_
       refine Qg [(38,_)] Qw Qcgq ?_
       refine Qp Qpo ?_
       refine Qp Qab ?_
       refine Qnn (Qif (fun hc6=>?_) fun hc6=>?_)
       ·
        have hb6:=hc6
        refine Qsr (Qp Qai ?_)
        refine Qnn (AW.ret (blkR (thenR (blkR (thenR (thenR (blkR ?_)))))))
        refine thenR ?_
        refine ⟨.inr rfl,[.int .i64 _],.cons (.tmp _ _ rfl) <| .nil,.cons _ (.refl _),?_⟩
        have he:fieldE p.2 a=1:=by
         unfold fieldE;rw [if_neg hb4,if_neg hb5,if_pos hb6]
        rw [show schS s=fieldE p.2 a by unfold schS;rw [if_neg (by simpa using hc1),if_neg (by simpa using hc2),hR.2,drop_cons ha,fields_stop (by rw [he];decide)],he];rfl
       ·
        have hb6:=Bool.eq_false_iff.mp hc6
        have he0:fieldE p.2 a=0:=by unfold fieldE;rw [if_neg hb4,if_neg hb5,if_neg hb6]
        refine AW.skip (blkN (thenN (AW.region (Qp Qmv ?_))))
        refine Qp (Qf [.str _,.int .i64 _]) ?_
        refine Qp Qlt ?_
        refine Qe (E_setAdd (i:=0) (H2:=_::_) tok rfl rfl rfl rfl rfl rfl rfl rfl (by simpa using hb5) rfl) ?_
        rintro _ _ ⟨rfl,rfl⟩
        refine AOL.nil (blkN (thenN (AW.region (Qp Qad ?_))))
        refine Qp Qmi ?_
        refine Qnn ?_
        refine ⟨(p.1+1,p.2++[a.name]),?_,?_,GS.weaken ⟨rfl,rfl,rfl,rfl,trivial⟩ (.refl _)⟩
        · exact ⟨hlt,by rw [hR.2,drop_cons ha,fields_step he0]⟩
        · first | omega | (simp only;omega)
    ·
     have hd:=get_end hc3
     refine AW.exit ?_
     refine thenE (thenE (blkHit (thenN (Qsr (Qp Qai ?_)))))
     refine Qnn (AW.ret ?_)
     refine ⟨.inr rfl,[.int .i64 _],.cons (.tmp _ _ rfl) <| .nil,.cons _ (.refl _),?_⟩
     rw [show schS s=0 by unfold schS;rw [if_neg (by simpa using hc1),if_neg (by simpa using hc2),hR.2,hd];rfl];rfl
theorem c57 (l:List Sc)(hl:l.length≤1048576)(hs:∀s∈l,scOK s):APure Tryz.prog 132 [.sl 2 (l.map cSc)] (.int .i64 (allTS l)):=by
 refine APure.body (n:=30) tok Tryz.func132 rfl rfl rfl fun H=>?_
 refine Qsr (Qp Qai ?_)
 refine Qnn (AW.seq (Qsr (Qp Qms ?_)))
 refine Qp (P_len_sl (n:=l.length) tok rfl rfl rfl (by simp)) ?_
 refine Qp Qcgt ?_
 refine Qnn (Qif (fun hc1=>?_) fun hc1=>?_)
 ·
  refine Qsr (Qp Qai ?_)
  refine Qnn (Qrt (Qr (.int .i64 _) ?_))
  rw [show allTS l=5 by unfold allTS;rw [if_pos (by simpa using hc1)]];rfl
 ·
  refine Qst (Qsr (Qe (E_makeSMap) ?_))
  rintro _ _ ⟨b10,rfl,rfl⟩
  refine Qp Qav ?_
  refine Qnn (AW.seq (Qsr (Qp Qms ?_)))
  refine Qp (P_len_sl (n:=l.length) tok rfl rfl rfl (by simp)) ?_
  refine Qp Qmi ?_
  refine Qnn (AW.block ?_)
  refine AW.loopS (fun (p:Nat×List (List UInt8))=>(⟨[(3,.val (.map (some b10))),(11,.sl 2 (l.map cSc)),(12,.int .i64 l.length),(13,.int .i64 (p.1:Int))],.smap b10 (setS p.2)::H,30⟩:St)) (fun (p:Nat×List (List UInt8))=>p.1≤l.length∧typesS [] l=typesS p.2 (l.drop p.1)) (fun (p:Nat×List (List UInt8))=>l.length - p.1) ((0,[])) ?_ (GS.weaken ⟨rfl,rfl,rfl,rfl,trivial⟩ (.refl _)) ?_
  · exact ⟨Nat.zero_le _,rfl⟩
  ·
   rintro p hR
   refine Qsr (Qp Qclt ?_)
   refine Qnn (AW.seq (Qif (fun hc2=>?_) fun hc2=>?_))
   ·
    obtain ⟨a,ha⟩:=get_lt hc2
    have hlt:=get_lt' ha
    have hm:=List.mem_of_getElem? ha
    refine Qst (AW.seq (AW.block (Qsr (Qp (P_indexAddr (c:=[.str _,_]) tok rfl rfl rfl rfl rfl rfl (by omega) (map_at ha)) ?_))))
    refine Qp (Qlg [.str _,_]) ?_
    refine Qe (E_alloc (l:=[.str [],.sl 2 []]) (by kernel_rfl)) ?_
    rintro _ _ ⟨b5,rfl,rfl⟩
    refine Qe (E_store (k:=0) (v:=.agg _) (cs':=[.str _,_]) (H2:=_::_::_) tok rfl rfl rfl rfl (rfl) rfl rfl rfl rfl) ?_
    rintro _ _ ⟨rfl,rfl⟩
    refine AOL.ghost (GS.freeze (t:=5) 0 rfl rfl) ?_
    refine Qnn (AW.seq (Qsr (Qp (Qlg [.str _,_]) ?_)))
    refine Qp (Qc rfl (c85 a (hs a hm))) ?_
    refine Qp Qai ?_
    refine Qns (Qp Qmi ?_)
    refine Qp Qcne ?_
    refine Qnn (Qif (fun hc3=>?_) fun hc3=>?_)
    ·
     refine Qsr (Qp Qmi ?_)
     refine Qp Qai ?_
     refine Qnn (Qrt (blkR (thenR (thenR (blkR (thenR ?_))))))
     refine ⟨.inr rfl,[.int .i64 _],.cons (.tmp _ _ rfl) <| .nil,.cons _ (.refl _),?_⟩
     have he:typeE p.2 a=schS a:=by unfold typeE;rw [if_pos hc3]
     rw [show allTS l=typeE p.2 a by unfold allTS;rw [if_neg (by simpa using hc1),hR.2,drop_cons ha,types_stop (by rw [he];simpa using hc3)],he];rfl
    ·
     have hb3:=Bool.eq_false_iff.mp hc3
     refine Qst (AW.seq (Qsr (Qp Qmv ?_)))
     refine Qp (Qf [.str _,_]) ?_
     refine Qp Qlt ?_
     refine AOL.pk (P_setLook (i:=0) (ks:=p.2) tok rfl rfl rfl rfl rfl (by kernel_rfl) rfl rfl rfl) rfl rfl ?_
     refine Qnn (Qif (fun hc4=>?_) fun hc4=>?_)
     ·
      have hb4:p.2.contains a.name=true:=hc4
      refine Qsr (Qp Qai ?_)
      refine Qnn (Qrt (blkR (thenR (thenR (blkR (thenR ?_))))))
      refine ⟨.inr rfl,[.int .i64 _],.cons (.tmp _ _ rfl) <| .nil,.cons _ (.refl _),?_⟩
      have he:typeE p.2 a=7:=by unfold typeE;rw [if_neg hb3,if_pos hb4]
      rw [show allTS l=typeE p.2 a by unfold allTS;rw [if_neg (by simpa using hc1),hR.2,drop_cons ha,types_stop (by rw [he];decide)],he];rfl
     ·
      have hb4:¬p.2.contains a.name=true:=by simpa using hc4
      have he0:typeE p.2 a=0:=by unfold typeE;rw [if_neg hb3,if_neg hb4]
      refine Qst (AW.region (Qp Qmv ?_))
      refine Qp (Qf [.str _,_]) ?_
      refine Qp Qlt ?_
      refine Qe (E_setAdd (i:=0) (H2:=_::_) tok rfl rfl rfl rfl rfl rfl rfl rfl (by simpa using hb4) rfl) ?_
      rintro _ _ ⟨rfl,rfl⟩
      refine AOL.nil (blkN (thenN (AW.region (Qp Qad ?_))))
      refine Qp Qmi ?_
      refine Qnn ?_
      refine ⟨(p.1+1,p.2++[a.name]),?_,?_,GS.weaken ⟨rfl,rfl,rfl,rfl,trivial⟩ (.refl _)⟩
      · exact ⟨hlt,by rw [hR.2,drop_cons ha,types_step he0]⟩
      · first | omega | (simp only;omega)
   ·
    have hd:=get_end hc2
    refine AW.exit ?_
    refine thenE (thenE (blkHit (thenN (Qsr (Qp Qai ?_)))))
    refine Qnn (AW.ret ?_)
    refine ⟨.inr rfl,[.int .i64 _],.cons (.tmp _ _ rfl) <| .nil,.cons _ (.refl _),?_⟩
    rw [show allTS l=0 by unfold allTS;rw [if_neg (by simpa using hc1),hR.2,hd];rfl];rfl
end Go.Proofs.YtkddpedfbicbeaaGreatDoor

namespace Go.Proofs.YtkddpedfbicbeaaGreatDoor
open Go Go.Aw
set_option maxHeartbeats 1600000
set_option maxRecDepth 20000
set_option linter.unusedVariables false
set_option linter.unusedSimpArgs false

theorem len_of_head {a b:Ex}(h:headS a b=false):a.args.length=b.args.length:=by
  simp [headS] at h;omega

def badS (l:List Ev):Bool:=decide (12 < (l.length:Int))||l.any fun v=>decide (10 < (v.values.length:Int))
def fewEnvS (vars:List (List Ev)):Bool:=!((vars.take 20).any badS)&&decide ((vars.length:Int)≤20)
def fewE (e:Ex):Bool:=decide (sizeN e≤200∧depthN e≤100)
theorem any_take_get {α:Type}{l:List α}{k:Nat}{a:α}(f:α→Bool)(h:l[k]? = some a):(l.take (k+1)).any f=((l.take k).any f||f a):=by
  rw [take_get h];simp
theorem any_of_get {α:Type}{l:List α}{k:Nat}{a:α}(f:α→Bool)(h:l[k]? = some a)(hf:f a=true):l.any f=true:=
  List.any_eq_true.2 ⟨a,List.mem_of_getElem? h,hf⟩
theorem any_take_of {α:Type}{l:List α}{k n:Nat}{a:α}(f:α→Bool)(h:l[k]? = some a)(hk:k < n)(hf:f a=true):(l.take n).any f=true:=
  any_of_get (k:=k) f (by rw [List.getElem?_take,if_pos hk];exact h) hf

theorem any_end {α:Type}{l:List α}{k n:Nat}(f:α→Bool)(h:(l.take k).any f=false)(hc:l.length≤k∨n≤k)(hk:k≤n):(l.take n).any f=false:=by
  rcases hc with hc | hc
  · rw [List.take_of_length_le hc] at h
    rw [List.take_of_length_le (by omega)];exact h
  · rw [←Nat.le_antisymm hk hc];exact h

theorem c20 (a b:Ex)(hs:sizeN a≤1048576):APure Tryz.prog 22 [.agg (cE a),.agg (cE b)] (.bool (sameS a b)):=by
 revert b hs
 induction a using Ex.ind
 rename_i a ih
 intro b hs
 have hal:=args_le a hs
 refine APure.body (n:=67) tok Tryz.func22 rfl rfl rfl fun H=>?_
 refine Qsr (Qp Qbe ?_)
 refine Qp Qbe ?_
 refine Qp Qab ?_
 refine Qnn (AW.seq (Qsr (Qp Qf0 ?_)))
 refine Qp Qli ?_
 refine Qp Qf0 ?_
 refine Qp Qli ?_
 refine Qp Qcne ?_
 refine Qp Qmb ?_
 refine Qg [] Qw Qf2 ?_
 refine Qg [(12,_)] Qw Qli ?_
 refine Qg [] Qw Qf2 ?_
 refine Qg [(14,_)] Qw Qli ?_
 refine AOL.g (y:=.bool _) _ [(13,_),(15,_)] rfl (EntL.all ⟨Ent.self _ _,Ent.self _ _,trivial⟩) (fun hG=>P_neq rfl rfl) rfl ?_
 refine Qp Qpo ?_
 refine Qp Qmb ?_
 refine Qg [] Qw Qf3 ?_
 refine Qg [(19,_)] Qw Qli ?_
 refine Qg [] Qw Qf3 ?_
 refine Qg [(21,_)] Qw Qli ?_
 refine AOL.g (y:=.bool _) _ [(20,_),(22,_)] rfl (EntL.all ⟨Ent.self _ _,Ent.self _ _,trivial⟩) (fun hG=>P_neq rfl rfl) rfl ?_
 refine Qp Qpo ?_
 refine Qp Qmb ?_
 refine Qg [] Qw Qf4 ?_
 refine Qg [(26,_)] Qw Qli ?_
 refine Qg [] Qw Qf4 ?_
 refine Qg [(28,_)] Qw Qli ?_
 refine AOL.g (y:=.bool _) _ [(27,_),(29,_)] rfl (EntL.all ⟨Ent.self _ _,Ent.self _ _,trivial⟩) (fun hG=>P_neq rfl rfl) rfl ?_
 refine Qp Qpo ?_
 refine Qp Qmb ?_
 refine Qg [] Qw Qf5 ?_
 refine Qg [(33,_)] Qw (Qlg [.int .i64 _,.int .i64 _,.str _]) ?_
 refine Qg [] Qw Qf5 ?_
 refine Qg [(35,_)] Qw (Qlg [.int .i64 _,.int .i64 _,.str _]) ?_
 refine AOL.g (y:=.bool _) _ [(34,_),(36,_)] rfl (EntL.all ⟨Ent.self _ _,Ent.self _ _,trivial⟩) (fun hG=>P_neq_agg tok rfl rfl rfl rfl rfl) rfl ?_
 refine Qp Qpo ?_
 refine Qp Qmb ?_
 refine Qg [] Qw Qf1 ?_
 refine Qg [(40,_)] Qw Qls ?_
 refine AOL.g (y:=.int .i64 _) _ [(41,_)] rfl (EntL.all ⟨Ent.self _ _,trivial⟩) (fun hG=>P_len_sl (n:=a.args.length) tok rfl rfl rfl (by simp)) rfl ?_
 refine Qg [] Qw Qf1 ?_
 refine Qg [(43,_)] Qw Qls ?_
 refine AOL.g (y:=.int .i64 _) _ [(44,_)] rfl (EntL.all ⟨Ent.self _ _,trivial⟩) (fun hG=>P_len_sl (n:=b.args.length) tok rfl rfl rfl (by simp)) rfl ?_
 refine AOL.g (y:=.bool _) _ [(42,_),(45,_)] rfl (EntL.all ⟨Ent.self _ _,Ent.self _ _,trivial⟩) (fun hG=>P_neq rfl rfl) rfl ?_
 refine Qp Qpo ?_
 refine Qnn (Qif (fun hc1=>?_) fun hc1=>?_)
 ·
  have hh:headS a b=true:=by simpa [headS] using hc1
  refine Qsr (Qp Qab ?_)
  refine Qnn (Qrt (Qr (.bool _) ?_))
  rw [sameS_eq,if_pos hh];rfl
 ·
  have hh:headS a b=false:=by simpa [headS] using hc1
  have hlen:=len_of_head hh
  refine Qst (AW.seq (Qsr (Qp Qai ?_)))
  refine Qnn (AW.block ?_)
  refine AW.loopS (fun (p:Nat)=>(⟨[(2,.ptr (cE a)),(3,.ptr (cE b)),(5,.int .i64 (p:Int))],H,67⟩:St)) (fun (p:Nat)=>p≤a.args.length∧sameL a.args b.args=sameL (a.args.drop p) (b.args.drop p)) (fun (p:Nat)=>a.args.length - p) (0) ?_ (GS.weaken ⟨rfl,rfl,rfl,trivial⟩ (.refl _)) ?_
  · exact ⟨Nat.zero_le _,rfl⟩
  ·
   rintro p hR
   refine AW.seq (Qsr (Qp Qmi ?_))
   refine Qp Qf1 ?_
   refine Qp Qls ?_
   refine Qp (P_len_sl (n:=a.args.length) tok rfl rfl rfl (by simp)) ?_
   refine Qp Qclt ?_
   refine Qnn (Qif (fun hc2=>?_) fun hc2=>?_)
   ·
    obtain ⟨x,hx⟩:=get_lt hc2
    have hlt:=get_lt' hx
    have hm:=List.mem_of_getElem? hx
    obtain ⟨y,hy⟩:∃y,b.args[p]? = some y:=⟨_,List.getElem?_eq_getElem (by omega)⟩
    refine Qst (AW.seq (AW.block (AW.seq ?_)))
    refine AW.draw mixed (fun _=>True) trivial (by kernel_rfl) ?_
    refine Qn 0 rfl Qf1 ?_
    refine Qn 1 rfl Qls ?_
    refine Qn 2 rfl Qmi ?_
    refine Qn 3 rfl (P_indexAddr (c:=[.int .i64 _,_,.int .i64 _,.int .i64 _,.int .i64 _,.int .i64 _,.int .i64 _,.str _]) tok rfl rfl rfl rfl rfl rfl (by omega) (encE_at hx)) ?_
    refine Qn 4 rfl Qle ?_
    refine Qn 5 rfl Qf1 ?_
    refine Qn 6 rfl Qls ?_
    refine Qn 7 rfl Qmi ?_
    refine Qn 8 rfl (P_indexAddr (c:=[.int .i64 _,_,.int .i64 _,.int .i64 _,.int .i64 _,.int .i64 _,.int .i64 _,.str _]) tok rfl rfl rfl rfl rfl rfl (by omega) (encE_at hy)) ?_
    refine Qn 9 rfl Qle ?_
    refine Qn 10 rfl (Qc rfl (ih x hm y (by have:=size_arg hm;omega))) ?_
    refine Qn 11 rfl Qnt ?_
    refine Canon.done _ _ (by kernel_rfl) ?_
    refine thenN (Qif (fun hc3=>?_) fun hc3=>?_)
    ·
     refine Qsr (Qp Qab ?_)
     refine Qnn (AW.ret (blkR (thenR (thenR (blkR (thenR (Qr (.bool _) ?_)))))))
     rw [sameS_eq,if_neg (by simp [hh]),hR.2,drop_cons hx,drop_cons hy];show _=AV.bool (if (!sameS x y)=true then false else _);rw [if_pos hc3];rfl
    ·
     refine AW.skip (blkN (thenN (AW.region (Qp Qmi ?_))))
     refine Qp Qad ?_
     refine Qp Qai ?_
     refine Qnn ?_
     refine ⟨p+1,?_,?_,GS.weaken ⟨rfl,rfl,rfl,trivial⟩ (.refl _)⟩
     · exact ⟨hlt,by rw [hR.2,drop_cons hx,drop_cons hy,sameL];simp [hc3]⟩
     · omega
   ·
    have hd:=get_end hc2
    refine AW.exit ?_
    refine thenE (thenE (blkHit (thenN (Qsr (Qp Qab ?_)))))
    refine Qnn (AW.ret (Qr (.bool _) ?_))
    rw [sameS_eq,if_neg (by simp [hh]),hR.2,hd];rfl
theorem c12 (vars:List (List Ev))(hv:vars.length≤1048576)(hx:∀l∈vars,l.length≤1048576):APure Tryz.prog 17 [.agg (cEnv vars)] (.bool (fewEnvS vars)):=by
 refine APure.body (n:=48) tok Tryz.func17 rfl rfl rfl fun H=>?_
 refine Qsr (Qp (Qbx [_]) ?_)
 refine Qp Qab ?_
 refine Qnn (AW.seq (Qsr (Qp Qai ?_)))
 refine Qnn (AW.block ?_)
 refine AW.loopS (fun (i:Nat)=>(⟨[(1,.ptr (cEnv vars)),(3,.int .i64 (i:Int))],H,48⟩:St)) (fun (i:Nat)=>i≤vars.length∧i≤20∧(vars.take i).any badS=false) (fun (i:Nat)=>vars.length - i) (0) ?_ (GS.weaken ⟨rfl,rfl,trivial⟩ (.refl _)) ?_
 · exact ⟨Nat.zero_le _,Nat.zero_le _,by simp⟩
 ·
  rintro i hR
  refine AW.seq (Qsr (Qp Qmi ?_))
  refine Qp (Qf [_]) ?_
  refine Qp Qls ?_
  refine Qp (P_len_sl (n:=vars.length) tok rfl rfl rfl (by simp)) ?_
  refine Qp Qclt ?_
  refine Qp Qmb ?_
  refine Qg [] Qw Qmi ?_
  refine Qg [(11,_)] Qw Qclt ?_
  refine Qp Qpa ?_
  refine Qnn (Qif (fun hc1=>?_) fun hc1=>?_)
  ·
   have hcc:i < vars.length∧i < 20:=by simp at hc1;omega
   obtain ⟨l,hl⟩:∃l,vars[i]? = some l:=⟨_,List.getElem?_eq_getElem hcc.1⟩
   have hll:=hx l (List.mem_of_getElem? hl)
   refine Qst (AW.seq (AW.block (AW.seq (Qsr (Qp (Qf [_]) ?_)))))
   refine Qp Qls ?_
   refine Qp Qmi ?_
   refine Qp (P_indexAddr (c:=[_]) tok rfl rfl rfl rfl rfl rfl (by omega) (map_at hl)) ?_
   refine Qp Qls ?_
   refine Qp (P_len_sl (n:=l.length) tok rfl rfl rfl (by simp)) ?_
   refine Qp Qcgt ?_
   refine Qnn (Qif (fun hc2=>?_) fun hc2=>?_)
   ·
    have hbad:badS l=true:=by simp only [badS,hc2,Bool.true_or]
    have hany:=any_take_of badS hl hcc.2 hbad
    refine Qsr (Qp Qab ?_)
    refine Qnn (Qrt (blkR (thenR (thenR (blkR (thenR (Qr (.bool _) ?_)))))))
    simp only [resOf,fewEnvS,hany];rfl
   ·
    refine Qst (Qsr (Qp Qai ?_))
    refine Qnn (AW.block ?_)
    refine AW.loopS (fun (k:Nat)=>(⟨[(1,.ptr (cEnv vars)),(3,.int .i64 (i:Int)),(4,.int .i64 (k:Int))],H,48⟩:St)) (fun (k:Nat)=>k≤l.length∧(l.take k).any (fun v=>decide (10 < (v.values.length:Int)))=false) (fun (k:Nat)=>l.length - k) (0) ?_ (GS.weaken ⟨rfl,rfl,rfl,trivial⟩ (.refl _)) ?_
    · exact ⟨Nat.zero_le _,by simp⟩
    ·
     rintro k hS
     refine AW.seq (Qsr (Qp Qmi ?_))
     refine Qp (Qf [_]) ?_
     refine Qp Qls ?_
     refine Qp Qmi ?_
     refine Qp (P_indexAddr (c:=[_]) tok rfl rfl rfl rfl rfl rfl (by omega) (map_at hl)) ?_
     refine Qp Qls ?_
     refine Qp (P_len_sl (n:=l.length) tok rfl rfl rfl (by simp)) ?_
     refine Qp Qclt ?_
     refine Qnn (Qif (fun hc3=>?_) fun hc3=>?_)
     ·
      obtain ⟨v,hv3⟩:=get_lt hc3
      have hlt:=get_lt' hv3
      refine Qst (AW.seq (AW.block (Qsr (Qp (Qf [_]) ?_))))
      refine Qp Qls ?_
      refine Qp Qmi ?_
      refine Qp (P_indexAddr (c:=[_]) tok rfl rfl rfl rfl rfl rfl (by omega) (map_at hl)) ?_
      refine Qp Qls ?_
      refine Qp Qmi ?_
      refine Qp (P_indexAddr (c:=[.int .i64 _,.int .i64 _,.int .i64 _,.int .i64 _,_]) tok rfl rfl rfl rfl rfl rfl (by omega) (map_at hv3)) ?_
      refine Qp (Qf [_]) ?_
      refine Qp Qls ?_
      refine Qp (P_len_sl (n:=v.values.length) tok rfl rfl rfl (by simp)) ?_
      refine Qp Qcgt ?_
      refine Qnn (Qif (fun hc4=>?_) fun hc4=>?_)
      ·
       have hbad:badS l=true:=by rw [badS,any_of_get _ hv3 hc4,Bool.or_true]
       have hany:=any_take_of badS hl hcc.2 hbad
       refine Qsr (Qp Qab ?_)
       refine Qnn (AW.ret (blkR (thenR (thenR (blkR (blkR (thenR ?_)))))))
       refine thenR (blkR (thenR (Qr (.bool _) ?_)))
       simp only [resOf,fewEnvS,hany];rfl
      ·
       refine AW.skip (blkN (thenN (AW.region (Qp Qmi ?_))))
       refine Qp Qad ?_
       refine Qp Qai ?_
       refine Qnn ?_
       refine ⟨k+1,?_,?_,GS.weaken ⟨rfl,rfl,rfl,trivial⟩ (.refl _)⟩
       · exact ⟨hlt,by rw [any_take_get _ hv3,hS.2,hc4];rfl⟩
       · omega
     ·
      have hte:=take_end hc3
      have hbad:badS l=false:=by rw [badS,hc2,←hte];simp [hS.2]
      refine AW.exit ?_
      refine thenE (thenE (blkHit (blkN (thenN (AW.region (Qp Qmi ?_))))))
      refine Qp Qad ?_
      refine Qp Qai ?_
      refine Qnn ?_
      refine ⟨i+1,?_,?_,GS.weaken ⟨rfl,rfl,trivial⟩ (.refl _)⟩
      · exact ⟨by omega,by omega,by rw [any_take_get _ hl,hR.2.2,hbad];rfl⟩
      · omega
  ·
   have hcc:¬(i < vars.length∧i < 20):=by simp at hc1;omega
   have hany:=any_end (n:=20) badS hR.2.2 (by omega) hR.2.1
   refine AW.exit ?_
   refine thenE (thenE (blkHit (thenN (Qsr (Qp (Qf [_]) ?_)))))
   refine Qp Qls ?_
   refine Qp (P_len_sl (n:=vars.length) tok rfl rfl rfl (by simp)) ?_
   refine Qp Qclq ?_
   refine Qp Qab ?_
   refine Qnn (AW.ret (Qr (.bool _) ?_))
   simp only [resOf,fewEnvS,hany];rfl

end Go.Proofs.YtkddpedfbicbeaaGreatDoor

namespace Go.Proofs.YtkddpedfbicbeaaGreatDoor
open Go Go.Aw
set_option linter.unusedVariables false
set_option linter.unusedSimpArgs false

end Go.Proofs.YtkddpedfbicbeaaGreatDoor

namespace Go.Proofs.YtkddpedfbicbeaaGreatDoor
open Go Go.Aw
set_option linter.unusedVariables false
set_option linter.unusedSimpArgs false

end Go.Proofs.YtkddpedfbicbeaaGreatDoor

namespace Go.Proofs.YtkddpedfbicbeaaGreatDoor
open Go Go.Aw
set_option maxHeartbeats 400000
set_option maxRecDepth 20000
set_option linter.unusedVariables false
set_option linter.unusedSimpArgs false

theorem c95 (vars:List (List Ev))(v:Int):APure Tryz.prog 100 [.agg (cEnv vars),.int .i64 v] (.sl 5 ((eventsS vars v).map cEv)):=by
 refine APure.body (n:=19) tok Tryz.func100 rfl rfl rfl fun H=>?_
 refine Qsr (Qp (Qbx [_]) ?_)
 refine Qp (P_assign_nil (z:=5) rfl) ?_
 refine Qnn (AW.seq (Qsr (Qp Qmi ?_)))
 refine Qp Qclt ?_
 refine Qp Qmb ?_
 refine Qg [] Qw Qmi ?_
 refine Qg [] Qw (Qf [_]) ?_
 refine Qg [(9,_)] Qw Qls ?_
 refine AOL.g (y:=.int .i64 _) _ [(10,_)] rfl (EntL.all ⟨Ent.self _ _,trivial⟩) (fun hG=>P_len_sl (n:=vars.length) tok rfl rfl rfl (by simp)) rfl ?_
 refine AOL.g (y:=.bool _) _ [(8,_),(11,_)] rfl (EntL.all ⟨Ent.self _ _,Ent.self _ _,trivial⟩) (fun hG=>P_geq rfl rfl) rfl ?_
 refine Qp Qpo ?_
 refine Qnn (Qif (fun hc1=>?_) fun hc1=>?_)
 ·
  refine Qsr (Qp (P_assign_nil (z:=5) rfl) ?_)
  refine Qnn (Qrt (Qr (.sl _ _) ?_))
  simp only [resOf,eventsS]
  rw [if_pos hc1];rfl
 ·
  have hv:0≤v∧v < (vars.length:Int):=by simp at hc1;omega
  obtain ⟨l,hl⟩:=get_int hv.1 hv.2
  refine Qst (Qsr (Qp (Qf [_]) ?_))
  refine Qp Qls ?_
  refine Qp Qmi ?_
  refine Qp (P_indexAddr (c:=[_]) tok rfl rfl rfl rfl rfl rfl (hv.1) (map_at hl)) ?_
  refine Qp Qls ?_
  refine Qp Qas ?_
  refine Qnn (AW.ret (Qr (.sl _ _) ?_))
  simp only [resOf,eventsS]
  rw [if_neg (by simpa using hc1),hl];rfl
theorem c71 (op:Int)(ks:List Int):APure Tryz.prog 127 [.int .i64 op,.sl 1 (ks.map fun k=>[.int .i64 k])] (.int .i64 (operandsS op ks)):=by
 refine APure.body (n:=38) tok Tryz.func127 rfl rfl rfl fun H=>?_
 refine Qsr (Qp Qai ?_)
 refine Qnn (AW.seq (Qsr (Qp Qms ?_)))
 refine Qp (P_len_sl (n:=ks.length) tok rfl rfl rfl (by simp)) ?_
 refine Qp Qmi ?_
 refine Qnn (AW.block ?_)
 refine AW.sllen 8 rfl fun hlen=>?_
 simp only [List.length_map,maxLen] at hlen
 refine AW.loopS (fun (p:Nat)=>(⟨[(0,.int .i64 op),(1,.sl 1 (ks.map fun k=>[.int .i64 k])),(8,.sl 1 (ks.map fun k=>[.int .i64 k])),(9,.int .i64 ks.length),(10,.int .i64 (p:Int))],H,38⟩:St)) (fun (p:Nat)=>p≤ks.length∧operandsS op ks=firstS (fun k=>if okS op k (ks.headD 0) then 0 else 9) (ks.drop p)) (fun (p:Nat)=>ks.length - p) (0) ?_ (GS.weaken ⟨rfl,rfl,rfl,rfl,rfl,trivial⟩ (.refl _)) ?_
 · exact ⟨Nat.zero_le _,rfl⟩
 ·
  rintro p hR
  refine Qsr (Qp Qclt ?_)
  refine Qnn (AW.seq (Qif (fun hc1=>?_) fun hc1=>?_))
  ·
   obtain ⟨a,ha⟩:=get_lt hc1
   have hlt:=get_lt' ha
   have hm:=List.mem_of_getElem? ha
   obtain ⟨a0,ha0⟩:∃a0,ks[0]? = some a0:=⟨_,List.getElem?_eq_getElem (by omega)⟩
   have hhd:ks.headD 0=a0:=by cases ks <;> simp_all
   refine Qst (AW.seq (AW.block (Qsr (Qp (P_indexAddr (c:=[.int .i64 _]) tok rfl rfl rfl rfl rfl rfl (by omega) (map_at (f:=fun k=>[AV.int .i64 k]) ha)) ?_))))
   refine Qp Qli ?_
   refine Qp Qai ?_
   refine Qns (Qp Qab ?_)
   refine Qnn ?_
   refine AW.cut (fun (_:Unit)=>(⟨[(0,.int .i64 op),(1,.sl 1 (ks.map fun k=>[.int .i64 k])),(8,.sl 1 (ks.map fun k=>[.int .i64 k])),(9,.int .i64 ks.length),(10,.int .i64 (p:Int)),(7,.bool (okS op a a0))],H,38⟩:St)) (fun (_:Unit)=>True) ?_ ?_
   ·
    refine Qsr (Qp Qmi ?_)
    refine Qnn (AW.block ?_)
    refine AW.cut (fun (_:Unit)=>(⟨[(0,.int .i64 op),(1,.sl 1 (ks.map fun k=>[.int .i64 k])),(6,.int .i64 a),(7,.bool true),(8,.sl 1 (ks.map fun k=>[.int .i64 k])),(9,.int .i64 ks.length),(10,.int .i64 (p:Int)),(14,.int .i64 op),(15,.bool (op == 5||op == 6||op == 7||op == 8))],H,38⟩:St)) (fun (_:Unit)=>True) ?_ ?_
    ·
     refine Qsr (Qp Qceq ?_)
     refine Qp Qab ?_
     refine Qnn (Qif (fun hc2=>?_) fun hc2=>?_)
     ·
      refine Qst ?_
      refine ⟨(),?_,GS.weaken ⟨rfl,rfl,rfl,rfl,rfl,rfl,rfl,rfl,congrArg AV.bool (by simp [okS, *]),trivial⟩ (.refl _)⟩
      trivial
     ·
      refine Qsr (Qp Qceq ?_)
      refine Qp Qab ?_
      refine Qnn (Qif (fun hc3=>?_) fun hc3=>?_)
      ·
       refine Qst ?_
       refine ⟨(),?_,GS.weaken ⟨rfl,rfl,rfl,rfl,rfl,rfl,rfl,rfl,congrArg AV.bool (by simp [okS, *]),trivial⟩ (.refl _)⟩
       trivial
      ·
       refine Qsr (Qp Qceq ?_)
       refine Qp Qab ?_
       refine Qnn (Qif (fun hc4=>?_) fun hc4=>?_)
       ·
        refine Qst ?_
        refine ⟨(),?_,GS.weaken ⟨rfl,rfl,rfl,rfl,rfl,rfl,rfl,rfl,congrArg AV.bool (by simp [okS, *]),trivial⟩ (.refl _)⟩
        trivial
       ·
        refine AW.region (Qp Qceq ?_)
        refine Qp Qab ?_
        refine Qnn ?_
        refine ⟨(),?_,GS.weaken ⟨rfl,rfl,rfl,rfl,rfl,rfl,rfl,rfl,congrArg AV.bool (by simp [okS, *]),trivial⟩ (.refl _)⟩
        trivial
    ·
     rintro _ _
     refine Qif (fun hc5=>?_) fun hc5=>?_
     ·
      refine AW.region (Qp Qmi ?_)
      refine Qp Qceq ?_
      refine Qp Qab ?_
      refine AOL.nil (blkN (thenN ?_))
      refine ⟨(),?_,GS.weaken ⟨rfl,rfl,rfl,rfl,rfl,congrArg AV.bool (by simp [okS, *]),trivial⟩ (.refl _)⟩
      trivial
     ·
      refine AW.cut (fun (_:Unit)=>(⟨[(0,.int .i64 op),(1,.sl 1 (ks.map fun k=>[.int .i64 k])),(6,.int .i64 a),(7,.bool true),(8,.sl 1 (ks.map fun k=>[.int .i64 k])),(9,.int .i64 ks.length),(10,.int .i64 (p:Int)),(14,.int .i64 op),(22,.bool (op == 10||op == 11||op == 12))],H,38⟩:St)) (fun (_:Unit)=>True) ?_ ?_
      ·
       refine Qsr (Qp Qceq ?_)
       refine Qp Qab ?_
       refine Qnn (Qif (fun hc6=>?_) fun hc6=>?_)
       ·
        refine Qst ?_
        refine ⟨(),?_,GS.weaken ⟨rfl,rfl,rfl,rfl,rfl,rfl,rfl,rfl,congrArg AV.bool (by simp [okS, *]),trivial⟩ (.refl _)⟩
        trivial
       ·
        refine Qsr (Qp Qceq ?_)
        refine Qp Qab ?_
        refine Qnn (Qif (fun hc7=>?_) fun hc7=>?_)
        ·
         refine Qst ?_
         refine ⟨(),?_,GS.weaken ⟨rfl,rfl,rfl,rfl,rfl,rfl,rfl,rfl,congrArg AV.bool (by simp [okS, *]),trivial⟩ (.refl _)⟩
         trivial
        ·
         refine AW.region (Qp Qceq ?_)
         refine Qp Qab ?_
         refine Qnn ?_
         refine ⟨(),?_,GS.weaken ⟨rfl,rfl,rfl,rfl,rfl,rfl,rfl,rfl,congrArg AV.bool (by simp [okS, *]),trivial⟩ (.refl _)⟩
         trivial
      ·
       rintro _ _
       refine Qif (fun hc8=>?_) fun hc8=>?_
       ·
        refine AW.region (Qp Qmi ?_)
        refine Qp Qceq ?_
        refine Qp Qab ?_
        refine AOL.nil (blkN (thenN ?_))
        refine ⟨(),?_,GS.weaken ⟨rfl,rfl,rfl,rfl,rfl,congrArg AV.bool (by simp [okS, *]),trivial⟩ (.refl _)⟩
        trivial
       ·
        refine Qsr (Qp Qceq ?_)
        refine Qp Qab ?_
        refine Qnn (Qif (fun hc9=>?_) fun hc9=>?_)
        ·
         refine AW.region (Qp Qmi ?_)
         refine Qp Qms ?_
         refine Qp (P_indexAddr (c:=[.int .i64 _]) tok rfl rfl rfl rfl rfl rfl (by omega) (map_at (f:=fun k=>[AV.int .i64 k]) ha0)) ?_
         refine Qp Qli ?_
         refine Qp Qceq ?_
         refine Qp Qab ?_
         refine AOL.nil (blkN (thenN ?_))
         refine ⟨(),?_,GS.weaken ⟨rfl,rfl,rfl,rfl,rfl,congrArg AV.bool (by simp [okS, *]),trivial⟩ (.refl _)⟩
         trivial
        ·
         refine AW.skip (blkN (thenN ?_))
         refine ⟨(),?_,GS.weaken ⟨rfl,rfl,rfl,rfl,rfl,congrArg AV.bool (by simp [okS, *]),trivial⟩ (.refl _)⟩
         trivial
   ·
    rintro _ _
    refine Qsr (Qp Qmb ?_)
    refine Qp Qnt ?_
    refine Qnn (Qif (fun hc10=>?_) fun hc10=>?_)
    ·
     have hok:okS op a a0=false:=by simpa using hc10
     refine Qsr (Qp Qai ?_)
     refine Qnn (AW.ret (blkR (thenR (thenR (blkR (thenR (Qr (.int .i64 _) ?_)))))))
     simp only [resOf,AV.int.injEq,true_and]
     rw [hR.2,drop_cons ha,firstS,hhd];simp [hok]
    ·
     have hok:okS op a a0=true:=by simpa using hc10
     refine AW.skip (blkN (thenN (AW.region (Qp Qad ?_))))
     refine Qp Qmi ?_
     refine Qnn ?_
     refine ⟨p+1,?_,?_,GS.weaken ⟨rfl,rfl,rfl,rfl,rfl,trivial⟩ (.refl _)⟩
     · exact ⟨hlt,by rw [hR.2,drop_cons ha,firstS,hhd];simp [hok]⟩
     · first | omega | (simp only;omega)
  ·
   have hd:=get_end hc1
   refine AW.exit ?_
   refine thenE (thenE (blkHit (thenN (Qsr (Qp Qai ?_)))))
   refine Qnn (AW.ret (Qr (.int .i64 _) ?_))
   simp only [resOf,AV.int.injEq,true_and]
   rw [hR.2,hd];rfl

end Go.Proofs.YtkddpedfbicbeaaGreatDoor

namespace Go.Proofs.YtkddpedfbicbeaaGreatDoor
open Go Go.Aw
set_option linter.unusedVariables false
set_option linter.unusedSimpArgs false

end Go.Proofs.YtkddpedfbicbeaaGreatDoor

namespace Go.Proofs.YtkddpedfbicbeaaGreatDoor
open Go Go.Aw
set_option linter.unusedVariables false
set_option linter.unusedSimpArgs false

end Go.Proofs.YtkddpedfbicbeaaGreatDoor

namespace Go.Proofs.YtkddpedfbicbeaaGreatDoor
open Go Go.Aw
set_option linter.unusedVariables false
set_option linter.unusedSimpArgs false

end Go.Proofs.YtkddpedfbicbeaaGreatDoor

namespace Go.Proofs.YtkddpedfbicbeaaGreatDoor
open Go Go.Aw
set_option linter.unusedVariables false
set_option linter.unusedSimpArgs false

theorem check_nodes {e:Ex}(h:checkS e=0):nodesS e=0:=by
  unfold checkS at h
  split at h
  · cases h
  split at h
  · cases h
  exact h

end Go.Proofs.YtkddpedfbicbeaaGreatDoor

namespace Go.Proofs.YtkddpedfbicbeaaGreatDoor
open Go Go.Aw
set_option maxHeartbeats 1600000
set_option maxRecDepth 20000
set_option linter.unusedVariables false
set_option linter.unusedSimpArgs false

def cT (types:List Sc)(vars:List Va):List AV:=[.sl 2 (types.map cSc),.sl 2 (vars.map cVa)]
def TyOK8 (types:List Sc)(vars:List Va):Prop:=∀v∈vars,0≤v.type∧v.type < (types.length:Int)
theorem varsE_zero {types:List Sc}{vars:List Va}(h:varsE types vars=0):firstS (varE types.length) vars=0:=by
  unfold varsE at h
  split at h
  · cases h
  · exact h
theorem tyok_of {types:List Sc}{vars:List Va}(h:firstS (varE types.length) vars=0):TyOK8 types vars:=by
  intro v hv
  have:=first_zero h v hv
  unfold varE at this
  split at this
  · cases this
  · rename_i h1;simp at h1;omega

theorem c86 (types:List Sc)(vars:List Va)(hv:TyOK8 types vars)(e:Ex)(hn:nodeS e=0):APure Tryz.prog 156 [.agg (cT types vars),.agg (cE e)] (.tuple [.int .i64 (leafK types vars e).1,.int .i64 (leafK types vars e).2]):=by
 have hvr:=node_var hn
 have hfr:=node_field hn
 refine APure.body (n:=70) tok Tryz.func156 rfl rfl rfl fun H=>?_
 refine Qsr (Qp (Qbx [_,_]) ?_)
 refine Qp Qbe ?_
 refine Qp Qai ?_
 refine Qp Qai ?_
 refine Qnn (AW.seq (Qsr (Qp Qf0 ?_)))
 refine Qp Qli ?_
 refine Qp Qceq ?_
 refine Qnn (Qif (fun hc1=>?_) fun hc1=>?_)
 ·
  refine Qsr (Qp Qf5 ?_)
  refine Qp Qf5 ?_
  refine Qp Qli ?_
  refine Qp Qai ?_
  refine Qp Qai ?_
  refine Qnn (Qrt (Qrr (.int .i64 _) (.int .i64 _) ?_))
  simp only [resOf,leafK]
  try simp only [hfl]
  try simp only [hka]
  (first | rw [if_pos hc1] | skip)
  first | done | rfl
 ·
  refine Qst (AW.seq (Qsr (Qp Qf2 ?_)))
  refine Qp Qli ?_
  refine Qp (Qf [_]) ?_
  refine Qp Qls ?_
  refine Qp (P_len_sl (n:=vars.length) tok rfl rfl rfl (by simp)) ?_
  refine Qp Qcgq ?_
  refine Qnn (Qif (fun hc2=>?_) fun hc2=>?_)
  ·
   refine Qsr (Qp Qai ?_)
   refine Qp Qai ?_
   refine Qnn (Qrt (Qrr (.int .i64 _) (.int .i64 _) ?_))
   simp only [resOf,leafK]
   try simp only [hfl]
   try simp only [hka]
   (first | rw [if_neg (Bool.eq_false_iff.mp hc1)] | skip);(first | rw [if_pos hc2] | skip)
   first | done | rfl
  ·
   refine Qst (AW.seq (Qsr (Qp Qf0 ?_)))
   refine Qp Qli ?_
   refine Qp Qceq ?_
   refine Qp Qmb ?_
   refine Qg [] Qw Qf0 ?_
   refine Qg [(24,_)] Qw Qli ?_
   refine Qg [(25,_)] Qw Qceq ?_
   refine Qp Qpo ?_
   refine Qnn (Qif (fun hc3=>?_) fun hc3=>?_)
   ·
    refine Qsr (Qp Qai ?_)
    refine Qp Qai ?_
    refine Qnn (Qrt (Qrr (.int .i64 _) (.int .i64 _) ?_))
    simp only [resOf,leafK]
    try simp only [hfl]
    try simp only [hka]
    (first | rw [if_neg (Bool.eq_false_iff.mp hc1)] | skip);(first | rw [if_neg (Bool.eq_false_iff.mp hc2)] | skip);(first | rw [if_pos hc3] | skip)
    first | done | rfl
   ·
    refine (get_int (l:=vars) hvr.1 (by simp at hc2;omega)).elim fun v hv1=>?_
    have hvt:=hv v (List.mem_of_getElem? hv1)
    refine (get_int (l:=types) hvt.1 hvt.2).elim fun s hs1=>?_
    have hfl:fldsS types vars e.var=s.fields:=by simp [fldsS,hv1,hs1]
    refine Qst (AW.seq ?_)
    refine AW.draw mixed (fun _=>True) trivial (by kernel_rfl) ?_
    refine Qn 0 rfl (Qf [_,_]) ?_
    refine Qn 1 rfl Qls ?_
    refine Qn 2 rfl (Qf [_]) ?_
    refine Qn 3 rfl Qls ?_
    refine Qn 4 rfl Qf2 ?_
    refine Qn 5 rfl Qli ?_
    refine Qn 6 rfl (P_indexAddr (c:=[.str _,.int .i64 _]) tok rfl rfl rfl rfl rfl rfl (hvr.1) (map_at hv1)) ?_
    refine Qn 7 rfl (Qf [.int .i64 _]) ?_
    refine Qn 8 rfl Qli ?_
    refine Qn 9 rfl (P_indexAddr (c:=[.str _,_]) tok rfl rfl rfl rfl rfl rfl (hvt.1) (map_at hs1)) ?_
    refine Qn 10 rfl (Qf [_]) ?_
    refine Qn 11 rfl Qls ?_
    refine Qn 12 rfl Qas ?_
    refine Canon.done _ _ (by kernel_rfl) ?_
    refine thenN (AW.seq (Qsr (Qp Qf3 ?_)))
    refine Qp Qli ?_
    refine Qp Qms ?_
    refine Qp (P_len_sl (n:=s.fields.length) tok rfl rfl rfl (by simp)) ?_
    refine Qp Qcgq ?_
    refine Qnn (Qif (fun hc4=>?_) fun hc4=>?_)
    ·
     refine Qsr (Qp Qai ?_)
     refine Qp Qai ?_
     refine Qnn (Qrt (Qrr (.int .i64 _) (.int .i64 _) ?_))
     simp only [resOf,leafK]
     try simp only [hfl]
     try simp only [hka]
     (first | rw [if_neg (Bool.eq_false_iff.mp hc1)] | skip);(first | rw [if_neg (Bool.eq_false_iff.mp hc2)] | skip);(first | rw [if_neg (Bool.eq_false_iff.mp hc3)] | skip);(first | rw [if_pos hc4] | skip)
     first | done | rfl
    ·
     refine (get_int (l:=s.fields) hfr (by simp at hc4;omega)).elim fun f hf1=>?_
     have hka:kindAt s.fields e.field=f.kind:=by simp [kindAt,hf1]
     refine Qst (Qsr (Qp Qms ?_))
     refine Qp Qf3 ?_
     refine Qp Qli ?_
     refine Qp (P_indexAddr (c:=[.str _,.int .i64 _]) tok rfl rfl rfl rfl rfl rfl (hfr) (map_at hf1)) ?_
     refine Qp (Qf [.int .i64 _]) ?_
     refine Qp Qli ?_
     refine Qp Qai ?_
     refine Qnn (AW.seq (Qsr (Qp Qf0 ?_)))
     refine Qp Qli ?_
     refine Qp Qceq ?_
     refine Qp Qmb ?_
     refine Qg [] Qw Qmi ?_
     refine Qg [] Qw Qf5 ?_
     refine Qg [(56,_)] Qw Qf5 ?_
     refine Qg [(57,_)] Qw Qli ?_
     refine AOL.g (y:=.bool _) _ [(55,_),(58,_)] rfl (EntL.all ⟨Ent.self _ _,Ent.self _ _,trivial⟩) (fun hG=>P_neq rfl rfl) rfl ?_
     refine Qg [(59,_)] Qw Qmb ?_
     refine Qg [] Qw Qf4 ?_
     refine Qg [(61,_)] Qw Qli ?_
     refine Qg [] Qw Qmi ?_
     refine Qg [(63,_)] Qw (Qbd [.int .i64 _,.int .i64 _,.str _]) ?_
     refine AOL.g (y:=.bool _) _ [(62,_),(64,_)] rfl (EntL.all ⟨Ent.self _ _,Ent.self _ _,trivial⟩) (fun hG=>P_callf (by kernel_rfl) rfl rfl (c99 _ ⟨_,_,_⟩)) rfl ?_
     refine Qg [(65,_)] Qw Qnt ?_
     refine Qg [(60,_),(66,_)] Qw Qpo ?_
     refine Qp Qpa ?_
     refine Qnn (Qif (fun hc5=>?_) fun hc5=>?_)
     ·
      refine Qsr (Qp Qai ?_)
      refine Qp Qai ?_
      refine Qnn (Qrt (Qrr (.int .i64 _) (.int .i64 _) ?_))
      simp only [resOf,leafK]
      try simp only [hfl]
      try simp only [hka]
      (first | rw [if_neg (Bool.eq_false_iff.mp hc1)] | skip);(first | rw [if_neg (Bool.eq_false_iff.mp hc2)] | skip);(first | rw [if_neg (Bool.eq_false_iff.mp hc3)] | skip);(first | rw [if_neg (Bool.eq_false_iff.mp hc4)] | skip);(first | rw [if_pos hc5] | skip)
      first | done | rfl
     ·
      refine Qst (Qsr (Qp Qmi ?_))
      refine Qp Qai ?_
      refine Qp Qai ?_
      refine Qnn (AW.ret (Qrr (.int .i64 _) (.int .i64 _) ?_))
      simp only [resOf,leafK]
      try simp only [hfl]
      try simp only [hka]
      (first | rw [if_neg (Bool.eq_false_iff.mp hc1)] | skip);(first | rw [if_neg (Bool.eq_false_iff.mp hc2)] | skip);(first | rw [if_neg (Bool.eq_false_iff.mp hc3)] | skip);(first | rw [if_neg (Bool.eq_false_iff.mp hc4)] | skip);(first | rw [if_neg (Bool.eq_false_iff.mp hc5)] | skip)
      first | done | rfl
theorem c58 (types:List Sc)(vars:List Va)(hv:TyOK8 types vars)(e:Ex)(hn:nodesS e=0)(hs:sizeN e≤1048576):APure Tryz.prog 133 [.agg (cT types vars),.agg (cE e)] (.tuple [.int .i64 (kindS types vars e).1,.int .i64 (kindS types vars e).2]):=by
 revert hn hs
 induction e using Ex.ind
 rename_i e ih
 intro hn hs
 have hz:=nodes_zero hn
 have hal:=args_le e hs
 refine APure.body (n:=57) tok Tryz.func133 rfl rfl rfl fun H=>?_
 refine Qsr (Qp (Qbx [_,_]) ?_)
 refine Qp Qbe ?_
 refine Qp Qai ?_
 refine Qp Qai ?_
 refine Qnn (AW.seq (Qsr (Qp Qf1 ?_)))
 refine Qp Qls ?_
 refine Qp (P_len_sl (n:=e.args.length) tok rfl rfl rfl (by simp)) ?_
 refine Qp Qceq ?_
 refine Qnn (Qif (fun hc1=>?_) fun hc1=>?_)
 ·
  refine Qsr (Qp (Qlg [_,_]) ?_)
  refine Qp Qle ?_
  refine Qp (Qc rfl (c86 types vars hv e hz.1)) ?_
  refine Qp Qxi ?_
  refine Qp Qxi ?_
  refine Qp Qai ?_
  refine Qp Qai ?_
  refine Qnn (Qrt (Qrr (.int .i64 _) (.int .i64 _) ?_))
  rw [kindS_eq types vars e,if_pos (by simpa [List.isEmpty_iff] using hc1)];rfl
 ·
  refine Qst (Qsr (Qp Qav ?_))
  refine AOL.ghost (GS.row (t:=6) 3 1 rfl) ?_
  refine Qnn (AW.seq (Qsr (Qp Qf1 ?_)))
  refine Qp Qls ?_
  refine Qp (P_len_sl (n:=e.args.length) tok rfl rfl rfl (by simp)) ?_
  refine Qp Qmi ?_
  refine Qnn (AW.block ?_)
  refine AW.loopS (fun (p:Nat×List (List AV)×Value)=>(⟨[(2,.ptr (cT types vars)),(3,.ptr (cE e)),(6,.row p.2.2 1 p.2.1),(22,.sl 8 (e.args.map encE)),(23,.int .i64 e.args.length),(24,.int .i64 (p.1:Int))],.row p.2.2 p.2.1.length 3 1::H,57⟩:St)) (fun (p:Nat×List (List AV)×Value)=>p.1≤e.args.length∧firstS (fun a=>(kindS types vars a).2) e.args=firstS (fun a=>(kindS types vars a).2) (e.args.drop p.1)∧p.2.1=((e.args.take p.1).map (fun a=>(kindS types vars a).1)).map (fun k=>[AV.int .i64 k])) (fun (p:Nat×List (List AV)×Value)=>e.args.length - p.1) ((0,[],.slice none 0 0)) ?_ (GS.weaken ⟨rfl,rfl,rfl,rfl,rfl,rfl,trivial⟩ (.refl _)) ?_
  · exact ⟨Nat.zero_le _,by simp,by simp⟩
  ·
   rintro p hR
   refine Qsr (Qp Qclt ?_)
   refine Qnn (AW.seq (Qif (fun hc2=>?_) fun hc2=>?_))
   ·
    obtain ⟨a,ha⟩:=get_lt hc2
    have hlt:=get_lt' ha
    have hm:=List.mem_of_getElem? ha
    have hsc:∀c∈p.2.1,scalars c=true:=by rw [hR.2.2];exact sc_map fun _=>rfl
    refine Qst (AW.seq (AW.block (Qsr (Qp (P_indexAddr (c:=[.int .i64 _,_,.int .i64 _,.int .i64 _,.int .i64 _,.int .i64 _,.int .i64 _,.str _]) tok rfl rfl rfl rfl rfl rfl (by omega) (encE_at ha)) ?_))))
    refine Qp Qle ?_
    refine Qe (E_alloc (l:=[.int .i64 0,.sl 8 [],.int .i64 0,.int .i64 0,.int .i64 0,.int .i64 0,.int .i64 0,.str []]) (by kernel_rfl)) ?_
    rintro _ _ ⟨b8,rfl,rfl⟩
    refine Qe (E_store (k:=0) (v:=.agg _) (cs':=[.int .i64 _,_,.int .i64 _,.int .i64 _,.int .i64 _,.int .i64 _,.int .i64 _,.str _]) (H2:=_::_::_) tok rfl rfl rfl rfl (rfl) rfl rfl rfl rfl) ?_
    rintro _ _ ⟨rfl,rfl⟩
    refine AOL.ghost (GS.freeze (t:=8) 0 rfl rfl) ?_
    refine Qns (Qp (Qlg [_,_]) ?_)
    refine Qp Qle ?_
    refine Qp (Qc rfl (ih a hm (hz.2 a hm) (by have:=size_arg hm;omega))) ?_
    refine Qp Qmu ?_
    refine Qp Qxi ?_
    refine Qp Qxi ?_
    refine Qp Qai ?_
    refine Qp Qai ?_
    refine Qnn (AW.seq (Qsr (Qp Qmi ?_)))
    refine Qp Qcne ?_
    refine Qnn (Qif (fun hc3=>?_) fun hc3=>?_)
    ·
     refine Qsr (Qp Qmi ?_)
     refine Qp Qai ?_
     refine Qp Qai ?_
     refine Qnn (Qrt (blkR (thenR (thenR (blkR (thenR ?_))))))
     refine ⟨.inr rfl,[.int .i64 _,.int .i64 _],.cons (.tmp _ _ rfl) <| .cons (.tmp _ _ rfl) <| .nil,.cons _ (.refl _),?_⟩
     have hne:¬e.args.isEmpty=true:=by simpa [List.isEmpty_iff] using hc1
     have hfe:firstS (fun a=>(kindS types vars a).2) e.args=(kindS types vars a).2:=by rw [hR.2.1,drop_cons ha,firstS,if_pos hc3]
     rw [kindS_eq types vars e,if_neg hne,hfe,if_pos hc3];rfl
    ·
     refine Qst (AW.region (Qp (P_move (v:=.row _ _ _) rfl) ?_))
     refine Qp Qmi ?_
     refine Qp (P_buildSlice (es:=[[.int .i64 _]]) tok rfl rfl rfl rfl rfl rfl rfl rfl rfl) ?_
     refine Qe (E_append (k:=0) tok rfl rfl rfl rfl rfl rfl rfl rfl (sc_one rfl) (hsc) (by simp [hR.2.2];omega) (by simp [hR.2.2,maxLen];omega)) ?_
     rintro _ _ ⟨v40,rfl,rfl⟩
     refine Qp (P_assign (v:=.row _ _ _) rfl) ?_
     refine AOL.nil (blkN (thenN (AW.region (Qp Qad ?_))))
     refine Qp Qmi ?_
     refine Qnn ?_
     refine ⟨(p.1+1,p.2.1++[[.int .i64 (kindS types vars a).1]],v40),?_,?_,GS.weaken ⟨rfl,rfl,rfl,rfl,rfl,rfl,trivial⟩ (.refl _)⟩
     · simp only;exact ⟨hlt,by rw [hR.2.1,drop_cons ha,firstS,if_neg (by simpa using hc3)],by rw [take_get ha,hR.2.2];simp⟩
     · first | omega | (simp only;omega)
   ·
    have hte:=take_end hc2
    have hd:=get_end hc2
    have hf:firstS (fun a=>(kindS types vars a).2) e.args=0:=by rw [hR.2.1,hd];rfl
    obtain ⟨k,es,rv⟩:=p
    simp only at hR hte
    have h6:es=(e.args.map (fun a=>(kindS types vars a).1)).map (fun k=>[AV.int .i64 k]):=by rw [hR.2.2,hte]
    subst h6
    refine AW.exit ?_
    refine thenE (thenE (blkHit (thenN (AW.seq (Qsr (Qp Qf0 ?_))))))
    refine Qp Qli ?_
    refine AOL.ghost (GS.unrow 6 rfl) ?_
    refine Qp Qms ?_
    refine Qp (Qc rfl (c71 e.op (e.args.map (fun a=>(kindS types vars a).1)))) ?_
    refine Qp Qai ?_
    refine Qns (Qp Qmi ?_)
    refine Qp Qcne ?_
    refine Qnn (Qif (fun hc4=>?_) fun hc4=>?_)
    ·
     refine Qsr (Qp Qmi ?_)
     refine Qp Qai ?_
     refine Qp Qai ?_
     refine Qnn (Qrt ?_)
     refine ⟨.inr rfl,[.int .i64 _,.int .i64 _],.cons (.tmp _ _ rfl) <| .cons (.tmp _ _ rfl) <| .nil,.cons _ (.refl _),?_⟩
     have hne:¬e.args.isEmpty=true:=by simpa [List.isEmpty_iff] using hc1
     rw [kindS_eq types vars e,if_neg hne,hf,if_neg (show ¬((0:Int) != 0)=true by decide),if_pos hc4];rfl
    ·
     refine Qst (AW.seq (Qsr (Qp Qf0 ?_)))
     refine Qp Qli ?_
     refine Qp Qceq ?_
     refine Qp Qmb ?_
     refine Qg [] Qw Qf0 ?_
     refine Qg [(53,_)] Qw Qli ?_
     refine Qg [(54,_)] Qw Qceq ?_
     refine Qp Qpo ?_
     refine Qnn (Qif (fun hc5=>?_) fun hc5=>?_)
     ·
      refine Qsr (Qp Qai ?_)
      refine Qp Qai ?_
      refine Qnn (Qrt ?_)
      refine ⟨.inr rfl,[.int .i64 _,.int .i64 _],.cons (.tmp _ _ rfl) <| .cons (.tmp _ _ rfl) <| .nil,.cons _ (.refl _),?_⟩
      have hne:¬e.args.isEmpty=true:=by simpa [List.isEmpty_iff] using hc1
      rw [kindS_eq types vars e,if_neg hne,hf,if_neg (show ¬((0:Int) != 0)=true by decide),if_neg (Bool.eq_false_iff.mp hc4)];unfold resK;first | (rw [if_pos hc5];rfl) | (rw [if_neg (Bool.eq_false_iff.mp hc5)];rfl)
     ·
      refine Qst (Qsr (Qp Qai ?_))
      refine Qp Qai ?_
      refine Qnn (AW.ret ?_)
      refine ⟨.inr rfl,[.int .i64 _,.int .i64 _],.cons (.tmp _ _ rfl) <| .cons (.tmp _ _ rfl) <| .nil,.cons _ (.refl _),?_⟩
      have hne:¬e.args.isEmpty=true:=by simpa [List.isEmpty_iff] using hc1
      rw [kindS_eq types vars e,if_neg hne,hf,if_neg (show ¬((0:Int) != 0)=true by decide),if_neg (Bool.eq_false_iff.mp hc4)];unfold resK;first | (rw [if_pos hc5];rfl) | (rw [if_neg (Bool.eq_false_iff.mp hc5)];rfl)
theorem c31 (types:List Sc)(hl:types.length≤1048576)(hs:∀s∈types,scOK s)(vars:List Va)(hvl:vars.length≤1048576)(e:Ex)(hse:sizeN e≤1048576):APure Tryz.prog 82 [.sl 2 (types.map cSc),.sl 2 (vars.map cVa),.agg (cE e)] (.tuple [.int .i64 (KindS types vars e).1,.int .i64 (KindS types vars e).2]):=by
 refine APure.body (n:=49) tok Tryz.func82 rfl rfl rfl fun H=>?_
 refine Qsr (Qp Qbe ?_)
 refine Qp Qai ?_
 refine Qp Qai ?_
 refine Qnn (AW.seq (Qsr (Qp Qms ?_)))
 refine Qp (Qc rfl (c57 types hl hs)) ?_
 refine Qp Qai ?_
 refine Qns (Qp Qmi ?_)
 refine Qp Qcne ?_
 refine Qnn (Qif (fun hc1=>?_) fun hc1=>?_)
 ·
  refine Qsr (Qp Qmi ?_)
  refine Qp Qai ?_
  refine Qp Qai ?_
  refine Qnn (Qrt (Qrr (.int .i64 _) (.int .i64 _) ?_))
  rw [KindS,if_pos hc1];rfl
 ·
  refine Qst (AW.seq (Qsr (Qp Qms ?_)))
  refine Qp (P_len_sl (n:=vars.length) tok rfl rfl rfl (by simp)) ?_
  refine Qp Qcgt ?_
  refine Qnn (Qif (fun hc2=>?_) fun hc2=>?_)
  ·
   refine Qsr (Qp Qai ?_)
   refine Qp Qai ?_
   refine Qnn (Qrt (Qrr (.int .i64 _) (.int .i64 _) ?_))
   have hve:varsE types vars=5:=by rw [varsE,if_pos hc2]
   rw [KindS,if_neg (Bool.eq_false_iff.mp hc1),hve,if_pos (by decide)];rfl
  ·
   refine Qst (AW.seq (Qsr (Qp Qms ?_)))
   refine Qp (P_len_sl (n:=vars.length) tok rfl rfl rfl (by simp)) ?_
   refine Qp Qmi ?_
   refine Qnn (AW.block ?_)
   refine AW.loopS (fun (p:Nat)=>(⟨[(0,.sl 2 (types.map cSc)),(1,.sl 2 (vars.map cVa)),(5,.ptr (cE e)),(20,.sl 2 (vars.map cVa)),(21,.int .i64 vars.length),(22,.int .i64 (p:Int))],H,49⟩:St)) (fun (p:Nat)=>p≤vars.length∧firstS (varE types.length) vars=firstS (varE types.length) (vars.drop p)) (fun (p:Nat)=>vars.length - p) (0) ?_ (GS.weaken ⟨rfl,rfl,rfl,rfl,rfl,rfl,trivial⟩ (.refl _)) ?_
   · exact ⟨Nat.zero_le _,rfl⟩
   ·
    rintro p hR
    refine Qsr (Qp Qclt ?_)
    refine Qnn (AW.seq (Qif (fun hc3=>?_) fun hc3=>?_))
    ·
     obtain ⟨a,ha⟩:=get_lt hc3
     have hlt:=get_lt' ha
     have hm:=List.mem_of_getElem? ha
     refine Qst (AW.seq (AW.block (Qsr (Qp (P_indexAddr (c:=[.str _,.int .i64 _]) tok rfl rfl rfl rfl rfl rfl (by omega) (map_at ha)) ?_))))
     refine Qp (Qlg [.str _,.int .i64 _]) ?_
     refine Qe (E_alloc (l:=[.str [],.int .i64 0]) (by kernel_rfl)) ?_
     rintro _ _ ⟨b10,rfl,rfl⟩
     refine Qe (E_store (k:=0) (v:=.agg _) (cs':=[.str _,.int .i64 _]) (H2:=_::_) tok rfl rfl rfl rfl (rfl) rfl rfl rfl rfl) ?_
     rintro _ _ ⟨rfl,rfl⟩
     refine AOL.ghost (GS.freeze (t:=10) 0 rfl rfl) ?_
     refine Qns (Qp (Qf [.int .i64 _]) ?_)
     refine Qp Qli ?_
     refine Qp Qclt ?_
     refine Qp Qmb ?_
     refine Qg [] Qw (Qf [.int .i64 _]) ?_
     refine Qg [(30,_)] Qw Qli ?_
     refine Qg [] Qw Qms ?_
     refine AOL.g (y:=.int .i64 _) _ [(32,_)] rfl (EntL.all ⟨Ent.self _ _,trivial⟩) (fun hG=>P_len_sl (n:=types.length) tok rfl rfl rfl (by simp)) rfl ?_
     refine AOL.g (y:=.bool _) _ [(31,_),(33,_)] rfl (EntL.all ⟨Ent.self _ _,Ent.self _ _,trivial⟩) (fun hG=>P_geq rfl rfl) rfl ?_
     refine Qp Qpo ?_
     refine Qnn (Qif (fun hc4=>?_) fun hc4=>?_)
     ·
      have he:varE types.length a=6:=by unfold varE;rw [if_pos hc4]
      refine Qsr (Qp Qai ?_)
      refine Qp Qai ?_
      refine Qnn (AW.ret (blkR (thenR (thenR (blkR (thenR (Qrr (.int .i64 _) (.int .i64 _) ?_)))))))
      have hve:varsE types vars=6:=by rw [varsE,if_neg (Bool.eq_false_iff.mp hc2),hR.2,drop_cons ha,firstS,he,if_pos (by decide)]
      rw [KindS,if_neg (Bool.eq_false_iff.mp hc1),hve,if_pos (by decide)];rfl
     ·
      have he:varE types.length a=0:=by unfold varE;rw [if_neg (by simpa using hc4)]
      refine AW.skip (blkN (thenN (AW.region (Qp Qad ?_))))
      refine Qp Qmi ?_
      refine Qnn ?_
      refine ⟨p+1,?_,?_,GS.weaken ⟨rfl,rfl,rfl,rfl,rfl,rfl,trivial⟩ (.refl _)⟩
      · exact ⟨hlt,by rw [hR.2,drop_cons ha,firstS,if_neg (by rw [he];decide)]⟩
      · omega
    ·
     have hd:=get_end hc3
     have hf0:firstS (varE types.length) vars=0:=by rw [hR.2,hd];rfl
     have hty:=tyok_of hf0
     have hvz:varsE types vars=0:=by rw [varsE,if_neg (by simpa using hc2),hf0]
     refine AW.exit ?_
     refine thenE (thenE (blkHit (thenN (AW.seq (Qsr (Qp Qle ?_))))))
     refine Qp (Qc rfl (c21 e hse)) ?_
     refine Qp Qai ?_
     refine Qns (Qp Qmi ?_)
     refine Qp Qcne ?_
     refine Qnn (Qif (fun hc5=>?_) fun hc5=>?_)
     ·
      refine Qsr (Qp Qmi ?_)
      refine Qp Qai ?_
      refine Qp Qai ?_
      refine Qnn (Qrt (Qrr (.int .i64 _) (.int .i64 _) ?_))
      rw [KindS,if_neg (Bool.eq_false_iff.mp hc1),hvz,if_neg (show ¬((0:Int) != 0)=true by decide),if_pos hc5];rfl
     ·
      refine Qst (Qsr (Qp Qms ?_))
      refine Qp Qms ?_
      refine Qp (Qbd [_,_]) ?_
      refine Qp Qle ?_
      refine Qp (Qc rfl (c58 types vars hty e (check_nodes (by simpa using hc5)) hse)) ?_
      refine Qp Qxi ?_
      refine Qp Qxi ?_
      refine Qp Qai ?_
      refine Qp Qai ?_
      refine Qnn (AW.ret (Qrr (.int .i64 _) (.int .i64 _) ?_))
      rw [KindS,if_neg (Bool.eq_false_iff.mp hc1),hvz,if_neg (show ¬((0:Int) != 0)=true by decide),if_neg (Bool.eq_false_iff.mp hc5)];rfl
end Go.Proofs.YtkddpedfbicbeaaGreatDoor

namespace Go.Proofs.YtkddpedfbicbeaaGreatDoor
open Go Go.Aw
set_option linter.unusedVariables false
set_option linter.unusedSimpArgs false

def cScene (T:List Sc)(V:List Va):List AV:=[.sl 2 (T.map cSc),.sl 2 (V.map cVa)]
/-- a well-typed expression -/
structure KOK (T:List Sc) (V:List Va) (e:Ex):Prop where
  ty:TyOK8 T V
  nodes:nodesS e=0
  kind:(kindS T V e).2=0
theorem kok_args {T:List Sc}{V:List Va}{e:Ex}(h:KOK T V e)(hp:e.args≠[]):firstS (fun a=>(kindS T V a).2) e.args=0∧operandsS e.op (e.args.map fun a=>(kindS T V a).1)=0∧(kindS T V e).1=resK e.op:=by
  have hk:=h.kind
  rw [kindS_eq] at hk ⊢
  have hi:e.args.isEmpty=false:=by simpa using hp
  rw [hi] at hk ⊢
  simp only [Bool.false_eq_true,if_false] at hk ⊢
  by_cases h1:(firstS (fun a=>(kindS T V a).2) e.args != 0)=true
  · rw [if_pos h1] at hk;simp only at hk;rw [hk] at h1;cases h1
  · rw [if_neg h1] at hk ⊢
    by_cases h2:(operandsS e.op (e.args.map fun a=>(kindS T V a).1) != 0)=true
    · rw [if_pos h2] at hk;simp only at hk;rw [hk] at h2;cases h2
    · rw [if_neg h2]
      exact ⟨by simpa using h1,by simpa using h2,rfl⟩
theorem kok_arg {T:List Sc}{V:List Va}{e a:Ex}(h:KOK T V e)(ha:a∈e.args):KOK T V a:=by
  have hp:e.args≠[]:=by intro hn;rw [hn] at ha;cases ha
  exact ⟨h.ty,(nodes_zero h.nodes).2 a ha,first_zero (kok_args h hp).1 a ha⟩
theorem kok_leaf {T:List Sc}{V:List Va}{e:Ex}(h:KOK T V e)(ho:e.op < 5):kindS T V e=leafK T V e:=by
  rw [kindS_eq,leaf_nil (nodes_zero h.nodes).1 ho];rfl
theorem kok_ne {T:List Sc}{V:List Va}{e:Ex}(h:KOK T V e)(ho:5≤e.op):e.args≠[]:=by
  obtain ⟨h0,h1,h2⟩:=node_shape (nodes_zero h.nodes).1
  intro hn
  rw [hn] at h2
  unfold arityS at h2
  rw [if_neg (by omega),if_neg (by omega)] at h2
  split at h2 <;> simp at h2
theorem kok_kind {T:List Sc}{V:List Va}{e:Ex}(h:KOK T V e):(kindS T V e).1=kindR T V e:=by
  obtain ⟨h0,h1,h2⟩:=node_shape (nodes_zero h.nodes).1
  by_cases ho:e.op < 5
  · have hk:=h.kind
    rw [kok_leaf h ho] at hk ⊢
    unfold leafK kindR at *
    by_cases c0:(e.op == 0)=true
    · rw [if_pos c0,if_pos (by rw [c0];rfl)]
    · rw [if_neg c0] at hk ⊢
      by_cases c1:decide ((V.length:Int)≤e.var)=true
      · rw [if_pos c1] at hk;cases hk
      · rw [if_neg c1] at hk ⊢
        by_cases c2:(e.op == 2||e.op == 3)=true
        · rw [if_pos c2]
          have c2':e.op=2∨e.op=3:=by simpa using c2
          rcases c2' with c | c <;> rw [c] <;> rfl
        · rw [if_neg c2] at hk ⊢
          by_cases c3:decide (((fldsS T V e.var).length:Int)≤e.field)=true
          · rw [if_pos c3] at hk;cases hk
          · rw [if_neg c3] at hk ⊢
            have c2':e.op≠2∧e.op≠3:=by simpa using c2
            have c0':e.op≠0:=by simpa using c0
            have:e.op=1∨e.op=4:=by omega
            rcases this with c | c
            · by_cases c4:(e.op == 4&&(kindAt (fldsS T V e.var) e.field != e.val.kind || !esuitsS e.kind ⟨kindAt (fldsS T V e.var) e.field,0,[]⟩))=true
              · rw [c] at c4;cases c4
              · rw [if_neg c4,c];rfl
            · by_cases c4:(e.op == 4&&(kindAt (fldsS T V e.var) e.field != e.val.kind || !esuitsS e.kind ⟨kindAt (fldsS T V e.var) e.field,0,[]⟩))=true
              · rw [if_pos c4] at hk;cases hk
              · rw [if_neg c4]
                have:kindAt (fldsS T V e.var) e.field=e.val.kind:=by
                  rw [c] at c4
                  simp at c4
                  exact c4.1
                rw [this,c];rfl
  · rw [(kok_args h (kok_ne h (by omega))).2.2]
    have c0:(e.op == 0||e.op == 4)=false:=by simp;omega
    have c1:(e.op == 1)=false:=by simp;omega
    unfold kindR resK
    rw [ifF c0,ifF c1]
    by_cases c:(e.op == 5||e.op == 6)=true
    · rw [if_pos c,if_pos (by simp at c ⊢;omega)]
    · rw [if_neg c,if_neg (by simp at c ⊢;omega)]
theorem kok_var {T:List Sc}{V:List Va}{e:Ex}(h:KOK T V e)(ho:e.op=1∨e.op=2∨e.op=3∨e.op=4):0≤e.var∧e.var < (V.length:Int):=by
  have hk:=h.kind
  rw [kok_leaf h (by omega)] at hk
  have hv:=node_var (nodes_zero h.nodes).1
  unfold leafK at hk
  rw [ifF (by simp;omega)] at hk
  by_cases c1:decide ((V.length:Int)≤e.var)=true
  · rw [if_pos c1] at hk;cases hk
  · simp at c1
    have hn:=(nodes_zero h.nodes).1
    refine ⟨?_,by omega⟩
    unfold nodeS at hn
    split at hn
    · cases hn
    split at hn
    · cases hn
    split at hn
    · cases hn
    rename_i h3
    have hu:(usesS e.op).1=true:=by rcases ho with ho | ho | ho | ho <;> rw [ho] <;> rfl
    rw [hu] at h3
    simp at h3
    omega
theorem kok_field {T:List Sc}{V:List Va}{e:Ex}(h:KOK T V e)(ho:e.op=1∨e.op=4):0≤e.field∧e.field < ((fldsS T V e.var).length:Int):=by
  have hk:=h.kind
  rw [kok_leaf h (by omega)] at hk
  have hv:=kok_var h (by omega)
  unfold leafK at hk
  rw [ifF (by simp;omega),ifF (by simp;omega),ifF (by simp;omega)] at hk
  by_cases c1:decide (((fldsS T V e.var).length:Int)≤e.field)=true
  · rw [if_pos c1] at hk;cases hk
  · simp at c1
    have hn:=(nodes_zero h.nodes).1
    refine ⟨?_,by omega⟩
    unfold nodeS at hn
    split at hn
    · cases hn
    split at hn
    · cases hn
    split at hn
    · cases hn
    rename_i h3
    have hu:(usesS e.op).2=true:=by rcases ho with ho | ho <;> rw [ho] <;> rfl
    rw [hu] at h3
    simp at h3
    omega
/-- where a field's kind stands -/
theorem kok_at {T:List Sc}{V:List Va}{e:Ex}(h:KOK T V e)(ho:e.op=1):∃v s f,0≤e.var∧V[e.var.toNat]? = some v∧0≤v.type∧T[v.type.toNat]? = some s∧0≤e.field∧s.fields[e.field.toNat]? = some f∧kindR T V e=f.kind:=by
  have hv:=kok_var h (by omega)
  have hf:=kok_field h (by omega)
  have hl:e.var.toNat < V.length:=by omega
  have hvm:=h.ty _ (List.getElem_mem hl)
  have hl2:(V[e.var.toNat]).type.toNat < T.length:=by omega
  have hfl:fldsS T V e.var=(T[(V[e.var.toNat]).type.toNat]).fields:=by
    unfold fldsS
    rw [List.getElem?_eq_getElem hl]
    simp only [Option.getD_some]
    rw [List.getElem?_eq_getElem hl2];rfl
  have hl3:e.field.toNat < (T[(V[e.var.toNat]).type.toNat]).fields.length:=by rw [hfl] at hf;omega
  refine ⟨_,_,_,hv.1,List.getElem?_eq_getElem hl,hvm.1,List.getElem?_eq_getElem hl2,hf.1,List.getElem?_eq_getElem hl3,?_⟩
  unfold kindR kindAt
  rw [ifF (by simp;omega),if_pos (by simp;omega),hfl,List.getElem?_eq_getElem hl3];rfl
theorem KindS_kok {T:List Sc}{V:List Va}{e:Ex}(h:(KindS T V e).2=0):KOK T V e∧(KindS T V e).1=kindR T V e:=by
  unfold KindS at h ⊢
  by_cases h1:(allTS T != 0)=true
  · rw [if_pos h1] at h;simp only at h;rw [h] at h1;cases h1
  rw [if_neg h1] at h ⊢
  by_cases h2:(varsE T V != 0)=true
  · rw [if_pos h2] at h;simp only at h;rw [h] at h2;cases h2
  rw [if_neg h2] at h ⊢
  by_cases h3:(checkS e != 0)=true
  · rw [if_pos h3] at h;simp only at h;rw [h] at h3;cases h3
  rw [if_neg h3] at h ⊢
  have hk:KOK T V e:=⟨tyok_of (varsE_zero (by simpa using h2)),check_nodes' (by simpa using h3),h⟩
  exact ⟨hk,kok_kind hk⟩
theorem condE_1 {T:List Sc}{V:List Va}{e:Ex}(h:((KindS T V e).2 != 0)=true):condE T V e=(KindS T V e).2:=by rw [condE,if_pos h]
theorem condE_2 {T:List Sc}{V:List Va}{e:Ex}(h:((KindS T V e).2 != 0)=false)(h2:((KindS T V e).1 != 1)=true):condE T V e=9:=by rw [condE,ifF h,if_pos h2]
theorem condE_3 {T:List Sc}{V:List Va}{e:Ex}(h:((KindS T V e).2 != 0)=false)(h2:((KindS T V e).1 != 1)=false):condE T V e=0:=by rw [condE,ifF h,ifF h2]
theorem g9 {T:List Sc}{V:List Va}{e:Ex}(hk:KOK T V e)(hG:allG [(e.op == 9,true)]):1 < e.args.length:=by
  have h:=eq_of_beq (hG _ (List.mem_singleton.2 rfl))
  exact len_two' (nodes_zero hk.nodes).1 (by omega)
theorem l9 {T:List Sc}{V:List Va}{e:Ex}(hk:KOK T V e)(h:(e.op == 9)=true):1 < e.args.length:=by
  have h:=eq_of_beq h
  exact len_two' (nodes_zero hk.nodes).1 (by omega)
end Go.Proofs.YtkddpedfbicbeaaGreatDoor
