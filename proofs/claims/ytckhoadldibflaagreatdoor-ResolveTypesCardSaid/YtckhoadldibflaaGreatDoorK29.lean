/-
  Several texts in one: R11w, R12w, R13w, R20w, X12. No condition.
-/
import Derived.Test.YtckhoadldibflaaGreatDoorK01
import Derived.Test.YtckhoadldibflaaGreatDoorK15
import Derived.Test.YtckhoadldibflaaGreatDoorK24
import Derived.Test.YtckhoadldibflaaGreatDoorK28
import Derived.Test.YtckhoadldibflaaGreatDoorK21
import Derived.KernelRfl
import Derived.Test.YtckhoadldibflaaGreatDoorK18
import Derived.Test.YtckhoadldibflaaGreatDoorK20
import Derived.Test.YtckhoadldibflaaGreatDoorK16
import Derived.Test.YtckhoadldibflaaGreatDoorF12
set_option linter.unusedVariables false
set_option linter.unusedSimpArgs false
namespace Go.Proofs.YtckhoadldibflaaGreatDoor
open Go Go.Aw
set_option maxHeartbeats 6400000
set_option maxRecDepth 20000

theorem oM (t:Syn)(ht:Eg t):Ap Tryz.prog 58 [.agg (cSyn t)] (.int .i64 (Bo t (.only 0)).2):=by
 refine Ap.body (n:=11) tok Tryz.func58 rfl rfl rfl fun H=>?_
 refine Ad (Qp (Eu [Iq _,.str _,.str _,Iq _,_,Iq _]) (Qp A0 (By (Qp (B2 [Iq _,.str _,.str _,Iq _,_,Iq _]) ?_))))
 refine Qp (Qc rfl (oC t ht)) ?_
 refine Qp L0 (Qp pP (Qp Jw (Qp Db (Qp A0 (By (Qp A4 (Qp A0 (Aa (AW.ret ?_)))))))))
 refine Qr (Iq _) ?_
 rfl
theorem mG (T:List e8Sc)(hl:T.length≤1048576)(hs:∀s∈T,rO s)(t:Syn)(ht:Eg t):Ap Tryz.prog 14 [.sl 2 (T.map G7),.agg (cSyn t)] (.tuple [.agg (cQy (Sm T t).1),.int .i64 (Sm T t).2.1,.int .i64 (Sm T t).2.2]):=by
 refine Ap.body (n:=37) tok Tryz.func14 rfl rfl rfl fun H=>?_
 refine Ad (Qp (Eu [Iq _,.str _,.str _,Iq _,_,Iq _]) ?_)
 refine Qe (An (l:=[.str [],.sl 2 [],.sl 1 [],.int .i64 0,.sl 14 [],.int .i64 0,.int .i64 0,.int .i64 0,.int .i64 0,.int .i64 0,.sl 8 [],.int .i64 0,.int .i64 0,.int .i64 0,.int .i64 0,.int .i64 0,.str [],.sl 8 []]) (by kernel_rfl)) ?_
 rintro _ _ ⟨b4,rfl,rfl⟩
 refine Qp A0 (Qp A0 (Aa (AW.seq (Ad (Qp K4 ?_)))))
 refine Qp (Qc rfl (e8c57 T hl hs)) ?_
 refine Qp A0 (By (Qp A4 (Qp B9 (Aa (Au (fun hc1=>?_) fun hc1=>?_)))))
 ·
  refine Ad (Qp (Ea [.str _,_,_,Iq _,_,Iq _,Iq _,Iq _,Iq _,Iq _,_,Iq _,Iq _,Iq _,Iq _,Iq _,.str _,_]) (Qp A4 ?_))
  refine B0 0 [.str _,_,_,Iq _,_,Iq _,Iq _,Iq _,Iq _,Iq _,_,Iq _,Iq _,Iq _,Iq _,Iq _,.str _,_] (_::_) ?_
  refine Qp A0 (Qp A0 (Aa (Cx ?_)))
  refine ⟨.inr rfl,[.agg [.str _,_,_,Iq _,_,Iq _,Iq _,Iq _,Iq _,Iq _,_,Iq _,Iq _,Iq _,Iq _,Iq _,.str _,_],Iq _,Iq _],.cons (.box _ _ _ 0 _ _ _ _ rfl rfl rfl rfl rfl rfl) <| .cons (.tmp _ _ rfl) <| .cons (.tmp _ _ rfl) <| .nil,.cons _ (.refl _),?_⟩
  exact Eq.trans rfl (congrArg (fun q:Qy×Int×Int=>AV.tuple [.agg (cQy q.1),.int .i64 q.2.1,.int .i64 q.2.2]) (qp_1 T t hc1)).symm
 ·
  refine Bl (AW.seq (Ad (Qp (B2 [Iq _,.str _,.str _,Iq _,_,Iq _]) ?_)))
  refine Qp (Qc rfl (rF t ht)) ?_
  refine Qp L0 (Qp pP (Qp Jw (Qp Db (Qp A0 (By (Qp A4 (Qp B9 (Aa (Au (fun hc2=>?_) fun hc2=>?_)))))))))
  ·
   refine Ad (Qp (Ea [.str _,_,_,Iq _,_,Iq _,Iq _,Iq _,Iq _,Iq _,_,Iq _,Iq _,Iq _,Iq _,Iq _,.str _,_]) ?_)
   refine B0 0 [.str _,_,_,Iq _,_,Iq _,Iq _,Iq _,Iq _,Iq _,_,Iq _,Iq _,Iq _,Iq _,Iq _,.str _,_] (_::_) ?_
   refine Qp A0 (Qp A0 (Aa (Cx ?_)))
   refine ⟨.inr rfl,[.agg [.str _,_,_,Iq _,_,Iq _,Iq _,Iq _,Iq _,Iq _,_,Iq _,Iq _,Iq _,Iq _,Iq _,.str _,_],Iq _,Iq _],.cons (.box _ _ _ 0 _ _ _ _ rfl rfl rfl rfl rfl rfl) <| .cons (.tmp _ _ rfl) <| .cons (.tmp _ _ rfl) <| .nil,.cons _ (.refl _),?_⟩
   exact Eq.trans rfl (congrArg (fun q:Qy×Int×Int=>AV.tuple [.agg (cQy q.1),.int .i64 q.2.1,.int .i64 q.2.2]) (qp_2 T t hc1 hc2)).symm
  ·
   refine Bl (Ad (Qp K4 (Qp (B2 [Iq _,.str _,.str _,Iq _,_,Iq _]) ?_)))
   refine Qp (Qc rfl (lE T (yH hc1) t ⟨ht,Yr hc2⟩)) ?_
   refine Qp L0 ?_
   refine Qp (Cc (v:=.agg [.str _,_,_,Iq _,_,Iq _,Iq _,Iq _,Iq _,Iq _,_,Iq _,Iq _,Iq _,Iq _,Iq _,.str _,_]) rfl rfl) ?_
   refine Qp (Cc (v:=.agg [Iq _,Iq _]) rfl rfl) ?_
   refine Qe (An (l:=[.str [],.sl 2 [],.sl 1 [],.int .i64 0,.sl 14 [],.int .i64 0,.int .i64 0,.int .i64 0,.int .i64 0,.int .i64 0,.sl 8 [],.int .i64 0,.int .i64 0,.int .i64 0,.int .i64 0,.int .i64 0,.str [],.sl 8 []]) (by kernel_rfl)) ?_
   rintro _ _ ⟨b10,rfl,rfl⟩
   refine Qe (An (l:=[.int .i64 0,.int .i64 0]) (by kernel_rfl)) ?_
   rintro _ _ ⟨b11,rfl,rfl⟩
   refine B0 1 [.str _,_,_,Iq _,_,Iq _,Iq _,Iq _,Iq _,Iq _,_,Iq _,Iq _,Iq _,Iq _,Iq _,.str _,_] (_::_::_::_) ?_
   refine B0 0 [Iq _,Iq _] (_::_::_::_) ?_
   refine AOL.ghost (GS.freeze (t:=11) 0 rfl rfl) ?_
   refine AOL.ghost (GS.freeze (t:=10) 0 rfl rfl) ?_
   refine Aa (AW.seq ?_)
   refine AW.draw mixed (fun _=>True) trivial (by kernel_rfl) ?_
   refine Qn 0 rfl (B2 [.str _,_,_,Iq _,_,Iq _,Iq _,Iq _,Iq _,Iq _,_,Iq _,Iq _,Iq _,Iq _,Iq _,.str _,_]) (Qn 1 rfl (Qf [Iq _,Iq _]) (Qn 2 rfl Bt (Qn 3 rfl (Qf [Iq _]) (Qn 4 rfl Bt ?_))))
   refine Hs.eff _ _ 5 _ _ rfl (by kernel_rfl) rfl rfl (Be (k:=0) (v:=.agg _) (cs':=[.str _,_,_,Iq _,_,Iq _,Iq _,Iq _,Iq _,Iq _,_,Iq _,Iq _,Iq _,Iq _,Iq _,.str _,_]) (H2:=_::_) tok rfl rfl rfl rfl (rfl) rfl rfl rfl rfl) (fun _ _ _=>trivial) ?_
   rintro _ _ ⟨rfl,rfl⟩
   refine Qn 6 rfl A0 (Qn 7 rfl A0 ?_)
   refine Hs.done _ _ (by kernel_rfl) ?_
   refine Af (AW.ret ?_)
   refine ⟨.inr rfl,[.agg [.str _,_,_,Iq _,_,Iq _,Iq _,Iq _,Iq _,Iq _,_,Iq _,Iq _,Iq _,Iq _,Iq _,.str _,_],Iq _,Iq _],.cons (.box _ _ _ 0 _ _ _ _ rfl rfl rfl rfl rfl rfl) <| .cons (.tmp _ _ rfl) <| .cons (.tmp _ _ rfl) <| .nil,.cons _ (.refl _),?_⟩
   exact Eq.trans rfl (congrArg (fun q:Qy×Int×Int=>AV.tuple [.agg (cQy q.1),.int .i64 q.2.1,.int .i64 q.2.2]) (kY T t hc1 hc2)).symm
theorem kH (t:Syn)(ht:Eg t):Ap Tryz.prog 59 [.agg (cSyn t)] (.tuple [.sl 2 ((Mh t).1.map G7),.agg (M1 (Mh t).2)]):=by
 have hkl:=Hl ht
 refine Ap.body (n:=85) tok Tryz.func59 rfl rfl rfl fun H=>?_
 refine Ad (Qp (Eu [Iq _,.str _,.str _,Iq _,_,Iq _]) ?_)
 refine Qp (Bk (z:=2) rfl) ?_
 refine Qe (An (l:=[.int .i64 0,.int .i64 0]) (by kernel_rfl)) ?_
 rintro _ _ ⟨b3,rfl,rfl⟩
 refine By (Qp N8 ?_)
 refine AOL.ghost (GS.row (t:=4) 69 2 rfl) ?_
 refine By ?_
 refine Qe (H4) ?_
 rintro _ _ ⟨b12,rfl,rfl⟩
 refine Qp N8 (Aa (AW.seq (Ad (Qp (Qf [_,Iq _]) (Qp Dg ?_)))))
 refine Qp (Ax (n:=t.kids.length) tok rfl rfl rfl (by simp)) ?_
 refine Qp A4 (Aa (AW.block ?_))
 refine AW.Aat (fun (q:Nat×List e8Sc×List (List AV)×List Aq×Value)=>(⟨[(1,.ptr (cSyn t)),(2,.sl 2 []),(3,.val (.pointer (some ⟨b3,0,none⟩))),(4,.row q.2.2.2.2 2 q.2.2.1),(5,.val (.map (some b12))),(14,.sl 6 (t.kids.map Cl)),(15,.int .i64 t.kids.length),(16,.int .i64 (q.1:Int))],.smap b12 (N3 q.2.2.2.1) :: .row q.2.2.2.2 q.2.2.1.length 69 2 :: .box b3 94 [.int .i64 0,.int .i64 0]::H,85⟩:St)) (fun (q:Nat×List e8Sc×List (List AV)×List Aq×Value)=>q.1≤t.kids.length∧Ep [] t.kids=Ep q.2.1 (t.kids.drop q.1)∧q.2.1.length≤16∧q.2.2.1=q.2.1.map G7∧q.2.2.2.1=Gb q.2.1) (fun (q:Nat×List e8Sc×List (List AV)×List Aq×Value)=>t.kids.length-q.1) ((0,[],[],[],.slice none 0 0)) ?_ (GS.weaken ⟨rfl,rfl,rfl,rfl,rfl,rfl,rfl,rfl,trivial⟩ (.refl _)) ?_
 · exact ⟨Nat.zero_le _,rfl,Nat.zero_le _,rfl,rfl⟩
 ·
  rintro q hR
  refine Ad (Qp B7 (Aa (AW.seq (Au (fun hc1=>?_) fun hc1=>?_))))
  ·
   obtain ⟨a,ha⟩:=Dl hc1
   have hlt:=Cm ha
   have hm:=List.mem_of_getElem? ha
   have ho16:=hR.2.2.1
   have hrw:=hR.2.2.2.1
   have hnw:=hR.2.2.2.2
   have hrl:q.2.2.1.length=q.2.1.length:=by rw [hrw,List.length_map]
   have hso:∀c∈q.2.2.1,Ba c=true:=by rw [hrw];exact scSc _
   have hma:=Ec ht hm
   have hak:=Hl hma
   refine Bl (AW.seq (AW.block (Ad ?_)))
   refine Qp (Ag (c:=[Iq _,.str _,.str _,Iq _,_,Iq _]) tok rfl rfl rfl rfl rfl rfl (by omega) (Dk ha)) ?_
   refine Qp (B2 [Iq _,.str _,.str _,Iq _,_,Iq _]) ?_
   refine Qe (An (l:=[.int .i64 0,.str [],.str [],.int .i64 0,.sl 6 [],.int .i64 0]) (by kernel_rfl)) ?_
   rintro _ _ ⟨b7,rfl,rfl⟩
   refine B0 0 [Iq _,.str _,.str _,Iq _,_,Iq _] (_::_::_::_::_) ?_
   refine AOL.ghost (GS.freeze (t:=7) 0 rfl rfl) ?_
   refine Aa (AW.seq (Ad (Qp (Qf [Iq _,.str _,.str _,Iq _,_,Iq _]) (Qp Bt (Qp B9 (Aa (Au (fun hc2=>?_) fun hc2=>?_)))))))
   ·
    refine AW.exit ?_
    refine A7 (Bp (Af (AW.region (Qp Ei (Qp A4 (Aa ?_))))))
    refine ⟨(q.1+1,q.2.1,q.2.2.1,q.2.2.2.1,q.2.2.2.2),?_,?_,GS.weaken ⟨rfl,rfl,rfl,rfl,rfl,rfl,rfl,rfl,trivial⟩ (.refl _)⟩
    · exact ⟨hlt,hR.2.1.trans (Zl ha hc2),hR.2.2⟩
    · simp only;omega
   ·
    refine Bl (AW.seq (Ad ?_))
    refine Qp (A1 (v:=.row _ _ _) rfl) ?_
    refine Qp (Dx (n:=q.2.1.length) tok rfl rfl rfl (hrl)) ?_
    refine Qp Av (Aa (Au (fun hc3=>?_) fun hc3=>?_))
    ·
     refine AW.seq ?_
     refine AW.draw mixed (fun _=>True) trivial (by kernel_rfl) ?_
     refine Qn 0 rfl (Qf [Iq _]) (Qn 1 rfl Bt (Qn 2 rfl (Ea [Iq _,Iq _]) ?_))
     refine Qn 3 rfl (Bk (z:=2) rfl) ?_
     refine Hs.eff _ _ 4 _ _ rfl (by kernel_rfl) rfl rfl (Be (k:=2) (v:=.agg _) (cs':=[Iq _,Iq _]) (H2:=_::_::_::_) tok rfl rfl rfl rfl (rfl) rfl rfl rfl rfl) (fun _ _ _=>trivial) ?_
     rintro _ _ ⟨rfl,rfl⟩
     refine Hs.done _ _ (by kernel_rfl) ?_
     refine Af (Cx (Ao (Ai (Ai (Ao (Ai ?_))))))
     refine ⟨.inr rfl,[.sl _ _,.agg [Iq _,Iq _]],.cons (.tmp _ _ rfl) <| .cons (.box _ _ _ 2 _ _ _ _ rfl rfl rfl rfl rfl rfl) <| .nil,.cons _ (.cons _ (.cons _ (.refl _))),?_⟩
     exact Eq.trans rfl (congrArg (fun q:List e8Sc×Fa=>AV.tuple [.sl 2 (q.1.map G7),.agg (M1 q.2)]) (hR.2.1.trans (typ_5 ha hc2 hc3))).symm
    ·
     refine Bl (AW.seq (Ad (Qp Br (Qp (Qf [.str _,.str _,Iq _,_,Iq _]) (Qp Df ?_)))))
     refine AOL.Aaq (Nf (i:=0) (ks:=q.2.2.2.1) tok rfl rfl rfl rfl rfl (by kernel_rfl) rfl rfl rfl) rfl rfl ?_
     refine Aa (Au (fun hc4=>?_) fun hc4=>?_)
     ·
      have hc4n:(Gb q.2.1).contains a.text=true:=by rw [←hnw];exact hc4
      refine AW.seq ?_
      refine AW.draw mixed (fun _=>True) trivial (by kernel_rfl) ?_
      refine Qn 0 rfl (Qf [Iq _]) (Qn 1 rfl Bt (Qn 2 rfl (Ea [Iq _,Iq _]) ?_))
      refine Qn 3 rfl (Bk (z:=2) rfl) ?_
      refine Hs.eff _ _ 4 _ _ rfl (by kernel_rfl) rfl rfl (Be (k:=2) (v:=.agg _) (cs':=[Iq _,Iq _]) (H2:=_::_::_::_) tok rfl rfl rfl rfl (rfl) rfl rfl rfl rfl) (fun _ _ _=>trivial) ?_
      rintro _ _ ⟨rfl,rfl⟩
      refine Hs.done _ _ (by kernel_rfl) ?_
      refine Af (Cx (Ao (Ai (Ai (Ao (Ai ?_))))))
      refine ⟨.inr rfl,[.sl _ _,.agg [Iq _,Iq _]],.cons (.tmp _ _ rfl) <| .cons (.box _ _ _ 2 _ _ _ _ rfl rfl rfl rfl rfl rfl) <| .nil,.cons _ (.cons _ (.cons _ (.refl _))),?_⟩
      exact Eq.trans rfl (congrArg (fun q:List e8Sc×Fa=>AV.tuple [.sl 2 (q.1.map G7),.agg (M1 q.2)]) (hR.2.1.trans (typ_7 ha hc2 hc3 hc4n))).symm
     ·
      have hc4n:(Gb q.2.1).contains a.text=false:=by rw [←hnw];exact hc4
      refine Bl (Ad (Qp Br (Qp (Qf [.str _,.str _,Iq _,_,Iq _]) (Qp Df ?_))))
      refine Qe (O5 (i:=0) (H2:=_::_::_::_) tok rfl rfl rfl rfl rfl rfl rfl rfl (hc4) rfl) ?_
      rintro _ _ ⟨rfl,rfl⟩
      refine By (Qp (Qf [.str _,.str _,Iq _,_,Iq _]) (Qp Df ?_))
      refine Qp (Mk (l0:=[.str [],.val (.slice none 0 0)]) (l:=[.str _,_]) tok rfl rfl (by kernel_rfl) rfl) ?_
      refine Qe (An (l:=[.str [],.sl 2 []]) (by kernel_rfl)) ?_
      rintro _ _ ⟨b8,rfl,rfl⟩
      refine B0 0 [.str _,_] (_::_::_::_::_) ?_
      refine AOL.ghost (GS.cellRow 0 1 111 2 rfl rfl rfl rfl) ?_
      refine By ?_
      refine Qe (H4) ?_
      rintro _ _ ⟨b42,rfl,rfl⟩
      refine Qp N8 (Aa (AW.seq (Ad (Qp (Qf [_,Iq _]) (Qp Dg ?_)))))
      refine Qp (Ax (n:=a.kids.length) tok rfl rfl rfl (by simp)) ?_
      refine Qp A4 (Aa (AW.block ?_))
      refine AW.ghost (GS.perm (List.perm_append_comm.append_right _:(([_] ++ [_,_])++_).Perm _)) ?_
      refine AW.Aat (fun (p:Nat×List Fi×List (List AV)×List Aq×Value)=>(⟨[(1,.ptr (cSyn t)),(2,.sl 2 []),(3,.val (.pointer (some ⟨b3,0,none⟩))),(4,.row q.2.2.2.2 2 q.2.2.1),(5,.val (.map (some b12))),(14,.sl 6 (t.kids.map Cl)),(15,.int .i64 t.kids.length),(16,.int .i64 (q.1:Int)),(7,.ptr (cSyn a)),(8,.val (.pointer (some ⟨b8,0,none⟩))),(9,.val (.map (some b42))),(44,.sl 6 (a.kids.map Cl)),(45,.int .i64 a.kids.length),(46,.int .i64 (p.1:Int))],.row p.2.2.2.2 p.2.2.1.length 111 2 :: .box b8 69 [.str a.text,.row p.2.2.2.2 2 p.2.2.1] :: .smap b42 (N3 p.2.2.2.1) :: .smap b12 (N3 (q.2.2.2.1 ++ [a.text])) :: .row q.2.2.2.2 q.2.2.1.length 69 2 :: .box b3 94 [.int .i64 0,.int .i64 0]::H,85⟩:St)) (fun (p:Nat×List Fi×List (List AV)×List Aq×Value)=>p.1≤a.kids.length∧Dw [] a.kids=Dw p.2.1 (a.kids.drop p.1)∧p.2.1.length≤8∧p.2.2.1=p.2.1.map cT∧p.2.2.2.1=p.2.1.map (·.name)) (fun (p:Nat×List Fi×List (List AV)×List Aq×Value)=>a.kids.length-p.1) ((0,[],[],[],.slice none 0 0)) ?_ (GS.weaken ⟨rfl,rfl,rfl,rfl,rfl,rfl,rfl,rfl,rfl,rfl,rfl,rfl,rfl,rfl,trivial⟩ (.refl _)) ?_
      · exact ⟨Nat.zero_le _,rfl,Nat.zero_le _,rfl,rfl⟩
      ·
       rintro p hP
       refine Ad (Qp B7 (Aa (AW.seq (Au (fun hc5=>?_) fun hc5=>?_))))
       ·
        obtain ⟨x,hax⟩:=Dl hc5
        have hltx:=Cm hax
        have hmx:=List.mem_of_getElem? hax
        have hf8:=hP.2.2.1
        have hfw:=hP.2.2.2.1
        have hfn:=hP.2.2.2.2
        have hfl:p.2.2.1.length=p.2.1.length:=by rw [hfw,List.length_map]
        have hsf:∀c∈p.2.2.1,Ba c=true:=by rw [hfw];exact scFi _
        refine Bl (AW.seq (AW.block (Ad ?_)))
        refine Qp (Ag (c:=[Iq _,.str _,.str _,Iq _,_,Iq _]) tok rfl rfl rfl rfl rfl rfl (by omega) (Dk hax)) ?_
        refine Qp (B2 [Iq _,.str _,.str _,Iq _,_,Iq _]) ?_
        refine Qe (An (l:=[.int .i64 0,.str [],.str [],.int .i64 0,.sl 6 [],.int .i64 0]) (by kernel_rfl)) ?_
        rintro _ _ ⟨b11,rfl,rfl⟩
        refine B0 0 [Iq _,.str _,.str _,Iq _,_,Iq _] (_::_::_::_::_::_::_::_) ?_
        refine AOL.ghost (GS.freeze (t:=11) 0 rfl rfl) ?_
        refine Aa (AW.seq (Ad (Qp Cb ?_)))
        refine AOL.Aaq (Aj (k:=1) (c:=.row _ _ _) tok rfl rfl rfl rfl) rfl rfl ?_
        refine Qp (Dx (n:=p.2.1.length) tok rfl rfl rfl (hfl)) ?_
        refine Qp Av (Aa (Au (fun hc6=>?_) fun hc6=>?_))
        ·
         refine AW.seq ?_
         refine AW.draw mixed (fun _=>True) trivial (by kernel_rfl) ?_
         refine Qn 0 rfl (Qf [Iq _]) (Qn 1 rfl Bt (Qn 2 rfl (Ea [Iq _,Iq _]) ?_))
         refine Qn 3 rfl (Bk (z:=2) rfl) ?_
         refine Hs.eff _ _ 4 _ _ rfl (by kernel_rfl) rfl rfl (Be (k:=5) (v:=.agg _) (cs':=[Iq _,Iq _]) (H2:=_::_::_::_::_::_::_) tok rfl rfl rfl rfl (rfl) rfl rfl rfl rfl) (fun _ _ _=>trivial) ?_
         rintro _ _ ⟨rfl,rfl⟩
         refine Hs.done _ _ (by kernel_rfl) ?_
         refine Af (Cx (Ao (Ai (Ai (Ao (Ai (Ao (Ai (Ai ?_)))))))))
         refine Ao (Ai ?_)
         refine ⟨.inr rfl,[.sl _ _,.agg [Iq _,Iq _]],.cons (.tmp _ _ rfl) <| .cons (.box _ _ _ 5 _ _ _ _ rfl rfl rfl rfl rfl rfl) <| .nil,.cons _ (.cons _ (.cons _ (.cons _ (.cons _ (.cons _ (.refl _)))))),?_⟩
         exact Eq.trans rfl (congrArg (fun q:List e8Sc×Fa=>AV.tuple [.sl 2 (q.1.map G7),.agg (M1 q.2)]) (hR.2.1.trans (vS ha hc2 hc3 hc4n (hP.2.1.trans (vJ hax hc6)) (show (5:Int)≠0 by decide)))).symm
        ·
         refine Bl (AW.seq (Ad (Qp Br (Qp (Qf [.str _,.str _,Iq _,_,Iq _]) (Qp Df ?_)))))
         refine AOL.Aaq (Nf (i:=2) (ks:=p.2.2.2.1) tok rfl rfl rfl rfl rfl (by kernel_rfl) rfl rfl rfl) rfl rfl ?_
         refine Aa (Au (fun hc7=>?_) fun hc7=>?_)
         ·
          have hc7n:(p.2.1.map (·.name)).contains x.text=true:=by rw [←hfn];exact hc7
          refine AW.seq ?_
          refine AW.draw mixed (fun _=>True) trivial (by kernel_rfl) ?_
          refine Qn 0 rfl (Qf [Iq _]) (Qn 1 rfl Bt (Qn 2 rfl (Ea [Iq _,Iq _]) ?_))
          refine Qn 3 rfl (Bk (z:=2) rfl) ?_
          refine Hs.eff _ _ 4 _ _ rfl (by kernel_rfl) rfl rfl (Be (k:=5) (v:=.agg _) (cs':=[Iq _,Iq _]) (H2:=_::_::_::_::_::_::_) tok rfl rfl rfl rfl (rfl) rfl rfl rfl rfl) (fun _ _ _=>trivial) ?_
          rintro _ _ ⟨rfl,rfl⟩
          refine Hs.done _ _ (by kernel_rfl) ?_
          refine Af (Cx (Ao (Ai (Ai (Ao (Ai (Ao (Ai (Ai ?_)))))))))
          refine Ao (Ai ?_)
          refine ⟨.inr rfl,[.sl _ _,.agg [Iq _,Iq _]],.cons (.tmp _ _ rfl) <| .cons (.box _ _ _ 5 _ _ _ _ rfl rfl rfl rfl rfl rfl) <| .nil,.cons _ (.cons _ (.cons _ (.cons _ (.cons _ (.cons _ (.refl _)))))),?_⟩
          exact Eq.trans rfl (congrArg (fun q:List e8Sc×Fa=>AV.tuple [.sl 2 (q.1.map G7),.agg (M1 q.2)]) (hR.2.1.trans (vS ha hc2 hc3 hc4n (hP.2.1.trans (wZ hax hc6 hc7n)) (show (7:Int)≠0 by decide)))).symm
         ·
          have hc7n:(p.2.1.map (·.name)).contains x.text=false:=by rw [←hfn];exact hc7
          refine Bl (Ad (Qp Br (Qp (Qf [.str _,.str _,Iq _,_,Iq _]) (Qp Df ?_))))
          refine Qe (O5 (i:=2) (H2:=_::_::_::_::_::_::_) tok rfl rfl rfl rfl rfl rfl rfl rfl (hc7) rfl) ?_
          rintro _ _ ⟨rfl,rfl⟩
          refine Aa (AW.region (Qp Cb ?_))
          refine AOL.Aaq (Aj (k:=1) (c:=.row _ _ _) tok rfl rfl rfl rfl) rfl rfl ?_
          refine Qp (Qf [.str _,.str _,Iq _,_,Iq _]) (Qp Df (Qp (Qf [Iq _,_,Iq _]) (Qp Bt (Qp (Ea [.str _,Iq _]) ?_))))
          refine Qp (Am (es:=[[.str _,Iq _]]) tok rfl rfl rfl rfl rfl rfl rfl rfl rfl) ?_
          refine Qe (Ci (k:=0) tok rfl rfl rfl rfl rfl rfl rfl rfl (D7 rfl) (hsf) (by simp;omega) (by simp [maxLen];omega)) ?_
          rintro _ _ ⟨v75,rfl,rfl⟩
          refine Qp Cb ?_
          refine B0 1 [.str _,_] (_::_::_::_::_::_::_) ?_
          refine AOL.nil (Bc (Af (AW.region (Qp Ei (Qp A4 (Aa ?_))))))
          refine ⟨(p.1+1,p.2.1 ++ [⟨x.text,x.num⟩],p.2.2.1 ++ [cT ⟨x.text,x.num⟩],p.2.2.2.1 ++ [x.text],v75),?_,?_,GS.weaken ⟨rfl,rfl,rfl,rfl,rfl,rfl,rfl,rfl,rfl,rfl,rfl,rfl,rfl,rfl,trivial⟩ (.refl _)⟩
          · exact ⟨hltx,hP.2.1.trans (oP hax hc6 hc7n),by simp only [List.length_append,List.length_singleton];exact xJ hf8 hc6,by simp [hfw],by simp [hfn]⟩
          · simp only;omega
       ·
        have hdx:=Hd hc5
        have hfx:=hP.2.1
        rw [hdx,Dw] at hfx
        have hfw:=hP.2.2.2.1
        have htn:=xT ha hc2 hc3 hc4n hfx
        refine AW.exit ?_
        refine A7 (A7 (Bp (Af (AW.region ?_))))
        refine Qp (A1 (v:=.row _ _ _) rfl) ?_
        refine AOL.ghost (GS.cell (H2:=_::_::_::_::_::_::_) 1 1 rfl rfl rfl rfl Hw) ?_
        refine AOL.Aaq (A8 (k:=1) (l:=[.str _,_]) tok rfl rfl rfl rfl rfl) rfl rfl ?_
        refine Qp (Am (es:=[[.str _,_]]) tok rfl rfl rfl rfl rfl rfl rfl rfl rfl) ?_
        refine Qe (Ci (k:=4) tok rfl rfl rfl rfl rfl rfl rfl rfl (D7 rfl) (hso) (by simp;omega) (by simp [maxLen];omega)) ?_
        rintro _ _ ⟨v81,rfl,rfl⟩
        refine Qp (A6 (v:=.row _ _ _) rfl) ?_
        refine AOL.nil (Bc (Af (AW.region (Qp Ei (Qp A4 (Aa ?_))))))
        refine ⟨(q.1+1,q.2.1 ++ [⟨a.text,p.2.1⟩],q.2.2.1 ++ [[.str a.text,.sl 2 p.2.2.1]],q.2.2.2.1 ++ [a.text],v81),?_,?_,GS.weaken ⟨rfl,rfl,rfl,rfl,rfl,rfl,rfl,rfl,trivial⟩ (.cons _ (.cons _ (.cons _ (.refl _))))⟩
        · exact ⟨hlt,hR.2.1.trans htn,by simp only [List.length_append,List.length_singleton];exact oY ho16 hc3,by simp [hrw,hfw,G7],by simp [hnw]⟩
        · simp only;omega
  ·
   have hde:=Hd hc1
   have hall:=hR.2.1
   rw [hde] at hall
   refine AW.exit ?_
   refine A7 (A7 (Bp (Af (Ad ?_))))
   refine Qp (A1 (v:=.row _ _ _) rfl) ?_
   refine AOL.ghost (GS.unrow 83 rfl) ?_
   refine Qp (Qc rfl (J1)) ?_
   refine Qp U8 ?_
   refine B0 2 [Iq _,Iq _] (_::_::_::_) ?_
   refine Aa (AW.ret ?_)
   refine ⟨.inr rfl,[.sl _ _,.agg [Iq _,Iq _]],.cons (.tmp _ _ rfl) <| .cons (.box _ _ _ 2 _ _ _ _ rfl rfl rfl rfl rfl rfl) <| .nil,.cons _ (.cons _ (.cons _ (.refl _))),?_⟩
   exact Eq.trans (congrArg (fun l:List (List AV)=>AV.tuple [.sl 2 l,.agg (M1 Mq)]) hR.2.2.2.1) (congrArg (fun q:List e8Sc×Fa=>AV.tuple [.sl 2 (q.1.map G7),.agg (M1 q.2)]) (hall:Mh t=(q.2.1,Mq))).symm
theorem mV (t:Syn)(ht:Eg t):Ap Tryz.prog 19 [.agg (cSyn t)] (.tuple [.sl 2 ((Ok t).1.map G7),.int .i64 (Ok t).2.1,.int .i64 (Ok t).2.2]):=by
 refine Ap.body (n:=20) tok Tryz.func19 rfl rfl rfl fun H=>?_
 refine Ad (Qp (Eu [Iq _,.str _,.str _,Iq _,_,Iq _]) ?_)
 refine Qp (Bk (z:=2) rfl) ?_
 refine Qp A0 (Qp A0 (Aa (AW.seq (Ad (Qp (B2 [Iq _,.str _,.str _,Iq _,_,Iq _]) ?_)))))
 refine Qp (Qc rfl (oM t ht)) ?_
 refine Qp B9 (Aa (Au (fun hc1=>?_) fun hc1=>?_))
 ·
  refine Ad ?_
  refine Qp (Bk (z:=2) rfl) ?_
  refine Qp A0 (Qp A0 (Aa (Cx ?_)))
  refine ⟨.inr rfl,[.sl _ _,Iq _,Iq _],.cons (.tmp _ _ rfl) <| .cons (.tmp _ _ rfl) <| .cons (.tmp _ _ rfl) <| .nil,.refl _,?_⟩
  exact Eq.trans rfl (congrArg (fun q:List e8Sc×Int×Int=>AV.tuple [.sl 2 (q.1.map G7),.int .i64 q.2.1,.int .i64 q.2.2]) (tp_1 hc1)).symm
 ·
  refine Bl (Ad (Qp (B2 [Iq _,.str _,.str _,Iq _,_,Iq _]) ?_))
  refine Qp (Qc rfl (kH t ht)) ?_
  refine Qp L0 (Qp Qxs ?_)
  refine Qp (Cc (v:=.agg [Iq _,Iq _]) rfl rfl) ?_
  refine Qe (An (l:=[.int .i64 0,.int .i64 0]) (by kernel_rfl)) ?_
  rintro _ _ ⟨b6,rfl,rfl⟩
  refine Qp U8 ?_
  refine B0 0 [Iq _,Iq _] (_::_) ?_
  refine AOL.ghost (GS.freeze (t:=6) 0 rfl rfl) ?_
  refine Aa (AW.seq ?_)
  refine AW.draw mixed (fun _=>True) trivial (by kernel_rfl) ?_
  refine Qn 0 rfl K4 (Qn 1 rfl (Qf [Iq _,Iq _]) (Qn 2 rfl Bt (Qn 3 rfl (Qf [Iq _]) (Qn 4 rfl Bt (Qn 5 rfl U8 (Qn 6 rfl A0 (Qn 7 rfl A0 ?_)))))))
  refine Hs.done _ _ (by kernel_rfl) ?_
  refine Af (AW.ret ?_)
  refine ⟨.inr rfl,[.sl _ _,Iq _,Iq _],.cons (.tmp _ _ rfl) <| .cons (.tmp _ _ rfl) <| .cons (.tmp _ _ rfl) <| .nil,.refl _,?_⟩
  exact Eq.trans rfl (congrArg (fun q:List e8Sc×Int×Int=>AV.tuple [.sl 2 (q.1.map G7),.int .i64 q.2.1,.int .i64 q.2.2]) (tp_2 hc1)).symm



set_option maxHeartbeats 1600000
set_option maxRecDepth 20000

theorem n3_ss (s:e8Sc)(hl:s.fields.length≤1048576):Ap Tryz.prog 63 [.agg (G7 s),.agg (G7 s)] (.bool true):=by
 refine Ap.body (n:=38) tok Tryz.func63 rfl rfl rfl fun H=>?_
 refine Ad (Qp (Eu [.str _,_]) (Qp (Eu [.str _,_]) (Qp A3 (Aa (AW.seq (Ad (Qp (Qf [.str _,_]) (Qp Df (Qp (Qf [.str _,_]) ?_)))))))))
 refine Qp Df ?_
 refine Qp (Cr rfl rfl) ?_
 refine Qp Bq (Qg [] Qw (Qf [_]) (Qg [(12,_)] Qw Dg ?_))
 refine AOL.Aap (y:=Iq _) _ [(13,_)] rfl (iB.all ⟨Ent.Aao _ _,trivial⟩) (fun hG=>Ax (n:=s.fields.length) tok rfl rfl rfl (by simp)) rfl ?_
 refine Qg [] Qw (Qf [_]) (Qg [(15,_)] Qw Dg ?_)
 refine AOL.Aap (y:=Iq _) _ [(16,_)] rfl (iB.all ⟨Ent.Aao _ _,trivial⟩) (fun hG=>Ax (n:=s.fields.length) tok rfl rfl rfl (by simp)) rfl ?_
 refine AOL.Aap (y:=.bool _) _ [(14,_),(17,_)] rfl (iB.all ⟨Ent.Aao _ _,Ent.Aao _ _,trivial⟩) (fun hG=>L6 rfl rfl) rfl ?_
 refine Qp Cy (Aa (Au (fun hc1=>?_) fun hc1=>?_))
 ·
  simp [] at hc1
 ·
  refine Bl (AW.seq (Ad (Qp A0 (Aa (AW.block ?_)))))
  refine AW.Aat (fun (k:Nat)=>(⟨[(2,.ptr (G7 s)),(3,.ptr (G7 s)),(5,.int .i64 (k:Int))],H,38⟩:St)) (fun (k:Nat)=>k≤s.fields.length) (fun (k:Nat)=>s.fields.length-k) (0) ?_ (GS.weaken ⟨rfl,rfl,rfl,trivial⟩ (.refl _)) ?_
  · exact Nat.zero_le _
  ·
   rintro k hR
   refine AW.seq (Ad (Qp A4 (Qp (Qf [_]) (Qp Dg ?_))))
   refine Qp (Ax (n:=s.fields.length) tok rfl rfl rfl (by simp)) ?_
   refine Qp B7 (Aa (Au (fun hc2=>?_) fun hc2=>?_))
   ·
    obtain ⟨a,ha⟩:=Dl hc2
    have hlt:=Cm ha
    have hm:=List.mem_of_getElem? ha
    refine Bl (AW.seq (AW.block (AW.seq ?_)))
    refine AW.draw mixed (fun _=>True) trivial (by kernel_rfl) ?_
    refine Qn 0 rfl (Qf [_]) (Qn 1 rfl Dg (Qn 2 rfl A4 ?_))
    refine Qn 3 rfl (Ag (c:=[.str _,Iq _]) tok rfl rfl rfl rfl rfl rfl (by omega) (Ff ha)) ?_
    refine Qn 4 rfl (B2 [.str _,Iq _]) (Qn 5 rfl (Qf [_]) (Qn 6 rfl Dg (Qn 7 rfl A4 ?_)))
    refine Qn 8 rfl (Ag (c:=[.str _,Iq _]) tok rfl rfl rfl rfl rfl rfl (by omega) (Ff ha)) ?_
    refine Qn 9 rfl (B2 [.str _,Iq _]) ?_
    refine Qn 10 rfl (H5 tok rfl rfl rfl rfl rfl) ?_
    refine Hs.done _ _ (by kernel_rfl) ?_
    refine Af (Au (fun hc3=>?_) fun hc3=>?_)
    ·
     simp [] at hc3
    ·
     refine AW.skip (Bc (Af (AW.region (Qp A4 (Qp Ei (Qp A0 (Aa ?_)))))))
     refine ⟨k+1,?_,?_,GS.weaken ⟨rfl,rfl,rfl,trivial⟩ (.refl _)⟩
     · exact hlt
     · omega
   ·
    refine AW.exit ?_
    refine A7 (A7 (Bp (Af (Ad (Qp A3 (Aa (AW.ret ?_)))))))
    refine Qr (.bool _) ?_
    rfl
theorem sK (T:List e8Sc)(hl:T.length≤1048576)(hf:∀s∈T,s.fields.length≤1048576):Ap Tryz.prog 21 [.sl 2 (T.map G7),.sl 2 (T.map G7)] (.bool true):=by
 refine Ap.body (n:=27) tok Tryz.func21 rfl rfl rfl fun H=>?_
 refine Ad (Qp A3 (Aa (AW.seq (Ad (Qp K4 ?_)))))
 refine Qp (Ax (n:=T.length) tok rfl rfl rfl (by simp)) ?_
 refine Qp K4 ?_
 refine Qp (Ax (n:=T.length) tok rfl rfl rfl (by simp)) ?_
 refine Qp B9 (Aa (Au (fun hc1=>?_) fun hc1=>?_))
 ·
  simp [] at hc1
 ·
  refine Bl (AW.seq (Ad (Qp A0 (Aa (AW.block ?_)))))
  refine AW.Aat (fun (k:Nat)=>(⟨[(0,.sl 2 (T.map G7)),(1,.sl 2 (T.map G7)),(5,.int .i64 (k:Int))],H,27⟩:St)) (fun (k:Nat)=>k≤T.length) (fun (k:Nat)=>T.length-k) (0) ?_ (GS.weaken ⟨rfl,rfl,rfl,trivial⟩ (.refl _)) ?_
  · exact Nat.zero_le _
  ·
   rintro k hR
   refine AW.seq (Ad (Qp A4 (Qp K4 ?_)))
   refine Qp (Ax (n:=T.length) tok rfl rfl rfl (by simp)) ?_
   refine Qp B7 (Aa (Au (fun hc2=>?_) fun hc2=>?_))
   ·
    obtain ⟨a,ha⟩:=Dl hc2
    have hlt:=Cm ha
    have hm:=List.mem_of_getElem? ha
    refine Bl (AW.seq (AW.block (AW.seq ?_)))
    refine AW.draw mixed (fun _=>True) trivial (by kernel_rfl) ?_
    refine Qn 0 rfl K4 (Qn 1 rfl A4 ?_)
    refine Qn 2 rfl (Ag (c:=[.str _,_]) tok rfl rfl rfl rfl rfl rfl (by omega) (Ff ha)) ?_
    refine Qn 3 rfl (B2 [.str _,_]) (Qn 4 rfl K4 (Qn 5 rfl A4 ?_))
    refine Qn 6 rfl (Ag (c:=[.str _,_]) tok rfl rfl rfl rfl rfl rfl (by omega) (Ff ha)) ?_
    refine Qn 7 rfl (B2 [.str _,_]) ?_
    refine Qn 8 rfl (Qc rfl (n3_ss a (hf a hm))) ?_
    refine Qn 9 rfl Fz ?_
    refine Hs.done _ _ (by kernel_rfl) ?_
    refine Af (Au (fun hc3=>?_) fun hc3=>?_)
    ·
     cases hc3
    ·
     refine AW.skip (Bc (Af (AW.region (Qp A4 (Qp Ei (Qp A0 (Aa ?_)))))))
     refine ⟨k+1,?_,?_,GS.weaken ⟨rfl,rfl,rfl,trivial⟩ (.refl _)⟩
     · exact hlt
     · omega
   ·
    refine AW.exit ?_
    refine A7 (A7 (Bp (Af (Ad (Qp A3 (Aa (AW.ret ?_)))))))
    refine Qr (.bool _) ?_
    rfl


theorem GS.refl (s:St):GS s s:=fun g a w h=>⟨g,h,Ext.refl g w⟩
theorem AW.ghostPost {P:Program}{c:Code}{Q:Exit→St→Prop}{s:St}(h:AW P c (fun e s=>∃s',GS s s'∧Q e s') s):AW P c Q s:=by
 intro Q' g a w hG hQ
 refine h Q' g a w hG fun e g' s' a' w' h1 h2 ⟨s2,h3,h4⟩=>?_
 obtain ⟨g2,k1,k2⟩:=h3 g' a' w' h1
 exact hQ e g2 s2 a' w' k1 (h2.trans k2) h4

section
variable {P:Program} {T:List (Nat×TD)} {d:Option Nat} {ty:TypeId} {pos:String} {aft:Array Edge} {gd:Option (Nat×Bool)} {ρ:Operand→AV} {K:List HO→Prop}
theorem H7 {t e z:Nat}{td te:TD}{vs:Array Value}{es:List (List AV)}(hT:F4 P T)(ht:Bm T t=some td)(hk:td.kind = .slice e)(hte:Bm T e=some te)(hz:te.size=z)
    (hb:Nat.ble (1*z) 16777216=true) (hl:Nat.beq vs.toList.length z=true) (hs:Ba (vs.toList.map AV.val)=true) (hp:Nat.blt 0 z=true) (hes:[vs.toList.map AV.val]=es):Cf P ⟨d,.buildSlice t 1 #[(0,.const (.agg vs))],ty,pos,aft,gd⟩ ρ K (.sl z es):=by
  have h:=Am (d:=d) (ty:=ty) (pos:=pos) (aft:=aft) (gd:=gd) (K:=K) (ρ:=fun _=>.agg (vs.toList.map AV.val)) (parts:=#[(0,.const (.agg vs))]) (n:=1) (es:=es) hT ht hk hte hz rfl hb
    (by simp only [Px,B4,List.length_map,Nat.beq_refl,Bool.true_and,Bool.and_true,hs,hl]) hp (by subst hes;rfl)
  intro g w a H next Q hr hH hK hn
  refine h g w a H next Q (fun y hy=>?_) hH hK hn
  simp only [Op.operands,List.map_toArray,List.map_cons,List.map_nil,List.mem_toArray,List.mem_singleton] at hy
  subst hy
  refine .agg vs _ (by simp) (fun i x hi=>?_)
  rw [List.getElem?_map] at hi
  cases hv:vs.toList[i]? with
  | none=>rw [hv] at hi;cases hi
  | some u=>
    rw [hv] at hi
    cases hi
    have:vs.getD i undef=u:=by
      rw [Array.getD_eq_getD_getElem?]
      have:vs[i]? = some u:=by simpa using hv
      rw [this];rfl
    rw [this];exact .val _
end
end Go.Proofs.YtckhoadldibflaaGreatDoor
