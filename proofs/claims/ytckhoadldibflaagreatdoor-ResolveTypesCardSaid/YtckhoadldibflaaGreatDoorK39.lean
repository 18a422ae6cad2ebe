/-
  Several texts in one: R17w, R18w, R19w, R22w. No condition.
-/
import Derived.Test.YtckhoadldibflaaGreatDoorK01
import Derived.Test.YtckhoadldibflaaGreatDoorK34
import Derived.Test.YtckhoadldibflaaGreatDoorK19
import Derived.Test.YtckhoadldibflaaGreatDoorW13u
import Derived.KernelRfl
import Derived.Test.YtckhoadldibflaaGreatDoorK16
import Derived.Test.YtckhoadldibflaaGreatDoorK29
import Derived.Test.YtckhoadldibflaaGreatDoorK21
import Derived.Test.YtckhoadldibflaaGreatDoorK28
set_option linter.unusedVariables false
set_option linter.unusedSimpArgs false
namespace Go.Proofs.YtckhoadldibflaaGreatDoor
open Go Go.Aw
set_option maxHeartbeats 12800000
set_option maxRecDepth 20000

theorem kI {k n:Nat}(hG:Jo [(decide ((k:Int)<(n:Int)),true)]):k<n:=by
 have h:decide ((k:Int)<(n:Int))=true:=hG _ (List.mem_cons_self ..)
 have:=of_decide_eq_true h
 omega
theorem qG {t a:Syn}{k:Nat}(h:t.kids[k]? = some a):Bn t k=a:=by unfold Bn;rw [List.getD_eq_getElem?_getD,h];rfl
theorem uJ {t:Syn}{out:List e8Sc}{k:Nat}(h:(decide ((k:Int)<(t.kids.length:Int))&&((Bn t k).kind==1))=false):Dq out (t.kids.drop k)=(out,Mq):=by
 by_cases hl:k<t.kids.length
 ·
  rw [decide_eq_true (by omega),Bool.true_and] at h
  exact wM (Es hl) h
 · rw [List.drop_eq_nil_of_le (by omega),Dq]
theorem nY (t:Syn)(hf:Fl t=true):Ap Tryz.prog 20 [.agg (cSyn t)] (.tuple [.sl 2 ((bF t).1.map G7),.int .i64 (bF t).2.1,.int .i64 (bF t).2.2]):=by
 have ht:=eE hf
 have hkl:=Hl ht
 refine Ap.body (n:=105) tok Tryz.func20 rfl rfl rfl fun H=>?_
 refine Ad (Qp (Eu [Iq _,.str _,.str _,Iq _,_,Iq _]) ?_)
 refine Qp (Bk (z:=2) rfl) ?_
 refine Qp A0 (Qp A0 (Aa (AW.seq (Ad (Qp (B2 [Iq _,.str _,.str _,Iq _,_,Iq _]) ?_)))))
 refine Qp (Qc rfl (pT t hf)) ?_
 refine Qp B9 (Aa (Au (fun hc1=>?_) fun hc1=>?_))
 ·
  refine Ad ?_
  refine Qp (Bk (z:=2) rfl) ?_
  refine Qp A0 (Qp A0 (Aa (Cx ?_)))
  refine ⟨.inr rfl,[.sl _ _,Iq _,Iq _],.cons (.tmp _ _ rfl) <| .cons (.tmp _ _ rfl) <| .cons (.tmp _ _ rfl) <| .nil,.refl _,?_⟩
  exact Eq.trans rfl (congrArg (fun q:List e8Sc×Int×Int=>AV.tuple [.sl 2 (q.1.map G7),.int .i64 q.2.1,.int .i64 q.2.2]) (tq_1 hc1)).symm
 ·
  refine Bl (Ad (Qp N8 ?_))
  refine AOL.ghost (GS.row (t:=5) 69 2 rfl) ?_
  refine Aa (AW.seq (Ad (Qp A0 (Aa (AW.block ?_)))))
  refine AW.Aat (fun (q:Nat×List e8Sc×List (List AV)×Value)=>(⟨[(1,.ptr (cSyn t)),(2,.sl 2 []),(3,.int .i64 0),(4,.int .i64 0),(5,.row q.2.2.2 2 q.2.2.1),(6,.int .i64 (q.1:Int))],.row q.2.2.2 q.2.2.1.length 69 2::H,105⟩:St)) (fun (q:Nat×List e8Sc×List (List AV)×Value)=>q.1≤t.kids.length∧Dq [] t.kids=Dq q.2.1 (t.kids.drop q.1)∧q.2.1.length≤16∧q.2.2.1=q.2.1.map G7) (fun (q:Nat×List e8Sc×List (List AV)×Value)=>t.kids.length-q.1) ((0,[],[],.slice none 0 0)) ?_ (GS.weaken ⟨rfl,rfl,rfl,rfl,rfl,rfl,trivial⟩ (.refl _)) ?_
  · exact ⟨Nat.zero_le _,rfl,Nat.zero_le _,rfl⟩
  ·
   rintro q hR
   refine AW.seq (Ad (Qp A4 (Qp (Qf [_,Iq _]) (Qp Dg ?_))))
   refine Qp (Ax (n:=t.kids.length) tok rfl rfl rfl (by simp)) ?_
   refine Qp B7 (Qp Bq (Qg [] Qw (Qf [_,Iq _]) (Qg [(19,_)] Qw Dg (Qg [] Qw A4 ?_))))
   refine AOL.Aap (y:=.ptr _) _ [(20,_),(21,_)] rfl (iB.all ⟨Ent.Aao _ _,Ent.Aao _ _,trivial⟩) (fun hG=>Ag (c:=[Iq _,.str _,.str _,Iq _,_,Iq _]) tok rfl rfl rfl rfl rfl rfl (by omega) (Dk (Es (kI hG)))) rfl ?_
   refine Qg [(22,_)] Qw (Qf [Iq _,.str _,.str _,Iq _,_,Iq _]) (Qg [(23,_)] Qw Bt (Qg [(24,_)] Qw Av (Qp Et (Aa (Au (fun hc2=>?_) fun hc2=>?_)))))
   ·
    simp only [Bool.and_eq_true] at hc2
    obtain ⟨a,ha⟩:=Dl hc2.1
    have hlt:=Cm ha
    have hm:=List.mem_of_getElem? ha
    have ho16:=hR.2.2.1
    have hrw:=hR.2.2.2
    have hrl:q.2.2.1.length=q.2.1.length:=by rw [hrw,List.length_map]
    have hso:∀c∈q.2.2.1,Ba c=true:=by rw [hrw];exact scSc _
    have hma:=Ec ht hm
    have hak:=Hl hma
    have hk1:(a.kind==1)=true:=by have h:((Bn t q.1).kind==1)=true:=hc2.2;rw [qG ha] at h;exact h
    refine Bl (AW.seq (AW.block (Ad (Qp (Qf [_,Iq _]) (Qp Dg (Qp A4 ?_))))))
    refine Qp (Ag (c:=[Iq _,.str _,.str _,Iq _,_,Iq _]) tok rfl rfl rfl rfl rfl rfl (by omega) (Dk ha)) ?_
    refine Qp (B2 [Iq _,.str _,.str _,Iq _,_,Iq _]) ?_
    refine Qe (An (l:=[.int .i64 0,.str [],.str [],.int .i64 0,.sl 6 [],.int .i64 0]) (by kernel_rfl)) ?_
    rintro _ _ ⟨b7,rfl,rfl⟩
    refine B0 0 [Iq _,.str _,.str _,Iq _,_,Iq _] (_::_::_) ?_
    refine AOL.ghost (GS.freeze (t:=7) 0 rfl rfl) ?_
    refine Aa (AW.seq (Ad ?_))
    refine Qp (A1 (v:=.row _ _ _) rfl) ?_
    refine Qp (Dx (n:=q.2.1.length) tok rfl rfl rfl (hrl)) ?_
    refine Qp Av (Aa (Au (fun hc3=>?_) fun hc3=>?_))
    ·
     refine AW.seq ?_
     refine AW.draw mixed (fun _=>True) trivial (by kernel_rfl) ?_
     refine Qn 0 rfl (Qf [Iq _]) (Qn 1 rfl Bt ?_)
     refine Qn 2 rfl (Bk (z:=2) rfl) ?_
     refine Qn 3 rfl A0 (Qn 4 rfl A0 ?_)
     refine Hs.done _ _ (by kernel_rfl) ?_
     refine Af (Cx (Ao (Ai (Ai (Ao (Ai ?_))))))
     refine ⟨.inr rfl,[.sl _ _,Iq _,Iq _],.cons (.tmp _ _ rfl) <| .cons (.tmp _ _ rfl) <| .cons (.tmp _ _ rfl) <| .nil,.cons _ (.refl _),?_⟩
     exact Eq.trans rfl (congrArg (fun q:List e8Sc×Int×Int=>AV.tuple [.sl 2 (q.1.map G7),.int .i64 q.2.1,.int .i64 q.2.2]) (gJ hc1 (hR.2.1.trans (tyf_5 ha hk1 hc3)))).symm
    ·
     refine Bl (AW.seq (Ad ?_))
     refine Qp (A1 (v:=.row _ _ _) rfl) ?_
     refine Qp (Qf [.str _,.str _,Iq _,_,Iq _]) (Qp Df ?_)
     refine AOL.ghost (GS.unrow 39 rfl) ?_
     refine Qp (Qc rfl (qE hrw (by omega) a.text)) ?_
     refine Qp F6 (Aa (Au (fun hc4=>?_) fun hc4=>?_))
     ·
      have hc4n:(Gb q.2.1).contains a.text=true:=by rw [←Xh];exact hc4
      refine AW.seq ?_
      refine AW.draw mixed (fun _=>True) trivial (by kernel_rfl) ?_
      refine Qn 0 rfl (Qf [Iq _]) (Qn 1 rfl Bt ?_)
      refine Qn 2 rfl (Bk (z:=2) rfl) ?_
      refine Qn 3 rfl A0 (Qn 4 rfl A0 ?_)
      refine Hs.done _ _ (by kernel_rfl) ?_
      refine Af (Cx (Ao (Ai (Ai (Ao (Ai ?_))))))
      refine ⟨.inr rfl,[.sl _ _,Iq _,Iq _],.cons (.tmp _ _ rfl) <| .cons (.tmp _ _ rfl) <| .cons (.tmp _ _ rfl) <| .nil,.cons _ (.refl _),?_⟩
      exact Eq.trans rfl (congrArg (fun q:List e8Sc×Int×Int=>AV.tuple [.sl 2 (q.1.map G7),.int .i64 q.2.1,.int .i64 q.2.2]) (gJ hc1 (hR.2.1.trans (tyf_7 ha hk1 hc3 hc4n)))).symm
     ·
      have hc4n:(Gb q.2.1).contains a.text=false:=by rw [←Xh];exact hc4
      refine Bl (Ad (Qp (Qf [.str _,.str _,Iq _,_,Iq _]) (Qp Df ?_)))
      refine Qp (Mk (l0:=[.str [],.val (.slice none 0 0)]) (l:=[.str _,_]) tok rfl rfl (by kernel_rfl) rfl) ?_
      refine Qe (An (l:=[.str [],.sl 2 []]) (by kernel_rfl)) ?_
      rintro _ _ ⟨b8,rfl,rfl⟩
      refine B0 0 [.str _,_] (_::_::_) ?_
      refine AOL.ghost (GS.cellRow 0 1 111 2 rfl rfl rfl rfl) ?_
      refine Aa (AW.seq (Ad (Qp A0 (Aa (AW.block ?_)))))
      refine AW.Aat (fun (p:Nat×List Fi×List (List AV)×Value)=>(⟨[(1,.ptr (cSyn t)),(2,.sl 2 []),(3,.int .i64 0),(4,.int .i64 0),(5,.row q.2.2.2 2 q.2.2.1),(6,.int .i64 (q.1:Int)),(7,.ptr (cSyn a)),(8,.val (.pointer (some ⟨b8,0,none⟩))),(9,.int .i64 (p.1:Int))],.row p.2.2.2 p.2.2.1.length 111 2 :: .box b8 69 [.str a.text,.row p.2.2.2 2 p.2.2.1] :: .row q.2.2.2 q.2.2.1.length 69 2::H,105⟩:St)) (fun (p:Nat×List Fi×List (List AV)×Value)=>p.1≤a.kids.length∧Dw [] a.kids=Dw p.2.1 (a.kids.drop p.1)∧p.2.1.length≤8∧p.2.2.1=p.2.1.map cT) (fun (p:Nat×List Fi×List (List AV)×Value)=>a.kids.length-p.1) ((0,[],[],.slice none 0 0)) ?_ (GS.weaken ⟨rfl,rfl,rfl,rfl,rfl,rfl,rfl,rfl,rfl,trivial⟩ (.refl _)) ?_
      · exact ⟨Nat.zero_le _,rfl,Nat.zero_le _,rfl⟩
      ·
       rintro p hP
       refine AW.seq (Ad (Qp A4 (Qp (Qf [_,Iq _]) (Qp Dg ?_))))
       refine Qp (Ax (n:=a.kids.length) tok rfl rfl rfl (by simp)) ?_
       refine Qp B7 (Aa (Au (fun hc5=>?_) fun hc5=>?_))
       ·
        obtain ⟨x,hax⟩:=Dl hc5
        have hltx:=Cm hax
        have hmx:=List.mem_of_getElem? hax
        have hf8:=hP.2.2.1
        have hfw:=hP.2.2.2
        have hfl:p.2.2.1.length=p.2.1.length:=by rw [hfw,List.length_map]
        have hsf:∀c∈p.2.2.1,Ba c=true:=by rw [hfw];exact scFi _
        refine Bl (AW.seq (AW.block (AW.seq (Ad (Qp Cb ?_)))))
        refine AOL.Aaq (Aj (k:=1) (c:=.row _ _ _) tok rfl rfl rfl rfl) rfl rfl ?_
        refine Qp (Dx (n:=p.2.1.length) tok rfl rfl rfl (hfl)) ?_
        refine Qp Av (Aa (Au (fun hc6=>?_) fun hc6=>?_))
        ·
         refine AW.seq ?_
         refine AW.draw mixed (fun _=>True) trivial (by kernel_rfl) ?_
         refine Qn 0 rfl (Qf [_,Iq _]) (Qn 1 rfl Dg (Qn 2 rfl A4 ?_))
         refine Qn 3 rfl (Ag (c:=[Iq _,.str _,.str _,Iq _,_,Iq _]) tok rfl rfl rfl rfl rfl rfl (by omega) (Dk hax)) ?_
         refine Qn 4 rfl (Qf [Iq _]) (Qn 5 rfl Bt ?_)
         refine Qn 6 rfl (Bk (z:=2) rfl) ?_
         refine Qn 7 rfl A0 (Qn 8 rfl A0 ?_)
         refine Hs.done _ _ (by kernel_rfl) ?_
         refine Af (Cx (Ao (Ai (Ai (Ao (Ai (Ao (Ai (Ai ?_)))))))))
         refine Ao (Ai ?_)
         refine ⟨.inr rfl,[.sl _ _,Iq _,Iq _],.cons (.tmp _ _ rfl) <| .cons (.tmp _ _ rfl) <| .cons (.tmp _ _ rfl) <| .nil,.cons _ (.cons _ (.cons _ (.refl _))),?_⟩
         exact Eq.trans rfl (congrArg (fun q:List e8Sc×Int×Int=>AV.tuple [.sl 2 (q.1.map G7),.int .i64 q.2.1,.int .i64 q.2.2]) (gJ hc1 (hR.2.1.trans (vE ha hk1 hc3 hc4n (hP.2.1.trans (vJ hax hc6)) (show (5:Int)≠0 by decide))))).symm
        ·
         refine Bl (AW.seq (AW.seq ?_))
         refine AW.draw mixed (fun H'=>_∈H') (List.mem_of_getElem? (i:=1) rfl) (by kernel_rfl) ?_
         refine Qn 0 rfl Cb ?_
         refine Qn 1 rfl (OpP.Aas (fun k=>Aj (k:=k) (c:=.row _ _ _) tok rfl rfl rfl rfl) (fun _ h=>h)) ?_
         refine Qn 2 rfl (Qf [_,Iq _]) (Qn 3 rfl Dg (Qn 4 rfl A4 ?_))
         refine Qn 5 rfl (Ag (c:=[Iq _,.str _,.str _,Iq _,_,Iq _]) tok rfl rfl rfl rfl rfl rfl (by omega) (Dk hax)) ?_
         refine Qn 6 rfl (Qf [.str _,.str _,Iq _,_,Iq _]) (Qn 7 rfl Df ?_)
         refine Qn 8 rfl (Qc rfl (Ap.row1 (uA hfw (by omega) x.text))) ?_
         refine Qn 9 rfl F6 ?_
         refine Hs.done _ _ (by kernel_rfl) ?_
         refine Af (Au (fun hc7=>?_) fun hc7=>?_)
         ·
          have hc7n:(p.2.1.map (·.name)).contains x.text=true:=by rw [←Xh];exact hc7
          refine AW.seq ?_
          refine AW.draw mixed (fun _=>True) trivial (by kernel_rfl) ?_
          refine Qn 0 rfl (Qf [_,Iq _]) (Qn 1 rfl Dg (Qn 2 rfl A4 ?_))
          refine Qn 3 rfl (Ag (c:=[Iq _,.str _,.str _,Iq _,_,Iq _]) tok rfl rfl rfl rfl rfl rfl (by omega) (Dk hax)) ?_
          refine Qn 4 rfl (Qf [Iq _]) (Qn 5 rfl Bt ?_)
          refine Qn 6 rfl (Bk (z:=2) rfl) ?_
          refine Qn 7 rfl A0 (Qn 8 rfl A0 ?_)
          refine Hs.done _ _ (by kernel_rfl) ?_
          refine Af (Cx (Ao (Ai (Ai (Ao (Ai (Ao (Ai (Ai ?_)))))))))
          refine Ao (Ai ?_)
          refine ⟨.inr rfl,[.sl _ _,Iq _,Iq _],.cons (.tmp _ _ rfl) <| .cons (.tmp _ _ rfl) <| .cons (.tmp _ _ rfl) <| .nil,.cons _ (.cons _ (.cons _ (.refl _))),?_⟩
          exact Eq.trans rfl (congrArg (fun q:List e8Sc×Int×Int=>AV.tuple [.sl 2 (q.1.map G7),.int .i64 q.2.1,.int .i64 q.2.2]) (gJ hc1 (hR.2.1.trans (vE ha hk1 hc3 hc4n (hP.2.1.trans (wZ hax hc6 hc7n)) (show (7:Int)≠0 by decide))))).symm
         ·
          have hc7n:(p.2.1.map (·.name)).contains x.text=false:=by rw [←Xh];exact hc7
          refine Bl ?_
          refine AW.draw mixed (fun H'=>_∈H') (List.mem_of_getElem? (i:=1) rfl) (by kernel_rfl) ?_
          refine Qn 0 rfl Cb ?_
          refine Qn 1 rfl (OpP.Aas (fun k=>Aj (k:=k) (c:=.row _ _ _) tok rfl rfl rfl rfl) (fun _ h=>h)) ?_
          refine Qn 2 rfl (Qf [_,Iq _]) (Qn 3 rfl Dg (Qn 4 rfl A4 ?_))
          refine Qn 5 rfl (Ag (c:=[Iq _,.str _,.str _,Iq _,_,Iq _]) tok rfl rfl rfl rfl rfl rfl (by omega) (Dk hax)) ?_
          refine Qn 6 rfl (Qf [.str _,.str _,Iq _,_,Iq _]) (Qn 7 rfl Df (Qn 8 rfl (Qf [_,Iq _]) (Qn 9 rfl Dg (Qn 10 rfl A4 ?_))))
          refine Qn 11 rfl (Ag (c:=[Iq _,.str _,.str _,Iq _,_,Iq _]) tok rfl rfl rfl rfl rfl rfl (by omega) (Dk hax)) ?_
          refine Qn 12 rfl (Qf [Iq _,_,Iq _]) (Qn 13 rfl Bt (Qn 14 rfl (Ea [.str _,Iq _]) ?_))
          refine Qn 15 rfl (Am (es:=[[.str _,Iq _]]) tok rfl rfl rfl rfl rfl rfl rfl rfl rfl) ?_
          refine Hs.eff _ _ 16 _ _ rfl (by kernel_rfl) rfl rfl (Ci (k:=0) tok rfl rfl rfl rfl rfl rfl rfl rfl (D7 rfl) (hsf) (by simp;omega) (by simp [maxLen];omega)) (by rintro _ _ ⟨v98,rfl,rfl⟩;simp) ?_
          rintro _ _ ⟨v98,rfl,rfl⟩
          refine Qn 17 rfl Cb ?_
          refine Hs.last _ _ 18 _ _ rfl (by kernel_rfl) rfl rfl (Be (k:=1) (v:=.row _ _ _) (cs':=[.str _,_]) (H2:=_::_::_::_) tok rfl rfl rfl rfl (rfl) rfl rfl rfl rfl) (by kernel_rfl) ?_
          rintro _ _ ⟨rfl,rfl⟩
          refine Bc (Af (AW.region (Qp A4 (Qp Ei (Qp A0 (Aa ?_))))))
          refine ⟨(p.1+1,p.2.1 ++ [⟨x.text,x.num⟩],p.2.2.1 ++ [cT ⟨x.text,x.num⟩],v98),?_,?_,GS.weaken ⟨rfl,rfl,rfl,rfl,rfl,rfl,rfl,rfl,rfl,trivial⟩ (.refl _)⟩
          · exact ⟨hltx,hP.2.1.trans (oP hax hc6 hc7n),by simp only [List.length_append,List.length_singleton];exact xJ hf8 hc6,by simp [hfw]⟩
          · simp only;omega
       ·
        have hdx:=Hd hc5
        have hfx:=hP.2.1
        rw [hdx,Dw] at hfx
        have hfw:=hP.2.2.2
        have htn:=yF ha hk1 hc3 hc4n hfx
        refine AW.exit ?_
        refine A7 (A7 (Bp (Af (AW.region ?_))))
        refine Qp (A1 (v:=.row _ _ _) rfl) ?_
        refine AOL.ghost (GS.cell (H2:=_::_::_::_) 1 1 rfl rfl rfl rfl Hw) ?_
        refine AOL.Aaq (A8 (k:=1) (l:=[.str _,_]) tok rfl rfl rfl rfl rfl) rfl rfl ?_
        refine Qp (Am (es:=[[.str _,_]]) tok rfl rfl rfl rfl rfl rfl rfl rfl rfl) ?_
        refine Qe (Ci (k:=2) tok rfl rfl rfl rfl rfl rfl rfl rfl (D7 rfl) (hso) (by simp;omega) (by simp [maxLen];omega)) ?_
        rintro _ _ ⟨v103,rfl,rfl⟩
        refine Qp (A6 (v:=.row _ _ _) rfl) ?_
        refine AOL.nil (Bc (Af (AW.region (Qp A4 (Qp Ei (Qp A0 (Aa ?_)))))))
        refine ⟨(q.1+1,q.2.1 ++ [⟨a.text,p.2.1⟩],q.2.2.1 ++ [[.str a.text,.sl 2 p.2.2.1]],v103),?_,?_,GS.weaken ⟨rfl,rfl,rfl,rfl,rfl,rfl,trivial⟩ (.cons _ (.cons _ (.refl _)))⟩
        · exact ⟨hlt,hR.2.1.trans htn,by simp only [List.length_append,List.length_singleton];exact oY ho16 hc3,by simp [hrw,hfw,G7]⟩
        · simp only;omega
   ·
    refine AW.exit ?_
    refine A7 (A7 (Bp (Af (Ad ?_))))
    refine Qp (A1 (v:=.row _ _ _) rfl) ?_
    refine AOL.ghost (GS.unrow 104 rfl) ?_
    refine Qp U8 (Qp A0 (Qp A0 (Aa (AW.ret ?_))))
    refine ⟨.inr rfl,[.sl _ _,Iq _,Iq _],.cons (.tmp _ _ rfl) <| .cons (.tmp _ _ rfl) <| .cons (.tmp _ _ rfl) <| .nil,.cons _ (.refl _),?_⟩
    exact Eq.trans (congrArg (fun l:List (List AV)=>AV.tuple [.sl 2 l,.int .i64 0,.int .i64 0]) hR.2.2.2) (congrArg (fun q:List e8Sc×Int×Int=>AV.tuple [.sl 2 (q.1.map G7),.int .i64 q.2.1,.int .i64 q.2.2]) (gJ hc1 (hR.2.1.trans (uJ hc2)))).symm


theorem gL (t:Syn)(hf:Fl t=true):Ap Tryz.prog 20 [.agg (cSyn t)] (.tuple [.sl 2 ((Ok t).1.map G7),.int .i64 (Ok t).2.1,.int .i64 (Ok t).2.2]):=by
 rw [←lA];exact nY t hf

set_option maxHeartbeats 1600000
set_option maxRecDepth 20000

theorem fQ (t:Syn):(Ok t).1.length≤1048576∧∀s∈(Ok t).1,s.fields.length≤1048576:=by
 unfold Ok
 split
 · exact ⟨Nat.zero_le _,fun s h=>(List.not_mem_nil h).elim⟩
 ·
  have h:=typ_ok t
  exact ⟨by have:=h.1;simp only;omega,fun s hs=>by have:=h.2.1 s hs;omega⟩
theorem eqb (n:Int):(n==n)=true:=by simp
def fewT (T:List e8Sc):Bool:=if T.any (fun s=>decide ((20:Int)<(s.fields.length:Int))||decide ((100:Int)<(s.name.length:Int))) then false else decide ((T.length:Int)≤20)
theorem Tz (t:Syn):Ap Tryz.prog 5 [.agg (cSyn t)] (.bool true):=by
 refine Ap.body (n:=41) tok Tryz.func5 rfl rfl rfl fun H=>?_
 refine Ad (Qp (Eu [Iq _,.str _,.str _,Iq _,_,Iq _]) (Qp A3 (Aa (AW.seq (Ad (Qp (B2 [Iq _,.str _,.str _,Iq _,_,Iq _]) ?_))))))
 refine Qp (Qc rfl (f_few t)) ?_
 refine Qp Fz (Aa (Au (fun hc1=>?_) fun hc1=>?_))
 ·
  refine Ad ?_
  refine Qp (Qc rfl (dS)) ?_
  refine Qp A3 (Aa (Cx ?_))
  refine Qr (.bool _) ?_
  rfl
 ·
  have hf:Fl t=true:=by simpa using hc1
  refine Bl (Ad (Qp (B2 [Iq _,.str _,.str _,Iq _,_,Iq _]) ?_))
  refine Qp (Qc rfl (mV t (eE hf))) ?_
  refine Qp L0 (Qp Qxs (Qp Jw (Qp Jw (Qp U8 (Qp A0 (Qp A0 (By (Qp (B2 [Iq _,.str _,.str _,Iq _,_,Iq _]) ?_))))))))
  refine Qp (Qc rfl (gL t hf)) ?_
  refine Qp L0 (Qp Qxs (Qp Jw (Qp Jw (Qp U8 (Qp A0 (Qp A0 (By ?_)))))))
  refine Qp (Qc rfl (dS)) ?_
  refine Qp Bq (Qg [] Qw K4 (Qg [] Qw K4 ?_))
  refine AOL.Aap (y:=.bool _) _ [(27,_),(28,_)] rfl (iB.all ⟨Ent.Aao _ _,Ent.Aao _ _,trivial⟩) (fun hG=>Ed (by kernel_rfl) rfl rfl (sK (Ok t).1 (fQ t).1 (fQ t).2)) rfl ?_
  refine Qp Et (Qp Bq (Qg [] Qw A4 (Qg [] Qw A4 ?_)))
  refine AOL.Aap (y:=.bool _) _ [(32,_),(33,_)] rfl (iB.all ⟨Ent.Aao _ _,Ent.Aao _ _,trivial⟩) (fun hG=>Rv rfl rfl) rfl ?_
  refine Qp Et (Qp Bq (Qg [] Qw A4 (Qg [] Qw A4 ?_)))
  refine AOL.Aap (y:=.bool _) _ [(37,_),(38,_)] rfl (iB.all ⟨Ent.Aao _ _,Ent.Aao _ _,trivial⟩) (fun hG=>Rv rfl rfl) rfl ?_
  refine Qp Et (Qp A3 (Aa (AW.ret ?_)))
  refine Qr (.bool _) ?_
  show AV.bool (((true&&true)&&(_==_))&&(_==_))=AV.bool true
  rw [eqb,eqb];rfl
end Go.Proofs.YtckhoadldibflaaGreatDoor
