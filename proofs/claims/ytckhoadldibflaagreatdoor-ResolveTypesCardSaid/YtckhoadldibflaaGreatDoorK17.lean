/-
  Several texts in one: R3w, R4w. No condition.
-/
import Derived.Test.YtckhoadldibflaaGreatDoorK01
import Derived.Test.YtckhoadldibflaaGreatDoorK16
import Derived.KernelRfl
import Derived.Test.YtckhoadldibflaaGreatDoorK13
set_option linter.unusedVariables false
set_option linter.unusedSimpArgs false
namespace Go.Proofs.YtckhoadldibflaaGreatDoor
open Go Go.Aw
set_option maxHeartbeats 3200000
set_option maxRecDepth 20000

theorem scE (l:List Ex):∀c∈l.map L2,Ba c=true:=fun c hc=>by
 obtain ⟨x,_,rfl⟩:=List.mem_map.1 hc
 rw [Sz];rfl
theorem fM (bp TT:Nat)(cs:List AV)(l:List Syn)(hl:l.length≤1048576)(K:FuncId)(hK:Oo Tryz.prog K=true)(fs:List AV)(f:Syn→Ex)(hf:∀a∈l,Bd Tryz.prog K bp TT cs cs (fs ++ [.agg (cSyn a)]) (.agg (cE (f a)))):Bd Tryz.prog 174 bp TT cs cs [.sl 6 (l.map Cl),.fn (.func K) fs []] (.sl 8 ((l.map f).map L2)):=by
 intro H
 refine Bw.body (n:=22) tok Tryz.func174 rfl rfl rfl ?_
 refine Ad ?_
 refine Qp (Bk (z:=8) rfl) ?_
 refine By (Qp N8 ?_)
 refine AOL.ghost (GS.row (t:=5) 36 8 rfl) ?_
 refine Aa (AW.seq (Ad (Qp K4 ?_)))
 refine Qp (Ax (n:=l.length) tok rfl rfl rfl (by simp)) ?_
 refine Qp A4 (Aa (AW.block ?_))
 refine AW.Aat (fun (p:Nat×List (List AV)×Value)=>(⟨[(0,.sl 6 (l.map Cl)),(1,.fn (.func K) fs []),(5,.row p.2.2 8 p.2.1),(8,.sl 6 (l.map Cl)),(9,.int .i64 l.length),(10,.int .i64 (p.1:Int))],.row p.2.2 p.2.1.length 36 8 :: .box bp TT cs::H,22⟩:St)) (fun (p:Nat×List (List AV)×Value)=>p.1≤l.length∧p.2.1=((l.take p.1).map f).map L2) (fun (p:Nat×List (List AV)×Value)=>l.length-p.1) ((0,[],.slice none 0 0)) ?_ (GS.weaken ⟨rfl,rfl,rfl,rfl,rfl,rfl,trivial⟩ (.refl _)) ?_
 · exact ⟨Nat.zero_le _,rfl⟩
 ·
  rintro p hR
  refine Ad (Qp B7 (Aa (AW.seq (Au (fun hc1=>?_) fun hc1=>?_))))
  ·
   obtain ⟨a,ha⟩:=Dl hc1
   have hlt:=Cm ha
   have hm:=List.mem_of_getElem? ha
   have hsc:∀c∈p.2.1,Ba c=true:=by rw [hR.2];exact scE _
   refine Bl (AW.seq (AW.block (Ad ?_)))
   refine Qp (Ag (c:=[Iq _,.str _,.str _,Iq _,_,Iq _]) tok rfl rfl rfl rfl rfl rfl (by omega) (Dk ha)) ?_
   refine Qp (B2 [Iq _,.str _,.str _,Iq _,_,Iq _]) ?_
   refine Qe (An (l:=[.int .i64 0,.str [],.str [],.int .i64 0,.sl 6 [],.int .i64 0]) (by kernel_rfl)) ?_
   rintro _ _ ⟨b7,rfl,rfl⟩
   refine B0 0 [Iq _,.str _,.str _,Iq _,_,Iq _] (_::_::_::_) ?_
   refine AOL.ghost (GS.freeze (t:=7) 0 rfl rfl) ?_
   refine Aa (AW.region ?_)
   refine Qp (A1 (v:=.row _ _ _) rfl) ?_
   refine Qp (A1 (v:=.fn _ _ _) rfl) ?_
   refine Qp (B2 [Iq _,.str _,.str _,Iq _,_,Iq _]) ?_
   refine Qe (Hb hK rfl rfl (List.append_nil _) ((hf a hm).at (k:=1) (H2:=_::_::_) rfl rfl)) ?_
   rintro _ _ ⟨rfl,rfl⟩
   refine Qp (Am (es:=[[Iq _,_,Iq _,Iq _,Iq _,Iq _,Iq _,.str _]]) tok rfl rfl rfl rfl rfl rfl rfl rfl rfl) ?_
   refine Qe (Ci (k:=0) tok rfl rfl rfl rfl rfl rfl rfl rfl (D7 rfl) (hsc) (by simp [hR.2];omega) (by simp [hR.2,maxLen];omega)) ?_
   rintro _ _ ⟨v19,rfl,rfl⟩
   refine Qp (A6 (v:=.row _ _ _) rfl) ?_
   refine AOL.nil (Bc (Af (AW.region (Qp Ei (Qp A4 (Aa ?_))))))
   refine ⟨(p.1+1,p.2.1 ++ [cE (f a)],v19),?_,?_,GS.weaken ⟨rfl,rfl,rfl,rfl,rfl,rfl,trivial⟩ (.refl _)⟩
   · exact ⟨hlt,by simp only;rw [Fs ha,hR.2];simp [Sz]⟩
   · simp only;omega
  ·
   have hte:=E8 hc1
   have hall:=hR.2
   rw [hte] at hall
   refine AW.exit ?_
   refine A7 (A7 (Bp (Af (Ad ?_))))
   refine Qp (A1 (v:=.row _ _ _) rfl) ?_
   refine AOL.ghost (GS.unrow 21 rfl) ?_
   refine Qp U8 (Aa (AW.ret ?_))
   refine ⟨.inr rfl,[.sl _ _],.cons (.tmp _ _ rfl) <| .nil,_,.cons _ (.refl _),?_⟩
   exact ⟨Eq.trans rfl (congrArg (AV.sl 8) hall),rfl⟩
theorem Yg (T:List e8Sc)(V:List Va)(s:Nx)(bp:Nat)(hrv:RvOK T V)(t:Syn)(ht:Eg t)(hw:(Fj T V t).err=0):Bd Tryz.prog 100 bp 159 (Qi T V s) (Qi T V s) [.val (.pointer (some ⟨bp,0,none⟩)),.agg (cSyn t)] (.agg (cE (Eb T V t))):=by
 intro H
 revert H
 induction t using Syn.ind
 rename_i t ih
 intro H
 refine Bw.body (n:=101) tok Tryz.func100 rfl rfl rfl ?_
 refine Ad (Qp (Eu [Iq _,.str _,.str _,Iq _,_,Iq _]) ?_)
 refine Qe (An (l:=[.int .i64 0,.sl 8 [],.int .i64 0,.int .i64 0,.int .i64 0,.int .i64 0,.int .i64 0,.str []]) (by kernel_rfl)) ?_
 rintro _ _ ⟨b4,rfl,rfl⟩
 refine Aa (AW.seq ?_)
 refine AW.draw mixed (fun H'=>_∈H') (List.mem_of_getElem? (i:=1) rfl) (by kernel_rfl) ?_
 refine Qn 0 rfl Br ?_
 refine Qn 1 rfl (Ak rfl) ?_
 refine Qn 2 rfl Cb ?_
 refine Qn 3 rfl (OpP.Aas (fun k=>Aj (k:=k) (c:=.smapv _) tok rfl rfl rfl rfl) (fun _ h=>h)) ?_
 refine Qn 4 rfl (Qf [.str _,.str _,Iq _,_,Iq _]) (Qn 5 rfl Df ?_)
 refine Qn 6 rfl (Yn (es:=Kb (Ic V)) tok rfl rfl rfl rfl rfl (by kernel_rfl) rfl rfl (Mt _ _ rfl)) ?_
 refine Qn 7 rfl A0 ?_
 refine Hs.done _ _ (by kernel_rfl) ?_
 refine Af (AW.seq (Ad (Qp (Qf [Iq _,.str _,.str _,Iq _,_,Iq _]) (Qp Bt (Aa (AW.block (Ad (Qp Av (Qp A3 ?_)))))))))
 refine Aa (Au (fun hc1=>?_) fun hc1=>?_)
 ·
  refine Ad (Qp (B2 [Iq _,.str _,.str _,Iq _,_,Iq _]) ?_)
  refine Qp (Qc rfl (Zm t)) ?_
  refine Qp (Ea [Iq _,_,Iq _,Iq _,Iq _,Iq _,Iq _,.str _]) ?_
  refine B0 0 [Iq _,_,Iq _,Iq _,Iq _,Iq _,Iq _,.str _] (_::_::_) ?_
  refine Aa (AW.ret (Ao (Ai ?_)))
  refine ⟨.inr rfl,[.agg [Iq _,_,Iq _,Iq _,Iq _,Iq _,Iq _,.str _]],.cons (.box _ _ _ 0 _ _ _ _ rfl rfl rfl rfl rfl rfl) <| .nil,_,.cons _ (.refl _),?_⟩
  exact ⟨Eq.trans rfl (congrArg (fun q:Ex=>AV.agg (cE q)) ((Hn T V t).trans (pS hc1))).symm,rfl⟩
 ·
  refine Ad (Qp Av (Qp A3 (Aa (Au (fun hc2=>?_) fun hc2=>?_))))
  ·
   refine AW.seq (Ad (Qp (Qf [.str _,Iq _,_,Iq _]) (Qp Df ?_)))
   refine Qp (A5 rfl rfl) ?_
   refine Aa (Au (fun hc3=>?_) fun hc3=>?_)
   ·
    refine Ad (Qp A4 (Qp (Ea [Iq _,_,Iq _,Iq _,Iq _,Iq _,Iq _,.str _]) ?_))
    refine B0 0 [Iq _,_,Iq _,Iq _,Iq _,Iq _,Iq _,.str _] (_::_::_) ?_
    refine Aa (Cx (Ao (Ai ?_)))
    refine ⟨.inr rfl,[.agg [Iq _,_,Iq _,Iq _,Iq _,Iq _,Iq _,.str _]],.cons (.box _ _ _ 0 _ _ _ _ rfl rfl rfl rfl rfl rfl) <| .nil,_,.cons _ (.refl _),?_⟩
    exact ⟨Eq.trans rfl (congrArg (fun q:Ex=>AV.agg (cE q)) ((Hn T V t).trans (sT hc1 hc2 hc3))).symm,rfl⟩
   ·
    have hct:=Y2 (Gu hw).1 (Or.inl (by simpa using hc2))
    refine (cQ hct).elim fun va hva=>?_
    have hix:=I6 hct
    have hix2:=hix.2
    rw [List.length_map] at hix2
    have hvm:=List.mem_of_getElem? hva
    have hvt:=hrv.ty va hvm
    refine (Ye hrv hvm).elim fun sc hsc=>?_
    have hsr:=cN hva hsc
    have hfl:=hrv.fl sc (List.mem_of_getElem? hsc)
    refine Bl (AW.seq ?_)
    refine AW.draw mixed (fun H'=>_∈H') (List.mem_of_getElem? (i:=1) rfl) (by kernel_rfl) ?_
    refine Qn 0 rfl A4 (Qn 1 rfl Br ?_)
    refine Qn 2 rfl (Ak rfl) ?_
    refine Qn 3 rfl Cb ?_
    refine Qn 4 rfl (OpP.Aas (fun k=>Aj (k:=k) (c:=.sl _ _) tok rfl rfl rfl rfl) (fun _ h=>h)) ?_
    refine Qn 5 rfl Br ?_
    refine Qn 6 rfl (Ak rfl) ?_
    refine Qn 7 rfl Cb ?_
    refine Qn 8 rfl (OpP.Aas (fun k=>Aj (k:=k) (c:=.sl _ _) tok rfl rfl rfl rfl) (fun _ h=>h)) ?_
    refine Qn 9 rfl A4 ?_
    refine Qn 10 rfl (Ag (c:=[.str _,Iq _]) tok rfl rfl rfl rfl rfl rfl (hix.1) (Ff hva)) ?_
    refine Qn 11 rfl (Qf [Iq _]) (Qn 12 rfl Bt ?_)
    refine Qn 13 rfl (Ag (c:=[.str _,_]) tok rfl rfl rfl rfl rfl rfl (hvt.1) (Ff hsc)) ?_
    refine Qn 14 rfl (B2 [.str _,_]) (Qn 15 rfl (Qf [.str _,Iq _,_,Iq _]) (Qn 16 rfl Df ?_))
    refine Qn 17 rfl (Qc rfl (J7 sc hfl t.name)) ?_
    refine Qn 18 rfl (Ea [Iq _,_,Iq _,Iq _,Iq _,Iq _,Iq _,.str _]) ?_
    refine Hs.last _ _ 19 _ _ rfl (by kernel_rfl) rfl rfl (Be (k:=0) (v:=.agg _) (cs':=[Iq _,_,Iq _,Iq _,Iq _,Iq _,Iq _,.str _]) (H2:=_::_::_) tok rfl rfl rfl rfl (rfl) rfl rfl rfl rfl) (by kernel_rfl) ?_
    rintro _ _ ⟨rfl,rfl⟩
    refine Af (AW.ret (Ao (Ai ?_)))
    refine ⟨.inr rfl,[.agg [Iq _,_,Iq _,Iq _,Iq _,Iq _,Iq _,.str _]],.cons (.box _ _ _ 0 _ _ _ _ rfl rfl rfl rfl rfl rfl) <| .nil,_,.cons _ (.refl _),?_⟩
    exact ⟨Eq.trans rfl (congrArg (fun q:Ex=>AV.agg (cE q)) ((Hn T V t).trans (pZ hc1 hc2 hc3 hsr))).symm,rfl⟩
  ·
   refine Ad (Qp Av (Qp A3 (Aa (Au (fun hc4=>?_) fun hc4=>?_))))
   ·
    refine Ad (Qp A4 (Qp (Ea [Iq _,_,Iq _,Iq _,Iq _,Iq _,Iq _,.str _]) ?_))
    refine B0 0 [Iq _,_,Iq _,Iq _,Iq _,Iq _,Iq _,.str _] (_::_::_) ?_
    refine Aa (AW.ret (Ao (Ai ?_)))
    refine ⟨.inr rfl,[.agg [Iq _,_,Iq _,Iq _,Iq _,Iq _,Iq _,.str _]],.cons (.box _ _ _ 0 _ _ _ _ rfl rfl rfl rfl rfl rfl) <| .nil,_,.cons _ (.refl _),?_⟩
    exact ⟨Eq.trans rfl (congrArg (fun q:Ex=>AV.agg (cE q)) ((Hn T V t).trans (sV hc1 hc2 hc4))).symm,rfl⟩
   ·
    refine Ad (Qp Av (Qp A3 (Aa (Au (fun hc5=>?_) fun hc5=>?_))))
    ·
     have hct:=Y2 (Gu hw).1 (Or.inr (Or.inr (by simpa using hc5)))
     refine (cQ hct).elim fun va hva=>?_
     have hix:=I6 hct
     have hix2:=hix.2
     rw [List.length_map] at hix2
     have hvm:=List.mem_of_getElem? hva
     have hvt:=hrv.ty va hvm
     refine (Ye hrv hvm).elim fun sc hsc=>?_
     have hsr:=cN hva hsc
     have hfl:=hrv.fl sc (List.mem_of_getElem? hsc)
     refine AW.seq ?_
     refine AW.draw mixed (fun H'=>_∈H') (List.mem_of_getElem? (i:=1) rfl) (by kernel_rfl) ?_
     refine Qn 0 rfl A4 (Qn 1 rfl Br ?_)
     refine Qn 2 rfl (Ak rfl) ?_
     refine Qn 3 rfl Cb ?_
     refine Qn 4 rfl (OpP.Aas (fun k=>Aj (k:=k) (c:=.sl _ _) tok rfl rfl rfl rfl) (fun _ h=>h)) ?_
     refine Qn 5 rfl Br ?_
     refine Qn 6 rfl (Ak rfl) ?_
     refine Qn 7 rfl Cb ?_
     refine Qn 8 rfl (OpP.Aas (fun k=>Aj (k:=k) (c:=.sl _ _) tok rfl rfl rfl rfl) (fun _ h=>h)) ?_
     refine Qn 9 rfl A4 ?_
     refine Qn 10 rfl (Ag (c:=[.str _,Iq _]) tok rfl rfl rfl rfl rfl rfl (hix.1) (Ff hva)) ?_
     refine Qn 11 rfl (Qf [Iq _]) (Qn 12 rfl Bt ?_)
     refine Qn 13 rfl (Ag (c:=[.str _,_]) tok rfl rfl rfl rfl rfl rfl (hvt.1) (Ff hsc)) ?_
     refine Qn 14 rfl (B2 [.str _,_]) (Qn 15 rfl (Qf [.str _,Iq _,_,Iq _]) (Qn 16 rfl Df ?_))
     refine Qn 17 rfl (Qc rfl (J7 sc hfl t.name)) ?_
     refine Qn 18 rfl (Qf [Iq _,_,Iq _]) (Qn 19 rfl Bt (Qn 20 rfl (Ea [Iq _,_,Iq _,Iq _,Iq _,Iq _,Iq _,.str _]) ?_))
     refine Hs.eff _ _ 21 _ _ rfl (by kernel_rfl) rfl rfl (An (l:=[.int .i64 0,.sl 8 [],.int .i64 0,.int .i64 0,.int .i64 0,.int .i64 0,.int .i64 0,.str []]) (by kernel_rfl)) (by rintro _ _ ⟨b6,rfl,rfl⟩;simp) ?_
     rintro _ _ ⟨b6,rfl,rfl⟩
     refine Hs.last _ _ 22 _ _ rfl (by kernel_rfl) rfl rfl (Be (k:=0) (v:=.agg _) (cs':=[Iq _,_,Iq _,Iq _,Iq _,Iq _,Iq _,.str _]) (H2:=_::_::_::_) tok rfl rfl rfl rfl (rfl) rfl rfl rfl rfl) (by kernel_rfl) ?_
     rintro _ _ ⟨rfl,rfl⟩
     refine Af (AW.seq (Ad (Qp (Qf [_,Iq _]) (Qp Dg ?_))))
     refine Qp (Ax (n:=t.kids.length) tok rfl rfl rfl (by simp)) ?_
     refine Qp D2 (Aa (Au (fun hc6=>?_) fun hc6=>?_))
     ·
      have h0:0<t.kids.length:=by have:=of_decide_eq_true hc6;omega
      refine AW.region (Qp (Qf [_,Iq _]) (Qp Dg ?_))
      refine Qp (Ag (c:=[Iq _,.str _,.str _,Iq _,_,Iq _]) tok rfl rfl rfl rfl rfl rfl (by decide) (Dk (Es h0))) ?_
      refine Qp (B2 [Iq _,.str _,.str _,Iq _,_,Iq _]) ?_
      refine Qp (Qc rfl (Zm (Bn t 0))) ?_
      refine Qp Cb ?_
      refine B0 0 [Iq _,_,Iq _,Iq _,Iq _,Iq _,Iq _,.str _] (_::_::_::_) ?_
      refine By ?_
      refine AOL.Aaq (A8 (k:=0) (l:=[Iq _,_,Iq _,Iq _,Iq _,Iq _,Iq _,.str _]) tok rfl rfl rfl rfl rfl) rfl rfl ?_
      refine B0 1 [Iq _,_,Iq _,Iq _,Iq _,Iq _,Iq _,.str _] (_::_::_::_) ?_
      refine Aa (AW.ret (Ao (Ai ?_)))
      refine ⟨.inr rfl,[.agg [Iq _,_,Iq _,Iq _,Iq _,Iq _,Iq _,.str _]],.cons (.box _ _ _ 1 _ _ _ _ rfl rfl rfl rfl rfl rfl) <| .nil,_,.cons _ (.cons _ (.refl _)),?_⟩
      exact ⟨Eq.trans rfl (congrArg (fun q:Ex=>AV.agg (cE q)) ((Hn T V t).trans (qY hc1 hc2 hc4 hc5 hsr hc6))).symm,rfl⟩
     ·
      refine Bl (Ad ?_)
      refine AOL.Aaq (A8 (k:=0) (l:=[Iq _,_,Iq _,Iq _,Iq _,Iq _,Iq _,.str _]) tok rfl rfl rfl rfl rfl) rfl rfl ?_
      refine B0 1 [Iq _,_,Iq _,Iq _,Iq _,Iq _,Iq _,.str _] (_::_::_::_) ?_
      refine Aa (AW.ret (Ao (Ai ?_)))
      refine ⟨.inr rfl,[.agg [Iq _,_,Iq _,Iq _,Iq _,Iq _,Iq _,.str _]],.cons (.box _ _ _ 1 _ _ _ _ rfl rfl rfl rfl rfl rfl) <| .nil,_,.cons _ (.cons _ (.refl _)),?_⟩
      exact ⟨Eq.trans rfl (congrArg (fun q:Ex=>AV.agg (cE q)) ((Hn T V t).trans (tG hc1 hc2 hc4 hc5 hsr hc6))).symm,rfl⟩
    ·
     refine Ad (Qp Av (Qp A3 (Aa (Au (fun hc7=>?_) fun hc7=>?_))))
     ·
      refine Ad (Qp (Qf [_,Iq _]) (Qp Dg (Qp Br ?_)))
      refine Qp (Bv (l:=[.val _]) (l':=[]) rfl rfl) ?_
      refine Qe (Al (by kernel_rfl) rfl rfl ((fM bp 159 _ t.kids (Nat.le_trans (Hl ht) (by decide)) 100 (by kernel_rfl) [.val (.pointer (some ⟨bp,0,none⟩))] (Eb T V) (fun a ha=>fun R=>ih a ha (Ec ht ha) ((Gu hw).2 a ha) R)).at (k:=1) (H2:=_::_::_) rfl rfl)) ?_
      rintro _ _ ⟨rfl,rfl⟩
      refine Qp (Ea [Iq _,_,Iq _,Iq _,Iq _,Iq _,Iq _,.str _]) ?_
      refine B0 0 [Iq _,_,Iq _,Iq _,Iq _,Iq _,Iq _,.str _] (_::_::_) ?_
      refine Aa (AW.ret (Ao (Ai ?_)))
      refine ⟨.inr rfl,[.agg [Iq _,_,Iq _,Iq _,Iq _,Iq _,Iq _,.str _]],.cons (.box _ _ _ 0 _ _ _ _ rfl rfl rfl rfl rfl rfl) <| .nil,_,.cons _ (.refl _),?_⟩
      exact ⟨Eq.trans rfl (congrArg (fun q:Ex=>AV.agg (cE q)) ((Hn T V t).trans (rA hc1 hc2 hc4 hc5 hc7))).symm,rfl⟩
     ·
      refine AW.skip (Bc (Af (AW.seq ?_)))
      refine AW.draw mixed (fun _=>True) trivial (by kernel_rfl) ?_
      refine Qn 0 rfl (Qf [Iq _,_,Iq _]) (Qn 1 rfl Bt (Qn 2 rfl (Qf [_,Iq _]) (Qn 3 rfl Dg (Qn 4 rfl Br ?_))))
      refine Qn 5 rfl (Bv (l:=[.val _]) (l':=[]) rfl rfl) ?_
      refine Hs.eff _ _ 6 _ _ rfl (by kernel_rfl) rfl rfl (Al (by kernel_rfl) rfl rfl ((fM bp 159 _ t.kids (Nat.le_trans (Hl ht) (by decide)) 100 (by kernel_rfl) [.val (.pointer (some ⟨bp,0,none⟩))] (Eb T V) (fun a ha=>fun R=>ih a ha (Ec ht ha) ((Gu hw).2 a ha) R)).at (k:=1) (H2:=_::_::_) rfl rfl)) (fun _ _ _=>trivial) ?_
      rintro _ _ ⟨rfl,rfl⟩
      refine Qn 7 rfl (Ea [Iq _,_,Iq _,Iq _,Iq _,Iq _,Iq _,.str _]) ?_
      refine Hs.eff _ _ 8 _ _ rfl (by kernel_rfl) rfl rfl (Be (k:=0) (v:=.agg _) (cs':=[Iq _,_,Iq _,Iq _,Iq _,Iq _,Iq _,.str _]) (H2:=_::_::_) tok rfl rfl rfl rfl (rfl) rfl rfl rfl rfl) (fun _ _ _=>trivial) ?_
      rintro _ _ ⟨rfl,rfl⟩
      refine Hs.done _ _ (by kernel_rfl) ?_
      refine Af (AW.ret ?_)
      refine ⟨.inr rfl,[.agg [Iq _,_,Iq _,Iq _,Iq _,Iq _,Iq _,.str _]],.cons (.box _ _ _ 0 _ _ _ _ rfl rfl rfl rfl rfl rfl) <| .nil,_,.cons _ (.refl _),?_⟩
      exact ⟨Eq.trans rfl (congrArg (fun q:Ex=>AV.agg (cE q)) ((Hn T V t).trans (qF hc1 hc2 hc4 hc5 hc7))).symm,rfl⟩

set_option maxHeartbeats 3200000
set_option maxRecDepth 20000

theorem bW (a b c d:HO)(H:List HO):List.Perm (a::b::c::d::H) (b::c::d::a::H):=by
 have h1:List.Perm (a::b::c::d::H) (b::a::c::d::H):=List.Perm.swap ..
 have h2:List.Perm (a::c::d::H) (c::a::d::H):=List.Perm.swap ..
 have h3:List.Perm (a::d::H) (d::a::H):=List.Perm.swap ..
 exact (h1.trans (h2.cons b)).trans ((h3.cons c).cons b)
theorem tE (T:List e8Sc)(V:List Va)(t:Syn)(v:Value)(bp bn:Nat)(H:List HO):(.row v ((V ++ [P7 T t]).map O1).length 50 2 :: .box bp 159 [.sl 2 (T.map G7),.smapv (Kb (Gb T)),.row v 2 ((V ++ [P7 T t]).map O1),.val (.map (some bn)),.int .i64 0,.int .i64 0] :: .smap bn (Kb (Ic (V ++ [P7 T t])))::H:List HO) = .row v (V.map O1 ++ [O1 (P7 T t)]).length 50 2 :: .box bp 159 [.sl 2 (T.map G7),.smapv (Kb (Gb T)),.row v 2 (V.map O1 ++ [O1 (P7 T t)]),.val (.map (some bn)),.int .i64 0,.int .i64 0] :: .smap bn (Kb (Ic V ++ [t.name]))::H:=by
 simp [P7]
theorem Ta (T:List e8Sc)(hl:T.length≤1048576)(hd:(Gb T).Nodup)(H:List HO):Bw Tryz.prog 93 H [.sl 2 (T.map G7)] (fun r H'=>∃b bn,r = .val (.pointer (some ⟨b,0,none⟩))∧H' = .box b 159 [.sl 2 (T.map G7),.smapv (Kb (Gb T)),.val (.slice none 0 0),.val (.map (some bn)),.int .i64 0,.int .i64 0] :: .smap bn []::H):=by
 refine Bw.body (n:=27) tok Tryz.func93 rfl rfl rfl ?_
 refine AW.ghostPost ?_
 refine Ad (Qp N8 (By (Qp K4 ?_)))
 refine Qe (H4) ?_
 rintro _ _ ⟨b7,rfl,rfl⟩
 refine Qe (H4) ?_
 rintro _ _ ⟨b8,rfl,rfl⟩
 refine Qp (Mk (l0:=[.val (.slice none 0 0),.val (.map none),.val (.slice none 0 0),.val (.map none),.int .i64 0,.int .i64 0]) (l:=[_,_,_,_,Iq _,Iq _]) tok rfl rfl (by kernel_rfl) rfl) ?_
 refine Qe (nP (v:=.agg _) (cs:=[_,_,_,_,Iq _,Iq _]) rfl rfl (rfl)) ?_
 rintro _ _ ⟨b10,rfl,rfl⟩
 refine Qp N8 (Aa (AW.seq (Ad (Qp K4 ?_))))
 refine Qp (Ax (n:=T.length) tok rfl rfl rfl (by simp)) ?_
 refine Qp A4 (Aa (AW.block ?_))
 refine AW.Aat (fun (k:Nat)=>(⟨[(3,.val (.pointer (some ⟨b10,0,none⟩))),(11,.sl 2 (T.map G7)),(12,.int .i64 T.length),(13,.int .i64 (k:Int))],.box b10 159 [.sl 2 (T.map G7),.val (.map (some b7)),.val (.slice none 0 0),.val (.map (some b8)),.int .i64 0,.int .i64 0] :: .smap b8 [] :: .smap b7 (Kb (Gb (T.take k)))::H,27⟩:St)) (fun (k:Nat)=>k≤T.length) (fun (k:Nat)=>T.length-k) (0) ?_ (GS.weaken ⟨rfl,rfl,rfl,rfl,trivial⟩ (.refl _)) ?_
 · exact Nat.zero_le _
 ·
  rintro k hR
  refine Ad (Qp B7 (Aa (AW.seq (Au (fun hc1=>?_) fun hc1=>?_))))
  ·
   obtain ⟨a,ha⟩:=Dl hc1
   have hlt:=Cm ha
   have hm:=List.mem_of_getElem? ha
   refine Bl (AW.seq (AW.block (Ad (Qp A4 ?_))))
   refine Qp (Ag (c:=[.str _,_]) tok rfl rfl rfl rfl rfl rfl (by omega) (Ff ha)) ?_
   refine Qp (B2 [.str _,_]) ?_
   refine Qe (An (l:=[.str [],.sl 2 []]) (by kernel_rfl)) ?_
   rintro _ _ ⟨b5,rfl,rfl⟩
   refine Qp A0 ?_
   refine B0 0 [.str _,_] (_::_::_::_::_) ?_
   refine AOL.ghost (GS.freeze (t:=5) 0 rfl rfl) ?_
   refine Aa ?_
   refine AW.draw mixed (fun H'=>_∈H') (List.mem_of_getElem? (i:=0) rfl) (by kernel_rfl) ?_
   refine Qn 0 rfl Br ?_
   refine Qn 1 rfl (Ak rfl) ?_
   refine Qn 2 rfl Cb ?_
   refine Qn 3 rfl (OpP.Aas (fun k=>Aj (k:=k) (c:=.val _) tok rfl rfl rfl rfl) (fun _ h=>h)) ?_
   refine Qn 4 rfl (Qf [.str _,_]) (Qn 5 rfl Df (Qn 6 rfl A4 ?_))
   refine Hs.last _ _ 7 _ _ rfl (by kernel_rfl) rfl rfl (aE (i:=2) (ks:=Gb (T.take k)) (H2:=_::_::_::_) tok rfl rfl rfl rfl rfl rfl rfl rfl (by simp;omega) (yW hd ha) rfl) (by kernel_rfl) ?_
   rintro _ _ ⟨rfl,rfl⟩
   refine Bc (Af (AW.region (Qp Ei (Qp A4 (Aa ?_)))))
   refine ⟨k+1,?_,?_,GS.trans (GS.heq (congrArg (fun ns:List Aq=>(_::_ :: .smap b7 (Kb ns)::_:List HO)) (fN ha))) (GS.weaken ⟨rfl,rfl,rfl,rfl,trivial⟩ (.refl _))⟩
   · exact hlt
   · omega
  ·
   have hte:=E8 hc1
   refine AW.exit ?_
   refine A7 (A7 (Bp (Af (Ad (Qp Br (Qp N8 (Aa (AW.ret ?_))))))))
   refine ⟨_,GS.freezeSMapCell 2 0 1 rfl rfl rfl rfl rfl,.inr rfl,[.val _],.cons (.tmp _ _ rfl) <| .nil,_,.refl _,?_⟩
   exact ⟨b10,b8,rfl,congrArg (fun Q:List e8Sc=>(.box b10 159 [.sl 2 (T.map G7),.smapv (Kb (Gb Q)),.val (.slice none 0 0),.val (.map (some b8)),.int .i64 0,.int .i64 0] :: .smap b8 []::H:List HO)) hte⟩
theorem dA (T:List e8Sc)(V:List Va)(hV:V.length≤16)(v:Value)(bp bn:Nat)(t:Syn)(H:List HO):Bw Tryz.prog 96 (.row v ((V).map O1).length 50 2 :: .box bp 159 [.sl 2 (T.map G7),.smapv (Kb (Gb T)),.row v 2 ((V).map O1),.val (.map (some bn)),.int .i64 0,.int .i64 0] :: .smap bn (Kb (Ic (V)))::H) [.val (.pointer (some ⟨bp,0,none⟩)),.agg (cSyn t)] (fun r H'=>∃v',r = .agg (M1 (pI T V t))∧H' = .row v' ((dV T V t).map O1).length 50 2 :: .box bp 159 [.sl 2 (T.map G7),.smapv (Kb (Gb T)),.row v' 2 ((dV T V t).map O1),.val (.map (some bn)),.int .i64 0,.int .i64 0] :: .smap bn (Kb (Ic (dV T V t)))::H):=by
 refine Bw.body (n:=75) tok Tryz.func96 rfl rfl rfl ?_
 refine Ad (Qp (Eu [Iq _,.str _,.str _,Iq _,_,Iq _]) ?_)
 refine Qe (An (l:=[.int .i64 0,.int .i64 0]) (by kernel_rfl)) ?_
 rintro _ _ ⟨b4,rfl,rfl⟩
 refine Aa (AW.seq ?_)
 refine AW.draw mixed (fun H'=>_∈H') (List.mem_of_getElem? (i:=2) rfl) (by kernel_rfl) ?_
 refine Qn 0 rfl Br ?_
 refine Qn 1 rfl (Ak rfl) ?_
 refine Qn 2 rfl Cb ?_
 refine Qn 3 rfl (OpP.Aas (fun k=>Aj (k:=k) (c:=.smapv _) tok rfl rfl rfl rfl) (fun _ h=>h)) ?_
 refine Qn 4 rfl (Qf [.str _,.str _,Iq _,_,Iq _]) (Qn 5 rfl Df ?_)
 refine Qn 6 rfl (U0 (es:=Kb (Gb T)) tok rfl rfl rfl rfl rfl (by kernel_rfl) rfl rfl (Mt _ _ rfl) (cZ _ _)) ?_
 refine Qn 7 rfl L0 (Qn 8 rfl Jw (Qn 9 rfl cF (Qn 10 rfl A0 (Qn 11 rfl A3 ?_))))
 refine Hs.done _ _ (by kernel_rfl) ?_
 refine Af (AW.seq ?_)
 refine AW.draw mixed (fun H'=>_∈H'∧_∈H') ⟨(List.mem_of_getElem? (i:=2) rfl),(List.mem_of_getElem? (i:=3) rfl)⟩ (by kernel_rfl) ?_
 refine Qn 0 rfl Br ?_
 refine Qn 1 rfl (Ak rfl) ?_
 refine Qn 2 rfl Cb ?_
 refine Qn 3 rfl (OpP.Aas (fun k=>Aj (k:=k) (c:=.val _) tok rfl rfl rfl rfl) (fun _ h=>h.1)) ?_
 refine Qn 4 rfl (Qf [.str _,Iq _,_,Iq _]) (Qn 5 rfl Df ?_)
 refine Qn 6 rfl (OpP.Aas (fun k=>iR (i:=k) (es:=Kb (Ic V)) tok rfl rfl rfl rfl rfl (by kernel_rfl) rfl rfl (Mt _ _ rfl) (cZ _ _)) (fun _ h=>h.2)) ?_
 refine Qn 7 rfl L0 (Qn 8 rfl Jw (Qn 9 rfl cF (Qn 10 rfl A0 (Qn 11 rfl A3 ?_))))
 refine Hs.done _ _ (by kernel_rfl) ?_
 refine Af (AW.seq (AW.block (Ad (Qp Br ?_))))
 refine Qp (Ak rfl) ?_
 refine Qp Cb ?_
 refine AOL.Aaq (Aj (k:=2) (c:=.row _ _ _) tok rfl rfl rfl rfl) rfl rfl ?_
 refine Qp (Dx (n:=V.length) tok rfl rfl rfl (by simp)) ?_
 refine Qp Av (Qp A3 (Aa (Au (fun hc1=>?_) fun hc1=>?_)))
 ·
  refine Ad (Qp (Qf [Iq _]) (Qp Bt (Qp (Ea [Iq _,Iq _]) ?_)))
  refine B0 0 [Iq _,Iq _] (_::_::_::_::_) ?_
  refine Aa (AW.ret (Ao (Ai ?_)))
  refine ⟨.inr rfl,[.agg [Iq _,Iq _]],.cons (.box _ _ _ 0 _ _ _ _ rfl rfl rfl rfl rfl rfl) <| .nil,_,.cons _ (.refl _),?_⟩
  have hx:=bJ (T:=T) (V:=V) (t:=t) (wN hc1) (by decide)
  exact ⟨v,Eq.trans rfl (congrArg (fun q:Fa=>AV.agg (M1 q)) hx.1).symm,congrArg (fun Q:List Va=>(.row v ((Q).map O1).length 50 2 :: .box bp 159 [.sl 2 (T.map G7),.smapv (Kb (Gb T)),.row v 2 ((Q).map O1),.val (.map (some bn)),.int .i64 0,.int .i64 0] :: .smap bn (Kb (Ic (Q)))::H:List HO)) hx.2.symm⟩
 ·
  refine Ad (Qp Bq (Qp Fz (Qp A3 (Aa (Au (fun hc2=>?_) fun hc2=>?_)))))
  ·
   refine Ad (Qp (Qf [Iq _]) (Qp Bt (Qp (Ea [Iq _,Iq _]) ?_)))
   refine B0 0 [Iq _,Iq _] (_::_::_::_::_) ?_
   refine Aa (AW.ret (Ao (Ai ?_)))
   refine ⟨.inr rfl,[.agg [Iq _,Iq _]],.cons (.box _ _ _ 0 _ _ _ _ rfl rfl rfl rfl rfl rfl) <| .nil,_,.cons _ (.refl _),?_⟩
   have hx:=bJ (T:=T) (V:=V) (t:=t) (dec_2 hc1 hc2) (by decide)
   exact ⟨v,Eq.trans rfl (congrArg (fun q:Fa=>AV.agg (M1 q)) hx.1).symm,congrArg (fun Q:List Va=>(.row v ((Q).map O1).length 50 2 :: .box bp 159 [.sl 2 (T.map G7),.smapv (Kb (Gb T)),.row v 2 ((Q).map O1),.val (.map (some bn)),.int .i64 0,.int .i64 0] :: .smap bn (Kb (Ic (Q)))::H:List HO)) hx.2.symm⟩
  ·
   refine Ad (Qp Bq (Qp A3 (Aa (Au (fun hc3=>?_) fun hc3=>?_))))
   ·
    refine Ad (Qp (Qf [Iq _]) (Qp Bt (Qp (Ea [Iq _,Iq _]) ?_)))
    refine B0 0 [Iq _,Iq _] (_::_::_::_::_) ?_
    refine Aa (AW.ret (Ao (Ai ?_)))
    refine ⟨.inr rfl,[.agg [Iq _,Iq _]],.cons (.box _ _ _ 0 _ _ _ _ rfl rfl rfl rfl rfl rfl) <| .nil,_,.cons _ (.refl _),?_⟩
    have hx:=bJ (T:=T) (V:=V) (t:=t) (dec_3 hc1 hc2 hc3) (by decide)
    exact ⟨v,Eq.trans rfl (congrArg (fun q:Fa=>AV.agg (M1 q)) hx.1).symm,congrArg (fun Q:List Va=>(.row v ((Q).map O1).length 50 2 :: .box bp 159 [.sl 2 (T.map G7),.smapv (Kb (Gb T)),.row v 2 ((Q).map O1),.val (.map (some bn)),.int .i64 0,.int .i64 0] :: .smap bn (Kb (Ic (Q)))::H:List HO)) hx.2.symm⟩
   ·
    refine AW.skip (Bc (Af (AW.seq ?_)))
    refine AW.draw mixed (fun H'=>_∈H') (List.mem_of_getElem? (i:=2) rfl) (by kernel_rfl) ?_
    refine Qn 0 rfl Br ?_
    refine Qn 1 rfl (Ak rfl) ?_
    refine Qn 2 rfl Cb ?_
    refine Qn 3 rfl (OpP.Aas (fun k=>Aj (k:=k) (c:=.val _) tok rfl rfl rfl rfl) (fun _ h=>h)) ?_
    refine Qn 4 rfl (Qf [.str _,Iq _,_,Iq _]) (Qn 5 rfl Df (Qn 6 rfl Br ?_))
    refine Qn 7 rfl (Ak rfl) ?_
    refine Qn 8 rfl Cb ?_
    refine Qn 9 rfl (OpP.Aas (fun k=>Aj (k:=k) (c:=.row _ _ _) tok rfl rfl rfl rfl) (fun _ h=>h)) ?_
    refine Qn 10 rfl (Dx (n:=V.length) tok rfl rfl rfl (by simp)) ?_
    refine Hs.last _ _ 11 _ _ rfl (by kernel_rfl) rfl rfl (aE (i:=3) (ks:=Ic V) (H2:=_::_::_::_::_) tok rfl rfl rfl rfl rfl rfl rfl rfl (by simp) hc3 rfl) (by kernel_rfl) ?_
    rintro _ _ ⟨rfl,rfl⟩
    refine Af (AW.seq ?_)
    refine AW.draw mixed (fun H'=>_∈H') (List.mem_of_getElem? (i:=2) rfl) (by kernel_rfl) ?_
    refine Qn 0 rfl Br (Qn 1 rfl Br ?_)
    refine Qn 2 rfl (Ak rfl) ?_
    refine Qn 3 rfl Cb ?_
    refine Qn 4 rfl (OpP.Aas (fun k=>Aj (k:=k) (c:=.row _ _ _) tok rfl rfl rfl rfl) (fun _ h=>h)) ?_
    refine Qn 5 rfl (Qf [.str _,Iq _,_,Iq _]) (Qn 6 rfl Df (Qn 7 rfl A4 (Qn 8 rfl (Ea [.str _,Iq _]) ?_)))
    refine Qn 9 rfl (Am (es:=[[.str _,Iq _]]) tok rfl rfl rfl rfl rfl rfl rfl rfl rfl) ?_
    refine Hs.eff _ _ 10 _ _ rfl (by kernel_rfl) rfl rfl (Ci (k:=1) tok rfl rfl rfl rfl rfl rfl rfl rfl (D7 rfl) (scVa V) (by simp;omega) (by simp [maxLen];omega)) (by rintro _ _ ⟨v71,rfl,rfl⟩;simp) ?_
    rintro _ _ ⟨v71,rfl,rfl⟩
    refine Qn 11 rfl (Ak rfl) ?_
    refine Qn 12 rfl Cb ?_
    refine Hs.last _ _ 13 _ _ rfl (by kernel_rfl) rfl rfl (Be (k:=2) (v:=.row _ _ _) (cs':=[_,_,_,_,Iq _,Iq _]) (H2:=_::_::_::_::_) tok rfl rfl rfl rfl (rfl) rfl rfl rfl rfl) (by kernel_rfl) ?_
    rintro _ _ ⟨rfl,rfl⟩
    refine Af (Ad ?_)
    refine Qp (Qc rfl (J1)) ?_
    refine B0 0 [Iq _,Iq _] (_::_::_::_::_) ?_
    refine Aa (AW.ret ?_)
    refine ⟨.inr rfl,[.agg [Iq _,Iq _]],.cons (.box _ _ _ 0 _ _ _ _ rfl rfl rfl rfl rfl rfl) <| .nil,_,.cons _ (.refl _),?_⟩
    have hx:=uR (T:=T) (V:=V) (t:=t) (dec_4 hc1 hc2 hc3)
    refine ⟨v71,Eq.trans rfl (congrArg (fun q:Fa=>AV.agg (M1 q)) hx.1).symm,Eq.trans ?_ (congrArg (fun Q:List Va=>(.row v71 ((Q).map O1).length 50 2 :: .box bp 159 [.sl 2 (T.map G7),.smapv (Kb (Gb T)),.row v71 2 ((Q).map O1),.val (.map (some bn)),.int .i64 0,.int .i64 0] :: .smap bn (Kb (Ic (Q)))::H:List HO)) hx.2.symm)⟩
    exact (tE T V t v71 bp bn H).symm
theorem kX (T:List e8Sc)(V0:List Va)(hV0:V0.length≤16)(v0:Value)(bp bn:Nat)(l:List Syn)(hl:l.length≤1048576)(H:List HO):Bw Tryz.prog 94 (.row v0 ((V0).map O1).length 50 2 :: .box bp 159 [.sl 2 (T.map G7),.smapv (Kb (Gb T)),.row v0 2 ((V0).map O1),.val (.map (some bn)),.int .i64 0,.int .i64 0] :: .smap bn (Kb (Ic (V0)))::H) [.sl 6 (l.map Cl),.fn (.func 96) [.val (.pointer (some ⟨bp,0,none⟩))] []] (fun r H'=>∃v',r = .agg (M1 (Km T V0 l).2)∧H' = .row v' (((Km T V0 l).1).map O1).length 50 2 :: .box bp 159 [.sl 2 (T.map G7),.smapv (Kb (Gb T)),.row v' 2 (((Km T V0 l).1).map O1),.val (.map (some bn)),.int .i64 0,.int .i64 0] :: .smap bn (Kb (Ic ((Km T V0 l).1)))::H):=by
 refine Bw.body (n:=23) tok Tryz.func94 rfl rfl rfl ?_
 refine Ad ?_
 refine Qe (An (l:=[.int .i64 0,.int .i64 0]) (by kernel_rfl)) ?_
 rintro _ _ ⟨b4,rfl,rfl⟩
 refine Aa (AW.seq (Ad (Qp K4 ?_)))
 refine Qp (Ax (n:=l.length) tok rfl rfl rfl (by simp)) ?_
 refine Qp A4 ?_
 refine AOL.ghost (GS.perm (bW _ _ _ _ _)) ?_
 refine Aa (AW.block ?_)
 refine AW.Aat (fun (q:Nat×List Va×Value)=>(⟨[(0,.sl 6 (l.map Cl)),(1,.fn (.func 96) [.val (.pointer (some ⟨bp,0,none⟩))] []),(4,.val (.pointer (some ⟨b4,0,none⟩))),(8,.sl 6 (l.map Cl)),(9,.int .i64 l.length),(10,.int .i64 (q.1:Int))],.row q.2.2 ((q.2.1).map O1).length 50 2 :: .box bp 159 [.sl 2 (T.map G7),.smapv (Kb (Gb T)),.row q.2.2 2 ((q.2.1).map O1),.val (.map (some bn)),.int .i64 0,.int .i64 0] :: .smap bn (Kb (Ic (q.2.1))) :: .box b4 94 [.int .i64 0,.int .i64 0]::H,23⟩:St)) (fun (q:Nat×List Va×Value)=>q.1≤l.length∧q.2.1.length≤16∧Km T V0 l=Km T q.2.1 (l.drop q.1)) (fun (q:Nat×List Va×Value)=>l.length-q.1) ((0,V0,v0)) ?_ (GS.weaken ⟨rfl,rfl,rfl,rfl,rfl,rfl,trivial⟩ (.refl _)) ?_
 · exact ⟨Nat.zero_le _,hV0,rfl⟩
 ·
  rintro q hR
  refine Ad (Qp B7 (Aa (AW.seq (Au (fun hc1=>?_) fun hc1=>?_))))
  ·
   obtain ⟨a,ha⟩:=Dl hc1
   have hlt:=Cm ha
   have hm:=List.mem_of_getElem? ha
   refine Bl (AW.seq (AW.block (Ad ?_)))
   refine Qp (Ag (c:=[Iq _,.str _,.str _,Iq _,_,Iq _]) tok rfl rfl rfl rfl rfl rfl (by omega) (Dk ha)) ?_
   refine Qp (B2 [Iq _,.str _,.str _,Iq _,_,Iq _]) ?_
   refine Qe (An (l:=[.int .i64 0,.str [],.str [],.int .i64 0,.sl 6 [],.int .i64 0]) (by kernel_rfl)) ?_
   rintro _ _ ⟨b6,rfl,rfl⟩
   refine B0 0 [Iq _,.str _,.str _,Iq _,_,Iq _] (_::_::_::_::_::_) ?_
   refine AOL.ghost (GS.freeze (t:=6) 0 rfl rfl) ?_
   refine By ?_
   refine Qp (A1 (v:=.fn _ _ _) rfl) ?_
   refine Qp (B2 [Iq _,.str _,.str _,Iq _,_,Iq _]) ?_
   refine Qe (Hb (by kernel_rfl) rfl rfl rfl (Bw.front3 (R:=_::_) 2 1 0 rfl rfl rfl rfl (dA T q.2.1 hR.2.1 q.2.2 bp bn a _))) ?_
   rintro _ _ ⟨v16,rfl,rfl⟩
   refine Qe (An (l:=[.int .i64 0,.int .i64 0]) (by kernel_rfl)) ?_
   rintro _ _ ⟨b7,rfl,rfl⟩
   refine B0 0 [Iq _,Iq _] (_::_::_::_::_::_) ?_
   refine AOL.ghost (GS.freeze (t:=7) 0 rfl rfl) ?_
   refine By (Qp (Qf [Iq _]) (Qp Bt (Qp B9 (Aa (Au (fun hc2=>?_) fun hc2=>?_)))))
   ·
    refine Ad (Qp (B2 [Iq _,Iq _]) ?_)
    refine B0 3 [Iq _,Iq _] (_::_::_::_::_) ?_
    refine Aa (AW.ret (Ao (Ai (Ai (Ao (Ai ?_))))))
    refine ⟨.inr rfl,[.agg [Iq _,Iq _]],.cons (.box _ _ _ 3 _ _ _ _ rfl rfl rfl rfl rfl rfl) <| .nil,_,.cons_cons _ (.cons_cons _ (.cons_cons _ (.cons _ (.refl _)))),?_⟩
    have hx:=hR.2.2.trans (oK ha hc2)
    exact ⟨v16,by rw [hx];rfl,by rw [hx]⟩
   ·
    refine AW.skip (Bc (Af (AW.region (Qp Ei (Qp A4 (Aa ?_))))))
    refine ⟨(q.1+1,dV T q.2.1 a,v16),?_,?_,GS.weaken ⟨rfl,rfl,rfl,rfl,rfl,rfl,trivial⟩ (.refl _)⟩
    · exact ⟨hlt,zY hR.2.1,hR.2.2.trans (pX ha hc2)⟩
    · simp only;omega
  ·
   have hde:=Hd hc1
   have hall:=hR.2.2
   rw [hde] at hall
   refine AW.exit ?_
   refine A7 (A7 (Bp (Af (Ad ?_))))
   refine Qp (Qc rfl (J1)) ?_
   refine B0 3 [Iq _,Iq _] (_::_::_::_::_) ?_
   refine Aa (AW.ret ?_)
   refine ⟨.inr rfl,[.agg [Iq _,Iq _]],.cons (.box _ _ _ 3 _ _ _ _ rfl rfl rfl rfl rfl rfl) <| .nil,_,.cons_cons _ (.cons_cons _ (.cons_cons _ (.cons _ (.refl _)))),?_⟩
   have hx:Km T V0 l=(q.2.1,Mq):=hall
   exact ⟨q.2.2,by rw [hx];rfl,by rw [hx]⟩

end Go.Proofs.YtckhoadldibflaaGreatDoor
