/-
  Several texts in one: R19w, R22w, G14, Ab, B14. No condition.
-/
import Derived.Test.YtckhoadldibflaaGreatDoorK01
import Derived.Test.YtckhoadldibflaaGreatDoorK21
import Derived.Test.YtckhoadldibflaaGreatDoorK15
import Derived.KernelRfl
import Derived.Test.YtckhoadldibflaaGreatDoorK18
import Derived.Test.YtckhoadldibflaaGreatDoorK16
import Derived.Test.YtckhoadldibflaaGreatDoorAx
import Derived.Test.YtckhoadldibflaaGreatDoorCards
import Derived.Test.YtckhoadldibflaaGreatDoorTie
import Derived.Test.YtckhoadldibflaaGreatDoorK03
import Derived.Test.YtckhoadldibflaaGreatDoorK07
import Derived.Deep.DeepHandedRow
import Derived.Lib.LaidTab
import Derived.OpenShut
import Derived.Test.YtckhoadldibflaaGreatDoorRows
import Derived.Test.YtckhoadldibflaaGreatDoorK02
import Derived.Test.YtckhoadldibflaaGreatDoorK12
import Derived.JoinedCond
import Derived.ProofKit
set_option linter.unusedVariables false
set_option linter.unusedSimpArgs false
namespace Go.Proofs.YtckhoadldibflaaGreatDoor
open Go Go.Aw
set_option maxHeartbeats 12800000
set_option maxRecDepth 20000

theorem qy_at {l:List Qy}{cs:List (List AV)}(h:cs=l.map cQy){k:Nat}{x:Qy}(hx:l[k]? = some x):cs[k]? = some (cQy x):=by subst h;rw [List.getElem?_map,hx];rfl
theorem nm_snoc {l:List Qy}{k:Nat}{x:Qy}{n:A1}(h:((l.take k).map (·.name)).contains n=false)(hx:l[k]? = some x)(hc:(x.name==n)=false):((l.take (k+1)).map (·.name)).contains n=false:=by
 rw [C2 hx,Tq];have h1:x.name≠n:=by simpa using hc
 simp at h ⊢;exact ⟨h,fun e=>h1 e.symm⟩
theorem nm_hit {l:List Qy}{k:Nat}{x:Qy}{n:A1}(hx:l[k]? = some x)(hc:(x.name==n)=true):(l.map (·.name)).contains n=true:=by
 have h1:x.name=n:=by simpa using hc
 simp only [List.contains_eq_mem,Hi];exact M9.2 ⟨x,B6 hx,h1⟩
theorem drop_q {t:Syn}(hc:Ba t (.only 0)=0)(he:((C8 t).2.err != 0)=false){k:Nat}{a:Syn}(ha:(t.kids.drop (C8 t).1.length)[k]? = some a):a.kind=3:=by
  have hk:=E5 (Gg (Gk hc).1).1
  have hkid:∀(j:Nat) (a:Syn),t.kids[j]? = some a→a.kind=1∨a.kind=3:=fun j a ha=>by
    have h:=(Fj hc ha).2;unfold Eh at h;rw [hk,if_pos (by decide)] at h;split at h <;> · have:=E5 h;omega
  have hnext:∀(j:Nat) (a b:Syn),t.kids[j]? = some a→t.kids[j+1]? = some b→a.kind≠1→b.kind≠1:=fun j a b ha hb hne he=>by
    have h:=(Fj hc hb).2;unfold Eh at h;rw [hk,if_pos (by decide)] at h;have hj:Bb t (j+1-1)=a:=by unfold Bb;rw [Nat.add_sub_cancel,Nv,ha];rfl
    rw [hj] at h;rw [if_neg (by simp;intro _;exact ⟨by omega,hne⟩)] at h;have:=E5 h;omega
  rw [←fG hc] at he ha;have h3:=Zy t.kids [] he;simp only [Cw,Nat.sub_zero] at h3;generalize (Cq [] t.kids).1.length=n at ha h3;rw [List.getElem?_drop] at ha
  have key:∀k a,t.kids[n+k]? = some a→a.kind≠1:=by
    intro k
    induction k with
    | zero=>intro a ha;exact h3 a ha
    | succ k ih=>
      intro a ha;have hl:n+k<t.kids.length:=by have:=(List.getElem?_eq_some_iff.1 ha).1;omega
      exact hnext (n+k) _ a (List.getElem?_eq_getElem hl) ha (ih _ (List.getElem?_eq_getElem hl))
  have h1:=key k a ha;have h2:=hkid _ a ha;omega
theorem nD (t:Syn)(hf:G0 t=true):An Tryz.prog 23 [.agg (cSyn t)] (.tuple [.agg (cPg (Tf t).1),.int .i64 (Tf t).2.1,.int .i64 (Tf t).2.2]):=by
 have ht:=Og hf;have hkl:=E3 ht;have htp:=nX t;have htl:=(aR t).1;refine An.body (n:=97) tok Tryz.func23 rfl rfl rfl fun H=>?_
 refine Ad (Qp (Ed Aq) (Dt giy fun b2=>Qp Al (Qp Al (Bs (Qp (Bo Aq) (Qp (Qc rfl (tY t hf)) (Qp Lm (Qp Qxs (Qp Ib (Qp Ib (Qp Sr (Qp Al (Qp Al (Ae ?_))))))))))))));refine AW.Aas (fun (_:Unit)=>(⟨[(1,.ptr (cSyn t)),(2,.val (.pointer (some ⟨b2,0,none⟩))),(5,.sl 2 ((C8 t).1.map F1))],.box b2 59 giy::H,97⟩:St)) (fun _=>((Bh t (.only 0)).2 != 0)=false∧((C8 t).2.err != 0)=false) ?_ ?_
 ·
  refine Ad (Qp Am (Qp Bu (Ae (Ao (fun hc1=>Ad (Qp (Du [_,_]) (Qp Am (Qp Am ?_)))) fun hc1=>?_))))
  ·
   refine Bt 0 [_,_] (_::_) (Qp Al (Qp Al (Rc ?_)));refine ⟨.inr rfl,[.agg [_,_],Iq _,Iq _],.cons (.box _ _ _ 0 _ _ _ _ rfl rfl rfl rfl rfl rfl) <| .cons (.tmp _ _ rfl) <| .cons (.tmp _ _ rfl) <| .nil,.cons _ (.refl _),?_⟩;exact Eq.trans rfl (congrArg (fun q:Pg×Int×Int=>AV.tuple [.agg (cPg q.1),.int .i64 q.2.1,.int .i64 q.2.2]) (pp_bad hc1)).symm
  obtain ⟨hw,he,hT1⟩:=tp_ok hc1;refine A7 ?_;refine ⟨(),?_,GS.weaken ⟨rfl,rfl,congrArg (fun l:List e8Sc=>AV.sl 2 (l.map F1)) hT1,trivial⟩ (.refl _)⟩;exact ⟨hw,he⟩
 rintro _ ⟨hw,he⟩;refine Ad (Qp Fh ?_);refine Qp (Im (l0:=[.sl 2 [],.val (.slice none 0 0)]) (l:=[_,_]) tok rfl rfl (by kernel_rfl) rfl) ?_;refine Dt giy fun b8=>?_
 refine Bt 0 [_,_] (_::_::_) ?_;refine AOL.ghost (GS.cellRow 0 1 40 18 rfl rfl rfl rfl) ?_;refine Ae (Rd (Qp Fh ?_));refine Qp (Ai (n:=(C8 t).1.length) tok rfl rfl rfl (by simp)) ?_;refine Qp Al (Ae (AW.block ?_));refine AW.Aam (fun (q:Nat×List Qy×List (List AV)×Value)=>(⟨[(1,.ptr (cSyn t)),(2,.val (.pointer (some ⟨b2,0,none⟩))),(5,.sl 2 ((C8 t).1.map F1)),(8,.val (.pointer (some ⟨b8,0,none⟩))),(9,.int .i64 (((C8 t).1.length:Int)+(q.1:Int)))],.row q.2.2.2 q.2.2.1.length 40 18 :: .box b8 59 [.sl 2 ((C8 t).1.map F1),.row q.2.2.2 18 q.2.2.1] :: .box b2 59 giy::H,97⟩:St)) (fun q=>q.1≤(t.kids.drop (C8 t).1.length).length∧Hl (C8 t).1 [] (t.kids.drop (C8 t).1.length)=Hl (C8 t).1 q.2.1 ((t.kids.drop (C8 t).1.length).drop q.1)∧q.2.1.length≤16∧q.2.2.1=q.2.1.map cQy) (fun q=>(t.kids.drop (C8 t).1.length).length-q.1) ((0,[],[],.slice none 0 0)) ?_ (GS.weaken ⟨rfl,rfl,rfl,rfl,congrArg (AV.int .i64) (Int.add_zero _).symm,trivial⟩ (.refl _)) ?_
 · exact ⟨Dh _,rfl,Dh _,rfl⟩
 rintro q hR;refine Rd (Qp Am (Qp (Qf Ef) (Qp B7 ?_)));refine Qp (Ai (n:=t.kids.length) tok rfl rfl rfl (by simp)) ?_;refine Qp Bp (Ae (Ao (fun hc2=>?_) fun hc2=>?_))
 ·
  have hlt:(C8 t).1.length+q.1<t.kids.length:=by have:=Gv hc2;omega
  have ha:=List.getElem?_eq_getElem hlt;generalize t.kids[(C8 t).1.length+q.1]=a at ha;have hm:=B6 ha;have hma:=C4 ht hm;have ha2:(t.kids.drop (C8 t).1.length)[q.1]? = some a:=by rw [List.getElem?_drop];exact ha
  have hlt2:=Bj ha2;have hqa:=Wv (G4 hw) ha (drop_q (G4 hw) he ha2);have ho16:=hR.2.2.1;have hrw:=hR.2.2.2;have hrl:q.2.2.1.length=q.2.1.length:=by rw [hrw,D9]
  have hso:∀c∈q.2.2.1,Bc c=true:=by rw [hrw];exact scQy _
  refine A7 (AW.seq (AW.block (Rd (Qp Cc (AOL.Aan (Af (k:=1) (c:=.row _ _ _) tok rfl rfl rfl rfl) rfl rfl (Qp (Ec (n:=q.2.1.length) tok rfl rfl rfl (hrl)) (Qp Ap (Ae (Ao (fun hc3=>AW.seq ?_) fun hc3=>A7 (Rd (Qp Al (Ae (AW.block ?_)))))))))))))
  ·
   refine Gi ?_;refine Qn 0 rfl (Du [_,_]) (Qn 1 rfl (Qf Ef) (Qn 2 rfl B7 (Qn 3 rfl Am ?_)));refine Qn 4 rfl (Aa (c:=Aq) tok rfl rfl rfl rfl rfl rfl (by omega) (Bz ha)) ?_;refine Qn 5 rfl (Qf [Iq _]) (Qn 6 rfl Bf ?_);refine Jj 7 rfl (A6 (k:=2) (v:=.agg _) (cs':=[_,_]) (H2:=_::_::_::_) tok rfl rfl rfl rfl (rfl) rfl rfl rfl rfl) ?_;refine Qn 8 rfl Al (Qn 9 rfl Al ?_);refine Ej ?_;refine A5 (Su (Rj (Av ?_)));refine ⟨.inr rfl,[.agg [_,_],Iq _,Iq _],.cons (.box _ _ _ 2 _ _ _ _ rfl rfl rfl rfl rfl rfl) <| .cons (.tmp _ _ rfl) <| .cons (.tmp _ _ rfl) <| .nil,.cons _ (.cons _ (.cons _ (.refl _))),?_⟩;exact Eq.trans rfl (congrArg (fun q:Pg×Int×Int=>AV.tuple [.agg (cPg q.1),.int .i64 q.2.1,.int .i64 q.2.2]) (sZ hw he ((Yd (G4 hw) he (C8 t).1).symm.trans (hR.2.1.trans (pgf_5 ha2 hc3))) rfl)).symm
  refine AW.Aam (fun (p:Nat)=>(⟨[(1,.ptr (cSyn t)),(2,.val (.pointer (some ⟨b2,0,none⟩))),(5,.sl 2 ((C8 t).1.map F1)),(8,.val (.pointer (some ⟨b8,0,none⟩))),(9,.int .i64 (((C8 t).1.length:Int)+(q.1:Int))),(10,.int .i64 (p:Int))],.row q.2.2.2 q.2.2.1.length 40 18 :: .box b8 59 [.sl 2 ((C8 t).1.map F1),.row q.2.2.2 18 q.2.2.1] :: .box b2 59 giy::H,97⟩:St)) (fun p=>p≤q.2.1.length∧((q.2.1.take p).map (·.name)).contains a.text=false) (fun p=>q.2.1.length-p) (0) ?_ Bv ?_
  · exact ⟨Dh _,rfl⟩
  rintro p hN;refine Rd (Qp Am (Qp Cc (AOL.Aan (Af (k:=1) (c:=.row _ _ _) tok rfl rfl rfl rfl) rfl rfl (Qp (Ec (n:=q.2.1.length) tok rfl rfl rfl (hrl)) (Qp Bp (Ae (Ao (fun hc4=>?_) fun hc4=>?_)))))))
  ·
   obtain ⟨x,hax⟩:=By hc4;have hltx:=Bj hax;have hmx:=B6 hax;refine A7 (AW.seq (AW.block (AW.seq ?_)));refine AW.draw mixed (fun H'=>_∈H') (B6 (i:=1) rfl) (by kernel_rfl) ?_;refine Qn 0 rfl Cc (Qn 1 rfl (OpP.Aap (fun k=>Af (k:=k) (c:=.row _ _ _) tok rfl rfl rfl rfl) (fun _ h=>h)) ?_);refine Qn 2 rfl Am ?_;refine Qn 3 rfl (X7 (c:=Fu) tok rfl rfl rfl rfl rfl rfl (by omega) (qy_at hrw hax)) ?_;refine Qn 4 rfl (Qf Fu) (Qn 5 rfl C9 (Qn 6 rfl (Qf Ef) (Qn 7 rfl B7 (Qn 8 rfl Am ?_))));refine Qn 9 rfl (Aa (c:=Aq) tok rfl rfl rfl rfl rfl rfl (by omega) (Bz ha)) ?_;refine Qn 10 rfl (Qf Ik) (Qn 11 rfl C9 (Qn 12 rfl (A4 rfl rfl) ?_));refine Ej ?_;refine A5 (Ao (fun hc5=>AW.seq ?_) fun hc5=>Rf (AW.region (Qp Am (Qp Dl (Qp Al (Ae ?_))))))
   ·
    refine Gi ?_;refine Qn 0 rfl (Du [_,_]) (Qn 1 rfl (Qf Ef) (Qn 2 rfl B7 (Qn 3 rfl Am ?_)));refine Qn 4 rfl (Aa (c:=Aq) tok rfl rfl rfl rfl rfl rfl (by omega) (Bz ha)) ?_;refine Qn 5 rfl (Qf [Iq _]) (Qn 6 rfl Bf ?_);refine Jj 7 rfl (A6 (k:=2) (v:=.agg _) (cs':=[_,_]) (H2:=_::_::_::_) tok rfl rfl rfl rfl (rfl) rfl rfl rfl rfl) ?_;refine Qn 8 rfl Al (Qn 9 rfl Al ?_);refine Ej ?_;refine A5 (AW.ret (Rj (Av (B9 (Av (Av (B9 (Av ?_))))))));refine ⟨.inr rfl,[.agg [_,_],Iq _,Iq _],.cons (.box _ _ _ 2 _ _ _ _ rfl rfl rfl rfl rfl rfl) <| .cons (.tmp _ _ rfl) <| .cons (.tmp _ _ rfl) <| .nil,.cons _ (.cons _ (.cons _ (.refl _))),?_⟩;exact Eq.trans rfl (congrArg (fun q:Pg×Int×Int=>AV.tuple [.agg (cPg q.1),.int .i64 q.2.1,.int .i64 q.2.2]) (sZ hw he ((Yd (G4 hw) he (C8 t).1).symm.trans (hR.2.1.trans (pgf_7 ha2 hc3 (nm_hit hax hc5)))) rfl)).symm
   refine ⟨p+1,?_,?_,Bv⟩
   · exact ⟨hltx,nm_snoc hN.2 hax hc5⟩
   omega
  have hte:=Cn hc4;have hnx:=hN.2;rw [hte] at hnx;refine AW.exit ?_;refine Bk (Ri (Ad (Qp Fh (Qp (Qf Ef) (Qp B7 (Qp Am ?_))))));refine Qp (Aa (c:=Aq) tok rfl rfl rfl rfl rfl rfl (by omega) (Bz ha)) ?_;refine Qp (Bo Aq) (Qp (Qc rfl (iJ (C8 t).1 htp a ⟨hma,hqa⟩)) (Qp Lm (Qp (B2 (v:=.agg Fu) rfl rfl) (Qp Ib (Qp Ib (Dt cL fun b11=>?_))))));refine Bt 0 Fu (_::_::_::_::_) ?_;refine Qp Al (Qp Al ?_);refine AOL.ghost (GS.freeze (t:=11) 0 rfl rfl) ?_;refine Ae (Rd (Qp Am (Qp Bu (Ae (Ao (fun hc6=>Ad (Qp (Du [_,_]) (Qp Am (Qp Am ?_)))) fun hc6=>?_)))))
  ·
   refine Bt 2 [_,_] (_::_::_::_) (Qp Al (Qp Al (Rc (Rj (Av ?_)))));refine ⟨.inr rfl,[.agg [_,_],Iq _,Iq _],.cons (.box _ _ _ 2 _ _ _ _ rfl rfl rfl rfl rfl rfl) <| .cons (.tmp _ _ rfl) <| .cons (.tmp _ _ rfl) <| .nil,.cons _ (.cons _ (.cons _ (.refl _))),?_⟩;exact Eq.trans rfl (congrArg (fun q:Pg×Int×Int=>AV.tuple [.agg (cPg q.1),.int .i64 q.2.1,.int .i64 q.2.2]) (sZ hw he ((Yd (G4 hw) he (C8 t).1).symm.trans (hR.2.1.trans (pgf_f ha2 hc3 hnx hc6))) hc6)).symm
  have hqn:=jI hc6;refine A7 (AW.region (Qp Cc (AOL.Aan (Af (k:=1) (c:=.row _ _ _) tok rfl rfl rfl rfl) rfl rfl (Qp (Bo Fu) (Qp (Ak (es:=[Fu]) tok rfl rfl rfl rfl rfl rfl rfl rfl rfl) ?_)))));refine Qe (B8 (k:=0) tok rfl rfl rfl rfl rfl rfl rfl rfl (Dy rfl) (hso) (by simp;omega) (by simp [maxLen];omega)) ?_;rintro _ _ ⟨v94,rfl,rfl⟩;refine Qp Cc ?_;refine Bt 1 [_,_] (_::_::_::_) (Rk (AW.region (Qp Am (Qp Dl (Qp Al (Ae ?_))))));refine ⟨(q.1+1,q.2.1 ++ [(C0 (C8 t).1 a).1],q.2.2.1 ++ [cQy (C0 (C8 t).1 a).1],v94),?_,?_,GS.weaken ⟨rfl,rfl,rfl,rfl,congrArg (AV.int .i64) (show (((C8 t).1.length:Int)+(q.1:Int))+1=((C8 t).1.length:Int)+((q.1+1:Nat):Int) by omega),trivial⟩ (.refl _)⟩
  · exact ⟨hlt2,hR.2.1.trans (pgf_on ha2 hc3 hnx hc6),by simp only [Cb,K9];exact Yu ho16 hc3,by simp [hrw]⟩
  simp only;omega
 have hqe:q.1=(t.kids.drop (C8 t).1.length).length:=by have h1:=If hc2;have h2:=hR.1;rw [Jf] at h2 ⊢;omega
 have hall:=hR.2.1;rw [hqe,List.drop_length,Hl] at hall;refine AW.exit ?_;refine Bk (Ri (Ad ?_));refine AOL.ghost (GS.cell (H2:=_::_::_::_) 1 1 rfl rfl rfl rfl E9) ?_;refine AOL.Aan (A2 (k:=1) (l:=[_,_]) tok rfl rfl rfl rfl rfl) rfl rfl ?_;refine Bt 2 [_,_] (_::_::_::_) (Qp Al (Qp Al (Rb ?_)));refine ⟨.inr rfl,[.agg [_,_],Iq _,Iq _],.cons (.box _ _ _ 2 _ _ _ _ rfl rfl rfl rfl rfl rfl) <| .cons (.tmp _ _ rfl) <| .cons (.tmp _ _ rfl) <| .nil,.cons _ (.cons _ (.cons _ (.refl _))),?_⟩;exact Eq.trans (congrArg (fun l:List (List AV)=>AV.tuple [.agg [.sl 2 ((C8 t).1.map F1),.sl 18 l],.int .i64 0,.int .i64 0]) hR.2.2.2) (congrArg (fun q:Pg×Int×Int=>AV.tuple [.agg (cPg q.1),.int .i64 q.2.1,.int .i64 q.2.2]) (pp_y hw he ((Yd (G4 hw) he (C8 t).1).symm.trans hall))).symm
set_option maxHeartbeats 1600000
set_option maxRecDepth 20000

theorem eqb (n:Int):(n==n)=true:=by simp
def fewT (T:List e8Sc):Bool:=if T.any (fun s=>decide ((20:Int)<(s.fields.length:Int))||decide ((100:Int)<(s.name.length:Int))) then false else decide ((T.length:Int)≤20)
theorem few_no {T:List e8Sc}{k:Nat}{a:e8Sc}(ha:T[k]? = some a)(h:(decide ((20:Int)<(a.fields.length:Int))||decide ((100:Int)<(a.name.length:Int)))=true):fewT T=false:=by
 unfold fewT;rw [if_pos (List.any_eq_true.2 ⟨a,B6 ha,h⟩)]
theorem n3_few (T:List e8Sc)(hl:T.length≤1048576)(hs:∀s∈T,Zd s):An Tryz.prog 12 [.sl 2 (T.map F1)] (.bool (fewT T)):=by
 refine An.body (n:=29) tok Tryz.func12 rfl rfl rfl fun H=>?_
 refine Ad (Qp Au (Ae (Rd (Qp Al (Ae (AW.block ?_))))));refine AW.Aam (fun (k:Nat)=>(⟨[(0,.sl 2 (T.map F1)),(3,.int .i64 (k:Int))],H,29⟩:St)) (fun k=>k≤T.length∧(T.take k).any (fun s=>decide ((20:Int)<(s.fields.length:Int))||decide ((100:Int)<(s.name.length:Int)))=false) (fun k=>T.length-k) (0) ?_ Bv ?_
 · exact ⟨Dh _,by simp⟩
 rintro k hR;refine Rd (Qp Am (Qp Fh ?_));refine Qp (Ai (n:=T.length) tok rfl rfl rfl (by simp)) ?_;refine Qp Bp (Ae (Ao (fun hc1=>?_) fun hc1=>?_))
 ·
  obtain ⟨a,ha⟩:=By hc1;have hlt:=Bj ha;have hm:=B6 ha;have hok:=hs a hm;have ho1:=hok.1;have ho2:=hok.2.1;refine A7 (AW.seq (AW.block (Ad (Qp Fh (Qp Am ?_)))));refine Qp (Aa (c:=Ji) tok rfl rfl rfl rfl rfl rfl (by omega) (Ct ha)) ?_;refine Qp (Qf [_]) (Qp B7 ?_);refine Qp (Ai (n:=a.fields.length) tok rfl rfl rfl (by simp)) ?_;refine Qp Do (Qp A9 (Qg [] Qw Fh (Qg [] Qw Am ?_)));refine AOL.Aal (y:=.ptr _) _ [(18,_),(19,_)] rfl (uB.all ⟨Ent.Aak _ _,Ent.Aak _ _,trivial⟩) (fun hG=>Aa (c:=Ji) tok rfl rfl rfl rfl rfl rfl (by omega) (Ct ha)) rfl ?_;refine Qg [(20,_)] Qw (Qf Ji) (Qg [(21,_)] Qw C9 (AOL.Aal (y:=Iq _) _ [(22,_)] rfl (uB.all ⟨Ent.Aak _ _,trivial⟩) (fun hG=>Bx (n:=a.name.length) tok rfl rfl rfl (rfl)) rfl ?_));refine Qg [(23,_)] Qw Do (Qp Cf (Ae (Ao (fun hc2=>Ad (Qp Au (Ra (Av (B9 (Av (Qr (.bool _) ?_))))))) fun hc2=>Rf (AW.region (Qp Am (Qp Dl (Qp Al (Ae ?_))))))))
  · exact Eq.trans rfl (congrArg (fun q:Bool=>AV.bool q) (few_no ha hc2)).symm
  refine ⟨k+1,?_,?_,Bv⟩
  · exact ⟨hlt,Gu hR.2 ha hc2⟩
  omega
 have hte:=Cn hc1;have hall:=hR.2;rw [hte] at hall;refine AW.exit ?_;refine Bk (Ri (Ad (Qp Fh ?_)));refine Qp (Ai (n:=T.length) tok rfl rfl rfl (by simp)) ?_;refine Qp Ox (Qp Au (Rb (Qr (.bool _) ?_)));exact Eq.trans rfl (congrArg (fun q:Bool=>AV.bool q) ((Bi hall:fewT T=decide ((T.length:Int)≤20)))).symm
theorem T0 (t:Syn):An Tryz.prog 6 [.agg (cSyn t)] (.bool true):=by
 refine An.body (n:=41) tok Tryz.func6 rfl rfl rfl fun H=>?_
 refine Ad (Qp (Ed Aq) (Qp Au (Ae (Rd (Qp (Bo Aq) (Qp (Qc rfl (f_few t)) (Qp Ew (Ae (Ao (fun hc1=>Ad (Qp (Qc rfl (Ye)) (Qp Au (Rc (Qr (.bool _) ?_))))) fun hc1=>?_)))))))))
 · rfl
 have hf:G0 t=true:=by simpa using hc1
 refine A7 (Ad (Qp (Bo Aq) (Qp (Qc rfl (oH t (Og hf))) (Qp Lm (Qp (B2 (v:=.agg [_,_]) rfl rfl) (Qp Ib (Qp Ib (Dt giy fun b3=>?_))))))));refine Bt 0 [_,_] (_::_) (Qp Al (Qp Al ?_));refine AOL.ghost (GS.freeze (t:=3) 0 rfl rfl) ?_;refine Bs (Qp (Bo Aq) (Qp (Qc rfl (nD t hf)) (Qp Lm (Qp (B2 (v:=.agg [_,_]) rfl rfl) (Qp Ib (Qp Ib (Dt giy fun b6=>?_)))))));refine Bt 0 [_,_] (_::_) (Qp Al (Qp Al ?_));refine AOL.ghost (GS.freeze (t:=6) 0 rfl rfl) ?_;refine Bs (Qp (Qc rfl (Ye)) (Qp A9 (Qg [] Qw (Bo [_,_]) (Qg [] Qw (Bo [_,_]) (AOL.Aal (y:=.bool _) _ [(27,_),(28,_)] rfl (uB.all ⟨Ent.Aak _ _,Ent.Aak _ _,trivial⟩) (fun hG=>Qc rfl (n4_sp (Tf t).1 (prg_med (Og hf)))) rfl ?_)))));refine Qp Ea (Qp A9 (Qg [] Qw Am (Qg [] Qw Am (AOL.Aal (y:=.bool _) _ [(32,_),(33,_)] rfl (uB.all ⟨Ent.Aak _ _,Ent.Aak _ _,trivial⟩) (fun hG=>Sy rfl rfl) rfl ?_))));refine Qp Ea (Qp A9 (Qg [] Qw Am (Qg [] Qw Am (AOL.Aal (y:=.bool _) _ [(37,_),(38,_)] rfl (uB.all ⟨Ent.Aak _ _,Ent.Aak _ _,trivial⟩) (fun hG=>Sy rfl rfl) rfl ?_))));refine Qp Ea (Qp Au (Rb (Qr (.bool _) ?_)));show AV.bool (((true&&true)&&(_==_))&&(_==_))=AV.bool true;rw [eqb,eqb];rfl
theorem U7 (T:List e8Sc)(hl:T.length≤1048576)(hs:∀s∈T,Zd s)(t:Syn):An Tryz.prog 3 [.sl 2 (T.map F1),.agg (cSyn t)] (.bool true):=by
 refine An.body (n:=50) tok Tryz.func3 rfl rfl rfl fun H=>?_
 refine Ad (Qp (Ed Aq) (Qp Au (Ae (Rd (Qp (Bo Aq) (Qp (Qc rfl (f_few t)) (Qp Ew (Qp A9 (Qg [] Qw Fh (Qg [(15,_)] Qw (Qc rfl (n3_few T hl hs)) (Qg [(16,_)] Qw Ew (Qp Cf (Ae (Ao (fun hc1=>Ad (Qp (Qc rfl (Ye)) (Qp Au (Rc (Qr (.bool _) ?_))))) fun hc1=>?_))))))))))))))
 · rfl
 have hf:G0 t=true:=by rw [Ke] at hc1;simpa using hc1.1
 refine A7 (Ad (Qp Fh (Qp (Bo Aq) (Qp (Qc rfl (kM T hl hs t (Og hf))) (Qp Lm (Qp (B2 (v:=.agg Fu) rfl rfl) (Qp Ib (Qp Ib (Dt cL fun b5=>?_)))))))));refine Bt 0 Fu (_::_) ?_;refine Qp Al (Qp Al ?_);refine AOL.ghost (GS.freeze (t:=5) 0 rfl rfl) ?_;refine Bs (Qp Fh (Qp (Bo Aq) (Qp (Qc rfl (yK T hl hs t hf)) (Qp Lm (Qp (B2 (v:=.agg Fu) rfl rfl) (Qp Ib (Qp Ib (Dt cL fun b8=>?_))))))));refine Bt 0 Fu (_::_) ?_;refine Qp Al (Qp Al ?_);refine AOL.ghost (GS.freeze (t:=8) 0 rfl rfl) ?_;refine Bs (Qp (Qc rfl (Ye)) (Qp A9 (Qg [] Qw (Bo Fu) (Qg [] Qw (Bo Fu) (AOL.Aal (y:=.bool _) _ [(36,_),(37,_)] rfl (uB.all ⟨Ent.Aak _ _,Ent.Aak _ _,trivial⟩) (fun hG=>Qc rfl (n4_sq (Pu T t).1 (qp_med (Og hf)))) rfl ?_)))));refine Qp Ea (Qp A9 (Qg [] Qw Am (Qg [] Qw Am (AOL.Aal (y:=.bool _) _ [(41,_),(42,_)] rfl (uB.all ⟨Ent.Aak _ _,Ent.Aak _ _,trivial⟩) (fun hG=>Sy rfl rfl) rfl ?_))));refine Qp Ea (Qp A9 (Qg [] Qw Am (Qg [] Qw Am (AOL.Aal (y:=.bool _) _ [(46,_),(47,_)] rfl (uB.all ⟨Ent.Aak _ _,Ent.Aak _ _,trivial⟩) (fun hG=>Sy rfl rfl) rfl ?_))));refine Qp Ea (Qp Au (Rb (Qr (.bool _) ?_)));show AV.bool (((true&&true)&&(_==_))&&(_==_))=AV.bool true;rw [eqb,eqb];rfl
open Go Go.Aw Go.ChangeShapes Go.WideShapes Go.ChangeAt Go.RowKit
set_option maxRecDepth 100000

theorem laid:laidOutB Tryz.prog=true:=by kernel_rfl
theorem own:ownKnob Tryz.prog.godebug=none:=by kernel_rfl
def rA:AV→Value
 | .str s=>.string ⟨s.toArray⟩
 | .int k n=>.int k n
 | .bool b=>.bool b
 | _=>.int .i64 0
def opsOf (l:List (A1×Int)):List AV:=l.flatMap fun x=>[.str x.1,.int .i64 x.2]
def zU:List AV→List (A1×Int)
 | .str s :: .int _ n::r=>(s,n)::zU r
 | _=>[]
def Tk (W:World)(gl:Nat)(l:List AV):Prop:=Rep g0 W (.pointer (some ⟨gl,0,none⟩)) (.ptr l)
def fC:AV→Bool
 | .str s=>decide (s.length≤maxLen)
 | .int _ _=>true
 | .bool _=>true
 | _=>false
theorem tT {g:Gh}{w:World}{x:AV}(h:fC x=true):Rep g w (rA x) x:=by
 cases x <;> simp only [fC,B0,Hi] at h
 all_goals first | exact .int _ _ | exact .bool _ | exact S9 h
theorem Wi {W:World}{n:String}{gl:Nat}{cs:Array Value}{l:List AV}(hn:Tryz.prog.globalNamed n=some gl)(hv:W.var? Tryz.prog n=some cs)(hc:cs.toList=l.map rA)(hp:l.all fC=true):Tk W gl l:=by
 have hcell:∀j,W.cell? ⟨gl,j,none⟩=cs[j]? :=fun j=>World.var?_cell hn hv j
 refine .ptr gl 0 _ (fun j=>(l[j]?.map rA).getD default) (fun j x hj=>?_) (fun j x hj=>?_)
 ·
  refine ⟨trivial,?_⟩;rw [Ie,hcell j,←Array.getElem?_toList,hc,List.getElem?_map,hj];simp
 simp only [hj,Pq,Option.getD_some];exact tT (bS.1 hp _ (B6 hj))
theorem bJ {H:Type}{enc:TypeId×Value→H}{P:Program}{w:World}{base:Nat}{sp:Nat→Bool}{held:Bool}{Bg:Nat}{t e:TypeId}{n:Nat}{cs:List Value}{ss:List A1}{p:List MemPlace}
    (ht:P.underlying t=some (.array n e)) (he:P.underlying e=some .string) (hce:P.cellsOf e=1) (hct:P.cellsOf t=n)
    (h:DataW.trod enc P w base sp held Bg t cs=some (.agg (ss.map fun s=>.lit (.string s)),p)):cs=ss.map fun s=>Value.string ⟨s.toArray⟩:=by
  cases Bg with
  | zero=>simp [DataW.trod] at h
  | succ Bg=>
    simp only [DataW.trod,ht,hce,hct,Nat.mul_one] at h;split at h
    · rename_i hl
      obtain ⟨xs,hm,hx⟩:=sR.1 h
      have hxs:xs.map (·.1)=ss.map fun s=>(DataW.lit (.string s):DataW H):=by
        have:=congrArg Prod.fst hx;simpa using this
      have hxl:xs.length=n:=by simpa using Lib.mapM_length hm
      have hzl:ss.length=n:=by
        have:=congrArg List.length hxs;simp at this;omega
      apply oP
      intro i;by_cases hi:i<n
      · obtain ⟨b,hb,hf⟩:=Lib.mapM_at hm i i (by simp [hi])
        obtain ⟨z,hc,rfl,_⟩:=DataW.trod_string he hf
        have h1:cs[i]? = some (.string z):=by
          have:=congrArg (·[0]?) hc;simpa [List.getElem?_take,List.getElem?_drop] using this
        have h2:(xs.map (·.1))[i]? = some (DataW.lit (.string z.data.toList):DataW H):=by simp [hb]
        rw [hxs] at h2;simp only [List.getElem?_map,sR,DataW.lit.injEq,Lit.string.injEq] at h2;obtain ⟨z',hz',rfl⟩:=h2;simp [h1,hz']
      rw [List.getElem?_eq_none (by omega),List.getElem?_eq_none (by simp;omega)]
    cases h
theorem chunk2 {α β:Type}(f g:α→β):∀(ss:List α) (cs:List β),cs.length=2*ss.length→(∀i x,ss[i]? = some x→(cs.drop (i*2)).take 2 = [f x,g x])→cs=ss.flatMap fun x=>[f x,g x]
  | [],cs,hl,_=>by simpa using hl
  | x::ss,cs,hl,h=>by
    have h0:=h 0 x rfl
    match cs,hl with
    | a::b::r,hl=>
      simp at h0;obtain ⟨rfl,rfl⟩:=h0
      have:=chunk2 f g ss r (by simp at hl;omega) (fun i y hy=>by
        have:=h (i+1) y (by simpa using hy)
        rwa [show (i+1)*2=i*2+1+1 by omega,List.drop_succ_cons,List.drop_succ_cons] at this)
      simp [←this]
    | [],hl=>simp at hl
    | [_],hl=>simp at hl;omega
theorem Lj {H:Type}{enc:TypeId×Value→H}{P:Program}{w:World}{base:Nat}{sp:Nat→Bool}{held:Bool}{Bg:Nat}{t e:TypeId}{n:Nat}{cs:List Value}{ss:List (A1×Int)}{p:List MemPlace}{f0 f1:Field}
    (ht:P.underlying t=some (.array n e)) (he:P.underlying e=some (.struct #[f0,f1])) (o0:f0.offset=0) (o1:f1.offset=1) (t0:P.underlying f0.type=some .string) (t1:P.underlying f1.type=some (.int .i64)) (c0:P.cellsOf f0.type=1) (c1:P.cellsOf f1.type=1) (hce:P.cellsOf e=2) (hct:P.cellsOf t=n*2)
    (h:DataW.trod enc P w base sp held Bg t cs=some (.agg (ss.map fun s=>.agg [.lit (.string s.1),.lit (.int .i64 s.2)]),p)):cs=ss.flatMap fun s=>[Value.string ⟨s.1.toArray⟩,.int .i64 s.2]:=by
  cases Bg with
  | zero=>simp [DataW.trod] at h
  | succ Bg=>
    simp only [DataW.trod,ht,hce,hct] at h;split at h
    · rename_i hl
      obtain ⟨xs,hm,hx⟩:=sR.1 h
      have hxs:xs.map (·.1)=ss.map fun s=>(DataW.agg [.lit (.string s.1),.lit (.int .i64 s.2)]:DataW H):=by
        have:=congrArg Prod.fst hx;simpa using this
      have hxl:xs.length=n:=by simpa using Lib.mapM_length hm
      have hzl:ss.length=n:=by
        have:=congrArg List.length hxs;simp at this;omega
      apply chunk2
      · omega
      intro i x hi;have hin:i<n:=by have:=(List.getElem?_eq_some_iff.1 hi).1;omega
      obtain ⟨b,hb,hf⟩:=Lib.mapM_at hm i i (by simp [hin]);obtain ⟨y0,y1,m,rfl,hlen,h0,h1⟩:=trod_struct2 he hf;obtain ⟨z,hz,rfl,_⟩:=DataW.trod_string t0 h0;obtain ⟨k,hk,rfl,_⟩:=DataW.trod_int t1 h1;have h2:(xs.map (·.1))[i]? = some (DataW.agg [.lit (.string z.data.toList),.lit (.int .i64 k)]:DataW H):=by simp [hb]
      rw [hxs] at h2;simp [hi] at h2;obtain ⟨e1,e2⟩:=h2;rw [o0,c0] at hz;rw [o1,c1] at hk;have hl2:((cs.drop (i*2)).take 2).length=2:=by rw [hlen,hce]
      match hq:(cs.drop (i*2)).take 2,hl2 with
      | [a,b],_=>
        rw [hq] at hz hk;simp at hz hk;subst hz hk;simp [e1,e2]
    cases h
theorem chunkN {α β:Type}(k:Nat)(f:α→List β)(hf:∀x,(f x).length=k):∀(ss:List α) (cs:List β),cs.length=k*ss.length→(∀i x,ss[i]? = some x→(cs.drop (i*k)).take k=f x)→cs=ss.flatMap f
  | [],cs,hl,_=>by simpa using hl
  | x::ss,cs,hl,h=>by
    have h0:=h 0 x rfl;rw [Nat.zero_mul,Sj] at h0
    have ih:=chunkN k f hf ss (cs.drop k) (by rw [Jf,hl,Cj,Nat.mul_succ];omega) fun i y hy=>by
      have:=h (i+1) y (by simpa using hy)
      rwa [List.drop_drop,show k+i*k=(i+1)*k by rw [Nat.succ_mul,Nat.add_comm]]
    rw [bL,←ih,←h0,List.take_append_drop]
theorem X0 {H:Type}{enc:TypeId×Value→H}{P:Program}{w:World}{base:Nat}{sp:Nat→Bool}{held:Bool}{Bg:Nat}{t e:TypeId}{n:Nat}{cs:List Value}{ss:List Shp}{p:List MemPlace}{f0 f1 f2 f3 f4 f5:Field}
    (ht:P.underlying t=some (.array n e)) (he:P.underlying e=some (.struct #[f0,f1,f2,f3,f4,f5])) (ho:f0.offset=0∧f1.offset=1∧f2.offset=2∧f3.offset=3∧f4.offset=4∧f5.offset=5)
    (t0:P.underlying f0.type=some (.int .i64)) (t1:P.underlying f1.type=some (.int .i64)) (t2:P.underlying f2.type=some .bool) (t3:P.underlying f3.type=some .bool) (t4:P.underlying f4.type=some .bool) (t5:P.underlying f5.type=some .bool)
    (hcc:P.cellsOf f0.type=1∧P.cellsOf f1.type=1∧P.cellsOf f2.type=1∧P.cellsOf f3.type=1∧P.cellsOf f4.type=1∧P.cellsOf f5.type=1) (hce:P.cellsOf e=6) (hct:P.cellsOf t=n*6)
    (h:DataW.trod enc P w base sp held Bg t cs=some (.agg (ss.map fun s=>.agg [.lit (.int .i64 s.least),.lit (.int .i64 s.most),.lit (.bool s.typed),.lit (.bool s.cond),.lit (.bool s.scope),.lit (.bool s.span)]),p)) :
    cs=ss.flatMap fun s=>[Value.int .i64 s.least,.int .i64 s.most,.bool s.typed,.bool s.cond,.bool s.scope,.bool s.span]:=by
  cases Bg with
  | zero=>simp [DataW.trod] at h
  | succ Bg=>
    simp only [DataW.trod,ht,hce,hct] at h;split at h
    · rename_i hl
      obtain ⟨xs,hm,hx⟩:=sR.1 h
      have hxs:xs.map (·.1)=ss.map fun s=>(DataW.agg [.lit (.int .i64 s.least),.lit (.int .i64 s.most),.lit (.bool s.typed),.lit (.bool s.cond),.lit (.bool s.scope),.lit (.bool s.span)]:DataW H):=by
        have:=congrArg Prod.fst hx;simpa using this
      have hxl:xs.length=n:=by simpa using Lib.mapM_length hm
      have hzl:ss.length=n:=by
        have:=congrArg List.length hxs;simp at this;omega
      apply chunkN 6 _ (fun _=>rfl)
      · omega
      intro i x hi;have hin:i<n:=by have:=(List.getElem?_eq_some_iff.1 hi).1;omega
      obtain ⟨b,hb,hf⟩:=Lib.mapM_at hm i i (by simp [hin]);obtain ⟨ys,m,_,rfl,hlen,hyl,hfs⟩:=DataW.trod_struct he hf
      match ys,hyl with
      | [y0,y1,y2,y3,y4,y5],_=>
        obtain ⟨o0,o1,o2,o3,o4,o5⟩:=ho;obtain ⟨c0,c1,c2,c3,c4,c5⟩:=hcc;obtain ⟨k0,e0,rfl,_⟩:=DataW.trod_int t0 (show _=some y0 by simpa using hfs 0 f0 rfl);obtain ⟨k1,e1,rfl,_⟩:=DataW.trod_int t1 (show _=some y1 by simpa using hfs 1 f1 rfl);obtain ⟨k2,e2,rfl⟩:=DataW.trod_bool t2 (show _=some y2 by simpa using hfs 2 f2 rfl);obtain ⟨k3,e3,rfl⟩:=DataW.trod_bool t3 (show _=some y3 by simpa using hfs 3 f3 rfl);obtain ⟨k4,e4,rfl⟩:=DataW.trod_bool t4 (show _=some y4 by simpa using hfs 4 f4 rfl);obtain ⟨k5,e5,rfl⟩:=DataW.trod_bool t5 (show _=some y5 by simpa using hfs 5 f5 rfl);have h2:(xs.map (·.1))[i]? = some (DataW.agg [.lit (.int .i64 k0),.lit (.int .i64 k1),.lit (.bool k2),.lit (.bool k3),.lit (.bool k4),.lit (.bool k5)]:DataW H):=by simp [hb]
        rw [hxs] at h2;simp [hi] at h2;obtain ⟨q0,q1,q2,q3,q4,q5⟩:=h2;rw [o0,c0] at e0;rw [o1,c1] at e1;rw [o2,c2] at e2;rw [o3,c3] at e3;rw [o4,c4] at e4;rw [o5,c5] at e5;have hl2:((cs.drop (i*6)).take 6).length=6:=by rw [hlen,hce]
        match hq:(cs.drop (i*6)).take 6,hl2 with
        | [a,b,c,d,e,f],_=>
          rw [hq] at e0 e1 e2 e3 e4 e5;simp at e0 e1 e2 e3 e4 e5;subst e0 e1 e2 e3 e4 e5;simp [q0,q1,q2,q3,q4,q5]
    cases h
theorem Aah {W : World} {r : List (String × DataW Unit)} {ps : List MemPlace} (h : DataW.LaidVars Tryz.prog W (("tidegate/lexer.signs", Rows.laid_tidegate_lexer_signs) :: r) ps) : Tk W 4 Kl ∧ ∃ q, DataW.LaidVars Tryz.prog W r q := by
 obtain ⟨g',t',cs,Bg,p,q,hg',ht',hvar,hd,hr,_⟩:=h;obtain rfl := Option.some.inj ((show Tryz.prog.globalNamed "tidegate/lexer.signs" = some 4 by kernel_rfl).symm.trans hg');obtain rfl:=Option.some.inj ((show (Tryz.prog.globals[4]?).map (·.type)=some 306 by kernel_rfl).symm.trans ht');have:=bJ (ss:=Kl.filterMap fun | .str s=>some s | _=>none) (n:=17) (e:=9) (by kernel_rfl) (by kernel_rfl) (by kernel_rfl) (by kernel_rfl) hd;exact ⟨Wi (n := "tidegate/lexer.signs") (by kernel_rfl) hvar (by rw [this]; rfl) (by decide), q, hr⟩
theorem ors_of {W : World} {r : List (String × DataW Unit)} {ps : List MemPlace} (h : DataW.LaidVars Tryz.prog W (("tidegate/parser.ors", Rows.laid_tidegate_parser_ors) :: r) ps) : Tk W 1 Q9 ∧ ∃ q, DataW.LaidVars Tryz.prog W r q := by
 obtain ⟨g',t',cs,Bg,p,q,hg',ht',hvar,hd,hr,_⟩:=h;obtain rfl := Option.some.inj ((show Tryz.prog.globalNamed "tidegate/parser.ors" = some 1 by kernel_rfl).symm.trans hg');obtain rfl:=Option.some.inj ((show (Tryz.prog.globals[1]?).map (·.type)=some 270 by kernel_rfl).symm.trans ht');have := Lj (ss := zU Q9) (n := 1) (e := 269) (by kernel_rfl) (show Tryz.prog.underlying 269 = some (.struct #[⟨ "text", 9, 0, false, "", "tidegate/parser", 0⟩, ⟨ "op", 3, 1, false, "", "tidegate/parser", 16⟩]) by kernel_rfl) rfl rfl (by kernel_rfl) (by kernel_rfl) (by kernel_rfl) (by kernel_rfl) (by kernel_rfl) (by kernel_rfl) hd;exact ⟨Wi (n := "tidegate/parser.ors") (by kernel_rfl) hvar (by rw [this]; rfl) (by decide), q, hr⟩
theorem ands_of {W : World} {r : List (String × DataW Unit)} {ps : List MemPlace} (h : DataW.LaidVars Tryz.prog W (("tidegate/parser.ands", Rows.laid_tidegate_parser_ands) :: r) ps) : Tk W 3 Nr ∧ ∃ q, DataW.LaidVars Tryz.prog W r q := by
 obtain ⟨g',t',cs,Bg,p,q,hg',ht',hvar,hd,hr,_⟩:=h;obtain rfl := Option.some.inj ((show Tryz.prog.globalNamed "tidegate/parser.ands" = some 3 by kernel_rfl).symm.trans hg');obtain rfl:=Option.some.inj ((show (Tryz.prog.globals[3]?).map (·.type)=some 270 by kernel_rfl).symm.trans ht');have := Lj (ss := zU Nr) (n := 1) (e := 269) (by kernel_rfl) (show Tryz.prog.underlying 269 = some (.struct #[⟨ "text", 9, 0, false, "", "tidegate/parser", 0⟩, ⟨ "op", 3, 1, false, "", "tidegate/parser", 16⟩]) by kernel_rfl) rfl rfl (by kernel_rfl) (by kernel_rfl) (by kernel_rfl) (by kernel_rfl) (by kernel_rfl) (by kernel_rfl) hd;exact ⟨Wi (n := "tidegate/parser.ands") (by kernel_rfl) hvar (by rw [this]; rfl) (by decide), q, hr⟩
theorem sums_of {W : World} {r : List (String × DataW Unit)} {ps : List MemPlace} (h : DataW.LaidVars Tryz.prog W (("tidegate/parser.sums", Rows.laid_tidegate_parser_sums) :: r) ps) : Tk W 6 Nk ∧ ∃ q, DataW.LaidVars Tryz.prog W r q := by
 obtain ⟨g',t',cs,Bg,p,q,hg',ht',hvar,hd,hr,_⟩:=h;obtain rfl := Option.some.inj ((show Tryz.prog.globalNamed "tidegate/parser.sums" = some 6 by kernel_rfl).symm.trans hg');obtain rfl:=Option.some.inj ((show (Tryz.prog.globals[6]?).map (·.type)=some 316 by kernel_rfl).symm.trans ht');have := Lj (ss := zU Nk) (n := 2) (e := 269) (by kernel_rfl) (show Tryz.prog.underlying 269 = some (.struct #[⟨ "text", 9, 0, false, "", "tidegate/parser", 0⟩, ⟨ "op", 3, 1, false, "", "tidegate/parser", 16⟩]) by kernel_rfl) rfl rfl (by kernel_rfl) (by kernel_rfl) (by kernel_rfl) (by kernel_rfl) (by kernel_rfl) (by kernel_rfl) hd;exact ⟨Wi (n := "tidegate/parser.sums") (by kernel_rfl) hvar (by rw [this]; rfl) (by decide), q, hr⟩
theorem sC {W : World} {r : List (String × DataW Unit)} {ps : List MemPlace} (h : DataW.LaidVars Tryz.prog W (("tidegate/parser.totals", Rows.laid_tidegate_parser_totals) :: r) ps) : Tk W 8 I3 ∧ ∃ q, DataW.LaidVars Tryz.prog W r q := by
 obtain ⟨g',t',cs,Bg,p,q,hg',ht',hvar,hd,hr,_⟩:=h;obtain rfl := Option.some.inj ((show Tryz.prog.globalNamed "tidegate/parser.totals" = some 8 by kernel_rfl).symm.trans hg');obtain rfl:=Option.some.inj ((show (Tryz.prog.globals[8]?).map (·.type)=some 321 by kernel_rfl).symm.trans ht');have := Lj (ss := zU I3) (n := 4) (e := 269) (by kernel_rfl) (show Tryz.prog.underlying 269 = some (.struct #[⟨ "text", 9, 0, false, "", "tidegate/parser", 0⟩, ⟨ "op", 3, 1, false, "", "tidegate/parser", 16⟩]) by kernel_rfl) rfl rfl (by kernel_rfl) (by kernel_rfl) (by kernel_rfl) (by kernel_rfl) (by kernel_rfl) (by kernel_rfl) hd;exact ⟨Wi (n := "tidegate/parser.totals") (by kernel_rfl) hvar (by rw [this]; rfl) (by decide), q, hr⟩
theorem tU {W : World} {r : List (String × DataW Unit)} {ps : List MemPlace} (h : DataW.LaidVars Tryz.prog W (("tidegate/pattern.shapes", Rows.laid_tidegate_pattern_shapes) :: r) ps) : Tk W 0 Tb ∧ ∃ q, DataW.LaidVars Tryz.prog W r q := by
 obtain ⟨g',t',cs,Bg,p,q,hg',ht',hvar,hd,hr,_⟩:=h;obtain rfl := Option.some.inj ((show Tryz.prog.globalNamed "tidegate/pattern.shapes" = some 0 by kernel_rfl).symm.trans hg');obtain rfl:=Option.some.inj ((show (Tryz.prog.globals[0]?).map (·.type)=some 181 by kernel_rfl).symm.trans ht');have := X0 (ss := shpL) (n := 11) (e := 180) (by kernel_rfl) (show Tryz.prog.underlying 180 = some (.struct #[⟨ "least", 3, 0, false, "", "tidegate/pattern", 0⟩, ⟨ "most", 3, 1, false, "", "tidegate/pattern", 8⟩, ⟨ "typed", 4, 2, false, "", "tidegate/pattern", 16⟩, ⟨ "cond", 4, 3, false, "", "tidegate/pattern", 17⟩, ⟨ "scope", 4, 4, false, "", "tidegate/pattern", 18⟩, ⟨ "span", 4, 5, false, "", "tidegate/pattern", 19⟩]) by kernel_rfl) ⟨rfl, rfl, rfl, rfl, rfl, rfl⟩ (by kernel_rfl) (by kernel_rfl) (by kernel_rfl) (by kernel_rfl) (by kernel_rfl) (by kernel_rfl) ⟨by kernel_rfl, by kernel_rfl, by kernel_rfl, by kernel_rfl, by kernel_rfl, by kernel_rfl⟩ (by kernel_rfl) (by kernel_rfl) hd;exact ⟨Wi (n := "tidegate/pattern.shapes") (by kernel_rfl) hvar (by rw [this]; rfl) (by decide), q, hr⟩
def We:List Int:=[1,10,100,1000,10000,100000,1000000,10000000,100000000,1000000000,10000000000,100000000000,1000000000000,10000000000000,100000000000000,1000000000000000,10000000000000000,100000000000000000,1000000000000000000,10000000000000000000]
theorem qG {W:World}{n:String}{d:DataW Unit}{r:List (String×DataW Unit)}{ps:List MemPlace}(h:DataW.LaidVars Tryz.prog W ((n,d)::r) ps):∃q,DataW.LaidVars Tryz.prog W r q:=by
 obtain ⟨g',t',cs,Bg,p,q,hg',ht',hvar,hd,hr,_⟩:=h;exact ⟨q,hr⟩
theorem pow_of {W : World} {r : List (String × DataW Unit)} {ps : List MemPlace} (h : DataW.LaidVars Tryz.prog W (("internal/strconv.uint64pow10", Rows.laid_internal_strconv_uint64pow10) :: r) ps) : Lib.TabIs Tryz.prog W "internal/strconv.uint64pow10" .u64 We ∧ ∃ q, DataW.LaidVars Tryz.prog W r q := by
 obtain ⟨g',t',cs,Bg,p,q,hg',ht',hvar,hd,hr,_⟩:=h;obtain rfl := Option.some.inj ((show Tryz.prog.globalNamed "internal/strconv.uint64pow10" = some 7 by kernel_rfl).symm.trans hg');obtain rfl:=Option.some.inj ((show (Tryz.prog.globals[7]?).map (·.type)=some 318 by kernel_rfl).symm.trans ht');have:=Lib.cells_of_tab (k:=.u64) (zs:=We) (n:=20) (e:=298) (by kernel_rfl) (by kernel_rfl) (by kernel_rfl) (by kernel_rfl) hd;refine ⟨?_,q,hr⟩;unfold Lib.TabIs;rw [hvar,←this]
theorem pow_heap {W : World} (h : Lib.TabIs Tryz.prog W "internal/strconv.uint64pow10" .u64 We) : ∃ T fr, W.heap[7]? = some (.cells (We.map fun z => Value.int .u64 z).toArray T fr) := by
 have e : Tryz.prog.globalNamed "internal/strconv.uint64pow10" = some 7 := by kernel_rfl
 unfold Lib.TabIs World.var? at h;rw [e] at h
 have hk:∀(X:Array Value) (o:Option Obj),(match o with | some (Obj.cells cs _ _)=>some cs | _=>none)=some X→∃T fr,o=some (Obj.cells X T fr):=by
  intro X o h
  match o,h with
  | some (Obj.cells cs T fr),h=>exact ⟨T,fr,by rw [Option.some.inj h]⟩
 exact hk _ _ h
theorem xQ {W:World}(h:laidMet Tryz.prog Rows.resolveTypesRow.laid W)(hS:W.ShapedOpen Tryz.prog):GlobOK g0 W:=by
  obtain ⟨ps,h,_⟩:=h;obtain ⟨ps,h⟩:=qG h;obtain ⟨ps,h⟩:=qG h;obtain ⟨ht,ps,h⟩:=pow_of h;obtain ⟨hsigns,ps,h⟩:=Aah h;obtain ⟨hors,ps,h⟩:=ors_of h;obtain ⟨hands,ps,h⟩:=ands_of h;obtain ⟨hsums,ps,h⟩:=sums_of h;obtain ⟨htotals,ps,h⟩:=sC h;obtain ⟨hshapes,ps,h⟩:=tU h;refine ⟨fun p hp=>?_,fun p hp=>?_⟩
  · simp only [globals,Hp,aM,or_false] at hp
    rcases hp with rfl | rfl | rfl | rfl | rfl | rfl | rfl | rfl
    · exact ⟨_,rfl,hsigns⟩
    · exact ⟨_,rfl,hors⟩
    · exact ⟨_,rfl,hands⟩
    · exact ⟨_,rfl,hsums⟩
    · exact ⟨_,rfl,htotals⟩
    · skip
      refine ⟨Ta,rfl,?_⟩;have hcell : ∀ j, W.cell? ⟨7, j, none⟩ = (We.map fun z => Value.int .u64 z).toArray[j]? := fun j => World.var?_cell (show Tryz.prog.globalNamed "internal/strconv.uint64pow10" = some 7 by kernel_rfl) ht j
      have hs:Ta=We.map fun z=>AV.int .u64 z:=rfl
      rw [hs];refine .ptr 7 0 _ (fun j=>Value.int .u64 (We.getD j 0)) (fun j x hj=>?_) (fun j x hj=>?_)
      · rw [List.getElem?_map] at hj
        cases hq:We[j]? with
        | none=>rw [hq] at hj;cases hj
        | some y=>
          refine ⟨trivial,?_⟩;rw [Ie,hcell j];simp [hq,Nv]
      · rw [List.getElem?_map] at hj
        cases hq:We[j]? with
        | none=>rw [hq] at hj;cases hj
        | some y=>
          rw [hq] at hj;simp only [Pq,Option.some.injEq] at hj;subst hj;have e:We.getD j 0=y:=by rw [Nv,hq];rfl
          rw [e];exact .int _ _
    · exact ⟨_,rfl,hshapes⟩
    · obtain ⟨m,hm⟩:=Tryz.laysM144.s1_3 W hS
      refine ⟨[.int .i64 m],⟨m,rfl⟩,.ptr 5 0 _ (fun _=>.int .i64 m) (fun j x hj=>?_) (fun j x hj=>?_)⟩
      · have hj0:j=0:=by have:=(List.getElem?_eq_some_iff.1 hj).1;simp at this;omega
        subst hj0;exact ⟨trivial,hm⟩
      · have hj0:j=0:=by have:=(List.getElem?_eq_some_iff.1 hj).1;simp at this;omega
        subst hj0;simp only [List.getElem?_cons_zero,Option.some.injEq] at hj;subst hj;exact .int _ _
  · obtain rfl:=N6.1 hp
    exact ⟨rfl,pow_heap ht⟩
def mL (k:IntKind)(l:List Int):Obj→Obj
 | .cells _ t frozen=>.cells (l.map fun z=>Value.int k z).toArray t frozen
 | o=>o
def ofTab (d:DataW Unit):List Int:=match d with
 | .agg l=>l.map fun | .lit (.int _ n)=>n | _=>0
 | _=>[]
def Nq (l:List AV):Obj→Obj
 | .cells _ t frozen=>.cells (l.map rA).toArray t frozen
 | o=>o
noncomputable def laidWorld (os:Os):World:=
 { World.holding Tryz.prog os ⟨#[],#[],[]⟩ with heap:=((((((((((World.holding Tryz.prog os ⟨#[],#[],[]⟩).heap.modify 4 (Nq Kl)).modify 1 (Nq Q9)).modify 3 (Nq Nr)).modify 6 (Nq Nk)).modify 8 (Nq I3)).modify 0 (Nq Tb)).modify 7 (mL .u64 We)).modify 9 (mL .u8 (ofTab Rows.laid_math_bits_deBruijn32tab))).modify 10 (mL .u8 (ofTab Rows.laid_math_bits_deBruijn64tab))) }
end Go.Proofs.YtckhoadldibflaaGreatDoor

namespace Go.Aw
open Go
section
variable {H:Type} {enc:TypeId×Value→H} {P:Program} {w:World} {sp:Nat→Bool} {hd:Bool} {B:DataW H→Nat} {BA:List (DataW H)→Nat}
end
end Go.Aw

namespace Go.Proofs.YtckhoadldibflaaGreatDoor
open Go Go.Aw
set_option maxRecDepth 20000

theorem N8 {H:Type}:Bulk (Rows.uptoBulk (H:=H)) Rows.uptoBulkAll where
 nil:=by simp [Rows.uptoBulkAll]
 cons:=by intro x r;simp [Rows.uptoBulkAll]
 agg:=by intro ps;simp [Rows.uptoBulk]
 slice:=by intro es sp;simp only [Rows.uptoBulk];omega
 str:=by intro s;simp [Rows.uptoBulk]
 one:=by
  intro d;cases d with
  | lit l=>cases l <;> simp [Rows.uptoBulk]
  | _=>simp [Rows.uptoBulk]
theorem u_Sy : Tryz.prog.underlying 25 = some (.struct #[⟨ "Kind", 3, 0, false, "", "", 0⟩, ⟨ "Text", 9, 1, false, "", "", 8⟩, ⟨ "Name", 9, 2, false, "", "", 24⟩, ⟨ "Num", 3, 3, false, "", "", 40⟩, ⟨ "Kids", 23, 4, false, "", "", 48⟩, ⟨ "At", 3, 5, false, "", "", 72⟩]) := by kernel_rfl
theorem z_Sy:Tryz.prog.cellsOf 25=6:=by kernel_rfl
theorem u_Sys:Tryz.prog.underlying 23=some (.slice 25):=by kernel_rfl
theorem z_Sys:Tryz.prog.cellsOf 23=1:=by kernel_rfl
theorem u_Sc : Tryz.prog.underlying 69 = some (.struct #[⟨ "Name", 9, 0, false, "", "", 0⟩, ⟨ "Fields", 67, 1, false, "", "", 16⟩]) := by kernel_rfl
theorem z_Sc:Tryz.prog.cellsOf 69=2:=by kernel_rfl
theorem u_Tys:Tryz.prog.underlying 22=some (.slice 69):=by kernel_rfl
theorem u_Fi : Tryz.prog.underlying 111 = some (.struct #[⟨ "Name", 9, 0, false, "", "", 0⟩, ⟨ "Kind", 3, 1, false, "", "", 16⟩]) := by kernel_rfl
theorem z_Fi:Tryz.prog.cellsOf 111=2:=by kernel_rfl
theorem u_Fis:Tryz.prog.underlying 67=some (.slice 111):=by kernel_rfl
theorem z_Fis:Tryz.prog.cellsOf 67=1:=by kernel_rfl
def I64 (n:Int):Prop:=-9223372036854775808≤n∧n≤9223372036854775807
theorem wf_I64 {n:Int}(h:(Lit.int .i64 n).wf=true):I64 n:=by
 have h1:(decide (-9223372036854775808≤n)&&decide (n≤9223372036854775807))=true:=h;simp only [G2,Hi] at h1;exact h1
theorem aN {α:Type}{f:α→Nat}(h:∀x,1≤f x):∀l:List α,l.length≤(l.map f).sum
 | []=>C6 _
 | a::r=>by have:=aN h r;have:=h a;simp only [Cj,E7,J3];omega
theorem Yt {α:Type}{f:α→Nat}:∀{l:List α} {x:α},x∈l→f x≤(l.map f).sum
  | a::r,x,h=>by
    rcases Hp.1 h with rfl | h
    · simp only [E7,J3];omega
    have:=Yt (f:=f) h;simp only [E7,J3];omega
def scN (s:e8Sc):Nat:=s.name.length+(s.fields.map fun f=>f.name.length+1).sum+1
def tysN (l:List e8Sc):Nat:=(l.map scN).sum+1
theorem sc_ok {s:e8Sc}(h:scN s≤1048576):Zd s:=by
 unfold scN at h;have h1:=aN (f:=fun f:Fi=>f.name.length+1) (fun _=>Nat.succ_le_succ (Dh _)) s.fields;exact ⟨by omega,by omega,fun f hf=>by have:=Yt (f:=fun f:Fi=>f.name.length+1) hf;have h2:f.name.length+1≤(s.fields.map fun f=>f.name.length+1).sum:=this;omega⟩
theorem tys_ok {l:List e8Sc}(h:tysN l≤1048576):l.length≤1048576∧∀s∈l,Zd s:=by
 unfold tysN at h;have h1:=aN (f:=scN) (fun s=>by unfold scN;omega) l;exact ⟨by omega,fun s hs=>sc_ok (by have:=Yt (f:=scN) hs;omega)⟩

section
variable {H:Type} {enc:TypeId×Value→H} {w:World} {sp:Nat→Bool} {hd:Bool}
abbrev R (enc:TypeId×Value→H)(w:World)(sp:Nat→Bool)(hd:Bool){α:Type}(Bg:Nat)(t:TypeId)(f:α→List AV)(ok:α→Prop)(bk:α→Nat):Prop:=Aw.Rd enc Tryz.prog w sp hd Rows.uptoBulk Bg t f ok bk
theorem rI (Bg:Nat):R enc w sp hd Bg 3 (fun n:Int=>[.int .i64 n]) I64 (fun _=>1):=(Rd.int (k:=.i64) (by kernel_rfl) N8).congr rfl (fun _ h=>wf_I64 h) (fun _=>C6 _)
theorem rS (Bg:Nat):R enc w sp hd Bg 9 (fun s:List UInt8=>[.str s]) (fun s=>s.length≤maxLen) (fun s=>s.length+1):=Rd.str (by kernel_rfl) N8
theorem z3:Tryz.prog.cellsOf 3=1:=by kernel_rfl
theorem z9:Tryz.prog.cellsOf 9=1:=by kernel_rfl
theorem encS_fun:Cr=cSyn:=funext Bn
theorem rSy (Bg:Nat):R enc w sp hd Bg 25 cSyn (fun _=>True) (fun _=>0):=by
  induction Bg using Nat.strongRecOn with
  | _ n ih=>
    exact (Rd.struct' u_Sy N8 rfl (by kernel_rfl) (by kernel_rfl) fun m hm=>Rds.cons N8 z3 (rI m) <| Rds.cons N8 z9 (rS m) <| Rds.cons N8 z9 (rS m) <| Rds.cons N8 z3 (rI m) <|
      Rds.cons N8 z_Sys (Rd.slice' (z:=6) u_Sys z_Sy (by decide) N8 fun k hk=>ih k (Nat.lt_trans hk hm)) <| Rds.cons N8 z3 (rI m) Rds.nil).map
      (fun x=>(⟨x.1,x.2.1,x.2.2.1,x.2.2.2.1,x.2.2.2.2.1,x.2.2.2.2.2.1⟩:Syn)) (fun x=>by simp [cSyn,encS_fun]) (fun _ _=>trivial) (fun x=>Dh _)
theorem rFi (Bg:Nat):R enc w sp hd Bg 111 lY (fun _=>True) (fun f=>f.name.length+1):=
 (Rd.struct' u_Fi N8 rfl (by kernel_rfl) (by kernel_rfl) fun m _=>Rds.cons N8 z9 (rS m) <| Rds.cons N8 z3 (rI m) Rds.nil).map
  (fun x=>(⟨x.1,x.2.1⟩:Fi)) (fun _=>rfl) (fun _ _=>trivial) (fun _=>by simp only;omega)
theorem rSc (Bg:Nat):R enc w sp hd Bg 69 F1 (fun _=>True) scN:=
 (Rd.struct' u_Sc N8 rfl (by kernel_rfl) (by kernel_rfl) fun m _=>Rds.cons N8 z9 (rS m) <| Rds.cons N8 z_Fis (Rd.slice' (z:=2) u_Fis z_Fi (by decide) N8 fun k _=>rFi k) Rds.nil).map
  (fun x=>(⟨x.1,x.2.1⟩:e8Sc)) (fun _=>rfl) (fun _ _=>trivial) (fun _=>by simp only [scN];omega)
theorem rTys (Bg:Nat):R enc w sp hd Bg 22 (fun l:List e8Sc=>[.sl 2 (l.map F1)]) (fun _=>True) tysN:=
 (Rd.slice' (z:=2) u_Tys z_Sc (by decide) N8 fun k _=>rSc k).congr rfl (fun _ _=>trivial) (fun _=>C6 _)
end
end Go.Proofs.YtckhoadldibflaaGreatDoor
