/-
  Several texts in one: R5w, R6w, At. No condition.
-/
import Derived.Test.YtckhoadldibflaaGreatDoorK01
import Derived.Test.YtckhoadldibflaaGreatDoorK13
import Derived.Test.YtckhoadldibflaaGreatDoorK17
import Derived.KernelRfl
import Derived.Test.YtckhoadldibflaaGreatDoorK12
set_option linter.unusedVariables false
set_option linter.unusedSimpArgs false
namespace Go.Proofs.YtckhoadldibflaaGreatDoor
open Go Go.Aw
set_option maxHeartbeats 3200000
set_option maxRecDepth 20000

theorem gS (t:Syn)(ht:Eg t)(hc:Bg t .pats=0):Ap Tryz.prog 95 [.agg (cSyn t)] (.sl 6 ((Pb t).map Cl)):=by
 induction t using Syn.ind
 rename_i t ih
 refine Ap.body (n:=45) tok Tryz.func95 rfl rfl rfl fun H=>?_
 refine Ad (Qp (Eu [Iq _,.str _,.str _,Iq _,_,Iq _]) ?_)
 refine Qp (Bk (z:=6) rfl) ?_
 refine Aa (AW.seq (Ad (Qp (Qf [Iq _,.str _,.str _,Iq _,_,Iq _]) (Qp Bt (Aa (AW.block (Ad (Qp Av (Qp A3 ?_)))))))))
 refine Aa (Au (fun hc1=>?_) fun hc1=>?_)
 ·
  refine Ad (Qp (B2 [Iq _,.str _,.str _,Iq _,_,Iq _]) ?_)
  refine Qp (Am (es:=[[Iq _,.str _,.str _,Iq _,_,Iq _]]) tok rfl rfl rfl rfl rfl rfl rfl rfl rfl) ?_
  refine Qp U8 (Aa (AW.ret (Ao (Ai ?_))))
  refine Qr (.sl _ _) ?_
  exact Eq.trans rfl (congrArg (AV.sl 6) (evs_1 hc1)).symm
 ·
  have h5:t.kind≠5:=by simpa using hc1
  refine Ad (Qp Av (Qp A3 (Aa (Au (fun hc2=>?_) fun hc2=>?_))))
  ·
   have h2:=Na hc (.inl (by simpa using hc2))
   have hg0:=Es (t:=t) (k:=0) (by omega)
   have hg1:=Es (t:=t) (k:=1) (by omega)
   have hb2:=jJ (Ec ht (List.mem_of_getElem? hg0))
   refine AW.seq ?_
   refine AW.draw mixed (fun _=>True) trivial (by kernel_rfl) ?_
   refine Qn 0 rfl (Qf [_,Iq _]) (Qn 1 rfl Dg ?_)
   refine Qn 2 rfl (Ag (c:=[Iq _,.str _,.str _,Iq _,_,Iq _]) tok rfl rfl rfl rfl rfl rfl (by decide) (Dk hg1)) ?_
   refine Qn 3 rfl (B2 [Iq _,.str _,.str _,Iq _,_,Iq _]) (Qn 5 rfl (Qf [_,Iq _]) (Qn 6 rfl Dg ?_))
   refine Qn 7 rfl (Ag (c:=[Iq _,.str _,.str _,Iq _,_,Iq _]) tok rfl rfl rfl rfl rfl rfl (by decide) (Dk hg0)) ?_
   refine Qn 8 rfl (B2 [Iq _,.str _,.str _,Iq _,_,Iq _]) ?_
   refine Qn 9 rfl (Qc rfl (ih _ (List.mem_of_getElem? hg0) (Ec ht (List.mem_of_getElem? hg0)) (M4 hc h5 hg0 fun _=>rfl))) ?_
   refine Hs.eff _ _ 4 _ _ rfl (by kernel_rfl) rfl rfl (Fy (es:=[[Iq _,.str _,.str _,Iq _,_,Iq _]]) tok rfl rfl rfl rfl rfl rfl rfl rfl rfl) (fun _ _ _=>trivial) ?_
   rintro _ _ ⟨v18,rfl,rfl⟩
   refine Hs.eff _ _ 10 _ _ rfl (by kernel_rfl) rfl rfl (Ci (k:=0) tok rfl rfl rfl rfl rfl rfl rfl rfl (nL _) (D7 rfl) (by simp at hb2 ⊢;omega) (by simp [maxLen] at hb2 ⊢;omega)) (fun _ _ _=>trivial) ?_
   rintro _ _ ⟨v24,rfl,rfl⟩
   refine Qn 11 rfl (A6 (v:=.row _ _ _) rfl) ?_
   refine Hs.done _ _ (by kernel_rfl) ?_
   refine Af ?_
   refine AW.ghost (GS.unrow 2 rfl) ?_
   refine AW.ret (Ao (Ai ?_))
   refine ⟨.inr rfl,[.sl _ _],.cons (.tmp _ _ rfl) <| .nil,.cons _ (.refl _),?_⟩
   exact Eq.trans rfl (congrArg (AV.sl 6) (evs_2 hc1 hc2 (by omega))).symm
  ·
   refine Ad (Qp Av (Qp A3 (Aa (Au (fun hc3=>?_) fun hc3=>?_))))
   ·
    have h2:=Na hc (.inr (by simpa using hc3))
    have hg0:=Es (t:=t) (k:=0) (by omega)
    refine Ad (Qp (Qf [_,Iq _]) (Qp Dg ?_))
    refine Qp (Ag (c:=[Iq _,.str _,.str _,Iq _,_,Iq _]) tok rfl rfl rfl rfl rfl rfl (by decide) (Dk hg0)) ?_
    refine Qp (B2 [Iq _,.str _,.str _,Iq _,_,Iq _]) ?_
    refine Qp (Qc rfl (ih _ (List.mem_of_getElem? hg0) (Ec ht (List.mem_of_getElem? hg0)) (M4 hc h5 hg0 fun _=>rfl))) ?_
    refine Qp U8 (Aa (AW.ret (Ao (Ai ?_))))
    refine Qr (.sl _ _) ?_
    exact Eq.trans rfl (congrArg (fun q:List Syn=>AV.sl 6 (q.map Cl)) (evs_3 hc1 hc2 hc3 (by omega))).symm
   ·
    have hn:¬(t.kind=10∨t.kind=12):=fun hq=>hq.elim (by simpa using hc2) (by simpa using hc3)
    have hkl:=Hl ht
    refine AW.skip (Bc (Af (Ad (Qp N8 ?_))))
    refine AOL.ghost (GS.row (t:=3) 25 6 rfl) ?_
    refine Aa (AW.seq (Ad (Qp (Qf [_,Iq _]) (Qp Dg ?_))))
    refine Qp (Ax (n:=t.kids.length) tok rfl rfl rfl (by simp)) ?_
    refine Qp A4 (Aa (AW.block ?_))
    refine AW.Aat (fun (p:Nat×List (List AV)×Value)=>(⟨[(1,.ptr (cSyn t)),(3,.row p.2.2 6 p.2.1),(33,.sl 6 (t.kids.map Cl)),(34,.int .i64 t.kids.length),(35,.int .i64 (p.1:Int))],.row p.2.2 p.2.1.length 25 6::H,45⟩:St)) (fun (p:Nat×List (List AV)×Value)=>p.1≤t.kids.length∧p.2.1=((t.kids.take p.1).flatMap Pb).map Cl) (fun (p:Nat×List (List AV)×Value)=>t.kids.length-p.1) ((0,[],.slice none 0 0)) ?_ (GS.weaken ⟨rfl,rfl,rfl,rfl,rfl,trivial⟩ (.refl _)) ?_
    · exact ⟨Nat.zero_le _,rfl⟩
    ·
     rintro p hR
     refine Ad (Qp B7 (Aa (AW.seq (Au (fun hc4=>?_) fun hc4=>?_))))
     ·
      obtain ⟨a,ha⟩:=Dl hc4
      have hlt:=Cm ha
      have hm:=List.mem_of_getElem? ha
      have hsc:∀c∈p.2.1,Ba c=true:=by rw [hR.2];exact nL _
      have hb1:p.2.1.length≤1000000:=by rw [hR.2];exact rN ht _
      have hb2:=jJ (Ec ht hm)
      refine Bl (AW.seq (AW.block (Ad ?_)))
      refine Qp (Ag (c:=[Iq _,.str _,.str _,Iq _,_,Iq _]) tok rfl rfl rfl rfl rfl rfl (by omega) (Dk ha)) ?_
      refine Qp (B2 [Iq _,.str _,.str _,Iq _,_,Iq _]) ?_
      refine Qe (An (l:=[.int .i64 0,.str [],.str [],.int .i64 0,.sl 6 [],.int .i64 0]) (by kernel_rfl)) ?_
      rintro _ _ ⟨b5,rfl,rfl⟩
      refine B0 0 [Iq _,.str _,.str _,Iq _,_,Iq _] (_::_::_) ?_
      refine AOL.ghost (GS.freeze (t:=5) 0 rfl rfl) ?_
      refine Aa (AW.region ?_)
      refine Qp (A1 (v:=.row _ _ _) rfl) ?_
      refine Qp (B2 [Iq _,.str _,.str _,Iq _,_,Iq _]) ?_
      refine Qp (Qc rfl (ih a hm (Ec ht hm) (M4 hc h5 ha fun hq=>absurd hq hn))) ?_
      refine Qe (Ci (k:=0) tok rfl rfl rfl rfl rfl rfl rfl rfl (nL _) (hsc) (by simp at hb1 hb2 ⊢;omega) (by simp [maxLen] at hb1 hb2 ⊢;omega)) ?_
      rintro _ _ ⟨v42,rfl,rfl⟩
      refine Qp (A6 (v:=.row _ _ _) rfl) ?_
      refine AOL.nil (Bc (Af (AW.region (Qp Ei (Qp A4 (Aa ?_))))))
      refine ⟨(p.1+1,p.2.1++(Pb a).map Cl,v42),?_,?_,GS.weaken ⟨rfl,rfl,rfl,rfl,rfl,trivial⟩ (.refl _)⟩
      · exact ⟨hlt,by simp only;rw [Fs ha,hR.2];simp⟩
      · simp only;omega
     ·
      have hte:=E8 hc4
      have hall:=hR.2
      rw [hte] at hall
      refine AW.exit ?_
      refine A7 (A7 (Bp (Af (Ad ?_))))
      refine Qp (A1 (v:=.row _ _ _) rfl) ?_
      refine AOL.ghost (GS.unrow 44 rfl) ?_
      refine Qp U8 (Aa (AW.ret ?_))
      refine ⟨.inr rfl,[.sl _ _],.cons (.tmp _ _ rfl) <| .nil,.cons _ (.refl _),?_⟩
      exact (congrArg (AV.sl 6) hall).trans (congrArg (fun q:List Syn=>AV.sl 6 (q.map Cl)) (evs_4 hc1 hc2 hc3)).symm

set_option maxHeartbeats 6400000
set_option maxRecDepth 20000

theorem xV  : Ap Tryz.prog 130 [] (.mapv opL):=by
 refine Ap.body (n:=3) tok Tryz.func130 rfl rfl rfl fun H=>?_
 refine Ad (Qp N8 (By ?_))
 refine Qe (Qq) ?_
 rintro _ _ ⟨b1,rfl,rfl⟩
 refine Qe (Cz (i:=0) (x:=Iq _) (H2:=_::_) tok rfl rfl rfl rfl rfl rfl rfl rfl rfl rfl) ?_
 rintro _ _ ⟨rfl,rfl⟩
 refine Qe (Cz (i:=0) (x:=Iq _) (H2:=_::_) tok rfl rfl rfl rfl rfl rfl rfl rfl rfl rfl) ?_
 rintro _ _ ⟨rfl,rfl⟩
 refine Qe (Cz (i:=0) (x:=Iq _) (H2:=_::_) tok rfl rfl rfl rfl rfl rfl rfl rfl rfl rfl) ?_
 rintro _ _ ⟨rfl,rfl⟩
 refine Qe (Cz (i:=0) (x:=Iq _) (H2:=_::_) tok rfl rfl rfl rfl rfl rfl rfl rfl rfl rfl) ?_
 rintro _ _ ⟨rfl,rfl⟩
 refine Qe (Cz (i:=0) (x:=Iq _) (H2:=_::_) tok rfl rfl rfl rfl rfl rfl rfl rfl rfl rfl) ?_
 rintro _ _ ⟨rfl,rfl⟩
 refine Qe (Cz (i:=0) (x:=Iq _) (H2:=_::_) tok rfl rfl rfl rfl rfl rfl rfl rfl rfl rfl) ?_
 rintro _ _ ⟨rfl,rfl⟩
 refine Qe (Cz (i:=0) (x:=Iq _) (H2:=_::_) tok rfl rfl rfl rfl rfl rfl rfl rfl rfl rfl) ?_
 rintro _ _ ⟨rfl,rfl⟩
 refine Qe (Cz (i:=0) (x:=Iq _) (H2:=_::_) tok rfl rfl rfl rfl rfl rfl rfl rfl rfl rfl) ?_
 rintro _ _ ⟨rfl,rfl⟩
 refine AOL.ghost (GS.freezeMap (t:=1) 0 rfl rfl) ?_
 refine Qp (A1 (v:=.mapv _) rfl) ?_
 refine Qp (A6 (v:=.mapv _) rfl) ?_
 refine Aa (AW.ret ?_)
 refine Qr (.mapv _) ?_
 rfl
theorem aJ (T:List e8Sc)(V:List Va)(s:Nx)(hs:0≤s.scopes∧s.scopes≤3000000)(p:Pt)(bp pp:Nat)(H:List HO):Bw Tryz.prog 171 (.box pp 38 (cPt p) :: .box bp 159 (Qi T V s)::H) [.val (.pointer (some ⟨bp,0,none⟩)),.val (.pointer (some ⟨pp,0,none⟩))] (fun r H'=>r = .tuple []∧H' = .box pp 38 (cPt { p with scope:=s.scopes }) :: .box bp 159 (Qi T V ⟨s.next,s.scopes+1⟩)::H):=by
 refine Bw.body (n:=18) tok Tryz.func171 rfl rfl rfl ?_
 refine Ad (Qp Br (Qp Br ?_))
 refine Qp (Ak rfl) ?_
 refine Qp Cb ?_
 refine AOL.Aaq (Aj (k:=1) (c:=Iq _) tok rfl rfl rfl rfl) rfl rfl ?_
 refine Qp (Ak rfl) ?_
 refine Qp Cb ?_
 refine B0 0 [Iq _,_,Iq _,Iq _,Iq _,Iq _,Iq _,_,Iq _,Iq _,Iq _,Iq _,Iq _,.str _] (_::_::_) ?_
 refine Aa (AW.region (Qp Br ?_))
 refine Qp (Ak rfl) ?_
 refine Qp Cb ?_
 refine AOL.Aaq (Aj (k:=1) (c:=Iq _) tok rfl rfl rfl rfl) rfl rfl ?_
 refine Qp Ei ?_
 refine Qp (Ak rfl) ?_
 refine Qp Cb ?_
 refine B0 1 [_,_,_,_,Iq _,Iq _] (_::_::_) ?_
 refine AOL.nil ?_
 refine ⟨.inl rfl,[],.nil,_,.refl _,?_⟩
 exact ⟨rfl,rfl⟩
theorem eF (T:List e8Sc)(V:List Va)(s:Nx)(hs:0≤s.next∧s.next≤3000000)(p:Pt)(bp pp:Nat)(hrv:RvOK T V)(t:Syn)(ht:Eg t)(hw:0<t.kids.length→(Fj T V (Bn t 0)).err=0)(H:List HO):Bw Tryz.prog 170 (.box pp 38 (cPt p) :: .box bp 159 (Qi T V s)::H) [.val (.pointer (some ⟨bp,0,none⟩)),.val (.pointer (some ⟨pp,0,none⟩)),.agg (cSyn t)] (fun r H'=>r = .tuple []∧H' = .box pp 38 (cPt { p with type:=Mi (Gb T) t.text,var:=s.next,cond:=Ju T V t }) :: .box bp 159 (Qi T V ⟨s.next+1,s.scopes⟩)::H):=by
 refine Bw.body (n:=47) tok Tryz.func170 rfl rfl rfl ?_
 refine Ad (Qp (Eu [Iq _,.str _,.str _,Iq _,_,Iq _]) (Aa (AW.seq ?_)))
 refine AW.draw mixed (fun H'=>_∈H') (List.mem_of_getElem? (i:=1) rfl) (by kernel_rfl) ?_
 refine Qn 0 rfl Br (Qn 1 rfl Br (Qn 2 rfl Br (Qn 3 rfl Br ?_)))
 refine Qn 4 rfl (Ak rfl) ?_
 refine Qn 5 rfl Cb ?_
 refine Qn 6 rfl (OpP.Aas (fun k=>Aj (k:=k) (c:=.smapv _) tok rfl rfl rfl rfl) (fun _ h=>h)) ?_
 refine Qn 7 rfl (Qf [.str _,.str _,Iq _,_,Iq _]) (Qn 8 rfl Df ?_)
 refine Qn 9 rfl (Yn (es:=Kb (Gb T)) tok rfl rfl rfl rfl rfl (by kernel_rfl) rfl rfl (Mt _ _ rfl)) ?_
 refine Qn 10 rfl Br ?_
 refine Qn 11 rfl (Ak rfl) ?_
 refine Qn 12 rfl Cb ?_
 refine Qn 13 rfl (OpP.Aas (fun k=>Aj (k:=k) (c:=Iq _) tok rfl rfl rfl rfl) (fun _ h=>h)) ?_
 refine Qn 14 rfl (Qc rfl (jY)) ?_
 refine Qn 15 rfl (Ak rfl) ?_
 refine Qn 16 rfl Cb ?_
 refine Hs.eff _ _ 17 _ _ rfl (by kernel_rfl) rfl rfl (Be (k:=0) (v:=Iq _) (cs':=[Iq _,_,Iq _,Iq _,Iq _,Iq _,Iq _,_,Iq _,Iq _,Iq _,Iq _,Iq _,.str _]) (H2:=_::_::_) tok rfl rfl rfl rfl (rfl) rfl rfl rfl rfl) (by rintro _ _ ⟨rfl,rfl⟩;simp) ?_
 rintro _ _ ⟨rfl,rfl⟩
 refine Qn 18 rfl (Ak rfl) ?_
 refine Qn 19 rfl Cb ?_
 refine Hs.eff _ _ 20 _ _ rfl (by kernel_rfl) rfl rfl (Be (k:=0) (v:=Iq _) (cs':=[Iq _,_,Iq _,Iq _,Iq _,Iq _,Iq _,_,Iq _,Iq _,Iq _,Iq _,Iq _,.str _]) (H2:=_::_::_) tok rfl rfl rfl rfl (rfl) rfl rfl rfl rfl) (by rintro _ _ ⟨rfl,rfl⟩;simp) ?_
 rintro _ _ ⟨rfl,rfl⟩
 refine Qn 21 rfl (Ak rfl) ?_
 refine Qn 22 rfl Cb ?_
 refine Hs.last _ _ 23 _ _ rfl (by kernel_rfl) rfl rfl (Be (k:=0) (v:=.agg _) (cs':=[Iq _,_,Iq _,Iq _,Iq _,Iq _,Iq _,_,Iq _,Iq _,Iq _,Iq _,Iq _,.str _]) (H2:=_::_::_) tok rfl rfl rfl rfl (rfl) rfl rfl rfl rfl) (by kernel_rfl) ?_
 rintro _ _ ⟨rfl,rfl⟩
 refine Af (Ad (Qp Br ?_))
 refine Qp (Ak rfl) ?_
 refine Qp Cb ?_
 refine AOL.Aaq (Aj (k:=1) (c:=Iq _) tok rfl rfl rfl rfl) rfl rfl ?_
 refine Qp Ei ?_
 refine Qp (Ak rfl) ?_
 refine Qp Cb ?_
 refine B0 1 [_,_,_,_,Iq _,Iq _] (_::_::_) ?_
 refine By (Qp (Qf [_,Iq _]) (Qp Dg ?_))
 refine Qp (Ax (n:=t.kids.length) tok rfl rfl rfl (by simp)) ?_
 refine Qp D2 (Aa (Au (fun hc1=>?_) fun hc1=>?_))
 ·
  have h0:0<t.kids.length:=by have:=of_decide_eq_true hc1;omega
  refine AW.region (Qp Br (Qp Br (Qp (Qf [_,Iq _]) (Qp Dg ?_))))
  refine Qp (Ag (c:=[Iq _,.str _,.str _,Iq _,_,Iq _]) tok rfl rfl rfl rfl rfl rfl (by decide) (Dk (Es h0))) ?_
  refine Qp (B2 [Iq _,.str _,.str _,Iq _,_,Iq _]) ?_
  refine AOL.Aaq (Ce (k:=1) (by kernel_rfl) rfl rfl (Yg T V ⟨s.next+1,s.scopes⟩ bp hrv (Bn t 0) (Sp ht h0) (hw h0))) rfl rfl ?_
  refine Qp (Ak rfl) ?_
  refine Qp Cb ?_
  refine B0 0 [Iq _,_,Iq _,Iq _,Iq _,Iq _,Iq _,_,Iq _,Iq _,Iq _,Iq _,Iq _,.str _] (_::_::_) ?_
  refine AOL.nil ?_
  refine ⟨.inl rfl,[],.nil,_,.refl _,?_⟩
  exact ⟨rfl,congrArg (fun q:Ex=>(.box pp 38 (cPt { p with type:=Mi (Gb T) t.text,var:=s.next,cond:=q }) :: .box bp 159 (Qi T V ⟨s.next+1,s.scopes⟩)::H:List HO)) (zC hc1).symm⟩
 ·
  refine AW.skip ?_
  refine ⟨.inl rfl,[],.nil,_,.refl _,?_⟩
  exact ⟨rfl,congrArg (fun q:Ex=>(.box pp 38 (cPt { p with type:=Mi (Gb T) t.text,var:=s.next,cond:=q }) :: .box bp 159 (Qi T V ⟨s.next+1,s.scopes⟩)::H:List HO)) (xY hc1).symm⟩
theorem sQ (T:List e8Sc)(V:List Va)(s:Nx)(bp:Nat)(l:List Syn)(hl:l.length≤1048576)(hs:NxOK s (Dt l))(hf:∀a∈l,∀s:Nx,NxOK s (Dz a)→Bd Tryz.prog 99 bp 159 (Qi T V s) (Qi T V (Gl T V a s).2) [.val (.pointer (some ⟨bp,0,none⟩)),.agg (cSyn a)] (.agg (cPt (Gl T V a s).1))):Bd Tryz.prog 172 bp 159 (Qi T V s) (Qi T V (Ek T V l s).2) [.sl 6 (l.map Cl),.fn (.func 99) [.val (.pointer (some ⟨bp,0,none⟩))] []] (.sl 14 ((Ek T V l s).1.map Si)):=by
 intro H
 refine Bw.body (n:=22) tok Tryz.func172 rfl rfl rfl ?_
 refine Ad ?_
 refine Qp (Bk (z:=14) rfl) ?_
 refine By (Qp N8 ?_)
 refine AOL.ghost (GS.row (t:=5) 38 14 rfl) ?_
 refine Aa (AW.seq (Ad (Qp K4 ?_)))
 refine Qp (Ax (n:=l.length) tok rfl rfl rfl (by simp)) ?_
 refine Qp A4 (Aa (AW.block ?_))
 refine AW.Aat (fun (q:Nat×List (List AV)×Value×Nx)=>(⟨[(0,.sl 6 (l.map Cl)),(1,.fn (.func 99) [.val (.pointer (some ⟨bp,0,none⟩))] []),(5,.row q.2.2.1 14 q.2.1),(8,.sl 6 (l.map Cl)),(9,.int .i64 l.length),(10,.int .i64 (q.1:Int))],.row q.2.2.1 q.2.1.length 38 14 :: .box bp 159 (Qi T V q.2.2.2)::H,22⟩:St)) (fun (q:Nat×List (List AV)×Value×Nx)=>q.1≤l.length∧NxOK q.2.2.2 (Dt (l.drop q.1))∧q.2.1=(Ek T V (l.take q.1) s).1.map Si∧q.2.2.2=(Ek T V (l.take q.1) s).2∧q.2.1.length≤q.1) (fun (q:Nat×List (List AV)×Value×Nx)=>l.length-q.1) ((0,[],.slice none 0 0,s)) ?_ (GS.weaken ⟨rfl,rfl,rfl,rfl,rfl,rfl,trivial⟩ (.refl _)) ?_
 · exact ⟨Nat.zero_le _,hs,rfl,rfl,Nat.le_refl _⟩
 ·
  rintro q hR
  refine Ad (Qp B7 (Aa (AW.seq (Au (fun hc1=>?_) fun hc1=>?_))))
  ·
   obtain ⟨a,ha⟩:=Dl hc1
   have hlt:=Cm ha
   have hm:=List.mem_of_getElem? ha
   have hsc:∀c∈q.2.1,Ba c=true:=by rw [hR.2.2.1];exact scPt _
   have hnx:=nx_on (T:=T) (V:=V) ha hR.2.1
   have hql:=hR.2.2.2.2
   refine Bl (AW.seq (AW.block (Ad ?_)))
   refine Qp (Ag (c:=[Iq _,.str _,.str _,Iq _,_,Iq _]) tok rfl rfl rfl rfl rfl rfl (by omega) (Dk ha)) ?_
   refine Qp (B2 [Iq _,.str _,.str _,Iq _,_,Iq _]) ?_
   refine Qe (An (l:=[.int .i64 0,.str [],.str [],.int .i64 0,.sl 6 [],.int .i64 0]) (by kernel_rfl)) ?_
   rintro _ _ ⟨b7,rfl,rfl⟩
   refine B0 0 [Iq _,.str _,.str _,Iq _,_,Iq _] (_::_::_::_) ?_
   refine AOL.ghost (GS.freeze (t:=7) 0 rfl rfl) ?_
   refine Aa (AW.region ?_)
   refine Qp (A1 (v:=.row _ _ _) rfl) ?_
   refine Qp (A1 (v:=.fn _ _ _) rfl) ?_
   refine Qp (B2 [Iq _,.str _,.str _,Iq _,_,Iq _]) ?_
   refine Qe (Hb (by kernel_rfl) rfl rfl rfl ((hf a hm q.2.2.2 hnx.1).at (k:=1) (H2:=_::_::_) rfl rfl)) ?_
   rintro _ _ ⟨rfl,rfl⟩
   refine Qp (Am (es:=[[Iq _,_,Iq _,Iq _,Iq _,Iq _,Iq _,_,Iq _,Iq _,Iq _,Iq _,Iq _,.str _]]) tok rfl rfl rfl rfl rfl rfl rfl rfl rfl) ?_
   refine Qe (Ci (k:=0) tok rfl rfl rfl rfl rfl rfl rfl rfl (D7 rfl) (hsc) (by simp;omega) (by simp [maxLen];omega)) ?_
   rintro _ _ ⟨v19,rfl,rfl⟩
   refine Qp (A6 (v:=.row _ _ _) rfl) ?_
   refine AOL.nil (Bc (Af (AW.region (Qp Ei (Qp A4 (Aa ?_))))))
   refine ⟨(q.1+1,q.2.1 ++ [cPt (Gl T V a q.2.2.2).1],v19,(Gl T V a q.2.2.2).2),?_,?_,GS.weaken ⟨rfl,rfl,rfl,rfl,rfl,rfl,trivial⟩ (.refl _)⟩
   · exact ⟨hlt,hnx.2,by simp only;rw [Y4 ha,hR.2.2.1,←hR.2.2.2.1];simp [Xc],by simp only;rw [Y4 ha,←hR.2.2.2.1],by simp;omega⟩
   · simp only;omega
  ·
   have hte:=E8 hc1
   have hall:=hR.2.2.1
   have hst:=hR.2.2.2.1
   rw [hte] at hall hst
   refine AW.exit ?_
   refine A7 (A7 (Bp (Af (Ad ?_))))
   refine Qp (A1 (v:=.row _ _ _) rfl) ?_
   refine AOL.ghost (GS.unrow 21 rfl) ?_
   refine Qp U8 (Aa (AW.ret ?_))
   refine ⟨.inr rfl,[.sl _ _],.cons (.tmp _ _ rfl) <| .nil,_,.cons _ (.refl _),?_⟩
   exact ⟨Eq.trans rfl (congrArg (AV.sl 14) hall),congrArg (fun x:Nx=>(.box bp 159 (Qi T V x)::H:List HO)) hst⟩
theorem bG (T:List e8Sc)(V:List Va)(s:Nx)(bp:Nat)(hrv:RvOK T V)(t:Syn)(ht:Eg t)(hc:Bg t .pats=0)(hw:(Fj T V t).err=0)(hs:NxOK s (Dz t)):Bd Tryz.prog 99 bp 159 (Qi T V s) (Qi T V (Gl T V t s).2) [.val (.pointer (some ⟨bp,0,none⟩)),.agg (cSyn t)] (.agg (cPt (Gl T V t s).1)):=by
 intro H
 revert H
 revert s
 induction t using Syn.ind
 rename_i t ih
 intro s hs H
 have hrg:=Qv hc
 have hnx:=nQ hs
 refine Bw.body (n:=59) tok Tryz.func99 rfl rfl rfl ?_
 refine Ad (Qp (Eu [Iq _,.str _,.str _,Iq _,_,Iq _]) ?_)
 refine Qe (An (l:=[.int .i64 0,.sl 14 [],.int .i64 0,.int .i64 0,.int .i64 0,.int .i64 0,.int .i64 0,.sl 8 [],.int .i64 0,.int .i64 0,.int .i64 0,.int .i64 0,.int .i64 0,.str []]) (by kernel_rfl)) ?_
 rintro _ _ ⟨b4,rfl,rfl⟩
 refine Aa (AW.seq ?_)
 refine AW.draw mixed (fun _=>True) trivial (by kernel_rfl) ?_
 refine Qn 0 rfl (Qc rfl (xV)) ?_
 refine Qn 1 rfl (Qf [Iq _,.str _,.str _,Iq _,_,Iq _]) (Qn 2 rfl Bt ?_)
 refine Qn 3 rfl (T2 tok rfl rfl rfl rfl rfl rfl (xW hrg.1 hrg.2)) ?_
 refine Qn 4 rfl (Ea [Iq _,_,Iq _,Iq _,Iq _,Iq _,Iq _,_,Iq _,Iq _,Iq _,Iq _,Iq _,.str _]) ?_
 refine Hs.eff _ _ 5 _ _ rfl (by kernel_rfl) rfl rfl (An (l:=[.int .i64 0,.sl 14 [],.int .i64 0,.int .i64 0,.int .i64 0,.int .i64 0,.int .i64 0,.sl 8 [],.int .i64 0,.int .i64 0,.int .i64 0,.int .i64 0,.int .i64 0,.str []]) (by kernel_rfl)) (fun _ _ _=>trivial) ?_
 rintro _ _ ⟨b5,rfl,rfl⟩
 refine Hs.eff _ _ 6 _ _ rfl (by kernel_rfl) rfl rfl (Be (k:=0) (v:=.agg _) (cs':=[Iq _,_,Iq _,Iq _,Iq _,Iq _,Iq _,_,Iq _,Iq _,Iq _,Iq _,Iq _,.str _]) (H2:=_::_::_::_) tok rfl rfl rfl rfl (rfl) rfl rfl rfl rfl) (fun _ _ _=>trivial) ?_
 rintro _ _ ⟨rfl,rfl⟩
 refine Hs.done _ _ (by kernel_rfl) ?_
 refine Af (Ad (Qp (Qf [_,Iq _]) (Qp Dg (Qp U8 (Aa ?_)))))
 refine AW.Aaw (fun (q:Pt×Nx×List Syn)=>(⟨[(0,.val (.pointer (some ⟨bp,0,none⟩))),(4,.val (.pointer (some ⟨b4,0,none⟩))),(5,.val (.pointer (some ⟨b5,0,none⟩))),(6,.sl 6 (q.2.2.map Cl))],.box b5 38 (cPt q.1) :: .box bp 159 (Qi T V q.2.1) :: .box b4 38 (cPt pt0)::H,59⟩:St)) (fun (q:Pt×Nx×List Syn)=>q.1=Ki T V t s []∧q.2.1=Q9 t s∧q.2.2=Ew t) ?_ ?_
 ·
  refine Ad (Qp (Qf [Iq _,.str _,.str _,Iq _,_,Iq _]) (Qp Bt (Aa (AW.block (Ad (Qp Av (Qp A3 (Aa (Au (fun hc1=>?_) fun hc1=>?_)))))))))
  ·
   refine Ad (Qp Br (Qp (B2 [Iq _,.str _,.str _,Iq _,_,Iq _]) ?_))
   refine Qe (Al (by kernel_rfl) rfl rfl (Bw.front2 (R:=_::_) 2 0 rfl rfl rfl (eF T V s ⟨hs.a,by have:=hs.c;omega⟩ ⟨t.kind-5,[],0,0,0,0,Sk⟩ bp b5 hrv t ht (fun h=>Om hw h) _))) ?_
   rintro _ _ ⟨rfl,rfl⟩
   refine Aa (AW.region ?_)
   refine Qp (Bk (z:=6) rfl) ?_
   refine AOL.nil (Bc (Af ?_))
   refine ⟨(⟨t.kind-5,[],Mi (Gb T) t.text,s.next,0,0,Ju T V t⟩,⟨s.next+1,s.scopes⟩,[]),?_,GS.trans (GS.refl _) (GS.weaken ⟨rfl,rfl,rfl,rfl,trivial⟩ (.refl _))⟩
   exact ⟨pn_5 hc1,(nxn_5 hc1).symm,(pk_5 hc1).symm⟩
  ·
   refine Ad (Qp Av (Qp A3 (Aa (Au (fun hc2=>?_) fun hc2=>?_))))
   ·
    have h2:=Na hc (.inl (by simpa using hc2))
    have h1:1<t.kids.length:=by omega
    refine Ad (Qp Br ?_)
    refine Qe (Al (by kernel_rfl) rfl rfl (Bw.front2 (R:=_::_) 2 0 rfl rfl rfl (aJ T V s ⟨hs.b,by have:=hs.d;omega⟩ ⟨t.kind-5,[],0,0,0,0,Sk⟩ bp b5 _))) ?_
    rintro _ _ ⟨rfl,rfl⟩
    refine By (Qp Br (Qp (Qf [_,Iq _]) (Qp Dg ?_)))
    refine Qp (Ag (c:=[Iq _,.str _,.str _,Iq _,_,Iq _]) tok rfl rfl rfl rfl rfl rfl (by decide) (Dk (Es h1))) ?_
    refine Qp (B2 [Iq _,.str _,.str _,Iq _,_,Iq _]) ?_
    refine Qe (Al (by kernel_rfl) rfl rfl (Bw.front2 (R:=_::_) 1 0 rfl rfl rfl (eF T V ⟨s.next,s.scopes+1⟩ ⟨hs.a,by have:=hs.c;simp only;omega⟩ ⟨t.kind-5,[],0,0,s.scopes,0,Sk⟩ bp b5 hrv (Bn t 1) (Sp ht h1) (fun h=>Om (Om hw h1) h) _))) ?_
    rintro _ _ ⟨rfl,rfl⟩
    refine Aa (AW.region (Qp (Qf [_,Iq _]) (Qp Dg ?_)))
    refine Qp (Jh (l:=0) (h:=1) tok rfl rfl rfl rfl rfl (rfl) (⟨_,rfl⟩) (by decide) (by rw [List.length_map];omega) ((by rw [List.drop_zero,←List.map_take]))) ?_
    refine Qp U8 (AOL.nil (Bc (Af ?_)))
    refine ⟨(⟨t.kind-5,[],Mi (Gb T) (Bn t 1).text,s.next,s.scopes,0,Ju T V (Bn t 1)⟩,⟨s.next+1,s.scopes+1⟩,t.kids.take 1),?_,GS.trans (GS.refl _) (GS.weaken ⟨rfl,rfl,rfl,rfl,trivial⟩ (.refl _))⟩
    exact ⟨pn_10 hc1 hc2,(yL hc2).symm,(pk_10 hc1 hc2).symm⟩
   ·
    refine Ad (Qp Av (Qp A3 (Aa (Au (fun hc3=>?_) fun hc3=>?_))))
    ·
     refine Ad (Qp Br ?_)
     refine Qe (Al (by kernel_rfl) rfl rfl (Bw.front2 (R:=_::_) 2 0 rfl rfl rfl (aJ T V s ⟨hs.b,by have:=hs.d;omega⟩ ⟨t.kind-5,[],0,0,0,0,Sk⟩ bp b5 _))) ?_
     rintro _ _ ⟨rfl,rfl⟩
     refine Aa (AW.region (Qp (Qf [Iq _,_,Iq _]) (Qp Bt (Qp Cb ?_))))
     refine B0 0 [Iq _,_,Iq _,Iq _,Iq _,Iq _,Iq _,_,Iq _,Iq _,Iq _,Iq _,Iq _,.str _] (_::_::_::_) ?_
     refine AOL.nil (Bc (Af ?_))
     refine ⟨(⟨t.kind-5,[],0,0,s.scopes,t.num,Sk⟩,⟨s.next,s.scopes+1⟩,t.kids),?_,GS.trans (GS.refl _) (GS.weaken ⟨rfl,rfl,rfl,rfl,trivial⟩ (.refl _))⟩
     exact ⟨pn_11 hc1 hc2 hc3,(zT hc3).symm,(pk_o hc1 hc2 (by have h:t.kind=11:=(by simpa using hc3);simp [h])).symm⟩
    ·
     refine Ad (Qp Av (Qp A3 (Aa (Au (fun hc4=>?_) fun hc4=>?_))))
     ·
      have h2:=Na hc (.inr (by simpa using hc4))
      have h1:1<t.kids.length:=by omega
      refine Ad (Qp Br (Qp (Qf [_,Iq _]) (Qp Dg ?_)))
      refine Qp (Ag (c:=[Iq _,.str _,.str _,Iq _,_,Iq _]) tok rfl rfl rfl rfl rfl rfl (by decide) (Dk (Es h1))) ?_
      refine Qp (B2 [Iq _,.str _,.str _,Iq _,_,Iq _]) ?_
      refine AOL.Aaq (Ce (k:=2) (by kernel_rfl) rfl rfl (Yg T V s bp hrv (Bn t 1) (Sp ht h1) (Om hw h1))) rfl rfl ?_
      refine Qp Cb ?_
      refine B0 0 [Iq _,_,Iq _,Iq _,Iq _,Iq _,Iq _,_,Iq _,Iq _,Iq _,Iq _,Iq _,.str _] (_::_::_::_) ?_
      refine Aa (AW.region (Qp (Qf [_,Iq _]) (Qp Dg ?_)))
      refine Qp (Jh (l:=0) (h:=1) tok rfl rfl rfl rfl rfl (rfl) (⟨_,rfl⟩) (by decide) (by rw [List.length_map];omega) ((by rw [List.drop_zero,←List.map_take]))) ?_
      refine Qp U8 (AOL.nil (Bc (Af ?_)))
      refine ⟨(⟨t.kind-5,[],0,0,0,0,Eb T V (Bn t 1)⟩,s,t.kids.take 1),?_,GS.trans (GS.perm (List.Perm.cons _ (List.Perm.swap _ _ _))) (GS.weaken ⟨rfl,rfl,rfl,rfl,trivial⟩ (.refl _))⟩
      exact ⟨pn_12 hc1 hc2 hc3 hc4,(vM hc1 hc2 hc3).symm,(pk_12 hc1 hc4).symm⟩
     ·
      refine AW.skip (Bc (Af ?_))
      refine ⟨(⟨t.kind-5,[],0,0,0,0,Sk⟩,s,t.kids),?_,GS.trans (GS.perm (List.Perm.cons _ (List.Perm.swap _ _ _))) (GS.weaken ⟨rfl,rfl,rfl,rfl,trivial⟩ (.refl _))⟩
      exact ⟨(ptn_o hc1 hc2 hc3 hc4).symm,(vM hc1 hc2 hc3).symm,(pk_o hc1 hc2 hc4).symm⟩
 ·
  rintro ⟨p,s1,ks⟩ hQ
  obtain ⟨h1,h2,h3⟩:=hQ
  simp only at h1 h2 h3
  subst h1 h2 h3
  have hnk:NxOK (Q9 t s) (Dt (Ew t)):=by have h:=S0 t;have h9:=hnx.1;exact ⟨h9.a,h9.b,by have:=h9.c;omega,by have:=h9.d;omega⟩
  refine Ad (Qp K4 (Qp Br ?_))
  refine Qp (Bv (l:=[.val _]) (l':=[]) rfl rfl) ?_
  refine Qe (Al (by kernel_rfl) rfl rfl ((sQ T V _ bp (Ew t) (Aag ht) hnk (fun a ha s hs=>fun R=>ih a (Um ha) (Ec ht (Um ha)) (Yp hc ha) ((Gu hw).2 a (Um ha)) s hs R)).at (k:=1) (H2:=_::_::_::_) rfl rfl)) ?_
  rintro _ _ ⟨rfl,rfl⟩
  refine Qp Cb ?_
  refine B0 0 [Iq _,_,Iq _,Iq _,Iq _,Iq _,Iq _,_,Iq _,Iq _,Iq _,Iq _,Iq _,.str _] (_::_::_::_) ?_
  refine By ?_
  refine AOL.Aaq (A8 (k:=0) (l:=[Iq _,_,Iq _,Iq _,Iq _,Iq _,Iq _,_,Iq _,Iq _,Iq _,Iq _,Iq _,.str _]) tok rfl rfl rfl rfl rfl) rfl rfl ?_
  refine B0 2 [Iq _,_,Iq _,Iq _,Iq _,Iq _,Iq _,_,Iq _,Iq _,Iq _,Iq _,Iq _,.str _] (_::_::_::_) ?_
  refine Aa (AW.ret ?_)
  refine ⟨.inr rfl,[.agg [Iq _,_,Iq _,Iq _,Iq _,Iq _,Iq _,_,Iq _,Iq _,Iq _,Iq _,Iq _,.str _]],.cons (.box _ _ _ 2 _ _ _ _ rfl rfl rfl rfl rfl rfl) <| .nil,_,.cons _ (.cons_cons _ (.cons _ (.refl _))),?_⟩
  exact ⟨Eq.trans rfl (congrArg (fun q:Pt×Nx=>AV.agg (cPt q.1)) (T4 t s).symm),congrArg (fun q:Pt×Nx=>(.box bp 159 (Qi T V q.2)::H:List HO)) (T4 t s).symm⟩

end Go.Proofs.YtckhoadldibflaaGreatDoor

namespace Go.Aw
open Go

section
variable {P:Program} {T:List (Nat×TD)} {d:Option Nat} {ty:TypeId} {pos:String} {aft:Array Edge} {gd:Option (Nat×Bool)} {ρ:Operand→AV}

end
end Go.Aw
