/-
  Several texts in one: R4w, R5w, R6w, At, R7w, EW1. No condition.
-/
import Derived.Test.YtckhoadldibflaaGreatDoorK01
import Derived.Test.YtckhoadldibflaaGreatDoorK06
import Derived.Test.YtckhoadldibflaaGreatDoorK08
import Derived.KernelRfl
import Derived.Test.YtckhoadldibflaaGreatDoorK07
import Derived.Test.YtckhoadldibflaaGreatDoorK02
import Derived.Test.YtckhoadldibflaaGreatDoorTab
set_option linter.unusedVariables false
set_option linter.unusedSimpArgs false
namespace Go.Proofs.YtckhoadldibflaaGreatDoor
open Go Go.Aw
set_option maxHeartbeats 3200000
set_option maxRecDepth 20000

theorem lS (a b c d:HO)(H:List HO):List.Perm (a::b::c::d::H) (b::c::d::a::H):=by
 have h1:List.Perm (a::b::c::d::H) (b::a::c::d::H):=List.Perm.swap ..;have h2:List.Perm (a::c::d::H) (c::a::d::H):=List.Perm.swap ..;have h3:List.Perm (a::d::H) (d::a::H):=List.Perm.swap ..;exact (h1.trans (h2.cons b)).trans ((h3.cons c).cons b)
theorem rf_decH (T:List e8Sc)(V:List Va)(t:Syn)(v:Value)(bp bn:Nat)(H:List HO):(.row v ((V ++ [Ou T t]).map O2).length 50 2 :: .box bp 159 [.sl 2 (T.map Mt),.smapv (Mo (Ky T)),.row v 2 ((V ++ [Ou T t]).map O2),.val (.map (some bn)),.int .i64 0,.int .i64 0] :: .smap bn (Mo (Id (V ++ [Ou T t])))::H:List HO) = .row v (V.map O2 ++ [O2 (Ou T t)]).length 50 2 :: .box bp 159 [.sl 2 (T.map Mt),.smapv (Mo (Ky T)),.row v 2 (V.map O2 ++ [O2 (Ou T t)]),.val (.map (some bn)),.int .i64 0,.int .i64 0] :: .smap bn (Mo (Id V ++ [t.name]))::H:=by
 simp [Ou]
theorem Yb (T:List e8Sc)(hl:T.length≤1048576)(hd:(Ky T).Nodup)(H:List HO):Bp Tryz.prog 93 H [.sl 2 (T.map Mt)] (fun r H'=>∃b bn,r = .val (.pointer (some ⟨b,0,none⟩))∧H' = .box b 159 [.sl 2 (T.map Mt),.smapv (Mo (Ky T)),.val (.slice none 0 0),.val (.map (some bn)),.int .i64 0,.int .i64 0] :: .smap bn []::H):=by
 refine Bp.body (n:=27) tok Tryz.func93 rfl rfl rfl ?_;refine AW.ghostPost (Ae (Qp Ua (Bs (Qp G4 (Qe (Nl) ?_)))));rintro _ _ ⟨b7,rfl,rfl⟩;refine Qe (Nl) ?_;rintro _ _ ⟨b8,rfl,rfl⟩;refine Qp (Y0 (l0:=[.val (.slice none 0 0),.val (.map none),.val (.slice none 0 0),.val (.map none),.int .i64 0,.int .i64 0]) (l:=[_,_,_,_,Iq _,Iq _]) tok rfl rfl (by kernel_rfl) rfl) ?_;refine Qe (xX (v:=.agg _) (cs:=[_,_,_,_,Iq _,Iq _]) rfl rfl (rfl)) ?_;rintro _ _ ⟨b10,rfl,rfl⟩;refine Qp Ua (Ag (Bk (Qp G4 ?_)));refine Qp (Ah (n:=T.length) tok rfl rfl rfl (by simp)) ?_;refine Qp Ao (Ag (AW.block ?_));refine AW.Aag (fun (k:Nat)=>(⟨[(3,.val (.pointer (some ⟨b10,0,none⟩))),(11,.sl 2 (T.map Mt)),(12,.int .i64 T.length),(13,.int .i64 (k:Int))],.box b10 159 [.sl 2 (T.map Mt),.val (.map (some b7)),.val (.slice none 0 0),.val (.map (some b8)),.int .i64 0,.int .i64 0] :: .smap b8 [] :: .smap b7 (Mo (Ky (T.take k)))::H,27⟩:St)) (fun k=>k≤T.length) (fun k=>T.length-k) (0) ?_ Cs ?_
 · exact E2 _
 rintro k hR;refine Ae (Qp Bx (Re (Aq (fun hc1=>?_) fun hc1=>?_)))
 ·
  obtain ⟨a,ha⟩:=Cc hc1;have hlt:=Bu ha;have hm:=B4 ha;refine Bg (AW.seq (AW.block (Ae (Qp Ao ?_))));refine Qp (Aa (c:=Ub) tok rfl rfl rfl rfl rfl rfl (by omega) (Dv ha)) ?_;refine Qp (B0 Ub) (Ed [.str [],.sl 2 []] fun b5=>Qp Al ?_);refine Bt 0 Ub (_::_::_::_::_) ?_;refine AOL.ghost (GS.freeze (t:=5) 0 rfl rfl) ?_;refine Ag ?_;refine AW.draw mixed (fun H'=>_∈H') (B4 (i:=0) rfl) (by kernel_rfl) ?_;refine Qn 0 rfl Bm (Qn 1 rfl (Af rfl) (Qn 2 rfl B7 (Qn 3 rfl (OpP.Aah (fun k=>Ad (k:=k) (c:=.val _) tok rfl rfl rfl rfl) (fun _ h=>h)) ?_)));refine Qn 4 rfl (Qf Ub) (Qn 5 rfl Hc (Qn 6 rfl Ao ?_));refine Gz.last _ _ 7 _ _ rfl (by kernel_rfl) rfl rfl (gI (i:=2) (ks:=Ky (T.take k)) (H2:=_::_::_::_) tok rfl rfl rfl rfl rfl rfl rfl rfl (by simp;omega) (nm_new hd ha) rfl) (by kernel_rfl) ?_;rintro _ _ ⟨rfl,rfl⟩;refine I6 (Bh (AW.region (Qp E9 (Qp Ao (Ag ?_)))));refine ⟨k+1,?_,?_,GS.trans (GS.heq (congrArg (fun ns:List Am=>(_::_ :: .smap b7 (Mo ns)::_:List HO)) (nC ha))) Cs⟩
  · exact hlt
  omega
 have hte:=Dm hc1;refine AW.exit ?_;refine Bq (Ri (Ae (Qp Bm (Qp Ua (Rb ?_)))));refine ⟨_,GS.freezeSMapCell 2 0 1 rfl rfl rfl rfl rfl,.inr rfl,[.val _],.cons (.tmp _ _ rfl) <| .nil,_,.refl _,?_⟩;exact ⟨b10,b8,rfl,congrArg (fun Q:List e8Sc=>(.box b10 159 [.sl 2 (T.map Mt),.smapv (Mo (Ky Q)),.val (.slice none 0 0),.val (.map (some b8)),.int .i64 0,.int .i64 0] :: .smap b8 []::H:List HO)) hte⟩
theorem lG (T:List e8Sc)(V:List Va)(hV:V.length≤16)(v:Value)(bp bn:Nat)(t:Syn)(H:List HO):Bp Tryz.prog 96 (.row v ((V).map O2).length 50 2 :: .box bp 159 [.sl 2 (T.map Mt),.smapv (Mo (Ky T)),.row v 2 ((V).map O2),.val (.map (some bn)),.int .i64 0,.int .i64 0] :: .smap bn (Mo (Id (V)))::H) [.val (.pointer (some ⟨bp,0,none⟩)),.agg (cSyn t)] (fun r H'=>∃v',r = .agg (Uc (tK T V t))∧H' = .row v' ((dV T V t).map O2).length 50 2 :: .box bp 159 [.sl 2 (T.map Mt),.smapv (Mo (Ky T)),.row v' 2 ((dV T V t).map O2),.val (.map (some bn)),.int .i64 0,.int .i64 0] :: .smap bn (Mo (Id (dV T V t)))::H):=by
 refine Bp.body (n:=75) tok Tryz.func96 rfl rfl rfl ?_;refine Ae (Qp (Gc Au) (Ed gT fun b4=>Re ?_));refine AW.draw mixed (fun H'=>_∈H') (B4 (i:=2) rfl) (by kernel_rfl) ?_;refine Qn 0 rfl Bm (Qn 1 rfl (Af rfl) (Qn 2 rfl B7 (Qn 3 rfl (OpP.Aah (fun k=>Ad (k:=k) (c:=.smapv _) tok rfl rfl rfl rfl) (fun _ h=>h)) ?_)));refine Qn 4 rfl (Qf Wv) (Qn 5 rfl Hc ?_);refine Qn 6 rfl (Zb (es:=Mo (Ky T)) tok rfl rfl rfl rfl rfl (by kernel_rfl) rfl rfl (Qb _ _ rfl) (mD _ _)) ?_;refine Qn 7 rfl N4 (Qn 8 rfl Iu (Qn 9 rfl eU (Qn 10 rfl Al (Qn 11 rfl A0 ?_))));refine Hs ?_;refine Bh (AW.seq ?_);refine AW.draw mixed (fun H'=>_∈H'∧_∈H') ⟨(B4 (i:=2) rfl),(B4 (i:=3) rfl)⟩ (by kernel_rfl) ?_;refine Qn 0 rfl Bm (Qn 1 rfl (Af rfl) (Qn 2 rfl B7 (Qn 3 rfl (OpP.Aah (fun k=>Ad (k:=k) (c:=.val _) tok rfl rfl rfl rfl) (fun _ h=>h.1)) ?_)));refine Qn 4 rfl (Qf eX) (Qn 5 rfl Hc ?_);refine Qn 6 rfl (OpP.Aah (fun k=>pZ (i:=k) (es:=Mo (Id V)) tok rfl rfl rfl rfl rfl (by kernel_rfl) rfl rfl (Qb _ _ rfl) (mD _ _)) (fun _ h=>h.2)) ?_;refine Qn 7 rfl N4 (Qn 8 rfl Iu (Qn 9 rfl eU (Qn 10 rfl Al (Qn 11 rfl A0 ?_))));refine Hs ?_;refine Bh (AW.seq (AW.block (Ae (Qp Bm (Qp (Af rfl) (Qp B7 (AOL.Aae (Ad (k:=2) (c:=.row _ _ _) tok rfl rfl rfl rfl) rfl rfl ?_)))))));refine Qp (Hk (n:=V.length) tok rfl rfl rfl (by simp)) ?_;refine Qp Av (Qp A0 (Ag (Aq (fun hc1=>Ae (Qp (Qf [Iq _]) (Qp Bi (Qp (E4 He) ?_)))) fun hc1=>?_)))
 ·
  refine Bt 0 He (_::_::_::_::_) (Ra ?_);refine ⟨.inr rfl,[.agg He],.cons (.box _ _ _ 0 _ _ _ _ rfl rfl rfl rfl rfl rfl) <| .nil,_,.cons _ (.refl _),?_⟩;have hx:=kL (T:=T) (V:=V) (t:=t) (dec_1 hc1) (by decide);exact ⟨v,Eq.trans rfl (congrArg (fun q:Fa=>AV.agg (Uc q)) hx.1).symm,congrArg (fun Q:List Va=>(.row v ((Q).map O2).length 50 2 :: .box bp 159 [.sl 2 (T.map Mt),.smapv (Mo (Ky T)),.row v 2 ((Q).map O2),.val (.map (some bn)),.int .i64 0,.int .i64 0] :: .smap bn (Mo (Id (Q)))::H:List HO)) hx.2.symm⟩
 refine Ae (Qp A9 (Qp Et (Qp A0 (Ag (Aq (fun hc2=>Ae (Qp (Qf [Iq _]) (Qp Bi (Qp (E4 He) ?_)))) fun hc2=>Ae (Qp A9 (Qp A0 (Ag (Aq (fun hc3=>Ae (Qp (Qf [Iq _]) (Qp Bi (Qp (E4 He) ?_)))) fun hc3=>Rf (AW.seq ?_))))))))))
 ·
  refine Bt 0 He (_::_::_::_::_) (Ra ?_);refine ⟨.inr rfl,[.agg He],.cons (.box _ _ _ 0 _ _ _ _ rfl rfl rfl rfl rfl rfl) <| .nil,_,.cons _ (.refl _),?_⟩;have hx:=kL (T:=T) (V:=V) (t:=t) (dec_2 hc1 hc2) (by decide);exact ⟨v,Eq.trans rfl (congrArg (fun q:Fa=>AV.agg (Uc q)) hx.1).symm,congrArg (fun Q:List Va=>(.row v ((Q).map O2).length 50 2 :: .box bp 159 [.sl 2 (T.map Mt),.smapv (Mo (Ky T)),.row v 2 ((Q).map O2),.val (.map (some bn)),.int .i64 0,.int .i64 0] :: .smap bn (Mo (Id (Q)))::H:List HO)) hx.2.symm⟩
 ·
  refine Bt 0 He (_::_::_::_::_) (Ra ?_);refine ⟨.inr rfl,[.agg He],.cons (.box _ _ _ 0 _ _ _ _ rfl rfl rfl rfl rfl rfl) <| .nil,_,.cons _ (.refl _),?_⟩;have hx:=kL (T:=T) (V:=V) (t:=t) (dec_3 hc1 hc2 hc3) (by decide);exact ⟨v,Eq.trans rfl (congrArg (fun q:Fa=>AV.agg (Uc q)) hx.1).symm,congrArg (fun Q:List Va=>(.row v ((Q).map O2).length 50 2 :: .box bp 159 [.sl 2 (T.map Mt),.smapv (Mo (Ky T)),.row v 2 ((Q).map O2),.val (.map (some bn)),.int .i64 0,.int .i64 0] :: .smap bn (Mo (Id (Q)))::H:List HO)) hx.2.symm⟩
 refine AW.draw mixed (fun H'=>_∈H') (B4 (i:=2) rfl) (by kernel_rfl) ?_;refine Qn 0 rfl Bm (Qn 1 rfl (Af rfl) (Qn 2 rfl B7 (Qn 3 rfl (OpP.Aah (fun k=>Ad (k:=k) (c:=.val _) tok rfl rfl rfl rfl) (fun _ h=>h)) ?_)));refine Qn 4 rfl (Qf eX) (Qn 5 rfl Hc (Qn 6 rfl Bm (Qn 7 rfl (Af rfl) (Qn 8 rfl B7 (Qn 9 rfl (OpP.Aah (fun k=>Ad (k:=k) (c:=.row _ _ _) tok rfl rfl rfl rfl) (fun _ h=>h)) ?_)))));refine Qn 10 rfl (Hk (n:=V.length) tok rfl rfl rfl (by simp)) ?_;refine Gz.last _ _ 11 _ _ rfl (by kernel_rfl) rfl rfl (gI (i:=3) (ks:=Id V) (H2:=_::_::_::_::_) tok rfl rfl rfl rfl rfl rfl rfl rfl (by simp) hc3 rfl) (by kernel_rfl) ?_;rintro _ _ ⟨rfl,rfl⟩;refine Bh (AW.seq ?_);refine AW.draw mixed (fun H'=>_∈H') (B4 (i:=2) rfl) (by kernel_rfl) ?_;refine Qn 0 rfl Bm (Qn 1 rfl Bm (Qn 2 rfl (Af rfl) (Qn 3 rfl B7 (Qn 4 rfl (OpP.Aah (fun k=>Ad (k:=k) (c:=.row _ _ _) tok rfl rfl rfl rfl) (fun _ h=>h)) ?_))));refine Qn 5 rfl (Qf eX) (Qn 6 rfl Hc (Qn 7 rfl Ao (Qn 8 rfl (E4 Jz) (Qn 9 rfl (Aj (es:=[Jz]) tok rfl rfl rfl rfl rfl rfl rfl rfl rfl) ?_))));refine Gz.eff _ _ 10 _ _ rfl (by kernel_rfl) rfl rfl (Dh (k:=1) tok rfl rfl rfl rfl rfl rfl rfl rfl (Gu rfl) (scVa V) (by simp;omega) (by simp [maxLen];omega)) (by rintro _ _ ⟨v71,rfl,rfl⟩;simp) ?_;rintro _ _ ⟨v71,rfl,rfl⟩;refine Qn 11 rfl (Af rfl) (Qn 12 rfl B7 ?_);refine Gz.last _ _ 13 _ _ rfl (by kernel_rfl) rfl rfl (Bf (k:=2) (v:=.row _ _ _) (cs':=[_,_,_,_,Iq _,Iq _]) (H2:=_::_::_::_::_) tok rfl rfl rfl rfl (rfl) rfl rfl rfl rfl) (by kernel_rfl) ?_;rintro _ _ ⟨rfl,rfl⟩;refine Bh (Ae (Qp (Qc rfl (N9)) ?_));refine Bt 0 He (_::_::_::_::_) (Rb ?_);refine ⟨.inr rfl,[.agg He],.cons (.box _ _ _ 0 _ _ _ _ rfl rfl rfl rfl rfl rfl) <| .nil,_,.cons _ (.refl _),?_⟩;have hx:=dFa_yes (T:=T) (V:=V) (t:=t) (dec_4 hc1 hc2 hc3);refine ⟨v71,Eq.trans rfl (congrArg (fun q:Fa=>AV.agg (Uc q)) hx.1).symm,Eq.trans ?_ (congrArg (fun Q:List Va=>(.row v71 ((Q).map O2).length 50 2 :: .box bp 159 [.sl 2 (T.map Mt),.smapv (Mo (Ky T)),.row v71 2 ((Q).map O2),.val (.map (some bn)),.int .i64 0,.int .i64 0] :: .smap bn (Mo (Id (Q)))::H:List HO)) hx.2.symm)⟩;exact (rf_decH T V t v71 bp bn H).symm
theorem vK (T:List e8Sc)(V0:List Va)(hV0:V0.length≤16)(v0:Value)(bp bn:Nat)(l:List Syn)(hl:l.length≤1048576)(H:List HO):Bp Tryz.prog 94 (.row v0 ((V0).map O2).length 50 2 :: .box bp 159 [.sl 2 (T.map Mt),.smapv (Mo (Ky T)),.row v0 2 ((V0).map O2),.val (.map (some bn)),.int .i64 0,.int .i64 0] :: .smap bn (Mo (Id (V0)))::H) [.sl 6 (l.map Cl),.fn (.func 96) [.val (.pointer (some ⟨bp,0,none⟩))] []] (fun r H'=>∃v',r = .agg (Uc (Hi T V0 l).2)∧H' = .row v' (((Hi T V0 l).1).map O2).length 50 2 :: .box bp 159 [.sl 2 (T.map Mt),.smapv (Mo (Ky T)),.row v' 2 (((Hi T V0 l).1).map O2),.val (.map (some bn)),.int .i64 0,.int .i64 0] :: .smap bn (Mo (Id ((Hi T V0 l).1)))::H):=by
 refine Bp.body (n:=23) tok Tryz.func94 rfl rfl rfl ?_;refine Ae (Ed gT fun b4=>Ag (Bk (Qp G4 ?_)));refine Qp (Ah (n:=l.length) tok rfl rfl rfl (by simp)) ?_;refine Qp Ao ?_;refine AOL.ghost (GS.perm (lS _ _ _ _ _)) ?_;refine Ag (AW.block ?_);refine AW.Aag (fun (q:Nat×List Va×Value)=>(⟨[(0,.sl 6 (l.map Cl)),(1,.fn (.func 96) [.val (.pointer (some ⟨bp,0,none⟩))] []),(4,.val (.pointer (some ⟨b4,0,none⟩))),(8,.sl 6 (l.map Cl)),(9,.int .i64 l.length),(10,.int .i64 (q.1:Int))],.row q.2.2 ((q.2.1).map O2).length 50 2 :: .box bp 159 [.sl 2 (T.map Mt),.smapv (Mo (Ky T)),.row q.2.2 2 ((q.2.1).map O2),.val (.map (some bn)),.int .i64 0,.int .i64 0] :: .smap bn (Mo (Id (q.2.1))) :: .box b4 94 gT::H,23⟩:St)) (fun q=>q.1≤l.length∧q.2.1.length≤16∧Hi T V0 l=Hi T q.2.1 (l.drop q.1)) (fun q=>l.length-q.1) ((0,V0,v0)) ?_ Cs ?_
 · exact ⟨E2 _,hV0,rfl⟩
 rintro q hR;refine Ae (Qp Bx (Re (Aq (fun hc1=>?_) fun hc1=>?_)))
 ·
  obtain ⟨a,ha⟩:=Cc hc1;have hlt:=Bu ha;have hm:=B4 ha;refine Bg (AW.seq (AW.block (Ae ?_)));refine Qp (Aa (c:=Au) tok rfl rfl rfl rfl rfl rfl (by omega) (Gp ha)) ?_;refine Qp (B0 Au) (Ed Kz fun b6=>?_);refine Bt 0 Au (_::_::_::_::_::_) ?_;refine AOL.ghost (GS.freeze (t:=6) 0 rfl rfl) ?_;refine Bs (Qp (A1 (v:=.fn _ _ _) rfl) (Qp (B0 Au) ?_));refine Qe (Ix (by kernel_rfl) rfl rfl rfl (Bp.front3 (R:=_::_) 2 1 0 rfl rfl rfl rfl (lG T q.2.1 hR.2.1 q.2.2 bp bn a _))) ?_;rintro _ _ ⟨v16,rfl,rfl⟩;refine Ed gT fun b7=>?_
  refine Bt 0 He (_::_::_::_::_::_) ?_;refine AOL.ghost (GS.freeze (t:=7) 0 rfl rfl) ?_;refine Bs (Qp (Qf [Iq _]) (Qp Bi (Qp Br (Ag (Aq (fun hc2=>Ae (Qp (B0 He) ?_)) fun hc2=>Rf (AW.region (Qp E9 (Qp Ao (Ag ?_)))))))))
  ·
   refine Bt 3 He (_::_::_::_::_) (Ra (Be (Db (Be ?_))));refine ⟨.inr rfl,[.agg He],.cons (.box _ _ _ 3 _ _ _ _ rfl rfl rfl rfl rfl rfl) <| .nil,_,.cons_cons _ (.cons_cons _ (.cons_cons _ (.cons _ (.refl _)))),?_⟩;have hx:=hR.2.2.trans (wM ha hc2);exact ⟨v16,by rw [hx];rfl,by rw [hx]⟩
  refine ⟨(q.1+1,dV T q.2.1 a,v16),?_,?_,Cs⟩
  · exact ⟨hlt,dV_len hR.2.1,hR.2.2.trans (decS_on ha hc2)⟩
  simp only;omega
 have hde:=E3 hc1;have hall:=hR.2.2;rw [hde] at hall;refine AW.exit ?_;refine Bq (Ri (Ae ?_));refine Qp (Qc rfl (N9)) ?_;refine Bt 3 He (_::_::_::_::_) (Rb ?_);refine ⟨.inr rfl,[.agg He],.cons (.box _ _ _ 3 _ _ _ _ rfl rfl rfl rfl rfl rfl) <| .nil,_,.cons_cons _ (.cons_cons _ (.cons_cons _ (.cons _ (.refl _)))),?_⟩;have hx:Hi T V0 l=(q.2.1,O3):=hall;exact ⟨q.2.2,by rw [hx];rfl,by rw [hx]⟩
set_option maxHeartbeats 3200000
set_option maxRecDepth 20000

theorem rM (t:Syn)(ht:E7 t)(hc:A4 t .pats=0):Ap Tryz.prog 95 [.agg (cSyn t)] (.sl 6 ((I4 t).map Cl)):=by
 induction t using Syn.ind
 rename_i t ih;refine Ap.body (n:=45) tok Tryz.func95 rfl rfl rfl fun H=>?_
 refine Ae (Qp (Gc Au) (Qp (Ck (z:=6) rfl) (Ag (Bk (Qp (Qf Au) (Qp Bi (Ag (AW.block (Ae (Qp Av (Qp A0 (Ag (Aq (fun hc1=>Ae (Qp (B0 Au) (Qp (Aj (es:=[Au]) tok rfl rfl rfl rfl rfl rfl rfl rfl rfl) (Qp eN (Ra (Qr (.sl _ _) ?_)))))) fun hc1=>?_)))))))))))))
 · exact Eq.trans rfl (congrArg (AV.sl 6) (evs_1 hc1)).symm
 have h5:t.kind≠5:=by simpa using hc1
 refine Ae (Qp Av (Qp A0 (Ag (Aq (fun hc2=>?_) fun hc2=>Ae (Qp Av (Qp A0 (Ag (Aq (fun hc3=>?_) fun hc3=>?_))))))))
 ·
  have h2:=H0 hc (.inl (by simpa using hc2));have hg0:=D8 (t:=t) (k:=0) (by omega);have hg1:=D8 (t:=t) (k:=1) (by omega);have hb2:=vZ (E6 ht (B4 hg0));refine AW.seq ?_;refine Ol ?_;refine Qn 0 rfl (Qf Kg) (Qn 1 rfl Cw ?_);refine Qn 2 rfl (Aa (c:=Au) tok rfl rfl rfl rfl rfl rfl (by decide) (Gp hg1)) ?_;refine Qn 3 rfl (B0 Au) (Qn 5 rfl (Qf Kg) (Qn 6 rfl Cw ?_));refine Qn 7 rfl (Aa (c:=Au) tok rfl rfl rfl rfl rfl rfl (by decide) (Gp hg0)) ?_;refine Qn 8 rfl (B0 Au) (Qn 9 rfl (Qc rfl (ih _ (B4 hg0) (E6 ht (B4 hg0)) (Ql hc h5 hg0 fun _=>rfl))) ?_);refine uT 4 rfl (F4 (es:=[Au]) tok rfl rfl rfl rfl rfl rfl rfl rfl rfl) ?_;rintro _ _ ⟨v18,rfl,rfl⟩;refine uT 10 rfl (Dh (k:=0) tok rfl rfl rfl rfl rfl rfl rfl rfl (tH _) (Gu rfl) (by simp at hb2 ⊢;omega) (by simp [maxLen] at hb2 ⊢;omega)) ?_;rintro _ _ ⟨v24,rfl,rfl⟩;refine Qn 11 rfl (A6 (v:=.row _ _ _) rfl) ?_;refine Hs ?_;refine Bh ?_;refine AW.ghost (GS.unrow 2 rfl) ?_;refine AW.ret (Db (Be ?_));refine ⟨.inr rfl,[.sl _ _],.cons (.tmp _ _ rfl) <| .nil,.cons _ (.refl _),?_⟩;exact Eq.trans rfl (congrArg (AV.sl 6) (evs_2 hc1 hc2 (by omega))).symm
 ·
  have h2:=H0 hc (.inr (by simpa using hc3));have hg0:=D8 (t:=t) (k:=0) (by omega);refine Ae (Qp (Qf Kg) (Qp Cw ?_));refine Qp (Aa (c:=Au) tok rfl rfl rfl rfl rfl rfl (by decide) (Gp hg0)) ?_;refine Qp (B0 Au) (Qp (Qc rfl (ih _ (B4 hg0) (E6 ht (B4 hg0)) (Ql hc h5 hg0 fun _=>rfl))) ?_);refine Qp eN (Ra (Qr (.sl _ _) ?_));exact Eq.trans rfl (congrArg (fun q:List Syn=>AV.sl 6 (q.map Cl)) (evs_3 hc1 hc2 hc3 (by omega))).symm
 have hn:¬(t.kind=10∨t.kind=12):=fun hq=>hq.elim (by simpa using hc2) (by simpa using hc3)
 have hkl:=Hy ht;refine Rf (Ae (Qp Ua ?_));refine AOL.ghost (GS.row (t:=3) 25 6 rfl) ?_;refine Ag (Bk (Qp (Qf Kg) (Qp Cw ?_)));refine Qp (Ah (n:=t.kids.length) tok rfl rfl rfl (by simp)) ?_;refine Qp Ao (Ag (AW.block ?_));refine AW.Aag (fun (p:Nat×List (List AV)×Value)=>(⟨[(1,.ptr (cSyn t)),(3,.row p.2.2 6 p.2.1),(33,.sl 6 (t.kids.map Cl)),(34,.int .i64 t.kids.length),(35,.int .i64 (p.1:Int))],.row p.2.2 p.2.1.length 25 6::H,45⟩:St)) (fun p=>p.1≤t.kids.length∧p.2.1=((t.kids.take p.1).flatMap I4).map Cl) (fun p=>t.kids.length-p.1) ((0,[],.slice none 0 0)) ?_ Cs ?_
 · exact ⟨E2 _,rfl⟩
 rintro p hR;refine Ae (Qp Bx (Re (Aq (fun hc4=>?_) fun hc4=>?_)))
 ·
  obtain ⟨a,ha⟩:=Cc hc4;have hlt:=Bu ha;have hm:=B4 ha;have hsc:∀c∈p.2.1,Bb c=true:=by rw [hR.2];exact tH _
  have hb1:p.2.1.length≤1000000:=by rw [hR.2];exact ev_part ht _
  have hb2:=vZ (E6 ht hm);refine Bg (AW.seq (AW.block (Ae ?_)));refine Qp (Aa (c:=Au) tok rfl rfl rfl rfl rfl rfl (by omega) (Gp ha)) ?_;refine Qp (B0 Au) (Ed Kz fun b5=>?_);refine Bt 0 Au (_::_::_) ?_;refine AOL.ghost (GS.freeze (t:=5) 0 rfl rfl) ?_;refine Ag (AW.region (Qp (A1 (v:=.row _ _ _) rfl) (Qp (B0 Au) (Qp (Qc rfl (ih a hm (E6 ht hm) (Ql hc h5 ha fun hq=>absurd hq hn))) ?_))));refine Qe (Dh (k:=0) tok rfl rfl rfl rfl rfl rfl rfl rfl (tH _) (hsc) (by simp at hb1 hb2 ⊢;omega) (by simp [maxLen] at hb1 hb2 ⊢;omega)) ?_;rintro _ _ ⟨v42,rfl,rfl⟩;refine Qp (A6 (v:=.row _ _ _) rfl) (Rk (AW.region (Qp E9 (Qp Ao (Ag ?_)))));refine ⟨(p.1+1,p.2.1++(I4 a).map Cl,v42),?_,?_,Cs⟩
  · exact ⟨hlt,by simp only;rw [Eu ha,hR.2];simp⟩
  simp only;omega
 have hte:=Dm hc4;have hall:=hR.2;rw [hte] at hall;refine AW.exit ?_;refine Bq (Ri (Ae ?_));refine Qp (A1 (v:=.row _ _ _) rfl) ?_;refine AOL.ghost (GS.unrow 44 rfl) ?_;refine Qp eN (Rb ?_);refine ⟨.inr rfl,[.sl _ _],.cons (.tmp _ _ rfl) <| .nil,.cons _ (.refl _),?_⟩;exact (congrArg (AV.sl 6) hall).trans (congrArg (fun q:List Syn=>AV.sl 6 (q.map Cl)) (evs_4 hc1 hc2 hc3)).symm
set_option maxHeartbeats 6400000
set_option maxRecDepth 20000

theorem rf_ops  : Ap Tryz.prog 130 [] (.mapv opL):=by
 refine Ap.body (n:=3) tok Tryz.func130 rfl rfl rfl fun H=>?_
 refine Ae (Qp Ua (Bs (Qe (Vf) ?_)));rintro _ _ ⟨b1,rfl,rfl⟩;refine Rt (C7 (i:=0) (x:=Iq _) (H2:=_::_) tok rfl rfl rfl rfl rfl rfl rfl rfl rfl rfl) (Rt (C7 (i:=0) (x:=Iq _) (H2:=_::_) tok rfl rfl rfl rfl rfl rfl rfl rfl rfl rfl) (Rt (C7 (i:=0) (x:=Iq _) (H2:=_::_) tok rfl rfl rfl rfl rfl rfl rfl rfl rfl rfl) (Rt (C7 (i:=0) (x:=Iq _) (H2:=_::_) tok rfl rfl rfl rfl rfl rfl rfl rfl rfl rfl) (Rt (C7 (i:=0) (x:=Iq _) (H2:=_::_) tok rfl rfl rfl rfl rfl rfl rfl rfl rfl rfl) (Rt (C7 (i:=0) (x:=Iq _) (H2:=_::_) tok rfl rfl rfl rfl rfl rfl rfl rfl rfl rfl) (Rt (C7 (i:=0) (x:=Iq _) (H2:=_::_) tok rfl rfl rfl rfl rfl rfl rfl rfl rfl rfl) (Rt (C7 (i:=0) (x:=Iq _) (H2:=_::_) tok rfl rfl rfl rfl rfl rfl rfl rfl rfl rfl) ?_)))))));refine AOL.ghost (GS.freezeMap (t:=1) 0 rfl rfl) ?_;refine Qp (A1 (v:=.mapv _) rfl) (Qp (A6 (v:=.mapv _) rfl) (Rb (Qr (.mapv _) ?_)));rfl
theorem fL (T:List e8Sc)(V:List Va)(s:Nx)(hs:0≤s.scopes∧s.scopes≤3000000)(p:Pt)(bp pp:Nat)(H:List HO):Bp Tryz.prog 171 (.box pp 38 (cPt p) :: .box bp 159 (Uk T V s)::H) [.val (.pointer (some ⟨bp,0,none⟩)),.val (.pointer (some ⟨pp,0,none⟩))] (fun r H'=>r = .tuple []∧H' = .box pp 38 (cPt { p with scope:=s.scopes }) :: .box bp 159 (Uk T V ⟨s.next,s.scopes+1⟩)::H):=by
 refine Bp.body (n:=18) tok Tryz.func171 rfl rfl rfl ?_;refine Ae (Qp Bm (Qp Bm ?_));refine Qp (Af rfl) ?_;refine Qp B7 ?_;refine AOL.Aae (Ad (k:=1) (c:=Iq _) tok rfl rfl rfl rfl) rfl rfl ?_;refine Qp (Af rfl) ?_;refine Qp B7 ?_;refine Bt 0 C5 (_::_::_) ?_;refine Ag (AW.region (Qp Bm ?_));refine Qp (Af rfl) ?_;refine Qp B7 ?_;refine AOL.Aae (Ad (k:=1) (c:=Iq _) tok rfl rfl rfl rfl) rfl rfl ?_;refine Qp E9 ?_;refine Qp (Af rfl) ?_;refine Qp B7 ?_;refine Bt 1 [_,_,_,_,Iq _,Iq _] (_::_::_) ?_;refine AOL.nil ?_;refine ⟨.inl rfl,[],.nil,_,.refl _,?_⟩;exact ⟨rfl,rfl⟩
theorem pH (T:List e8Sc)(V:List Va)(s:Nx)(hs:0≤s.next∧s.next≤3000000)(p:Pt)(bp pp:Nat)(hrv:RvOK T V)(t:Syn)(ht:E7 t)(hw:0<t.kids.length→(D4 T V (A3 t 0)).err=0)(H:List HO):Bp Tryz.prog 170 (.box pp 38 (cPt p) :: .box bp 159 (Uk T V s)::H) [.val (.pointer (some ⟨bp,0,none⟩)),.val (.pointer (some ⟨pp,0,none⟩)),.agg (cSyn t)] (fun r H'=>r = .tuple []∧H' = .box pp 38 (cPt { p with type:=L7 (Ky T) t.text,var:=s.next,cond:=Ij T V t }) :: .box bp 159 (Uk T V ⟨s.next+1,s.scopes⟩)::H):=by
 refine Bp.body (n:=47) tok Tryz.func170 rfl rfl rfl ?_;refine Ae (Qp (Gc Au) (Re ?_));refine AW.draw mixed (fun H'=>_∈H') (B4 (i:=1) rfl) (by kernel_rfl) ?_;refine Qn 0 rfl Bm (Qn 1 rfl Bm (Qn 2 rfl Bm (Qn 3 rfl Bm (Qn 4 rfl (Af rfl) (Qn 5 rfl B7 (Qn 6 rfl (OpP.Aah (fun k=>Ad (k:=k) (c:=.smapv _) tok rfl rfl rfl rfl) (fun _ h=>h)) ?_))))));refine Qn 7 rfl (Qf Wv) (Qn 8 rfl Hc ?_);refine Qn 9 rfl (gX (es:=Mo (Ky T)) tok rfl rfl rfl rfl rfl (by kernel_rfl) rfl rfl (Qb _ _ rfl)) ?_;refine Qn 10 rfl Bm (Qn 11 rfl (Af rfl) (Qn 12 rfl B7 (Qn 13 rfl (OpP.Aah (fun k=>Ad (k:=k) (c:=Iq _) tok rfl rfl rfl rfl) (fun _ h=>h)) ?_)));refine Qn 14 rfl (Qc rfl (xK)) (Qn 15 rfl (Af rfl) (Qn 16 rfl B7 ?_));refine Gz.eff _ _ 17 _ _ rfl (by kernel_rfl) rfl rfl (Bf (k:=0) (v:=Iq _) (cs':=C5) (H2:=_::_::_) tok rfl rfl rfl rfl (rfl) rfl rfl rfl rfl) (by rintro _ _ ⟨rfl,rfl⟩;simp) ?_;rintro _ _ ⟨rfl,rfl⟩;refine Qn 18 rfl (Af rfl) (Qn 19 rfl B7 ?_);refine Gz.eff _ _ 20 _ _ rfl (by kernel_rfl) rfl rfl (Bf (k:=0) (v:=Iq _) (cs':=C5) (H2:=_::_::_) tok rfl rfl rfl rfl (rfl) rfl rfl rfl rfl) (by rintro _ _ ⟨rfl,rfl⟩;simp) ?_;rintro _ _ ⟨rfl,rfl⟩;refine Qn 21 rfl (Af rfl) (Qn 22 rfl B7 ?_);refine Gz.last _ _ 23 _ _ rfl (by kernel_rfl) rfl rfl (Bf (k:=0) (v:=.agg _) (cs':=C5) (H2:=_::_::_) tok rfl rfl rfl rfl (rfl) rfl rfl rfl rfl) (by kernel_rfl) ?_;rintro _ _ ⟨rfl,rfl⟩;refine Bh (Ae (Qp Bm (Qp (Af rfl) (Qp B7 (AOL.Aae (Ad (k:=1) (c:=Iq _) tok rfl rfl rfl rfl) rfl rfl (Qp E9 (Qp (Af rfl) (Qp B7 ?_))))))));refine Bt 1 [_,_,_,_,Iq _,Iq _] (_::_::_) (Bs (Qp (Qf Kg) (Qp Cw ?_)));refine Qp (Ah (n:=t.kids.length) tok rfl rfl rfl (by simp)) ?_;refine Qp Ej (Ag (Aq (fun hc1=>?_) fun hc1=>AW.skip ?_))
 ·
  have h0:0<t.kids.length:=by have:=Ir hc1;omega
  refine AW.region (Qp Bm (Qp Bm (Qp (Qf Kg) (Qp Cw ?_))));refine Qp (Aa (c:=Au) tok rfl rfl rfl rfl rfl rfl (by decide) (Gp (D8 h0))) ?_;refine Qp (B0 Au) ?_;refine AOL.Aae (Cj (k:=1) (by kernel_rfl) rfl rfl (eH T V ⟨s.next+1,s.scopes⟩ bp hrv (A3 t 0) (Xg ht h0) (hw h0))) rfl rfl ?_;refine Qp (Af rfl) (Qp B7 ?_);refine Bt 0 C5 (_::_::_) (AOL.nil ?_);refine ⟨.inl rfl,[],.nil,_,.refl _,?_⟩;exact ⟨rfl,congrArg (fun q:Ex=>(.box pp 38 (cPt { p with type:=L7 (Ky T) t.text,var:=s.next,cond:=q }) :: .box bp 159 (Uk T V ⟨s.next+1,s.scopes⟩)::H:List HO)) (sH hc1).symm⟩
 refine ⟨.inl rfl,[],.nil,_,.refl _,?_⟩;exact ⟨rfl,congrArg (fun q:Ex=>(.box pp 38 (cPt { p with type:=L7 (Ky T) t.text,var:=s.next,cond:=q }) :: .box bp 159 (Uk T V ⟨s.next+1,s.scopes⟩)::H:List HO)) (tT hc1).symm⟩
theorem rf_allP (T:List e8Sc)(V:List Va)(s:Nx)(bp:Nat)(l:List Syn)(hl:l.length≤1048576)(hs:NxOK s (Dy l))(hf:∀a∈l,∀s:Nx,NxOK s (D7 a)→Bc Tryz.prog 99 bp 159 (Uk T V s) (Uk T V (G3 T V a s).2) [.val (.pointer (some ⟨bp,0,none⟩)),.agg (cSyn a)] (.agg (cPt (G3 T V a s).1))):Bc Tryz.prog 172 bp 159 (Uk T V s) (Uk T V (Dq T V l s).2) [.sl 6 (l.map Cl),.fn (.func 99) [.val (.pointer (some ⟨bp,0,none⟩))] []] (.sl 14 ((Dq T V l s).1.map Lw)):=by
 intro H;refine Bp.body (n:=22) tok Tryz.func172 rfl rfl rfl ?_;refine Ae (Qp (Ck (z:=14) rfl) (Bs (Qp Ua ?_)));refine AOL.ghost (GS.row (t:=5) 38 14 rfl) ?_;refine Ag (Bk (Qp G4 ?_));refine Qp (Ah (n:=l.length) tok rfl rfl rfl (by simp)) ?_;refine Qp Ao (Ag (AW.block ?_));refine AW.Aag (fun (q:Nat×List (List AV)×Value×Nx)=>(⟨[(0,.sl 6 (l.map Cl)),(1,.fn (.func 99) [.val (.pointer (some ⟨bp,0,none⟩))] []),(5,.row q.2.2.1 14 q.2.1),(8,.sl 6 (l.map Cl)),(9,.int .i64 l.length),(10,.int .i64 (q.1:Int))],.row q.2.2.1 q.2.1.length 38 14 :: .box bp 159 (Uk T V q.2.2.2)::H,22⟩:St)) (fun q=>q.1≤l.length∧NxOK q.2.2.2 (Dy (l.drop q.1))∧q.2.1=(Dq T V (l.take q.1) s).1.map Lw∧q.2.2.2=(Dq T V (l.take q.1) s).2∧q.2.1.length≤q.1) (fun q=>l.length-q.1) ((0,[],.slice none 0 0,s)) ?_ Cs ?_
 · exact ⟨E2 _,hs,rfl,rfl,C4 _⟩
 rintro q hR;refine Ae (Qp Bx (Re (Aq (fun hc1=>?_) fun hc1=>?_)))
 ·
  obtain ⟨a,ha⟩:=Cc hc1;have hlt:=Bu ha;have hm:=B4 ha;have hsc:∀c∈q.2.1,Bb c=true:=by rw [hR.2.2.1];exact scPt _
  have hnx:=nx_on (T:=T) (V:=V) ha hR.2.1;have hql:=hR.2.2.2.2;refine Bg (AW.seq (AW.block (Ae ?_)));refine Qp (Aa (c:=Au) tok rfl rfl rfl rfl rfl rfl (by omega) (Gp ha)) ?_;refine Qp (B0 Au) (Ed Kz fun b7=>?_);refine Bt 0 Au (_::_::_::_) ?_;refine AOL.ghost (GS.freeze (t:=7) 0 rfl rfl) ?_;refine Ag (AW.region (Qp (A1 (v:=.row _ _ _) rfl) (Qp (A1 (v:=.fn _ _ _) rfl) (Qp (B0 Au) ?_))));refine Rt (Ix (by kernel_rfl) rfl rfl rfl ((hf a hm q.2.2.2 hnx.1).at (k:=1) (H2:=_::_::_) rfl rfl)) ?_;refine Qp (Aj (es:=[C5]) tok rfl rfl rfl rfl rfl rfl rfl rfl rfl) ?_;refine Qe (Dh (k:=0) tok rfl rfl rfl rfl rfl rfl rfl rfl (Gu rfl) (hsc) (by simp;omega) (by simp [maxLen];omega)) ?_;rintro _ _ ⟨v19,rfl,rfl⟩;refine Qp (A6 (v:=.row _ _ _) rfl) (Rk (AW.region (Qp E9 (Qp Ao (Ag ?_)))));refine ⟨(q.1+1,q.2.1 ++ [cPt (G3 T V a q.2.2.2).1],v19,(G3 T V a q.2.2.2).2),?_,?_,Cs⟩
  · exact ⟨hlt,hnx.2,by simp only;rw [iC ha,hR.2.2.1,←hR.2.2.2.1];simp [Tw],by simp only;rw [iC ha,←hR.2.2.2.1],by simp;omega⟩
  simp only;omega
 have hte:=Dm hc1;have hall:=hR.2.2.1;have hst:=hR.2.2.2.1;rw [hte] at hall hst;refine AW.exit ?_;refine Bq (Ri (Ae ?_));refine Qp (A1 (v:=.row _ _ _) rfl) ?_;refine AOL.ghost (GS.unrow 21 rfl) ?_;refine Qp eN (Rb ?_);refine ⟨.inr rfl,[.sl _ _],.cons (.tmp _ _ rfl) <| .nil,_,.cons _ (.refl _),?_⟩;exact ⟨Eq.trans rfl (congrArg (AV.sl 14) hall),congrArg (fun x:Nx=>(.box bp 159 (Uk T V x)::H:List HO)) hst⟩
theorem lP (T:List e8Sc)(V:List Va)(s:Nx)(bp:Nat)(hrv:RvOK T V)(t:Syn)(ht:E7 t)(hc:A4 t .pats=0)(hw:(D4 T V t).err=0)(hs:NxOK s (D7 t)):Bc Tryz.prog 99 bp 159 (Uk T V s) (Uk T V (G3 T V t s).2) [.val (.pointer (some ⟨bp,0,none⟩)),.agg (cSyn t)] (.agg (cPt (G3 T V t s).1)):=by
 intro H
 revert H
 revert s
 induction t using Syn.ind
 rename_i t ih;intro s hs H;have hrg:=Qx hc;have hnx:=sL hs;refine Bp.body (n:=59) tok Tryz.func99 rfl rfl rfl ?_;refine Ae (Qp (Gc Au) (Ed gjx fun b4=>Re ?_));refine Ol ?_;refine Qn 0 rfl (Qc rfl (rf_ops)) (Qn 1 rfl (Qf Au) (Qn 2 rfl Bi (Qn 3 rfl (Xs tok rfl rfl rfl rfl rfl rfl (op_get hrg.1 hrg.2)) (Qn 4 rfl (E4 C5) ?_))));refine uT 5 rfl (Kq (l:=gjx) (by kernel_rfl)) ?_;rintro _ _ ⟨b5,rfl,rfl⟩;refine O0 6 rfl (Bf (k:=0) (v:=.agg _) (cs':=C5) (H2:=_::_::_::_) tok rfl rfl rfl rfl (rfl) rfl rfl rfl rfl) ?_;refine Hs ?_;refine Bh (Ae (Qp (Qf Kg) (Qp Cw (Qp eN (Ag ?_)))));refine AW.Aak (fun (q:Pt×Nx×List Syn)=>(⟨[(0,.val (.pointer (some ⟨bp,0,none⟩))),(4,.val (.pointer (some ⟨b4,0,none⟩))),(5,.val (.pointer (some ⟨b5,0,none⟩))),(6,.sl 6 (q.2.2.map Cl))],.box b5 38 (cPt q.1) :: .box bp 159 (Uk T V q.2.1) :: .box b4 38 (cPt pt0)::H,59⟩:St)) (fun q=>q.1=Kb T V t s []∧q.2.1=Sg t s∧q.2.2=De t) ?_ ?_
 ·
  refine Ae (Qp (Qf Au) (Qp Bi (Ag (AW.block (Ae (Qp Av (Qp A0 (Ag (Aq (fun hc1=>Ae (Qp Bm (Qp (B0 Au) ?_))) fun hc1=>?_)))))))))
  ·
   refine Rt (Cu rfl (Bp.front2 (R:=_::_) 2 0 rfl rfl rfl (pH T V s ⟨hs.a,by have:=hs.c;omega⟩ ⟨t.kind-5,[],0,0,0,0,Un⟩ bp b5 hrv t ht (fun h=>Th hw h) _))) ?_;refine Ag (AW.region (Qp (Ck (z:=6) rfl) (Rk ?_)));refine ⟨(⟨t.kind-5,[],L7 (Ky T) t.text,s.next,0,0,Ij T V t⟩,⟨s.next+1,s.scopes⟩,[]),?_,GS.trans (GS.refl _) Cs⟩;exact ⟨pn_5 hc1,(nxn_5 hc1).symm,(pk_5 hc1).symm⟩
  refine Ae (Qp Av (Qp A0 (Ag (Aq (fun hc2=>?_) fun hc2=>Ae (Qp Av (Qp A0 (Ag (Aq (fun hc3=>Ae (Qp Bm ?_)) fun hc3=>Ae (Qp Av (Qp A0 (Ag (Aq (fun hc4=>?_) fun hc4=>Rf ?_))))))))))))
  ·
   have h2:=H0 hc (.inl (by simpa using hc2));have h1:1<t.kids.length:=by omega
   refine Ae (Qp Bm ?_);refine Rt (Cu rfl (Bp.front2 (R:=_::_) 2 0 rfl rfl rfl (fL T V s ⟨hs.b,by have:=hs.d;omega⟩ ⟨t.kind-5,[],0,0,0,0,Un⟩ bp b5 _))) ?_;refine Bs (Qp Bm (Qp (Qf Kg) (Qp Cw ?_)));refine Qp (Aa (c:=Au) tok rfl rfl rfl rfl rfl rfl (by decide) (Gp (D8 h1))) ?_;refine Qp (B0 Au) ?_;refine Rt (Cu rfl (Bp.front2 (R:=_::_) 1 0 rfl rfl rfl (pH T V ⟨s.next,s.scopes+1⟩ ⟨hs.a,by have:=hs.c;simp only;omega⟩ ⟨t.kind-5,[],0,0,s.scopes,0,Un⟩ bp b5 hrv (A3 t 1) (Xg ht h1) (fun h=>Th (Th hw h1) h) _))) ?_;refine Ag (AW.region (Qp (Qf Kg) (Qp Cw ?_)));refine Qp (K8 (l:=0) (h:=1) tok rfl rfl rfl rfl rfl (rfl) (⟨_,rfl⟩) (by decide) (by rw [Dx];omega) ((by rw [Tm,←List.map_take]))) ?_;refine Qp eN (Rk ?_);refine ⟨(⟨t.kind-5,[],L7 (Ky T) (A3 t 1).text,s.next,s.scopes,0,Ij T V (A3 t 1)⟩,⟨s.next+1,s.scopes+1⟩,t.kids.take 1),?_,GS.trans (GS.refl _) Cs⟩;exact ⟨pn_10 hc1 hc2,(nxn_10 hc2).symm,(pk_10 hc1 hc2).symm⟩
  ·
   refine Rt (Cu rfl (Bp.front2 (R:=_::_) 2 0 rfl rfl rfl (fL T V s ⟨hs.b,by have:=hs.d;omega⟩ ⟨t.kind-5,[],0,0,0,0,Un⟩ bp b5 _))) ?_;refine Ag (AW.region (Qp (Qf Uw) (Qp Bi (Qp B7 ?_))));refine Bt 0 C5 (_::_::_::_) (Rk ?_);refine ⟨(⟨t.kind-5,[],0,0,s.scopes,t.num,Un⟩,⟨s.next,s.scopes+1⟩,t.kids),?_,GS.trans (GS.refl _) Cs⟩;exact ⟨pn_11 hc1 hc2 hc3,(nxn_11 hc3).symm,(pk_o hc1 hc2 (by have h:t.kind=11:=(by simpa using hc3);simp [h])).symm⟩
  ·
   have h2:=H0 hc (.inr (by simpa using hc4));have h1:1<t.kids.length:=by omega
   refine Ae (Qp Bm (Qp (Qf Kg) (Qp Cw ?_)));refine Qp (Aa (c:=Au) tok rfl rfl rfl rfl rfl rfl (by decide) (Gp (D8 h1))) ?_;refine Qp (B0 Au) ?_;refine AOL.Aae (Cj (k:=2) (by kernel_rfl) rfl rfl (eH T V s bp hrv (A3 t 1) (Xg ht h1) (Th hw h1))) rfl rfl ?_;refine Qp B7 ?_;refine Bt 0 C5 (_::_::_::_) (Ag (AW.region (Qp (Qf Kg) (Qp Cw ?_))));refine Qp (K8 (l:=0) (h:=1) tok rfl rfl rfl rfl rfl (rfl) (⟨_,rfl⟩) (by decide) (by rw [Dx];omega) ((by rw [Tm,←List.map_take]))) ?_;refine Qp eN (Rk ?_);refine ⟨(⟨t.kind-5,[],0,0,0,0,Cp T V (A3 t 1)⟩,s,t.kids.take 1),?_,GS.trans (GS.perm (List.Perm.cons _ (List.Perm.swap _ _ _))) Cs⟩;exact ⟨pn_12 hc1 hc2 hc3 hc4,(nxn_o hc1 hc2 hc3).symm,(pk_12 hc1 hc4).symm⟩
  refine ⟨(⟨t.kind-5,[],0,0,0,0,Un⟩,s,t.kids),?_,GS.trans (GS.perm (List.Perm.cons _ (List.Perm.swap _ _ _))) Cs⟩;exact ⟨(ptn_o hc1 hc2 hc3 hc4).symm,(nxn_o hc1 hc2 hc3).symm,(pk_o hc1 hc2 hc4).symm⟩
 rintro ⟨p,s1,ks⟩ hQ;obtain ⟨h1,h2,h3⟩:=hQ;simp only at h1 h2 h3;subst h1 h2 h3;have hnk:NxOK (Sg t s) (Dy (De t)):=by have h:=Xe t;have h9:=hnx.1;exact ⟨h9.a,h9.b,by have:=h9.c;omega,by have:=h9.d;omega⟩
 refine Ae (Qp G4 (Qp Bm (Qp (Bn (l:=[.val _]) (l':=[]) rfl rfl) (lV ((rf_allP T V _ bp (De t) (pk_len ht) hnk (fun a ha s hs=>fun R=>ih a (Lq ha) (E6 ht (Lq ha)) (Le hc ha) ((Fp hw).2 a (Lq ha)) s hs R)).at (k:=1) (H2:=_::_::_::_) rfl rfl) ?_))));refine Qp B7 ?_;refine Bt 0 C5 (_::_::_::_) (Bs (AOL.Aae (Ax (k:=0) (l:=C5) tok rfl rfl rfl rfl rfl) rfl rfl ?_));refine Bt 2 C5 (_::_::_::_) (Rb ?_);refine ⟨.inr rfl,[.agg C5],.cons (.box _ _ _ 2 _ _ _ _ rfl rfl rfl rfl rfl rfl) <| .nil,_,.cons _ (.cons_cons _ (.cons _ (.refl _))),?_⟩;exact ⟨Eq.trans rfl (congrArg (fun q:Pt×Nx=>AV.agg (cPt q.1)) (S7 t s).symm),congrArg (fun q:Pt×Nx=>(.box bp 159 (Uk T V q.2)::H:List HO)) (S7 t s).symm⟩
end Go.Proofs.YtckhoadldibflaaGreatDoor

namespace Go.Aw
open Go

section
variable {P:Program} {T:List (Nat×TD)} {d:Option Nat} {ty:TypeId} {pos:String} {aft:Array Edge} {gd:Option (Nat×Bool)} {ρ:Operand→AV}

end
end Go.Aw

namespace Go.Proofs.YtckhoadldibflaaGreatDoor
open Go Go.Aw
set_option maxHeartbeats 3200000
set_option maxRecDepth 20000

theorem tA (H:List HO)(n:Nat)(h0:0<n)(hn:n≤1048576):Bp Tryz.prog 167 H [.sl 1 [[.int .i64 (-1)]],.int .i64 (n:Int)] (fun r H'=>∃b,r = .val (.slice (some ⟨b,0,none⟩) n n)∧H' = .box b 3 (bI (jY n))::H):=by
 have hmx:1048576≤maxLen:=by decide
 refine Bp.body (n:=48) tok Tryz.func167 rfl rfl rfl ?_;refine Ae (Qp (Ck (z:=1) rfl) (Ag (Bk (Qp Ao (Qp Bx (Ag (Aq (fun hc1=>?_) fun hc1=>Bg (Ae (Qp G4 (Qp (Ah (n:=1) tok rfl rfl rfl (rfl)) (Qp (X9 (m:=1) tok rfl rfl rfl rfl rfl (rfl)) (Qp Ao (Qp (X9 (m:=(n:Int)) tok rfl rfl rfl rfl rfl (u64_in hn)) (Qp (Qc rfl (kMul1 n hn)) (Qp N4 (Qp (B5 (v:=.int .u64 _) rfl rfl) (Qp (B5 (v:=.int .u64 _) rfl rfl) (Qp (A6 (v:=.int .u64 _) rfl) (Qp (A6 (v:=.int .u64 _) rfl) (Ag (Bk (Qp (A1 (v:=.int .u64 _) rfl) (Qp Ej (Qp A9 (AOL.g (y:=.int .u64 _) _ [] rfl (qZ.all trivial) (fun hG=>A1 (v:=.int .u64 _) rfl) rfl ?_)))))))))))))))))))))))))
 ·
  have:=Ir hc1;omega
 refine Qg [(24,_)] Qw Ej (Qp B9 (Ag (Aq (fun hc2=>?_) fun hc2=>Bg (Ae (Qp (A1 (v:=.int .u64 _) rfl) (Qp (X9 (m:=(n:Int)) tok rfl rfl rfl rfl rfl (i64_in hn)) ?_))))))
 · exact absurd hc2 (by simp;omega)
 refine Qe (fX (n:=n) tok rfl rfl rfl rfl rfl rfl rfl (by show 8*n≤_;omega) (by omega)) ?_;rintro _ _ ⟨b30,rfl,rfl⟩;refine Qp Ua ?_;refine AOL.ghost (GS.cells 0 rfl ((bI_zero n).trans (congrArg bI (show List.replicate n 0=Lp n 0 by simp [Lp])))) ?_;refine Bs (Qp Bm (Qp G4 ?_));refine Rt (sC (k:=0) (m:=1) (cs':=bI (Lp n 1)) (H2:=_::_) tok rfl rfl rfl rfl rfl rfl rfl (by simp) (Gu rfl) (Nat.min_eq_left (by show 1≤n;omega)) (by rw [Xv,Xq (by omega)];omega) (mM h0) rfl) ?_;refine Qp Al (Re (AW.block ?_));refine AW.Aag (fun (k:Nat)=>(⟨[(7,.val (.slice (some ⟨b30,0,none⟩) n n)),(8,.int .i64 (k:Int))],.box b30 3 (bI (Lp n k))::H,48⟩:St)) (fun k=>1≤k∧k≤n) (fun k=>n-k) (1) ?_ Cs ?_
 · exact ⟨C4 _,h0⟩
 rintro k hR;refine Bk (Qp Ao (Qp Bm (Qp (pK tok rfl rfl rfl) (Qp Bx (Ag (Aq (fun hc3=>?_) fun hc3=>?_))))))
 ·
  have hlt:k<n:=by have:=Ir hc3;omega
  refine Bg (AW.block ?_);refine Ol ?_;refine Qn 0 rfl Ao (Qn 1 rfl Bm (Qn 2 rfl Ao ?_));refine Qn 3 rfl (Vx (l:=k) (h:=n) (o':=k) tok rfl rfl rfl rfl rfl (⟨_,rfl⟩) (rfl) (by omega) (by omega) (by omega) (by omega) (by simp)) ?_;refine Qn 4 rfl Bm (Qn 5 rfl Ao ?_);refine Qn 6 rfl (Vx (l:=0) (h:=k) (o':=0) tok rfl rfl rfl rfl rfl (rfl) (⟨_,rfl⟩) (by omega) (by omega) (by omega) (by omega) (rfl)) ?_;refine O0 7 rfl (rC (k:=0) (m:=min k (n-k)) (cs':=bI (Lp n (k+min k (n-k)))) (H2:=_::_) tok rfl rfl rfl rfl rfl rfl rfl (bI_sc _) (by rfl) (by rw [Xv,Xq hR.2];omega) (by rw [Xv,Xq hR.2];omega) (rP (by omega) (by omega)) rfl) ?_;refine Qn 8 rfl E9 (Qn 9 rfl Al ?_);refine Hs ?_;refine I6 (Bh ?_);refine ⟨k+min k (n-k),?_,?_,Cs⟩
  · omega
  omega
 have hkn:k=n:=by have:=Lt hc3;omega
 refine AW.exit ?_;refine Bq (Ri (Ae (Qp Bm (Qp Ua (Rb ?_)))));refine ⟨.inr rfl,[.val _],.cons (.tmp _ _ rfl) <| .nil,_,.refl _,?_⟩;exact ⟨b30,rfl,congrArg (fun l=>HO.box b30 3 (bI l)::H) ((congrArg (Lp n) hkn).trans (rR n))⟩
theorem rf_key (T:List e8Sc)(V:List Va)(s:Nx)(bp:Nat)(hrv:RvOK T V)(n:Am)(hT:0<T.length):Bc Tryz.prog 97 bp 159 (Uk T V s) (Uk T V s) [.val (.pointer (some ⟨bp,0,none⟩)),.str n] (.tuple [.sl 1 ((Wh T V n).1.map cI),.bool (Wh T V n).2]):=by
 intro H;have htl:=hrv.tl;have hvl:=hrv.vl;refine Bp.body (n:=47) tok Tryz.func97 rfl rfl rfl ?_;refine Ae (Qp (Ck (z:=1) rfl) (Qp A0 (Bs (Qp (Aj (es:=[[Iq _]]) tok rfl rfl rfl rfl rfl rfl rfl rfl rfl) (Qp Bm (Qp (Af rfl) (Qp B7 (AOL.Aae (Ad (k:=0) (c:=.sl _ _) tok rfl rfl rfl rfl) rfl rfl ?_))))))));refine Qp (Ah (n:=T.length) tok rfl rfl rfl (by simp)) ?_;refine Qe (Cu rfl (tA _ T.length hT hrv.tl)) ?_;rintro _ _ ⟨b15,rfl,rfl⟩;refine Qp Ua (Ag (Bk (Qp Bm (Qp (Af rfl) (Qp B7 (AOL.Aae (Ad (k:=1) (c:=.sl _ _) tok rfl rfl rfl rfl) rfl rfl ?_))))));refine Qp (Ah (n:=V.length) tok rfl rfl rfl (by simp)) ?_;refine Qp Ao (Ag (AW.block ?_));refine AW.Aag (fun (q:Nat×List Int)=>(⟨[(0,.val (.pointer (some ⟨bp,0,none⟩))),(1,.str n),(6,.val (.slice (some ⟨b15,0,none⟩) T.length T.length)),(19,.sl 2 (V.map O2)),(20,.int .i64 V.length),(21,.int .i64 (q.1:Int))],.box b15 3 (bI q.2) :: .box bp 159 (Uk T V s)::H,47⟩:St)) (fun q=>q.1≤V.length∧q.2.length=T.length∧Wh T V n=Nt T n (V.drop q.1) q.2) (fun q=>V.length-q.1) ((0,jY T.length)) ?_ Cs ?_
 · exact ⟨E2 _,by simp [jY],rfl⟩
 rintro q hR;refine Ae (Qp Bx (Re (Aq (fun hc1=>?_) fun hc1=>?_)))
 ·
  obtain ⟨a,ha⟩:=Cc hc1;have hlt:=Bu ha;have hm:=B4 ha;have hvt:=hrv.ty a hm;refine (Xz hrv hm).elim fun sc hsc=>?_
  have hfl:=hrv.fl sc (B4 hsc);have hb:a.type.toNat<q.2.length:=by have:=hR.2.1;omega
  refine Bg (AW.seq (AW.block (Ae ?_)));refine Qp (Aa (c:=Jz) tok rfl rfl rfl rfl rfl rfl (by omega) (Dv ha)) ?_;refine Qp (B0 Jz) (Ed [.str [],.int .i64 0] fun b8=>?_);refine Bt 0 Jz (_::_::_::_) ?_;refine AOL.ghost (GS.freeze (t:=8) 0 rfl rfl) ?_;refine Re ?_;refine AW.draw mixed (fun H'=>_∈H') (B4 (i:=1) rfl) (by kernel_rfl) ?_;refine Qn 0 rfl Bm (Qn 1 rfl (Qf [Iq _]) (Qn 2 rfl Bi (Qn 3 rfl Bm (Qn 4 rfl (Af rfl) (Qn 5 rfl B7 (Qn 6 rfl (OpP.Aah (fun k=>Ad (k:=k) (c:=.sl _ _) tok rfl rfl rfl rfl) (fun _ h=>h)) ?_))))));refine Qn 7 rfl (Qf [Iq _]) (Qn 8 rfl Bi (Qn 9 rfl (Aa (c:=Ub) tok rfl rfl rfl rfl rfl rfl (hvt.1) (Dv hsc)) (Qn 10 rfl (B0 Ub) (Qn 11 rfl Gj (Qn 12 rfl (Qc rfl (Ly sc hfl n)) (Qn 13 rfl (C2 (o':=a.type.toNat) tok rfl rfl rfl rfl rfl (hvt.1) (hvt.2) (off0 _)) ?_))))));refine Gz.last _ _ 14 _ _ rfl (by kernel_rfl) rfl rfl (Bf (k:=0) (v:=Iq _) (cs':=bI (q.2.set a.type.toNat (Dl sc n))) (H2:=_::_::_) tok rfl rfl rfl rfl rfl rfl (bI_fits hb) (yW hb) rfl) (by kernel_rfl) ?_;rintro _ _ ⟨rfl,rfl⟩;refine Bh (Ae (Qp Bm (Qp (Qf [Iq _]) (Qp Bi (Qp (C2 (o':=a.type.toNat) tok rfl rfl rfl rfl rfl (hvt.1) (hvt.2) (off0 _)) (AOL.Aae (Ad (k:=0) (c:=.int .i64 (Dl sc n)) tok rfl rfl rfl (qE hb)) rfl rfl (Qp Bx (Ag (Aq (fun hc2=>Ae (Qp (Ck (z:=1) rfl) (Qp A0 (Ra (Be (Db (Be ?_))))))) fun hc2=>Rf (AW.region (Qp E9 (Qp Ao (Ag ?_)))))))))))))
  ·
   refine ⟨.inr rfl,[.sl _ _,.bool _],.cons (.tmp _ _ rfl) <| .cons (.tmp _ _ rfl) <| .nil,_,.cons _ (.refl _),?_⟩;exact ⟨Eq.trans rfl (congrArg (fun q:List Int×Bool=>AV.tuple [.sl 1 (q.1.map cI),.bool q.2]) (hR.2.2.trans (zF ha hsc hc2))).symm,rfl⟩
  refine ⟨(q.1+1,q.2.set a.type.toNat (Dl sc n)),?_,?_,Cs⟩
  · exact ⟨hlt,by simp only [aG];exact hR.2.1,hR.2.2.trans (key_on ha hsc hc2)⟩
  simp only;omega
 have hde:=E3 hc1;have hall:=hR.2.2;rw [hde] at hall;refine AW.exit ?_;refine Bq (Ri (Ae ?_));refine AOL.ghost (GS.freezeSl (t:=6) (z:=1) (es:=q.2.map cI) 0 rfl rfl (bI_flat _) (by rw [Dx];exact hR.2.1.symm) (C4 _) (by unfold maxLen;omega) (uJ (fun _=>rfl) _) slot_is) ?_;refine Qp G4 (Qp eN (Qp A0 (Rb ?_)));refine ⟨.inr rfl,[.sl _ _,.bool _],.cons (.tmp _ _ rfl) <| .cons (.tmp _ _ rfl) <| .nil,_,.refl _,?_⟩;exact ⟨Eq.trans rfl (congrArg (fun q:List Int×Bool=>AV.tuple [.sl 1 (q.1.map cI),.bool q.2]) ((hall.trans (by rw [Nt]):Wh T V n=(q.2,true)))).symm,rfl⟩
set_option maxHeartbeats 400000
set_option maxRecDepth 20000

theorem e8c52 (op:Int):Ap Tryz.prog 117 [.int .i64 op] (.tuple [.bool (Fg op).1,.bool (Fg op).2]):=by
 refine Ap.body (n:=11) tok Tryz.func117 rfl rfl rfl fun H=>?_
 refine Ae (Qp A0 (Qp A0 (Ag (Bk (Qp Ao (Ag (AW.block (AW.seq ?_))))))));refine Ae (Qp Av (Qp A0 (Ag (Aq (fun hc1=>Bg (Aq (fun hc2=>Ae (Qp A0 (Qp A0 (Ra (Mf (.bool _) (.bool _) ?_))))) fun hc2=>Bk (Qp Av (Qp A0 (Ag (Aq (fun hc3=>Bg (Aq (fun hc4=>Ae (Qp A0 (Qp A0 (Ra (Mf (.bool _) (.bool _) ?_))))) fun hc4=>Rf (Ae (Qp A0 (Qp A0 (Rb (Mf (.bool _) (.bool _) ?_))))))) fun hc3=>?_)))))) fun hc1=>?_))))
 · simp_all [Ai,Fg]
 · simp_all [Ai,Fg]
 · simp_all [Ai,Fg]
 ·
  refine AW.region (Qp Av (Qp A0 (Ag (Aq (fun hc5=>Ae (Qp A0 (Qp A0 (Ra (Mf (.bool _) (.bool _) ?_))))) fun hc5=>Rf (Ae (Qp A0 (Qp A0 (Rb (Mf (.bool _) (.bool _) ?_)))))))))
  · simp_all [Ai,Fg]
  simp_all [Ai,Fg]
 refine AW.region (Qp Av (Qp A0 (Ag (Aq (fun hc6=>Ae (Qp A0 (Qp A0 (Ra (Mf (.bool _) (.bool _) ?_))))) fun hc6=>Bk (Qp Av (Qp A0 (Ag (Aq (fun hc7=>Bg (Aq (fun hc8=>Ae (Qp A0 (Qp A0 (Ra (Mf (.bool _) (.bool _) ?_))))) fun hc8=>Rf (Ae (Qp A0 (Qp A0 (Rb (Mf (.bool _) (.bool _) ?_))))))) fun hc7=>?_))))))))
 · simp_all [Ai,Fg]
 · simp_all [Ai,Fg]
 · simp_all [Ai,Fg]
 refine AW.region (Qp Av (Qp A0 (Ag (Aq (fun hc9=>Ae (Qp A0 (Qp A0 (Ra (Mf (.bool _) (.bool _) ?_))))) fun hc9=>Rf (Ae (Qp A0 (Qp A0 (Rb (Mf (.bool _) (.bool _) ?_)))))))))
 · simp_all [Ai,Fg]
 simp_all [Ai,Fg]
theorem c84 (op:Int):Ap Tryz.prog 257 [.int .i64 op] (.tuple [.bool (Fg op).1,.bool (Fg op).2]):=by
 refine Ap.body (n:=21) tok Tryz.func257 rfl rfl rfl fun H=>?_
 refine Ae (Qp A0 (Qp A0 (Bs (Qp Ao (Qp Av (Qp A9 (Qg [] Qw Ao (Qg [(8,_)] Qw Av (Qp B9 ?_)))))))));refine Qp A0 (Bs (Qp A9 (Qp A9 (Qg [] Qw Ao (Qg [(13,_)] Qw Av (Qp B9 (Qp A9 (Qg [] Qw Ao (Qg [(17,_)] Qw Av (Qp B9 (Qp A9 (Qp A0 (Qp A0 (Rb (Mf (.bool _) (.bool _) ?_)))))))))))))));by_cases h1:op=1 <;> by_cases h2:op=2 <;> by_cases h3:op=3 <;> by_cases h4:op=4 <;> simp_all [Fg,Ai]
theorem c81 (op:Int):Ap Tryz.prog 116 [.int .i64 op] (.tuple [.int .i64 (Ia op),.bool (decide (0≤op∧op≤12))]):=by
 refine Ap.body (n:=17) tok Tryz.func116 rfl rfl rfl fun H=>?_
 refine Ae (Qp Al (Qp A0 (Re (AW.block (Ae (Qp Ao (Qp Bx (Qp A9 (Qg [] Qw Ao (Qg [(8,_)] Qw Ej (Qp B9 (Qp A0 (Ag (Aq (fun hc1=>Ae (Qp Al (Qp A0 (Ra (Mf (Iq _) (.bool _) ?_))))) fun hc1=>?_))))))))))))))
 ·
  simp only [Nv,Ka,H5,Wu,beq_iff_eq,Pu] at *;simp only [Ai,Ia,AV.tuple.injEq,List.cons.injEq,AV.int.injEq,AV.bool.injEq,true_and,and_true];refine ⟨?_,?_⟩
  ·
   repeat' split
   all_goals omega
  simp <;> omega
 refine Ae (Qp Ao (Qp Bx (Qp A0 (Ag (Aq (fun hc2=>Ae (Qp Al (Qp A0 (Ra (Mf (Iq _) (.bool _) ?_))))) fun hc2=>Ae (Qp Ao (Qp Av (Qp A0 (Ag (Aq (fun hc3=>Ae (Qp Al (Qp A0 (Ra (Mf (Iq _) (.bool _) ?_))))) fun hc3=>Rf (Ae (Qp Al (Qp A0 (Rb (Mf (Iq _) (.bool _) ?_)))))))))))))))
 ·
  simp only [Nv,Ka,H5,Wu,beq_iff_eq,Pu] at *;simp only [Ai,Ia,AV.tuple.injEq,List.cons.injEq,AV.int.injEq,AV.bool.injEq,true_and,and_true];refine ⟨?_,?_⟩
  ·
   repeat' split
   all_goals omega
  simp <;> omega
 ·
  simp only [Nv,Ka,H5,Wu,beq_iff_eq,Pu] at *;simp only [Ai,Ia,AV.tuple.injEq,List.cons.injEq,AV.int.injEq,AV.bool.injEq,true_and,and_true];refine ⟨?_,?_⟩
  ·
   repeat' split
   all_goals omega
  simp <;> omega
 simp only [Nv,Ka,H5,Wu,beq_iff_eq,Pu] at *;simp only [Ai,Ia,AV.tuple.injEq,List.cons.injEq,AV.int.injEq,AV.bool.injEq,true_and,and_true];refine ⟨?_,?_⟩
 ·
  repeat' split
  all_goals omega
 simp <;> omega
theorem c100 (op:Int):Ap Tryz.prog 256 [.int .i64 op] (.int .i64 (if 0≤op∧op≤12 then Ia op else -1)):=by
 refine Ap.body (n:=20) tok Tryz.func256 rfl rfl rfl fun H=>?_
 refine Ae (Qp Al (Ag (Bk (Qp Ao (Ag (AW.block ?_))))));refine AW.Aak (fun (_:Unit)=>(⟨[(0,.int .i64 op),(3,.int .i64 op),(4,.bool (op==0||op==1||op==2||op==3||op==4))],H,20⟩:St)) (fun _=>True) ?_ ?_
 ·
  refine Ae (Qp Av (Qp A0 (Ag (Aq (fun hc1=>Bg ?_) fun hc1=>Ae (Qp Av (Qp A0 (Ag (Aq (fun hc2=>Bg ?_) fun hc2=>Ae (Qp Av (Qp A0 (Ag (Aq (fun hc3=>Bg ?_) fun hc3=>Ae (Qp Av (Qp A0 (Ag (Aq (fun hc4=>Bg ?_) fun hc4=>AW.region (Qp Av (Qp A0 (Ag ?_)))))))))))))))))))
  ·
   refine ⟨(),?_,GS.weaken ⟨rfl,rfl,congrArg AV.bool (by simp [*]),trivial⟩ (.refl _)⟩
   trivial
  ·
   refine ⟨(),?_,GS.weaken ⟨rfl,rfl,congrArg AV.bool (by simp [*]),trivial⟩ (.refl _)⟩
   trivial
  ·
   refine ⟨(),?_,GS.weaken ⟨rfl,rfl,congrArg AV.bool (by simp [*]),trivial⟩ (.refl _)⟩
   trivial
  ·
   refine ⟨(),?_,GS.weaken ⟨rfl,rfl,congrArg AV.bool (by simp [*]),trivial⟩ (.refl _)⟩
   trivial
  refine ⟨(),?_,GS.weaken ⟨rfl,rfl,congrArg AV.bool (by simp [*]),trivial⟩ (.refl _)⟩
  trivial
 rintro _ _;refine Aq (fun hc5=>Ae (Qp Al (Ra (Qr (Iq _) ?_)))) fun hc5=>Ae (Qp Av (Qp A0 (Ag (Aq (fun hc6=>Ae (Qp Al (Ra (Qr (Iq _) ?_)))) fun hc6=>?_))))
 ·
  simp only [Nv,Ka,beq_iff_eq,Pu] at *;simp only [Ai,Ia,AV.int.injEq,true_and]
  repeat' split
  all_goals omega
 ·
  simp only [Nv,Ka,beq_iff_eq,Pu] at *;simp only [Ai,Ia,AV.int.injEq,true_and]
  repeat' split
  all_goals omega
 refine AW.Aak (fun (_:Unit)=>(⟨[(12,.bool (op==5||op==6||op==7||op==8||op==9||op==10||op==11))],H,20⟩:St)) (fun _=>True) ?_ ?_
 ·
  refine Ae (Qp Av (Qp A0 (Ag (Aq (fun hc7=>Bg ?_) fun hc7=>Ae (Qp Av (Qp A0 (Ag (Aq (fun hc8=>Bg ?_) fun hc8=>?_))))))))
  ·
   refine ⟨(),?_,GS.weaken ⟨congrArg AV.bool (by simp [*]),trivial⟩ (.refl _)⟩
   trivial
  ·
   refine ⟨(),?_,GS.weaken ⟨congrArg AV.bool (by simp [*]),trivial⟩ (.refl _)⟩
   trivial
  refine Ae (Qp Av (Qp A0 (Ag (Aq (fun hc9=>Bg ?_) fun hc9=>Ae (Qp Av (Qp A0 (Ag (Aq (fun hc10=>Bg ?_) fun hc10=>Ae (Qp Av (Qp A0 (Ag (Aq (fun hc11=>Bg ?_) fun hc11=>Ae (Qp Av (Qp A0 (Ag (Aq (fun hc12=>Bg ?_) fun hc12=>AW.region (Qp Av (Qp A0 (Ag ?_)))))))))))))))))))
  ·
   refine ⟨(),?_,GS.weaken ⟨congrArg AV.bool (by simp [*]),trivial⟩ (.refl _)⟩
   trivial
  ·
   refine ⟨(),?_,GS.weaken ⟨congrArg AV.bool (by simp [*]),trivial⟩ (.refl _)⟩
   trivial
  ·
   refine ⟨(),?_,GS.weaken ⟨congrArg AV.bool (by simp [*]),trivial⟩ (.refl _)⟩
   trivial
  ·
   refine ⟨(),?_,GS.weaken ⟨congrArg AV.bool (by simp [*]),trivial⟩ (.refl _)⟩
   trivial
  refine ⟨(),?_,GS.weaken ⟨congrArg AV.bool (by simp [*]),trivial⟩ (.refl _)⟩
  trivial
 rintro _ _;refine Aq (fun hc13=>Ae (Qp Al (Ra (Qr (Iq _) ?_)))) fun hc13=>Rf (Ae (Qp Al (Rb (Qr (Iq _) ?_))))
 ·
  simp only [Nv,Ka,beq_iff_eq,Pu] at *;simp only [Ai,Ia,AV.int.injEq,true_and]
  repeat' split
  all_goals omega
 simp only [Nv,Ka,beq_iff_eq,Pu] at *;simp only [Ai,Ia,AV.int.injEq,true_and]
 repeat' split
 all_goals omega
theorem zZ (v:Vl):Ap Tryz.prog 255 [.agg (cV v)] (.int .i64 (Pp v)):=by
 refine Ap.body (n:=36) tok Tryz.func255 rfl rfl rfl fun H=>?_
 refine Ae (Qp (Gc Mj) (Qp Al (Re (AW.block (Ae (Qp S5 (Qp Bi (Qp Av ?_))))))));refine Qp A9 (Qg [] Qw uH (Qg [(8,_)] Qw Bi (Qg [(9,_)] Qw Bx (Qg [(10,_)] Qw A9 (Qg [] Qw uH (Qg [(12,_)] Qw Bi (Qg [(13,_)] Qw Ej (Qg [(11,_),(14,_)] Qw B9 (Qp E0 ?_)))))))));refine Qp A0 (Ag (Aq (fun hc1=>Ae (Qp Al (Ra (Qr (Iq _) ?_)))) fun hc1=>Ae (Qp S5 (Qp Bi (Qp Av (Qp A9 (Qg [] Qw uH (Qg [(22,_)] Qw Bi (Qg [(23,_)] Qw Br (Qp E0 (Qp A9 ?_)))))))))))
 ·
  try simp only [D0,C3] at *
  simp only [Ai,Pp];rw [if_pos hc1]
 refine Qg [] Qw uH (Qg [(27,_)] Qw Bi (Qg [(28,_)] Qw Br (Qp E0 (Qp A0 (Ag (Aq (fun hc2=>Ae (Qp Al (Ra (Qr (Iq _) ?_)))) fun hc2=>?_))))))
 ·
  try simp only [D0,C3] at *
  (simp only [Ai,Pp];rw [iN hc1];rw [if_pos hc2];done)
 refine Ae (Qp Qf7 (Qp Hc (Qp (B8 tok rfl rfl rfl rfl) (Qp Ej (Qp A0 (Ag (Aq (fun hc3=>Ae (Qp Al (Ra (Qr (Iq _) ?_)))) fun hc3=>Rf (Ae (Qp Al (Rb (Qr (Iq _) ?_)))))))))))
 ·
  try simp only [D0,C3] at *
  (simp only [Ai,Pp];rw [iN hc1];rw [iN hc2];rw [if_pos hc3];done)
 try simp only [D0,C3] at *
 (simp only [Ai,Pp];rw [iN hc1];rw [iN hc2];rw [iN hc3];done)
theorem c94 (v:Vl):Ap Tryz.prog 189 [.agg (cV v)] (.int .i64 (Cn v)):=by
 refine Ap.body (n:=18) tok Tryz.func189 rfl rfl rfl fun H=>?_
 refine Ae (Qp (Gc Mj) (Qp Al (Ag (Bk (Qp S5 (Qp Bi (Ag (AW.block ?_))))))));refine Bk (Qp Av (Qp A0 (Ag (Aq (fun hc1=>Bg (Aq (fun hc2=>Ae (Qp Qf7 (Qp Hc (Qp (Dk rfl rfl) (Ag (Aq (fun hc3=>Ae (Qp Al (Ra (Qr (Iq _) ?_)))) fun hc3=>Rf (Ae (Qp (B0 Mj) (Qp (Qc rfl (zZ v)) (Qp Al (Rb (Qr (Iq _) ?_)))))))))))) fun hc2=>?_)) fun hc1=>?_))))
 ·
  try simp only [D0,C3] at *
  try simp only [Dp,Eo] at *
  simp only [Ai,Cn, *,Bz,↓reduceIte,O4,Rn,Lb,Oz,Lk,C3,Rp,Ox,Ew,Ef]
 ·
  try simp only [D0,C3] at *
  try simp only [Dp,Eo] at *
  simp only [Ai,Cn, *,Bz,↓reduceIte,O4,Rn,Lb,Oz,Lk,C3,Rp,Ox,Ew,Ef]
 ·
  refine Ae (Qp Av (Qp A0 (Ag (Aq (fun hc4=>Ae (Qp uH (Qp Bi (Qp Br (Ag (Aq (fun hc5=>Ae (Qp Al (Ra (Qr (Iq _) ?_)))) fun hc5=>Rf (Ae (Qp (B0 Mj) (Qp (Qc rfl (zZ v)) (Qp Al (Rb (Qr (Iq _) ?_)))))))))))) fun hc4=>Ae (Qp Al (Ra (Qr (Iq _) ?_)))))))
  ·
   try simp only [D0,C3] at *
   try simp only [Dp,Eo] at *
   simp_all [Ai,Cn]
  ·
   try simp only [D0,C3] at *
   try simp only [Dp,Eo] at *
   simp_all [Ai,Cn]
  try simp only [D0,C3] at *
  try simp only [Dp,Eo] at *
  simp_all [Ai,Cn]
 refine AW.region (Qp Av (Qp A0 (Ag (Aq (fun hc6=>Ae (Qp Qf7 (Qp Hc (Qp (Dk rfl rfl) (Ag (Aq (fun hc7=>Ae (Qp Al (Ra (Qr (Iq _) ?_)))) fun hc7=>Rf (Ae (Qp (B0 Mj) (Qp (Qc rfl (zZ v)) (Qp Al (Rb (Qr (Iq _) ?_)))))))))))) fun hc6=>?_))))
 ·
  try simp only [D0,C3] at *
  try simp only [Dp,Eo] at *
  simp only [Ai,Cn, *,Bz,↓reduceIte,O4,Rn,Lb,Oz,Lk,C3,Rp,Ox,Ew,Ef]
 ·
  try simp only [D0,C3] at *
  try simp only [Dp,Eo] at *
  simp only [Ai,Cn, *,Bz,↓reduceIte,O4,Rn,Lb,Oz,Lk,C3,Rp,Ox,Ew,Ef]
 refine Ae (Qp Av (Qp A0 (Ag (Aq (fun hc8=>Ae (Qp uH (Qp Bi (Qp Br (Ag (Aq (fun hc9=>Ae (Qp Al (Ra (Qr (Iq _) ?_)))) fun hc9=>Rf (Ae (Qp (B0 Mj) (Qp (Qc rfl (zZ v)) (Qp Al (Rb (Qr (Iq _) ?_)))))))))))) fun hc8=>Ae (Qp Al (Ra (Qr (Iq _) ?_)))))))
 ·
  try simp only [D0,C3] at *
  try simp only [Dp,Eo] at *
  simp only [Ai,Cn, *,Bz,↓reduceIte,O4,Rn,Lb,Oz,Lk,C3,Rp,Ox,Ew,Ef]
 ·
  try simp only [D0,C3] at *
  try simp only [Dp,Eo] at *
  simp only [Ai,Cn, *,Bz,↓reduceIte,O4,Rn,Lb,Oz,Lk,C3,Rp,Ox,Ew,Ef]
 try simp only [D0,C3] at *
 try simp only [Dp,Eo] at *
 simp only [Ai,Cn, *,Bz,↓reduceIte,O4,Rn,Lb,Oz,Lk,C3,Rp,Ox,Ew,Ef]
theorem c79 (v:Vl):Ap Tryz.prog 258 [.agg (cV v)] (.int .i64 (Cn v)):=by
 refine Ap.body (n:=47) tok Tryz.func258 rfl rfl rfl fun H=>?_
 refine Ae (Qp (Gc Mj) (Qp Al (Ag (Bk (Qp S5 (Qp Bi (Qp Bx (Qp A9 ?_))))))));refine Qg [] Qw S5 (Qg [(7,_)] Qw Bi (Qg [(8,_)] Qw Ej (Qp B9 (Ag (Aq (fun hc1=>Ae (Qp Al (Rc (Qr (Iq _) ?_)))) fun hc1=>Bg (Bk (Qp S5 (Qp Bi (Qp Av (Ag (Aq (fun hc2=>?_) fun hc2=>?_)))))))))))
 ·
  rw [←H7]
  try simp only [D0,C3] at *
  simp only [Ai,Iz];rw [if_pos hc1]
 ·
  refine Bk (Qp uH (Qp Bi (Qp Br (Ag (Aq (fun hc3=>Ae (Qp Al (Rc (Be (Qr (Iq _) ?_))))) fun hc3=>Bg (Bk (Qp Qf7 (Qp Hc (Qp (B8 tok rfl rfl rfl rfl) (Qp Ej (Ag (Aq (fun hc4=>Ae (Qp Al (Rc (Be (Qr (Iq _) ?_))))) fun hc4=>Bg (Ae (Qp Al (Rc (Qr (Iq _) ?_))))))))))))))))
  ·
   rw [←H7]
   try simp only [D0,C3] at *
   (simp only [Ai,Iz];rw [iN hc1];rw [if_pos hc2];rw [if_pos hc3];done)
  ·
   rw [←H7]
   try simp only [D0,C3] at *
   (simp only [Ai,Iz];rw [iN hc1];rw [if_pos hc2];rw [iN hc3];rw [if_pos hc4];done)
  rw [←H7]
  try simp only [D0,C3] at *
  (simp only [Ai,Iz];rw [iN hc1];rw [if_pos hc2];rw [iN hc3];rw [iN hc4];done)
 refine Bg (Bk (Qp Qf7 (Qp Hc (Qp (Dk rfl rfl) (Ag (Aq (fun hc5=>Ae (Qp Al (Rc (Qr (Iq _) ?_)))) fun hc5=>Bg (Bk (Qp S5 (Qp Bi (Qp Av (Qp A9 (Qg [] Qw uH (Qg [(28,_)] Qw Bi (Qg [(29,_)] Qw Bx ?_))))))))))))))
 ·
  rw [←H7]
  try simp only [D0,C3] at *
  (simp only [Ai,Iz];rw [iN hc1];rw [iN hc2];rw [if_pos hc5];done)
 refine Qg [(30,_)] Qw A9 (Qg [] Qw uH (Qg [(32,_)] Qw Bi (Qg [(33,_)] Qw Ej (Qg [(31,_),(34,_)] Qw B9 (Qp E0 (Qp A9 (Qg [] Qw uH (Qg [(38,_)] Qw Bi (Qg [(39,_)] Qw Bx ?_)))))))));refine Qp B9 (Qp A9 (Qg [] Qw uH (Qg [(43,_)] Qw Bi (Qg [(44,_)] Qw Ej (Qp B9 (Ag (Aq (fun hc6=>Ae (Qp Al (Rc (Qr (Iq _) ?_)))) fun hc6=>Bg (Ae (Qp Al (Rb (Qr (Iq _) ?_)))))))))))
 ·
  rw [←H7]
  try simp only [D0,C3] at *
  (simp only [Ai,Iz];rw [iN hc1];rw [iN hc2];rw [iN hc5];rw [if_pos hc6];done)
 rw [←H7]
 try simp only [D0,C3] at *
 (simp only [Ai,Iz];rw [iN hc1];rw [iN hc2];rw [iN hc5];rw [iN hc6];done)
theorem c101 (k:Int)(v:Vl):Ap Tryz.prog 259 [.int .i64 k,.agg (cV v)] (.bool (Lx k v)):=by
 refine Ap.body (n:=20) tok Tryz.func259 rfl rfl rfl fun H=>?_
 refine Ae (Qp (Gc Mj) (Qp A0 (Bs (Qp S5 (Qp Bi (Qp Av (Qp A9 (Qg [] Qw Ao (Qg [(9,_)] Qw Av ?_)))))))));refine Qp B9 (Qp A9 (Qg [] Qw Ao (Qg [(13,_)] Qw Av (Qp B9 (Qp A9 (Qg [] Qw Ao (Qg [(17,_)] Qw Av (Qp B9 (Qp A0 (Rb (Qr (.bool _) ?_)))))))))))
 try simp only [D0,C3] at *
 simp only [Ai,Lx]
theorem c99 (k:Int)(v:Vl):Ap Tryz.prog 190 [.int .i64 k,.agg (cV v)] (.bool (Nz k v)):=by
 refine Ap.body (n:=16) tok Tryz.func190 rfl rfl rfl fun H=>?_
 refine Ae (Qp (Gc Mj) (Qp A0 (Bs (Qp S5 (Qp Bi (Qp Av (Qp A9 (Qg [] Qw Ao (Qg [(9,_)] Qw Av (Qp B9 (Qp A9 (Qg [] Qw Ao (Qg [(13,_)] Qw Av (Qp B9 (Qp A0 (Rb (Qr (.bool _) ?_)))))))))))))))))
 try simp only [D0,C3] at *
 simp only [Ai,Nz]
end Go.Proofs.YtckhoadldibflaaGreatDoor
