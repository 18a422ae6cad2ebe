/-
  Several texts in one: R10w, C13. No condition.
-/
import Derived.Test.YtckhoadldibflaaGreatDoorK01
import Derived.Test.YtckhoadldibflaaGreatDoorK15
import Derived.Test.YtckhoadldibflaaGreatDoorR9w
import Derived.Test.YtckhoadldibflaaGreatDoorK19
import Derived.KernelRfl
import Derived.Test.YtckhoadldibflaaGreatDoorK04
import Derived.Test.YtckhoadldibflaaGreatDoorTab
import Derived.Test.YtckhoadldibflaaGreatDoorAx
import Derived.Lib.ItoaLen
set_option linter.unusedVariables false
set_option linter.unusedSimpArgs false
namespace Go.Proofs.YtckhoadldibflaaGreatDoor
open Go Go.Aw
set_option maxHeartbeats 12800000
set_option maxRecDepth 20000

theorem lE (T:List e8Sc)(hT:TsOK T)(t:Syn)(ht:QryOK t):Ap Tryz.prog 46 [.sl 2 (T.map G7),.agg (cSyn t)] (.tuple [.agg (cQy (F8 T t).1),.agg (M1 (F8 T t).2)]):=by
 have hl3:=ht.len
 have hkl:=Hl ht.m
 have hdl:(t.kids.drop 2).length≤1000000:=by rw [List.length_drop];omega
 have hpt:=ht.pat
 have hrv:=yV hT (Pb (Bn t 1))
 have hev:=ht.evl
 refine Ap.body (n:=119) tok Tryz.func46 rfl rfl rfl fun H=>?_
 refine Ad (Qp (Eu [Iq _,.str _,.str _,Iq _,_,Iq _]) ?_)
 refine Qe (An (l:=[.str [],.sl 2 [],.sl 1 [],.int .i64 0,.sl 14 [],.int .i64 0,.int .i64 0,.int .i64 0,.int .i64 0,.int .i64 0,.sl 8 [],.int .i64 0,.int .i64 0,.int .i64 0,.int .i64 0,.int .i64 0,.str [],.sl 8 []]) (by kernel_rfl)) ?_
 rintro _ _ ⟨b4,rfl,rfl⟩
 refine Qe (An (l:=[.int .i64 0,.int .i64 0]) (by kernel_rfl)) ?_
 rintro _ _ ⟨b5,rfl,rfl⟩
 refine By (Qp K4 ?_)
 refine Qe (Al (by kernel_rfl) rfl rfl (Ta T hT.tl hT.nd _)) ?_
 rintro _ _ ⟨b6,s6,rfl,rfl⟩
 refine Qp N8 ?_
 refine AOL.ghost (GS.cellRow 0 2 50 2 rfl rfl rfl rfl) ?_
 refine Aa (AW.seq (Ad (Qp (Qf [_,Iq _]) (Qp Dg ?_))))
 refine Qp (Ag (c:=[Iq _,.str _,.str _,Iq _,_,Iq _]) tok rfl rfl rfl rfl rfl rfl (by decide) (Dk (Es (by omega)))) ?_
 refine Qp (B2 [Iq _,.str _,.str _,Iq _,_,Iq _]) ?_
 refine Qp (Qc rfl (gS (Bn t 1) ht.med1 hpt)) ?_
 refine Qp Br ?_
 refine Qp (Bv (l:=[.val _]) (l':=[]) rfl rfl) ?_
 refine Qe (Al (by kernel_rfl) rfl rfl (Bw.front3 (R:=_::_::_) 2 1 0 rfl rfl rfl rfl (kX T [] (by decide) _ b6 s6 (Pb (Bn t 1)) hev _))) ?_
 rintro _ _ ⟨v7,rfl,rfl⟩
 refine Qe (An (l:=[.int .i64 0,.int .i64 0]) (by kernel_rfl)) ?_
 rintro _ _ ⟨b7,rfl,rfl⟩
 refine B0 0 [Iq _,Iq _] (_::_::_::_::_::_::_) ?_
 refine AOL.ghost (GS.freeze (t:=7) 0 rfl rfl) ?_
 refine By (Qp (Qf [Iq _]) (Qp Bt (Qp B9 (Aa (Au (fun hc1=>?_) fun hc1=>?_)))))
 ·
  refine AW.seq ?_
  refine AW.draw mixed (fun _=>True) trivial (by kernel_rfl) ?_
  refine Qn 0 rfl (Ea [.str _,_,_,Iq _,_,Iq _,Iq _,Iq _,Iq _,Iq _,_,Iq _,Iq _,Iq _,Iq _,Iq _,.str _,_]) (Qn 1 rfl (B2 [Iq _,Iq _]) ?_)
  refine Hs.eff _ _ 2 _ _ rfl (by kernel_rfl) rfl rfl (Be (k:=4) (v:=.agg _) (cs':=[.str _,_,_,Iq _,_,Iq _,Iq _,Iq _,Iq _,Iq _,_,Iq _,Iq _,Iq _,Iq _,Iq _,.str _,_]) (H2:=_::_::_::_::_::_) tok rfl rfl rfl rfl (rfl) rfl rfl rfl rfl) (fun _ _ _=>trivial) ?_
  rintro _ _ ⟨rfl,rfl⟩
  refine Hs.eff _ _ 3 _ _ rfl (by kernel_rfl) rfl rfl (Be (k:=3) (v:=.agg _) (cs':=[Iq _,Iq _]) (H2:=_::_::_::_::_::_) tok rfl rfl rfl rfl (rfl) rfl rfl rfl rfl) (fun _ _ _=>trivial) ?_
  rintro _ _ ⟨rfl,rfl⟩
  refine Hs.done _ _ (by kernel_rfl) ?_
  refine Af (Cx ?_)
  refine ⟨.inr rfl,[.agg [.str _,_,_,Iq _,_,Iq _,Iq _,Iq _,Iq _,Iq _,_,Iq _,Iq _,Iq _,Iq _,Iq _,.str _,_],.agg [Iq _,Iq _]],.cons (.box _ _ _ 4 _ _ _ _ rfl rfl rfl rfl rfl rfl) <| .cons (.box _ _ _ 3 _ _ _ _ rfl rfl rfl rfl rfl rfl) <| .nil,.cons _ (.cons _ (.cons _ (.cons _ (.cons _ (.refl _))))),?_⟩
  exact Eq.trans rfl (congrArg (fun q:Qy×Fa=>AV.tuple [.agg (cQy q.1),.agg (M1 q.2)]) (qr_1 hc1)).symm
 ·
  have hTp:0<T.length:=rU (qB _ hpt) hc1
  refine Bl (AW.seq ?_)
  refine AW.ghost (GS.cell (H2:=_::_::_::_::_::_) 1 2 rfl rfl rfl rfl Hw) ?_
  refine AW.ghost (GS.freezeSMapCell 2 1 3 rfl rfl rfl rfl rfl) ?_
  skip
  refine AW.draw mixed (fun H'=>_∈H') (List.mem_of_getElem? (i:=1) rfl) (by kernel_rfl) ?_
  refine Qn 0 rfl (Qf [.str _,.str _,Iq _,_,Iq _]) (Qn 1 rfl Df (Qn 2 rfl Br ?_))
  refine Qn 3 rfl (Ak rfl) ?_
  refine Qn 4 rfl Cb ?_
  refine Qn 5 rfl (OpP.Aas (fun k=>Aj (k:=k) (c:=.sl _ _) tok rfl rfl rfl rfl) (fun _ h=>h)) ?_
  refine Qn 6 rfl (Mk (l0:=[.str [],.sl 2 [],.sl 1 [],.int .i64 0,.sl 14 [],.int .i64 0,.int .i64 0,.int .i64 0,.int .i64 0,.int .i64 0,.sl 8 [],.int .i64 0,.int .i64 0,.int .i64 0,.int .i64 0,.int .i64 0,.str [],.val (.slice none 0 0)]) (l:=[.str _,_,_,Iq _,_,Iq _,Iq _,Iq _,Iq _,Iq _,_,Iq _,Iq _,Iq _,Iq _,Iq _,.str _,_]) tok rfl rfl (by kernel_rfl) rfl) ?_
  refine Hs.eff _ _ 7 _ _ rfl (by kernel_rfl) rfl rfl (An (l:=[.str [],.sl 2 [],.sl 1 [],.int .i64 0,.sl 14 [],.int .i64 0,.int .i64 0,.int .i64 0,.int .i64 0,.int .i64 0,.sl 8 [],.int .i64 0,.int .i64 0,.int .i64 0,.int .i64 0,.int .i64 0,.str [],.sl 8 []]) (by kernel_rfl)) (by rintro _ _ ⟨b8,rfl,rfl⟩;simp) ?_
  rintro _ _ ⟨b8,rfl,rfl⟩
  refine Hs.last _ _ 8 _ _ rfl (by kernel_rfl) rfl rfl (Be (k:=0) (v:=.agg _) (cs':=[.str _,_,_,Iq _,_,Iq _,Iq _,Iq _,Iq _,Iq _,_,Iq _,Iq _,Iq _,Iq _,Iq _,.str _,_]) (H2:=_::_::_::_::_::_) tok rfl rfl rfl rfl (rfl) rfl rfl rfl rfl) (by kernel_rfl) ?_
  rintro _ _ ⟨rfl,rfl⟩
  refine Af ?_
  refine AW.Aaw (fun (w:List Int)=>(⟨[(3,.ptr (cSyn t)),(4,.val (.pointer (some ⟨b4,0,none⟩))),(5,.val (.pointer (some ⟨b5,0,none⟩))),(6,.val (.pointer (some ⟨b6,0,none⟩))),(8,.val (.pointer (some ⟨b8,0,none⟩)))],.box b8 40 (cQyW ⟨t.text,(Pz T t),w,pt0,[]⟩ (.val (.slice none 0 0))) :: .box b6 159 (Qi T (Pz T t) ⟨0,0⟩) :: .box b5 94 [.int .i64 0,.int .i64 0] :: .box b4 40 [.str [],.sl 2 [],.sl 1 [],.int .i64 0,.sl 14 [],.int .i64 0,.int .i64 0,.int .i64 0,.int .i64 0,.int .i64 0,.sl 8 [],.int .i64 0,.int .i64 0,.int .i64 0,.int .i64 0,.int .i64 0,.str [],.sl 8 []]::H,119⟩:St)) (fun (w:List Int)=>w=(pQ T t (Pz T t)).1∧(!(pQ T t (Pz T t)).2)=false) ?_ ?_
  ·
   refine Ad (Qp (Qf [_,Iq _]) (Qp Dg ?_))
   refine Qp (Ag (c:=[Iq _,.str _,.str _,Iq _,_,Iq _]) tok rfl rfl rfl rfl rfl rfl (by decide) (Dk (Es (by omega)))) ?_
   refine Qp (B2 [Iq _,.str _,.str _,Iq _,_,Iq _]) ?_
   refine Qe (An (l:=[.int .i64 0,.str [],.str [],.int .i64 0,.sl 6 [],.int .i64 0]) (by kernel_rfl)) ?_
   rintro _ _ ⟨b9,rfl,rfl⟩
   refine B0 0 [Iq _,.str _,.str _,Iq _,_,Iq _] (_::_::_::_::_::_::_) ?_
   refine AOL.ghost (GS.freeze (t:=9) 0 rfl rfl) ?_
   refine By (Qp (Qf [.str _,.str _,Iq _,_,Iq _]) (Qp Df ?_))
   refine Qp (Cr rfl rfl) ?_
   refine Aa (Au (fun hc2=>?_) fun hc2=>?_)
   ·
    refine Ad (Qp Br (Qp (Qf [.str _,.str _,Iq _,_,Iq _]) (Qp Df ?_)))
    refine AOL.Aaq (Ce (k:=2) (by kernel_rfl) rfl rfl (zN T (Pz T t) ⟨0,0⟩ b6 hrv (Bn t 0).text hTp)) rfl rfl ?_
    refine Qp L0 (Qp Qxs (Qp cF (Qp U8 (Qp A3 (Aa (AW.seq (Ad (Qp Bq (Qp Fz ?_)))))))))
    refine Aa (Au (fun hc3=>?_) fun hc3=>?_)
    ·
     refine AW.seq ?_
     refine AW.draw mixed (fun _=>True) trivial (by kernel_rfl) ?_
     refine Qn 0 rfl (Ea [.str _,_,_,Iq _,_,Iq _,Iq _,Iq _,Iq _,Iq _,_,Iq _,Iq _,Iq _,Iq _,Iq _,.str _,_]) (Qn 1 rfl (Qf [Iq _]) (Qn 2 rfl Bt (Qn 3 rfl (Ea [Iq _,Iq _]) ?_)))
     refine Hs.eff _ _ 4 _ _ rfl (by kernel_rfl) rfl rfl (Be (k:=4) (v:=.agg _) (cs':=[.str _,_,_,Iq _,_,Iq _,Iq _,Iq _,Iq _,Iq _,_,Iq _,Iq _,Iq _,Iq _,Iq _,.str _,_]) (H2:=_::_::_::_::_::_) tok rfl rfl rfl rfl (rfl) rfl rfl rfl rfl) (fun _ _ _=>trivial) ?_
     rintro _ _ ⟨rfl,rfl⟩
     refine Hs.eff _ _ 5 _ _ rfl (by kernel_rfl) rfl rfl (Be (k:=3) (v:=.agg _) (cs':=[Iq _,Iq _]) (H2:=_::_::_::_::_::_) tok rfl rfl rfl rfl (rfl) rfl rfl rfl rfl) (fun _ _ _=>trivial) ?_
     rintro _ _ ⟨rfl,rfl⟩
     refine Hs.done _ _ (by kernel_rfl) ?_
     refine Af (Cx (Ai ?_))
     refine ⟨.inr rfl,[.agg [.str _,_,_,Iq _,_,Iq _,Iq _,Iq _,Iq _,Iq _,_,Iq _,Iq _,Iq _,Iq _,Iq _,.str _,_],.agg [Iq _,Iq _]],.cons (.box _ _ _ 4 _ _ _ _ rfl rfl rfl rfl rfl rfl) <| .cons (.box _ _ _ 3 _ _ _ _ rfl rfl rfl rfl rfl rfl) <| .nil,.cons _ (.cons _ (.cons _ (.cons _ (.cons _ (.refl _))))),?_⟩
     exact Eq.trans rfl (congrArg (fun q:Qy×Fa=>AV.tuple [.agg (cQy q.1),.agg (M1 q.2)]) ((oN hc1).trans (qr_2 (by rw [cW hc2];exact hc3)))).symm
    ·
     refine Bl (AW.region (Qp K4 (Qp Cb ?_)))
     refine B0 0 [.str _,_,_,Iq _,_,Iq _,Iq _,Iq _,Iq _,Iq _,_,Iq _,Iq _,Iq _,Iq _,Iq _,.str _,_] (_::_::_::_::_::_) ?_
     refine Aa ?_
     refine ⟨(bB T (Pz T t) (Bn t 0).text).1,?_,GS.weaken ⟨rfl,rfl,rfl,rfl,rfl,trivial⟩ (.cons_cons _ (.cons _ (.refl _)))⟩
     exact ⟨by rw [cW hc2],by rw [cW hc2];exact hc3⟩
   ·
    refine Bl ?_
    refine ⟨[],?_,GS.weaken ⟨rfl,rfl,rfl,rfl,rfl,trivial⟩ (.cons_cons _ (.cons _ (.refl _)))⟩
    exact ⟨by rw [wS hc2],by rw [wS hc2];rfl⟩
  ·
   rintro w hK
   obtain ⟨hk1,hk2⟩:=hK
   subst hk1
   refine AW.seq (Ad (Qp Br (Qp (B2 [Iq _,.str _,.str _,Iq _,_,Iq _]) ?_)))
   refine AOL.Aaq (Ce (k:=1) (by kernel_rfl) rfl rfl (qO T (Pz T t) ⟨0,0⟩ b6 hrv t ht.m)) rfl rfl ?_
   refine Qe (An (l:=[.int .i64 0,.int .i64 0]) (by kernel_rfl)) ?_
   rintro _ _ ⟨b12,rfl,rfl⟩
   refine B0 0 [Iq _,Iq _] (_::_::_::_::_::_) ?_
   refine AOL.ghost (GS.freeze (t:=12) 0 rfl rfl) ?_
   refine By (Qp (Qf [Iq _]) (Qp Bt (Qp B9 (Aa (Au (fun hc4=>?_) fun hc4=>?_)))))
   ·
    refine AW.seq ?_
    refine AW.draw mixed (fun _=>True) trivial (by kernel_rfl) ?_
    refine Qn 0 rfl (Ea [.str _,_,_,Iq _,_,Iq _,Iq _,Iq _,Iq _,Iq _,_,Iq _,Iq _,Iq _,Iq _,Iq _,.str _,_]) (Qn 1 rfl (B2 [Iq _,Iq _]) ?_)
    refine Hs.eff _ _ 2 _ _ rfl (by kernel_rfl) rfl rfl (Be (k:=3) (v:=.agg _) (cs':=[.str _,_,_,Iq _,_,Iq _,Iq _,Iq _,Iq _,Iq _,_,Iq _,Iq _,Iq _,Iq _,Iq _,.str _,_]) (H2:=_::_::_::_::_) tok rfl rfl rfl rfl (rfl) rfl rfl rfl rfl) (fun _ _ _=>trivial) ?_
    rintro _ _ ⟨rfl,rfl⟩
    refine Hs.eff _ _ 3 _ _ rfl (by kernel_rfl) rfl rfl (Be (k:=2) (v:=.agg _) (cs':=[Iq _,Iq _]) (H2:=_::_::_::_::_) tok rfl rfl rfl rfl (rfl) rfl rfl rfl rfl) (fun _ _ _=>trivial) ?_
    rintro _ _ ⟨rfl,rfl⟩
    refine Hs.done _ _ (by kernel_rfl) ?_
    refine Af (Cx ?_)
    refine ⟨.inr rfl,[.agg [.str _,_,_,Iq _,_,Iq _,Iq _,Iq _,Iq _,Iq _,_,Iq _,Iq _,Iq _,Iq _,Iq _,.str _,_],.agg [Iq _,Iq _]],.cons (.box _ _ _ 3 _ _ _ _ rfl rfl rfl rfl rfl rfl) <| .cons (.box _ _ _ 2 _ _ _ _ rfl rfl rfl rfl rfl rfl) <| .nil,.cons _ (.cons _ (.cons _ (.cons _ (.refl _)))),?_⟩
    exact Eq.trans rfl (congrArg (fun q:Qy×Fa=>AV.tuple [.agg (cQy q.1),.agg (M1 q.2)]) ((oN hc1).trans ((tB hk2).trans (qr_3 hc4)))).symm
   ·
    have hw0:(Fj T (Pz T t) t).err=0:=by simpa using hc4
    have hw1:=(Gu hw0).2 _ (List.mem_of_getElem? (Es (t:=t) (k:=1) (by omega)))
    refine Bl (Ad (Qp Br (Qp (Qf [_,Iq _]) (Qp Dg ?_))))
    refine Qp (Ag (c:=[Iq _,.str _,.str _,Iq _,_,Iq _]) tok rfl rfl rfl rfl rfl rfl (by decide) (Dk (Es (by omega)))) ?_
    refine Qp (B2 [Iq _,.str _,.str _,Iq _,_,Iq _]) ?_
    refine Qe (Al (by kernel_rfl) rfl rfl ((bG T (Pz T t) ⟨0,0⟩ b6 hrv (Bn t 1) ht.med1 hpt hw1 ⟨by decide,by decide,by have:=H8 ht.med1;simp only;omega,by have:=H8 ht.med1;simp only;omega⟩).at (k:=1) (H2:=_::_::_::_::_) rfl rfl)) ?_
    rintro _ _ ⟨rfl,rfl⟩
    refine Qp Cb ?_
    refine B0 0 [.str _,_,_,Iq _,_,Iq _,Iq _,Iq _,Iq _,Iq _,_,Iq _,Iq _,Iq _,Iq _,Iq _,.str _,_] (_::_::_::_::_) ?_
    refine Aa (AW.seq (Ad (Qp Cb ?_)))
    refine AOL.Aaq (A8 (k:=0) (l:=[Iq _,_,Iq _,Iq _,Iq _,Iq _,Iq _,_,Iq _,Iq _,Iq _,Iq _,Iq _,.str _]) tok rfl rfl rfl rfl rfl) rfl rfl ?_
    refine Qp (Qc rfl (nJ (xI T t (Pz T t)) (sJ ht.med1 hpt _))) ?_
    refine Qp A0 (By (Qp A4 (Qp B9 (Aa (Au (fun hc5=>?_) fun hc5=>?_)))))
    ·
     refine AW.seq ?_
     refine AW.draw mixed (fun _=>True) trivial (by kernel_rfl) ?_
     refine Qn 0 rfl (Ea [.str _,_,_,Iq _,_,Iq _,Iq _,Iq _,Iq _,Iq _,_,Iq _,Iq _,Iq _,Iq _,Iq _,.str _,_]) (Qn 1 rfl (Qf [_,Iq _]) (Qn 2 rfl Dg ?_))
     refine Qn 3 rfl (Ag (c:=[Iq _,.str _,.str _,Iq _,_,Iq _]) tok rfl rfl rfl rfl rfl rfl (by decide) (Dk (Es (by omega)))) ?_
     refine Qn 4 rfl (Qf [Iq _]) (Qn 5 rfl Bt (Qn 6 rfl A4 (Qn 7 rfl (Ea [Iq _,Iq _]) ?_)))
     refine Hs.eff _ _ 8 _ _ rfl (by kernel_rfl) rfl rfl (Be (k:=3) (v:=.agg _) (cs':=[.str _,_,_,Iq _,_,Iq _,Iq _,Iq _,Iq _,Iq _,_,Iq _,Iq _,Iq _,Iq _,Iq _,.str _,_]) (H2:=_::_::_::_::_) tok rfl rfl rfl rfl (rfl) rfl rfl rfl rfl) (fun _ _ _=>trivial) ?_
     rintro _ _ ⟨rfl,rfl⟩
     refine Hs.eff _ _ 9 _ _ rfl (by kernel_rfl) rfl rfl (Be (k:=2) (v:=.agg _) (cs':=[Iq _,Iq _]) (H2:=_::_::_::_::_) tok rfl rfl rfl rfl (rfl) rfl rfl rfl rfl) (fun _ _ _=>trivial) ?_
     rintro _ _ ⟨rfl,rfl⟩
     refine Hs.done _ _ (by kernel_rfl) ?_
     refine Af (Cx ?_)
     refine ⟨.inr rfl,[.agg [.str _,_,_,Iq _,_,Iq _,Iq _,Iq _,Iq _,Iq _,_,Iq _,Iq _,Iq _,Iq _,Iq _,.str _,_],.agg [Iq _,Iq _]],.cons (.box _ _ _ 3 _ _ _ _ rfl rfl rfl rfl rfl rfl) <| .cons (.box _ _ _ 2 _ _ _ _ rfl rfl rfl rfl rfl rfl) <| .nil,.cons _ (.cons _ (.cons _ (.cons _ (.refl _)))),?_⟩
     exact Eq.trans rfl (congrArg (fun q:Qy×Fa=>AV.tuple [.agg (cQy q.1),.agg (M1 q.2)]) ((oN hc1).trans ((tB hk2).trans ((zP hc4).trans (qr_4 hc5))))).symm
    ·
     refine Bl (AW.seq (AW.seq ?_))
     refine AW.ghost (GS.cellRow 0 17 36 8 rfl rfl rfl rfl) ?_
     skip
     refine AW.region (Qp (Qf [_,Iq _]) (Qp Dg ?_))
     refine Qp (Jh (l:=2) (h:=(t.kids.map Cl).length) tok rfl rfl rfl rfl rfl (⟨_,rfl⟩) (rfl) (by rw [List.length_map];omega) (Nat.le_refl _) (((congrArg (List.drop 2) List.take_length).trans List.map_drop.symm))) ?_
     refine Qp (Ax (n:=(t.kids.drop 2).length) tok rfl rfl rfl (by simp)) ?_
     refine Qp A4 (Aa (AW.block ?_))
     refine AW.Aat (fun (q:Nat×List (List AV)×Value)=>(⟨[(3,.ptr (cSyn t)),(4,.val (.pointer (some ⟨b4,0,none⟩))),(5,.val (.pointer (some ⟨b5,0,none⟩))),(6,.val (.pointer (some ⟨b6,0,none⟩))),(8,.val (.pointer (some ⟨b8,0,none⟩))),(92,.sl 6 ((t.kids.drop 2).map Cl)),(93,.int .i64 ((t.kids.drop 2).length:Int)),(94,.int .i64 (q.1:Int))],.row q.2.2 q.2.1.length 36 8 :: .box b8 40 (cQyW ⟨t.text,(Pz T t),(pQ T t (Pz T t)).1,(Gl T (Pz T t) (Bn t 1) ⟨0,0⟩).1,[]⟩ (.row q.2.2 8 q.2.1)) :: .box b6 159 (Qi T (Pz T t) (Gl T (Pz T t) (Bn t 1) ⟨0,0⟩).2) :: .box b5 94 [.int .i64 0,.int .i64 0] :: .box b4 40 [.str [],.sl 2 [],.sl 1 [],.int .i64 0,.sl 14 [],.int .i64 0,.int .i64 0,.int .i64 0,.int .i64 0,.int .i64 0,.sl 8 [],.int .i64 0,.int .i64 0,.int .i64 0,.int .i64 0,.int .i64 0,.str [],.sl 8 []]::H,119⟩:St)) (fun (q:Nat×List (List AV)×Value)=>q.1≤(t.kids.drop 2).length∧q.2.1=(((t.kids.drop 2).take q.1).map (Eb T (Pz T t))).map L2∧((t.kids.drop 2).take q.1).any (fun x=>(rtF T (Pz T t) x).err != 0)=false) (fun (q:Nat×List (List AV)×Value)=>(t.kids.drop 2).length-q.1) ((0,[],.slice none 0 0)) ?_ (GS.weaken ⟨rfl,rfl,rfl,rfl,rfl,rfl,rfl,rfl,trivial⟩ (.refl _)) ?_
     · exact ⟨Nat.zero_le _,rfl,rfl⟩
     ·
      rintro q hR
      refine Ad (Qp B7 (Aa (AW.seq (Au (fun hc6=>?_) fun hc6=>?_))))
      ·
       obtain ⟨a,ha⟩:=Dl hc6
       have hlt:=Cm ha
       have hm:=List.mem_of_getElem? ha
       have hsc:∀c∈q.2.1,Ba c=true:=by rw [hR.2.1];exact scE _
       have hmk:a∈t.kids:=List.mem_of_mem_drop hm
       have hma:=Ec ht.m hmk
       have hwa:=(Gu hw0).2 a hmk
       refine Bl (AW.seq (AW.block (Ad ?_)))
       refine Qp (Ag (c:=[Iq _,.str _,.str _,Iq _,_,Iq _]) tok rfl rfl rfl rfl rfl rfl (by omega) (Dk ha)) ?_
       refine Qp (B2 [Iq _,.str _,.str _,Iq _,_,Iq _]) ?_
       refine Qe (An (l:=[.int .i64 0,.str [],.str [],.int .i64 0,.sl 6 [],.int .i64 0]) (by kernel_rfl)) ?_
       rintro _ _ ⟨b15,rfl,rfl⟩
       refine B0 0 [Iq _,.str _,.str _,Iq _,_,Iq _] (_::_::_::_::_::_::_) ?_
       refine AOL.ghost (GS.freeze (t:=15) 0 rfl rfl) ?_
       refine By (Qp Br (Qp (B2 [Iq _,.str _,.str _,Iq _,_,Iq _]) ?_))
       refine AOL.Aaq (Ce (k:=2) (by kernel_rfl) rfl rfl (Yg T (Pz T t) (Gl T (Pz T t) (Bn t 1) ⟨0,0⟩).2 b6 hrv a hma hwa)) rfl rfl ?_
       refine Qe (An (l:=[.int .i64 0,.sl 8 [],.int .i64 0,.int .i64 0,.int .i64 0,.int .i64 0,.int .i64 0,.str []]) (by kernel_rfl)) ?_
       rintro _ _ ⟨b16,rfl,rfl⟩
       refine B0 0 [Iq _,_,Iq _,Iq _,Iq _,Iq _,Iq _,.str _] (_::_::_::_::_::_::_) ?_
       refine AOL.ghost (GS.freeze (t:=16) 0 rfl rfl) ?_
       refine Aa (AW.seq (Ad (Qp Wf ?_)))
       refine Qp (Qc rfl (vW (Eb T (Pz T t) a) (by have h:=Rh (T:=T) (V:=(Pz T t)) a;have:=H8 hma;omega))) ?_
       refine Qp A0 (By (Qp A4 (Qp B9 (Aa (Au (fun hc7=>?_) fun hc7=>?_)))))
       ·
        refine AW.seq ?_
        refine AW.draw mixed (fun _=>True) trivial (by kernel_rfl) ?_
        refine Qn 0 rfl (Ea [.str _,_,_,Iq _,_,Iq _,Iq _,Iq _,Iq _,Iq _,_,Iq _,Iq _,Iq _,Iq _,Iq _,.str _,_]) (Qn 1 rfl (Qf [Iq _]) (Qn 2 rfl Bt (Qn 3 rfl A4 (Qn 4 rfl (Ea [Iq _,Iq _]) ?_))))
        refine Hs.eff _ _ 5 _ _ rfl (by kernel_rfl) rfl rfl (Be (k:=4) (v:=.agg _) (cs':=[.str _,_,_,Iq _,_,Iq _,Iq _,Iq _,Iq _,Iq _,_,Iq _,Iq _,Iq _,Iq _,Iq _,.str _,_]) (H2:=_::_::_::_::_::_) tok rfl rfl rfl rfl (rfl) rfl rfl rfl rfl) (fun _ _ _=>trivial) ?_
        rintro _ _ ⟨rfl,rfl⟩
        refine Hs.eff _ _ 6 _ _ rfl (by kernel_rfl) rfl rfl (Be (k:=3) (v:=.agg _) (cs':=[Iq _,Iq _]) (H2:=_::_::_::_::_::_) tok rfl rfl rfl rfl (rfl) rfl rfl rfl rfl) (fun _ _ _=>trivial) ?_
        rintro _ _ ⟨rfl,rfl⟩
        refine Hs.done _ _ (by kernel_rfl) ?_
        refine Af (Cx (Ao (Ai (Ai (Ao (Ai ?_))))))
        refine ⟨.inr rfl,[.agg [.str _,_,_,Iq _,_,Iq _,Iq _,Iq _,Iq _,Iq _,_,Iq _,Iq _,Iq _,Iq _,Iq _,.str _,_],.agg [Iq _,Iq _]],.cons (.box _ _ _ 4 _ _ _ _ rfl rfl rfl rfl rfl rfl) <| .cons (.box _ _ _ 3 _ _ _ _ rfl rfl rfl rfl rfl rfl) <| .nil,.cons _ (.cons _ (.cons _ (.cons _ (.cons _ (.refl _))))),?_⟩
        exact Eq.trans rfl (congrArg (fun q:Qy×Fa=>AV.tuple [.agg (cQy q.1),.agg (M1 q.2)]) ((oN hc1).trans ((tB hk2).trans ((zP hc4).trans ((qr_e hc5).trans (qr_5 ha hR.2.2 hc7)))))).symm
       ·
        refine Bl (AW.region (Qp Cb ?_))
        refine AOL.Aaq (Aj (k:=1) (c:=.row _ _ _) tok rfl rfl rfl rfl) rfl rfl ?_
        refine Qp Wf ?_
        refine Qp (Am (es:=[[Iq _,_,Iq _,Iq _,Iq _,Iq _,Iq _,.str _]]) tok rfl rfl rfl rfl rfl rfl rfl rfl rfl) ?_
        refine Qe (Ci (k:=0) tok rfl rfl rfl rfl rfl rfl rfl rfl (D7 rfl) (hsc) (by have h9:=congrArg List.length hR.2.1;simp only [List.length_map,List.length_take] at h9;simp;omega) (by have h9:=congrArg List.length hR.2.1;simp only [List.length_map,List.length_take] at h9;simp [maxLen];omega)) ?_
        rintro _ _ ⟨v114,rfl,rfl⟩
        refine Qp Cb ?_
        refine B0 1 [.str _,_,_,Iq _,_,Iq _,Iq _,Iq _,Iq _,Iq _,_,Iq _,Iq _,Iq _,Iq _,Iq _,.str _,_] (_::_::_::_::_::_) ?_
        refine AOL.nil (Bc (Af (AW.region (Qp Ei (Qp A4 (Aa ?_))))))
        refine ⟨(q.1+1,q.2.1 ++ [cE (Eb T (Pz T t) a)],v114),?_,?_,GS.weaken ⟨rfl,rfl,rfl,rfl,rfl,rfl,rfl,rfl,trivial⟩ (.refl _)⟩
        · exact ⟨hlt,by simp only;rw [Fs ha,hR.2.1];simp [Sz],Nw hR.2.2 ha (by rw [rt_no hc7];rfl)⟩
        · simp only;omega
      ·
       have hte:=E8 hc6
       have hall:=hR.2.1
       have hnn:=hR.2.2
       rw [hte] at hall hnn
       refine AW.exit ?_
       refine A7 (A7 (Bp (Af (AW.seq ?_))))
       refine AW.ghost (GS.cell (H2:=_::_::_::_::_::_) 1 17 rfl rfl rfl rfl Hw) ?_
       skip
       refine AW.draw mixed (fun H'=>_∈H') (List.mem_of_getElem? (i:=1) rfl) (by kernel_rfl) ?_
       refine Qn 0 rfl (OpP.Aas (fun k=>A8 (k:=k) (l:=[.str _,_,_,Iq _,_,Iq _,Iq _,Iq _,Iq _,Iq _,_,Iq _,Iq _,Iq _,Iq _,Iq _,.str _,_]) tok rfl rfl rfl rfl rfl) (fun _ h=>h)) ?_
       refine Qn 1 rfl (Qc rfl (J1)) ?_
       refine Hs.eff _ _ 2 _ _ rfl (by kernel_rfl) rfl rfl (Be (k:=4) (v:=.agg _) (cs':=[.str _,_,_,Iq _,_,Iq _,Iq _,Iq _,Iq _,Iq _,_,Iq _,Iq _,Iq _,Iq _,Iq _,.str _,_]) (H2:=_::_::_::_::_::_) tok rfl rfl rfl rfl (rfl) rfl rfl rfl rfl) (by rintro _ _ ⟨rfl,rfl⟩;simp) ?_
       rintro _ _ ⟨rfl,rfl⟩
       refine Hs.last _ _ 3 _ _ rfl (by kernel_rfl) rfl rfl (Be (k:=3) (v:=.agg _) (cs':=[Iq _,Iq _]) (H2:=_::_::_::_::_::_) tok rfl rfl rfl rfl (rfl) rfl rfl rfl rfl) (by kernel_rfl) ?_
       rintro _ _ ⟨rfl,rfl⟩
       refine Af (AW.ret ?_)
       refine ⟨.inr rfl,[.agg [.str _,_,_,Iq _,_,Iq _,Iq _,Iq _,Iq _,Iq _,_,Iq _,Iq _,Iq _,Iq _,Iq _,.str _,_],.agg [Iq _,Iq _]],.cons (.box _ _ _ 4 _ _ _ _ rfl rfl rfl rfl rfl rfl) <| .cons (.box _ _ _ 3 _ _ _ _ rfl rfl rfl rfl rfl rfl) <| .nil,.cons _ (.cons _ (.cons _ (.cons _ (.cons _ (.refl _))))),?_⟩
       exact Eq.trans (congrArg (fun l:List (List AV)=>AV.tuple [.agg (cQyW ⟨t.text,(Pz T t),(pQ T t (Pz T t)).1,(Gl T (Pz T t) (Bn t 1) ⟨0,0⟩).1,[]⟩ (.sl 8 l)),.agg (M1 Mq)]) hall) (congrArg (fun q:Qy×Fa=>AV.tuple [.agg (cQy q.1),.agg (M1 q.2)]) ((oN hc1).trans ((tB hk2).trans ((zP hc4).trans ((qr_e hc5).trans (qr_6 hnn)))))).symm

open Go Go.Aw Go.Sort Go.Lib

theorem bV (w:World)(k:Nat)(os:Array Obj):Go.RowKit.Below w.heap.size w (grow (w.drewN k) os):=
 ⟨rfl,rfl,rfl,by first | (simp [grow];done) | (simp [grow];omega),fun i hi=>by
  show ((w.drewN k).heap++os)[i]? = _
  rw [Array.getElem?_append_left (by show i<w.heap.size;omega)]
  rfl⟩
theorem nS {g : Gh} {w : World} (h : GlobOK g w) : Lib.TabIs Tryz.prog w "internal/strconv.uint64pow10" .u64 Lib.pow10Tab := by
 obtain ⟨_,T,fr,h2⟩:=h.tabs _ (List.mem_singleton.2 rfl)
 have e : Tryz.prog.globalNamed "internal/strconv.uint64pow10" = some 7 := by kernel_rfl
 unfold Lib.TabIs World.var?
 rw [e]
 show (match w.heap[7]? with | some (.cells cs _ _)=>some cs | _=>none)=_
 rw [h2]
 rfl
theorem vL (n:Int)(h0 : -9223372036854775808≤n)(h1:n≤9223372036854775807):Ap Tryz.prog 270 [.int .i64 n] (.str (Go.Lib.itoa n)):=
 .of_calls fun g w vs hg ha=>by
  obtain ⟨v,rfl,h2⟩:=ha.inv1
  have e1:=h2.inv_int
  subst e1
  have hl:=Go.Lib.itoa_length_le n h0 h1
  refine ⟨.string ⟨(Go.Lib.itoa n).toArray⟩,fun _ _ _=>Ob (by unfold maxLen;omega),(Tryz.strconv_Itoa n h0 h1 w (nS hg)).mono ?_⟩
  rintro e w' ⟨rfl,k,os,rfl⟩
  exact ⟨rfl,bV w k os⟩
end Go.Proofs.YtckhoadldibflaaGreatDoor
