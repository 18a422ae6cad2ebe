/-
  Walks of the parser: expressions. No condition.
-/
import Derived.Test.YtckhoadldibflaaGreatDoorK01
import Derived.Test.YtckhoadldibflaaGreatDoorV5
import Derived.KernelRfl
namespace Go.Proofs.YtckhoadldibflaaGreatDoor
open Go Go.Aw
set_option maxHeartbeats 1600000
set_option maxRecDepth 20000
set_option linter.unusedVariables false
set_option linter.unusedSimpArgs false

theorem U2 (st:PS)(bp:Nat)(D:Int)(hD:0≤D)(E:PS→Syn×PS)(hFE:Ch E)(hE:∀(st:PS) (bp:Nat),okD (D+1) st→Bd Tryz.prog 164 bp 223 (cP st) (cP (E st).2) [.val (.pointer (some ⟨bp,0,none⟩))] (.agg (cSyn (E st).1)))(hO:okD D st):Bd Tryz.prog 316 bp 223 (cP st) (cP ((P4 E st).2)) [.val (.pointer (some ⟨bp,0,none⟩))] (.agg (cSyn (P4 E st).1)):=by
 intro H
 refine Bw.body (n:=8) tok Tryz.func316 rfl rfl rfl ?_
 refine Ad ?_
 refine Qe (An (l:=[.int .i64 0,.str [],.str [],.int .i64 0,.sl 6 [],.int .i64 0]) (by kernel_rfl)) ?_
 rintro _ _ ⟨b2,rfl,rfl⟩
 refine By (Qp Br (Qp Br ?_))
 refine Qp (Bv (l:=[.val _]) (l':=[]) rfl rfl) ?_
 refine Qp (Kx (es:=zO.map wP) tok (⟨fun cs=>cs=Kp,by simp [globals],fun _ h=>h⟩) rfl rfl rfl rfl rfl rfl rfl rfl rfl) ?_
 refine Qe (Al (by kernel_rfl) rfl rfl ((Xl st bp D hD 322 (by kernel_rfl) [.val (.pointer (some ⟨bp,0,none⟩))] [] (G3 E) (Vz hFE) (fun s ho=>xZ s bp D hD E hFE hE ho) hO zO (by decide) (by decide)).at (k:=1) (H2:=_::_::_) rfl rfl)) ?_
 rintro _ _ ⟨rfl,rfl⟩
 refine B0 0 [Iq _,.str _,.str _,Iq _,_,Iq _] (_::_::_) ?_
 refine Aa (AW.ret ?_)
 refine ⟨.inr rfl,[.agg [Iq _,.str _,.str _,Iq _,_,Iq _]],.cons (.box _ _ _ 0 _ _ _ _ rfl rfl rfl rfl rfl rfl) <| .nil,_,.cons _ (.refl _),?_⟩
 refine ⟨rfl,rfl⟩
theorem iS (st:PS)(bp:Nat)(D:Int)(hD:0≤D)(E:PS→Syn×PS)(hFE:Ch E)(hE:∀(st:PS) (bp:Nat),okD (D+1) st→Bd Tryz.prog 164 bp 223 (cP st) (cP (E st).2) [.val (.pointer (some ⟨bp,0,none⟩))] (.agg (cSyn (E st).1)))(hO:okD D st):Bd Tryz.prog 306 bp 223 (cP st) (cP ((Lm E st).2)) [.val (.pointer (some ⟨bp,0,none⟩))] (.agg (cSyn (Lm E st).1)):=by
 intro H
 have hO2:=(T6 hFE).okD hD hO
 have hS:=hO2.1
 refine Bw.body (n:=65) tok Tryz.func306 rfl rfl rfl ?_
 refine Ad ?_
 refine Qe (An (l:=[.int .i64 0,.str [],.str [],.int .i64 0,.sl 6 [],.int .i64 0]) (by kernel_rfl)) ?_
 rintro _ _ ⟨b2,rfl,rfl⟩
 refine By (Qp Br ?_)
 refine Qe (Al (by kernel_rfl) rfl rfl ((U2 st bp D hD E hFE hE hO).at (k:=1) (H2:=_::_::_) rfl rfl)) ?_
 rintro _ _ ⟨rfl,rfl⟩
 refine Qe (An (l:=[.int .i64 0,.str [],.str [],.int .i64 0,.sl 6 [],.int .i64 0]) (by kernel_rfl)) ?_
 rintro _ _ ⟨b3,rfl,rfl⟩
 refine B0 0 [Iq _,.str _,.str _,Iq _,_,Iq _] (_::_::_::_) ?_
 refine AOL.ghost (GS.freeze (t:=3) 0 rfl rfl) ?_
 refine Aa (AW.seq (AW.block (Ad (Qp Br ?_))))
 refine Qe (Al (by kernel_rfl) rfl rfl ((C8 _ _ _ (by simpa using hS) (by first | assumption | decide)).at (k:=1) (H2:=_::_::_) rfl rfl)) ?_
 rintro _ _ ⟨rfl,rfl⟩
 refine Qp A3 (Aa (Au (fun hc1=>?_) fun hc1=>?_))
 ·
  try simp only [Bool.not_eq_true',Bool.not_eq_false'] at hc1
  refine AW.ghost (GS.Aau (H2:=_::_::_) 1 rfl (congrArg cP (D4 hc1)) rfl) ?_
  refine AW.seq ?_
  refine AW.draw mixed (fun _=>True) trivial (by kernel_rfl) ?_
  refine Qn 0 rfl (B2 [Iq _,.str _,.str _,Iq _,_,Iq _]) (Qn 1 rfl Br (Qn 3 rfl (Qf [Iq _]) (Qn 4 rfl Bt ?_)))
  refine Hs.eff _ _ 2 _ _ rfl (by kernel_rfl) rfl rfl (Al (by kernel_rfl) rfl rfl ((U2 (adv (P4 E st).2) bp D hD E hFE hE (by simpa using hO2)).at (k:=1) (H2:=_::_::_) rfl rfl)) (fun _ _ _=>trivial) ?_
  rintro _ _ ⟨rfl,rfl⟩
  refine Qn 5 rfl (Qc rfl (Hx _ _ _ _)) ?_
  refine Hs.eff _ _ 6 _ _ rfl (by kernel_rfl) rfl rfl (Be (k:=0) (v:=.agg _) (cs':=[Iq _,.str _,.str _,Iq _,_,Iq _]) (H2:=_::_::_) tok rfl rfl rfl rfl (rfl) rfl rfl rfl rfl) (fun _ _ _=>trivial) ?_
  rintro _ _ ⟨rfl,rfl⟩
  refine Hs.done _ _ (by kernel_rfl) ?_
  refine Af (AW.ret (Ao (Ai ?_)))
  refine ⟨.inr rfl,[.agg [Iq _,.str _,.str _,Iq _,_,Iq _]],.cons (.box _ _ _ 0 _ _ _ _ rfl rfl rfl rfl rfl rfl) <| .nil,_,.cons _ (.refl _),?_⟩
  refine ⟨?_,congrArg (fun c=>HO.box bp 223 c::H) ?_⟩
  ·
   try simp only [Ae,Lm,cSyn,List.map_cons,List.map_nil,Bi,hc1,↓reduceIte,Bool.false_eq_true,Bool.not_true,Bool.not_false]
   try rfl
  ·
   try simp only [cP,Lm,hc1,↓reduceIte,Bool.false_eq_true,Bool.not_true,Bool.not_false]
   try rfl
 ·
  try simp only [Bool.not_eq_true',Bool.not_eq_false'] at hc1
  refine AW.ghost (GS.Aau (H2:=_::_::_) 1 rfl (congrArg cP (Ey hc1)) rfl) ?_
  refine Ad (Qp Br ?_)
  refine Qe (Al (by kernel_rfl) rfl rfl ((C8 _ _ _ (by simpa using hS) (by first | assumption | decide)).at (k:=1) (H2:=_::_::_) rfl rfl)) ?_
  rintro _ _ ⟨rfl,rfl⟩
  refine Qp A3 (Aa (Au (fun hc2=>?_) fun hc2=>?_))
  ·
   try simp only [Bool.not_eq_true',Bool.not_eq_false'] at hc2
   refine AW.ghost (GS.Aau (H2:=_::_::_) 1 rfl (congrArg cP (D4 hc2)) rfl) ?_
   refine AW.seq ?_
   refine AW.draw mixed (fun _=>True) trivial (by kernel_rfl) ?_
   refine Qn 0 rfl (B2 [Iq _,.str _,.str _,Iq _,_,Iq _]) (Qn 1 rfl Br (Qn 3 rfl (Qf [Iq _]) (Qn 4 rfl Bt ?_)))
   refine Hs.eff _ _ 2 _ _ rfl (by kernel_rfl) rfl rfl (Al (by kernel_rfl) rfl rfl ((U2 (adv (P4 E st).2) bp D hD E hFE hE (by simpa using hO2)).at (k:=1) (H2:=_::_::_) rfl rfl)) (fun _ _ _=>trivial) ?_
   rintro _ _ ⟨rfl,rfl⟩
   refine Qn 5 rfl (Qc rfl (Hx _ _ _ _)) ?_
   refine Hs.eff _ _ 6 _ _ rfl (by kernel_rfl) rfl rfl (Be (k:=0) (v:=.agg _) (cs':=[Iq _,.str _,.str _,Iq _,_,Iq _]) (H2:=_::_::_) tok rfl rfl rfl rfl (rfl) rfl rfl rfl rfl) (fun _ _ _=>trivial) ?_
   rintro _ _ ⟨rfl,rfl⟩
   refine Hs.done _ _ (by kernel_rfl) ?_
   refine Af (AW.ret (Ao (Ai ?_)))
   refine ⟨.inr rfl,[.agg [Iq _,.str _,.str _,Iq _,_,Iq _]],.cons (.box _ _ _ 0 _ _ _ _ rfl rfl rfl rfl rfl rfl) <| .nil,_,.cons _ (.refl _),?_⟩
   refine ⟨?_,congrArg (fun c=>HO.box bp 223 c::H) ?_⟩
   ·
    try simp only [Ae,Lm,cSyn,List.map_cons,List.map_nil,Bi,hc1,hc2,↓reduceIte,Bool.false_eq_true,Bool.not_true,Bool.not_false]
    try rfl
   ·
    try simp only [cP,Lm,hc1,hc2,↓reduceIte,Bool.false_eq_true,Bool.not_true,Bool.not_false]
    try rfl
  ·
   try simp only [Bool.not_eq_true',Bool.not_eq_false'] at hc2
   refine AW.ghost (GS.Aau (H2:=_::_::_) 1 rfl (congrArg cP (Ey hc2)) rfl) ?_
   refine Ad (Qp Br ?_)
   refine Qe (Al (by kernel_rfl) rfl rfl ((C8 _ _ _ (by simpa using hS) (by first | assumption | decide)).at (k:=1) (H2:=_::_::_) rfl rfl)) ?_
   rintro _ _ ⟨rfl,rfl⟩
   refine Qp A3 (Aa (Au (fun hc3=>?_) fun hc3=>?_))
   ·
    try simp only [Bool.not_eq_true',Bool.not_eq_false'] at hc3
    refine AW.ghost (GS.Aau (H2:=_::_::_) 1 rfl (congrArg cP (D4 hc3)) rfl) ?_
    refine AW.seq ?_
    refine AW.draw mixed (fun _=>True) trivial (by kernel_rfl) ?_
    refine Qn 0 rfl Br (Qn 2 rfl (B2 [Iq _,.str _,.str _,Iq _,_,Iq _]) (Qn 3 rfl (Qf [Iq _]) (Qn 4 rfl Bt ?_)))
    refine Hs.eff _ _ 1 _ _ rfl (by kernel_rfl) rfl rfl (Al (by kernel_rfl) rfl rfl ((U2 (adv (P4 E st).2) bp D hD E hFE hE (by simpa using hO2)).at (k:=1) (H2:=_::_::_) rfl rfl)) (fun _ _ _=>trivial) ?_
    rintro _ _ ⟨rfl,rfl⟩
    refine Qn 5 rfl (Qc rfl (Hx _ _ _ _)) ?_
    refine Hs.eff _ _ 6 _ _ rfl (by kernel_rfl) rfl rfl (Be (k:=0) (v:=.agg _) (cs':=[Iq _,.str _,.str _,Iq _,_,Iq _]) (H2:=_::_::_) tok rfl rfl rfl rfl (rfl) rfl rfl rfl rfl) (fun _ _ _=>trivial) ?_
    rintro _ _ ⟨rfl,rfl⟩
    refine Hs.done _ _ (by kernel_rfl) ?_
    refine Af (AW.ret (Ao (Ai ?_)))
    refine ⟨.inr rfl,[.agg [Iq _,.str _,.str _,Iq _,_,Iq _]],.cons (.box _ _ _ 0 _ _ _ _ rfl rfl rfl rfl rfl rfl) <| .nil,_,.cons _ (.refl _),?_⟩
    refine ⟨?_,congrArg (fun c=>HO.box bp 223 c::H) ?_⟩
    ·
     try simp only [Ae,Lm,cSyn,List.map_cons,List.map_nil,Bi,hc1,hc2,hc3,↓reduceIte,Bool.false_eq_true,Bool.not_true,Bool.not_false]
     try rfl
    ·
     try simp only [cP,Lm,hc1,hc2,hc3,↓reduceIte,Bool.false_eq_true,Bool.not_true,Bool.not_false]
     try rfl
   ·
    try simp only [Bool.not_eq_true',Bool.not_eq_false'] at hc3
    refine AW.ghost (GS.Aau (H2:=_::_::_) 1 rfl (congrArg cP (Ey hc3)) rfl) ?_
    refine Ad (Qp Br ?_)
    refine Qe (Al (by kernel_rfl) rfl rfl ((C8 _ _ _ (by simpa using hS) (by first | assumption | decide)).at (k:=1) (H2:=_::_::_) rfl rfl)) ?_
    rintro _ _ ⟨rfl,rfl⟩
    refine Qp A3 (Aa (Au (fun hc4=>?_) fun hc4=>?_))
    ·
     try simp only [Bool.not_eq_true',Bool.not_eq_false'] at hc4
     refine AW.ghost (GS.Aau (H2:=_::_::_) 1 rfl (congrArg cP (D4 hc4)) rfl) ?_
     refine AW.seq ?_
     refine AW.draw mixed (fun _=>True) trivial (by kernel_rfl) ?_
     refine Qn 0 rfl Br (Qn 2 rfl (B2 [Iq _,.str _,.str _,Iq _,_,Iq _]) (Qn 3 rfl (Qf [Iq _]) (Qn 4 rfl Bt ?_)))
     refine Hs.eff _ _ 1 _ _ rfl (by kernel_rfl) rfl rfl (Al (by kernel_rfl) rfl rfl ((U2 (adv (P4 E st).2) bp D hD E hFE hE (by simpa using hO2)).at (k:=1) (H2:=_::_::_) rfl rfl)) (fun _ _ _=>trivial) ?_
     rintro _ _ ⟨rfl,rfl⟩
     refine Qn 5 rfl (Qc rfl (Hx _ _ _ _)) ?_
     refine Hs.eff _ _ 6 _ _ rfl (by kernel_rfl) rfl rfl (Be (k:=0) (v:=.agg _) (cs':=[Iq _,.str _,.str _,Iq _,_,Iq _]) (H2:=_::_::_) tok rfl rfl rfl rfl (rfl) rfl rfl rfl rfl) (fun _ _ _=>trivial) ?_
     rintro _ _ ⟨rfl,rfl⟩
     refine Hs.done _ _ (by kernel_rfl) ?_
     refine Af (AW.ret (Ao (Ai ?_)))
     refine ⟨.inr rfl,[.agg [Iq _,.str _,.str _,Iq _,_,Iq _]],.cons (.box _ _ _ 0 _ _ _ _ rfl rfl rfl rfl rfl rfl) <| .nil,_,.cons _ (.refl _),?_⟩
     refine ⟨?_,congrArg (fun c=>HO.box bp 223 c::H) ?_⟩
     ·
      try simp only [Ae,Lm,cSyn,List.map_cons,List.map_nil,Bi,hc1,hc2,hc3,hc4,↓reduceIte,Bool.false_eq_true,Bool.not_true,Bool.not_false]
      try rfl
     ·
      try simp only [cP,Lm,hc1,hc2,hc3,hc4,↓reduceIte,Bool.false_eq_true,Bool.not_true,Bool.not_false]
      try rfl
    ·
     try simp only [Bool.not_eq_true',Bool.not_eq_false'] at hc4
     refine AW.ghost (GS.Aau (H2:=_::_::_) 1 rfl (congrArg cP (Ey hc4)) rfl) ?_
     refine Ad (Qp Br ?_)
     refine Qe (Al (by kernel_rfl) rfl rfl ((C8 _ _ _ (by simpa using hS) (by first | assumption | decide)).at (k:=1) (H2:=_::_::_) rfl rfl)) ?_
     rintro _ _ ⟨rfl,rfl⟩
     refine Qp A3 (Aa (Au (fun hc5=>?_) fun hc5=>?_))
     ·
      try simp only [Bool.not_eq_true',Bool.not_eq_false'] at hc5
      refine AW.ghost (GS.Aau (H2:=_::_::_) 1 rfl (congrArg cP (D4 hc5)) rfl) ?_
      refine AW.seq ?_
      refine AW.draw mixed (fun _=>True) trivial (by kernel_rfl) ?_
      refine Qn 0 rfl (B2 [Iq _,.str _,.str _,Iq _,_,Iq _]) (Qn 1 rfl Br (Qn 3 rfl (Qf [Iq _]) (Qn 4 rfl Bt ?_)))
      refine Hs.eff _ _ 2 _ _ rfl (by kernel_rfl) rfl rfl (Al (by kernel_rfl) rfl rfl ((U2 (adv (P4 E st).2) bp D hD E hFE hE (by simpa using hO2)).at (k:=1) (H2:=_::_::_) rfl rfl)) (fun _ _ _=>trivial) ?_
      rintro _ _ ⟨rfl,rfl⟩
      refine Qn 5 rfl (Qc rfl (Hx _ _ _ _)) ?_
      refine Hs.eff _ _ 6 _ _ rfl (by kernel_rfl) rfl rfl (Be (k:=0) (v:=.agg _) (cs':=[Iq _,.str _,.str _,Iq _,_,Iq _]) (H2:=_::_::_) tok rfl rfl rfl rfl (rfl) rfl rfl rfl rfl) (fun _ _ _=>trivial) ?_
      rintro _ _ ⟨rfl,rfl⟩
      refine Hs.done _ _ (by kernel_rfl) ?_
      refine Af (AW.ret (Ao (Ai ?_)))
      refine ⟨.inr rfl,[.agg [Iq _,.str _,.str _,Iq _,_,Iq _]],.cons (.box _ _ _ 0 _ _ _ _ rfl rfl rfl rfl rfl rfl) <| .nil,_,.cons _ (.refl _),?_⟩
      refine ⟨?_,congrArg (fun c=>HO.box bp 223 c::H) ?_⟩
      ·
       try simp only [Ae,Lm,cSyn,List.map_cons,List.map_nil,Bi,hc1,hc2,hc3,hc4,hc5,↓reduceIte,Bool.false_eq_true,Bool.not_true,Bool.not_false]
       try rfl
      ·
       try simp only [cP,Lm,hc1,hc2,hc3,hc4,hc5,↓reduceIte,Bool.false_eq_true,Bool.not_true,Bool.not_false]
       try rfl
     ·
      try simp only [Bool.not_eq_true',Bool.not_eq_false'] at hc5
      refine AW.ghost (GS.Aau (H2:=_::_::_) 1 rfl (congrArg cP (Ey hc5)) rfl) ?_
      refine Ad (Qp Br ?_)
      refine Qe (Al (by kernel_rfl) rfl rfl ((C8 _ _ _ (by simpa using hS) (by first | assumption | decide)).at (k:=1) (H2:=_::_::_) rfl rfl)) ?_
      rintro _ _ ⟨rfl,rfl⟩
      refine Qp A3 (Aa (Au (fun hc6=>?_) fun hc6=>?_))
      ·
       try simp only [Bool.not_eq_true',Bool.not_eq_false'] at hc6
       refine AW.ghost (GS.Aau (H2:=_::_::_) 1 rfl (congrArg cP (D4 hc6)) rfl) ?_
       refine AW.seq ?_
       refine AW.draw mixed (fun _=>True) trivial (by kernel_rfl) ?_
       refine Qn 0 rfl (B2 [Iq _,.str _,.str _,Iq _,_,Iq _]) (Qn 1 rfl Br (Qn 3 rfl (Qf [Iq _]) (Qn 4 rfl Bt (Qn 7 rfl (Qf [Iq _]) (Qn 8 rfl Bt ?_)))))
       refine Hs.eff _ _ 2 _ _ rfl (by kernel_rfl) rfl rfl (Al (by kernel_rfl) rfl rfl ((U2 (adv (P4 E st).2) bp D hD E hFE hE (by simpa using hO2)).at (k:=1) (H2:=_::_::_) rfl rfl)) (fun _ _ _=>trivial) ?_
       rintro _ _ ⟨rfl,rfl⟩
       refine Qn 5 rfl (Qc rfl (Hx _ _ _ _)) ?_
       refine Qn 6 rfl (Am (es:=[[Iq _,.str _,.str _,Iq _,_,Iq _]]) tok rfl rfl rfl rfl rfl rfl rfl rfl rfl) ?_
       refine Qn 9 rfl (Ea [Iq _,.str _,.str _,Iq _,_,Iq _]) ?_
       refine Hs.eff _ _ 10 _ _ rfl (by kernel_rfl) rfl rfl (Be (k:=0) (v:=.agg _) (cs':=[Iq _,.str _,.str _,Iq _,_,Iq _]) (H2:=_::_::_) tok rfl rfl rfl rfl (rfl) rfl rfl rfl rfl) (fun _ _ _=>trivial) ?_
       rintro _ _ ⟨rfl,rfl⟩
       refine Hs.done _ _ (by kernel_rfl) ?_
       refine Af (AW.ret (Ao (Ai ?_)))
       refine ⟨.inr rfl,[.agg [Iq _,.str _,.str _,Iq _,_,Iq _]],.cons (.box _ _ _ 0 _ _ _ _ rfl rfl rfl rfl rfl rfl) <| .nil,_,.cons _ (.refl _),?_⟩
       refine ⟨?_,congrArg (fun c=>HO.box bp 223 c::H) ?_⟩
       ·
        try simp only [Ae,Lm,cSyn,List.map_cons,List.map_nil,Bi,hc1,hc2,hc3,hc4,hc5,hc6,↓reduceIte,Bool.false_eq_true,Bool.not_true,Bool.not_false]
        try rfl
       ·
        try simp only [cP,Lm,hc1,hc2,hc3,hc4,hc5,hc6,↓reduceIte,Bool.false_eq_true,Bool.not_true,Bool.not_false]
        try rfl
      ·
       try simp only [Bool.not_eq_true',Bool.not_eq_false'] at hc6
       refine AW.ghost (GS.Aau (H2:=_::_::_) 1 rfl (congrArg cP (Ey hc6)) rfl) ?_
       refine AW.skip (Bc (Af (Ad (Qp (B2 [Iq _,.str _,.str _,Iq _,_,Iq _]) ?_))))
       refine B0 0 [Iq _,.str _,.str _,Iq _,_,Iq _] (_::_::_) ?_
       refine Aa (AW.ret ?_)
       refine ⟨.inr rfl,[.agg [Iq _,.str _,.str _,Iq _,_,Iq _]],.cons (.box _ _ _ 0 _ _ _ _ rfl rfl rfl rfl rfl rfl) <| .nil,_,.cons _ (.refl _),?_⟩
       refine ⟨?_,congrArg (fun c=>HO.box bp 223 c::H) ?_⟩
       ·
        try simp only [Ae,Lm,cSyn,List.map_cons,List.map_nil,Bi,hc1,hc2,hc3,hc4,hc5,hc6,↓reduceIte,Bool.false_eq_true,Bool.not_true,Bool.not_false]
        try rfl
       ·
        try simp only [cP,Lm,hc1,hc2,hc3,hc4,hc5,hc6,↓reduceIte,Bool.false_eq_true,Bool.not_true,Bool.not_false]
        try rfl
theorem tK (st:PS)(bp:Nat)(z:Syn)(bo:Nat)(R:List HO)(D:Int)(hD:0≤D)(E:PS→Syn×PS)(hFE:Ch E)(hE:∀(st:PS) (bp:Nat),okD (D+1) st→Bd Tryz.prog 164 bp 223 (cP st) (cP (E st).2) [.val (.pointer (some ⟨bp,0,none⟩))] (.agg (cSyn (E st).1)))(N:PS→Syn×PS)(hFN:Ch N)(hN:∀(st:PS) (bp:Nat),okD (D+1) st→Bd Tryz.prog 288 bp 223 (cP st) (cP (N st).2) [.val (.pointer (some ⟨bp,0,none⟩))] (.agg (cSyn (N st).1)))(hO:okD (D+1) st):Bw Tryz.prog 307 (.box bp 223 (cP st) :: .box bo 25 (cSyn z)::R) [.ptr [.val (.pointer (some ⟨bp,0,none⟩))],.val (.pointer (some ⟨bo,0,none⟩))] (fun r H'=>r = .tuple []∧H' = .box bp 223 (cP (N st).2) :: .box bo 25 (cSyn { z with kids:=[(N st).1] })::R):=by
 refine Bw.body (n:=6) tok Tryz.func307 rfl rfl rfl ?_
 refine AW.region (Qp G0 ?_)
 refine Qe (Al (by kernel_rfl) rfl rfl ((hN st bp hO).at (k:=0) (H2:=_::_::_) rfl rfl)) ?_
 rintro _ _ ⟨rfl,rfl⟩
 refine Qp (Am (es:=[[Iq _,.str _,.str _,Iq _,_,Iq _]]) tok rfl rfl rfl rfl rfl rfl rfl rfl rfl) ?_
 refine Qp Cb ?_
 refine B0 1 [Iq _,.str _,.str _,Iq _,_,Iq _] (_::_::_) ?_
 refine AOL.nil ?_
 refine ⟨.inl rfl,[],.nil,_,.refl _,?_⟩
 exact ⟨rfl,congrArg (fun l=>HO.box bp 223 (cP (N st).2)::HO.box bo 25 [.int .i64 z.kind,.str z.text,.str z.name,.int .i64 z.num,.sl 6 l,.int .i64 z.pos]::R) (by rw [List.map_cons,List.map_nil,Bi])⟩
theorem kA (st:PS)(bp:Nat)(D:Int)(hD:0≤D)(E:PS→Syn×PS)(hFE:Ch E)(hE:∀(st:PS) (bp:Nat),okD (D+1) st→Bd Tryz.prog 164 bp 223 (cP st) (cP (E st).2) [.val (.pointer (some ⟨bp,0,none⟩))] (.agg (cSyn (E st).1)))(N:PS→Syn×PS)(hFN:Ch N)(hN:∀(st:PS) (bp:Nat),okD (D+1) st→Bd Tryz.prog 288 bp 223 (cP st) (cP (N st).2) [.val (.pointer (some ⟨bp,0,none⟩))] (.agg (cSyn (N st).1)))(hO:okD D st):Bd Tryz.prog 288 bp 223 (cP st) (cP ((Sg E N st).2)) [.val (.pointer (some ⟨bp,0,none⟩))] (.agg (cSyn (Sg E N st).1)):=by
 intro H
 have hS:=hO.1
 refine Bw.body (n:=16) tok Tryz.func288 rfl rfl rfl ?_
 refine Ad ?_
 refine Qp (Pn (v:=.val _) (cs:=[_]) rfl rfl rfl) ?_
 refine Qe (An (l:=[.int .i64 0,.str [],.str [],.int .i64 0,.sl 6 [],.int .i64 0]) (by kernel_rfl)) ?_
 rintro _ _ ⟨b2,rfl,rfl⟩
 refine Aa (AW.seq (Ad (Qp G0 ?_)))
 refine AOL.Aaq (Ce (k:=1) (by kernel_rfl) rfl rfl (tH _ _ _ (by simpa using hS) (by first | assumption | decide))) rfl rfl ?_
 refine Qp Fz (Aa (Au (fun hc1=>?_) fun hc1=>?_))
 ·
  try simp only [Bool.not_eq_true',Bool.not_eq_false'] at hc1
  refine Ad (Qp G0 ?_)
  refine Qe (Al (by kernel_rfl) rfl rfl ((iS st bp D hD E hFE hE hO).at (k:=1) (H2:=_::_::_) rfl rfl)) ?_
  rintro _ _ ⟨rfl,rfl⟩
  refine B0 0 [Iq _,.str _,.str _,Iq _,_,Iq _] (_::_::_) ?_
  refine Aa (Cx ?_)
  refine ⟨.inr rfl,[.agg [Iq _,.str _,.str _,Iq _,_,Iq _]],.cons (.box _ _ _ 0 _ _ _ _ rfl rfl rfl rfl rfl rfl) <| .nil,_,.cons _ (.refl _),?_⟩
  refine ⟨?_,congrArg (fun c=>HO.box bp 223 c::H) ?_⟩
  ·
   try simp only [Ae,Sg,cSyn,List.map_cons,List.map_nil,Bi,hc1,↓reduceIte,Bool.false_eq_true,Bool.not_true,Bool.not_false]
   try rfl
  ·
   try simp only [cP,Sg,hc1,↓reduceIte,Bool.false_eq_true,Bool.not_true,Bool.not_false]
   try rfl
 ·
  try simp only [Bool.not_eq_true',Bool.not_eq_false'] at hc1
  refine Bl (Ad (Qp G0 ?_))
  refine AOL.Aaq (Ce (k:=1) (by kernel_rfl) rfl rfl (If _ _)) rfl rfl ?_
  refine Qp (Ea [Iq _,.str _,.str _,Iq _,_,Iq _]) ?_
  refine Qe (An (l:=[.int .i64 0,.str [],.str [],.int .i64 0,.sl 6 [],.int .i64 0]) (by kernel_rfl)) ?_
  rintro _ _ ⟨b3,rfl,rfl⟩
  refine B0 0 [Iq _,.str _,.str _,Iq _,_,Iq _] (_::_::_::_) ?_
  refine By (Qp G0 ?_)
  refine Qp (Bv (l:=[]) (l':=[.ptr _,.val _]) rfl rfl) ?_
  refine Qe (Al (by kernel_rfl) rfl rfl (Bw.front2 (R:=_::_) 0 1 rfl rfl rfl (Qj (fun z s=>({ z with kids:=[(N s).1] },(N s).2)) ⟨18,[],[],0,[],Ct st⟩ st bp b3 _ 307 (by kernel_rfl) [] [.ptr [.val (.pointer (some ⟨bp,0,none⟩))],.val (.pointer (some ⟨b3,0,none⟩))] (Rq hc1) hS (fun hb=>tK _ bp ⟨18,[],[],0,[],Ct st⟩ b3 _ D hD E hFE hE N hFN hN (Tl hD hO hb))))) ?_
  rintro _ _ ⟨rfl,rfl⟩
  refine By ?_
  refine AOL.Aaq (A8 (k:=1) (l:=[Iq _,.str _,.str _,Iq _,_,Iq _]) tok rfl rfl rfl rfl rfl) rfl rfl ?_
  refine B0 2 [Iq _,.str _,.str _,Iq _,_,Iq _] (_::_::_::_) ?_
  refine Aa (AW.ret ?_)
  refine ⟨.inr rfl,[.agg [Iq _,.str _,.str _,Iq _,_,Iq _]],.cons (.box _ _ _ 2 _ _ _ _ rfl rfl rfl rfl rfl rfl) <| .nil,_,.cons_cons _ (.cons _ (.cons _ (.refl _))),?_⟩
  refine ⟨?_,congrArg (fun c=>HO.box bp 223 c::H) ?_⟩
  ·
   try simp only [Ae,Sg,cSyn,List.map_cons,List.map_nil,Bi,hc1,↓reduceIte,Bool.false_eq_true,Bool.not_true,Bool.not_false]
   try rfl
  ·
   try simp only [cP,Sg,hc1,↓reduceIte,Bool.false_eq_true,Bool.not_true,Bool.not_false]
   try rfl
theorem p_and (st:PS)(bp:Nat)(D:Int)(hD:0≤D)(E:PS→Syn×PS)(hFE:Ch E)(hE:∀(st:PS) (bp:Nat),okD (D+1) st→Bd Tryz.prog 164 bp 223 (cP st) (cP (E st).2) [.val (.pointer (some ⟨bp,0,none⟩))] (.agg (cSyn (E st).1)))(N:PS→Syn×PS)(hFN:Ch N)(hN:∀(st:PS) (bp:Nat),okD (D+1) st→Bd Tryz.prog 288 bp 223 (cP st) (cP (N st).2) [.val (.pointer (some ⟨bp,0,none⟩))] (.agg (cSyn (N st).1)))(hO:okD D st):Bd Tryz.prog 230 bp 223 (cP st) (cP ((qI E N st).2)) [.val (.pointer (some ⟨bp,0,none⟩))] (.agg (cSyn (qI E N st).1)):=by
 intro H
 refine Bw.body (n:=8) tok Tryz.func230 rfl rfl rfl ?_
 refine Ad ?_
 refine Qe (An (l:=[.int .i64 0,.str [],.str [],.int .i64 0,.sl 6 [],.int .i64 0]) (by kernel_rfl)) ?_
 rintro _ _ ⟨b2,rfl,rfl⟩
 refine By (Qp Br (Qp Br ?_))
 refine Qp (Bv (l:=[.val _]) (l':=[]) rfl rfl) ?_
 refine Qp (Kx (es:=pW.map wP) tok (⟨fun cs=>cs=Kv,by simp [globals],fun _ h=>h⟩) rfl rfl rfl rfl rfl rfl rfl rfl rfl) ?_
 refine Qe (Al (by kernel_rfl) rfl rfl ((Xl st bp D hD 288 (by kernel_rfl) [.val (.pointer (some ⟨bp,0,none⟩))] [] (Sg E N) (L3 hFE hFN) (fun s ho=>kA s bp D hD E hFE hE N hFN hN ho) hO pW (by decide) (by decide)).at (k:=1) (H2:=_::_::_) rfl rfl)) ?_
 rintro _ _ ⟨rfl,rfl⟩
 refine B0 0 [Iq _,.str _,.str _,Iq _,_,Iq _] (_::_::_) ?_
 refine Aa (AW.ret ?_)
 refine ⟨.inr rfl,[.agg [Iq _,.str _,.str _,Iq _,_,Iq _]],.cons (.box _ _ _ 0 _ _ _ _ rfl rfl rfl rfl rfl rfl) <| .nil,_,.cons _ (.refl _),?_⟩
 refine ⟨rfl,rfl⟩
theorem jQ (st:PS)(bp:Nat)(D:Int)(hD:0≤D)(E:PS→Syn×PS)(hFE:Ch E)(hE:∀(st:PS) (bp:Nat),okD (D+1) st→Bd Tryz.prog 164 bp 223 (cP st) (cP (E st).2) [.val (.pointer (some ⟨bp,0,none⟩))] (.agg (cSyn (E st).1)))(N:PS→Syn×PS)(hFN:Ch N)(hN:∀(st:PS) (bp:Nat),okD (D+1) st→Bd Tryz.prog 288 bp 223 (cP st) (cP (N st).2) [.val (.pointer (some ⟨bp,0,none⟩))] (.agg (cSyn (N st).1)))(hO:okD D st):Bd Tryz.prog 164 bp 223 (cP st) (cP ((orP E N st).2)) [.val (.pointer (some ⟨bp,0,none⟩))] (.agg (cSyn (orP E N st).1)):=by
 intro H
 refine Bw.body (n:=8) tok Tryz.func164 rfl rfl rfl ?_
 refine Ad ?_
 refine Qe (An (l:=[.int .i64 0,.str [],.str [],.int .i64 0,.sl 6 [],.int .i64 0]) (by kernel_rfl)) ?_
 rintro _ _ ⟨b2,rfl,rfl⟩
 refine By (Qp Br (Qp Br ?_))
 refine Qp (Bv (l:=[.val _]) (l':=[]) rfl rfl) ?_
 refine Qp (Kx (es:=orL.map wP) tok (⟨fun cs=>cs=Mn,by simp [globals],fun _ h=>h⟩) rfl rfl rfl rfl rfl rfl rfl rfl rfl) ?_
 refine Qe (Al (by kernel_rfl) rfl rfl ((Xl st bp D hD 230 (by kernel_rfl) [.val (.pointer (some ⟨bp,0,none⟩))] [] (qI E N) (K9 (L3 hFE hFN) pW) (fun s ho=>p_and s bp D hD E hFE hE N hFN hN ho) hO orL (by decide) (by decide)).at (k:=1) (H2:=_::_::_) rfl rfl)) ?_
 rintro _ _ ⟨rfl,rfl⟩
 refine B0 0 [Iq _,.str _,.str _,Iq _,_,Iq _] (_::_::_) ?_
 refine Aa (AW.ret ?_)
 refine ⟨.inr rfl,[.agg [Iq _,.str _,.str _,Iq _,_,Iq _]],.cons (.box _ _ _ 0 _ _ _ _ rfl rfl rfl rfl rfl rfl) <| .nil,_,.cons _ (.refl _),?_⟩
 refine ⟨rfl,rfl⟩
theorem Mo {st:PS}(h:okD (64+1) st):False:=by have:=h.2.1;have:=h.2.2;omega
theorem eN:∀(n:Nat),n≤64→(∀(st:PS) (bp:Nat),okD (64-(n:Int)) st→Bd Tryz.prog 288 bp 223 (cP st) (cP ((Od n).1 st).2) [.val (.pointer (some ⟨bp,0,none⟩))] (.agg (cSyn ((Od n).1 st).1)))∧(∀(st:PS) (bp:Nat),okD (64-(n:Int)) st→Bd Tryz.prog 164 bp 223 (cP st) (cP ((Od n).2 st).2) [.val (.pointer (some ⟨bp,0,none⟩))] (.agg (cSyn ((Od n).2 st).1)))
  | 0,_=>⟨fun st bp hO=>kA st bp 64 (by decide) Do Fc (fun _ _ h=>(Mo h).elim) Do Fc (fun _ _ h=>(Mo h).elim) hO,fun st bp hO=>jQ st bp 64 (by decide) Do Fc (fun _ _ h=>(Mo h).elim) Do Fc (fun _ _ h=>(Mo h).elim) hO⟩
  | n+1,hn=>by
    have ih:=eN n (by omega)
    have e:∀st,okD (64-((n+1:Nat):Int)+1) st→okD (64-(n:Int)) st:=fun st h=>⟨h.1,by have:=h.2.1;omega,h.2.2⟩
    have hD:0≤64-((n+1:Nat):Int):=by omega
    exact ⟨fun st bp hO=>kA st bp _ hD (Od n).2 (Hh n).2 (fun s b h=>ih.2 s b (e s h)) (Od n).1 (Hh n).1 (fun s b h=>ih.1 s b (e s h)) hO,fun st bp hO=>jQ st bp _ hD (Od n).2 (Hh n).2 (fun s b h=>ih.2 s b (e s h)) (Od n).1 (Hh n).1 (fun s b h=>ih.1 s b (e s h)) hO⟩

end Go.Proofs.YtckhoadldibflaaGreatDoor
